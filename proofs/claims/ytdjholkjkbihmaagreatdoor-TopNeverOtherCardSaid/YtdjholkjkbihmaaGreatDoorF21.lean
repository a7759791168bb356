/- Laws and walks of TopNeverOther. -/
import Derived.Laws.CopyOwn
import Derived.Test.YtdjholkjkbihmaaGreatDoorF20
namespace Go.Proofs.YtdjholkjkbihmaaGreatDoor
open Go.RowKit
set_option maxRecDepth 100000
set_option maxHeartbeats 4000000
section
def stCells (h:List Wd)(wt:List UInt8)(fill:Int)(taken:Nat):Array Value:=cells h++cells8 wt ++ #[i6 fill,.int .u64 (taken:Int)]
def stL (h:List Wd)(wt:List UInt8)(fill:Int)(taken:Nat):List Value:=h.map cw++(wt.map cb ++ [i6 fill,.int .u64 (taken:Int)])
def sigCells :Array Value:=(sigma.flatMap (fun l=>l.map cb)).toArray
structure HG (w:World):Prop where
 e:Tab w 0 (cells eightV)
 r:Tab w 1 sigCells
theorem HG.below {w w2:World}(h:HG w)(hb:Below w.heap.size w w2):HG w2:=⟨h.e.below hb,h.r.below hb⟩
theorem sig_row :∀ r,r<10->sigCells.extract (r*16) (r*16+16)=cells8 (sigma.getD r [])
 | 0,_=>rfl | 1,_=>rfl | 2,_=>rfl | 3,_=>rfl | 4,_=>rfl | 5,_=>rfl | 6,_=>rfl | 7,_=>rfl | 8,_=>rfl | 9,_=>rfl
 | n+10,h=>by omega
theorem sig_len :∀ r,r<10->(sigma.getD r []).length=16:=by decide
theorem sig_lt :∀ r,r<10->∀ i,i<16->sg r i<16:=by decide
section
variable {h:List Wd}{wt:List UInt8}{fill:Int}{taken:Nat}
theorem st_list :(stCells h wt fill taken).toList=stL h wt fill taken:=by simp[stCells,stL,cells,cells8]
theorem st_ok {cs:List Value}(e:cs=stL h wt fill taken):cs.toArray=stCells h wt fill taken:=by rw[e,←st_list]
theorem st_size (hh:h.length=8)(hw:wt.length=64):(stCells h wt fill taken).size=74:=by simp[stCells,cells_size,cells8_size,hh,hw]
theorem st_one :(stCells h wt fill taken).all (·.oneCell')=true:=by
 rw[←Array.all_toList,st_list]
 have h1:=cells_one h;have h2:=cells8_one wt
 rw[←Array.all_toList] at h1 h2
 simp only[cells,cells8] at h1 h2
 unfold stL
 rw[List.all_append,List.all_append,h1,h2];rfl
theorem st_h (i:Nat)(hi:i<h.length):(stCells h wt fill taken)[i]?=some (.int .u32 (nm (gt h i))):=by
 unfold stCells
 rw[Array.append_assoc,Array.getElem?_append_left (by rw[cells_size];exact hi)]
 exact cells_get h i hi
theorem st_w (hh:h.length=8)(i:Nat)(hi:i<wt.length):(stCells h wt fill taken)[8+i]?=some (.int .u8 ((bt wt i).toNat:Int)):=by
 unfold stCells
 rw[Array.append_assoc,Array.getElem?_append_right (by rw[cells_size];omega),cells_size,hh,Array.getElem?_append_left (by rw[cells8_size];omega),show 8+i-8=i by omega]
 exact cells8_get wt i hi
theorem st_f (hh:h.length=8)(hw:wt.length=64):(stCells h wt fill taken)[72]?=some (i6 fill):=by
 unfold stCells
 rw[Array.getElem?_append_right (by simp[cells_size,cells8_size,hh,hw])]
 simp[cells_size,cells8_size,hh,hw]
theorem st_t (hh:h.length=8)(hw:wt.length=64):(stCells h wt fill taken)[73]?=some (.int .u64 (taken:Int)):=by
 unfold stCells
 rw[Array.getElem?_append_right (by simp[cells_size,cells8_size,hh,hw])]
 simp[cells_size,cells8_size,hh,hw]
theorem spl_h {i:Nat}{x:Wd}(hi:i<h.length):spl (stCells h wt fill taken) i [.int .u32 (nm x)]=stCells (h.set i x) wt fill taken:=by
 unfold spl
 refine st_ok ?_
 rw[st_list,List.append_assoc]
 unfold stL
 rw[List.take_append_of_le_length (by simp;omega),List.drop_append_of_le_length (by simp;omega),List.map_set,List.set_eq_take_append_cons_drop,if_pos (by simpa using hi)]
 simp[cw]
theorem drop_len {α:Type}{l r:List α}{n:Nat}(h:l.length=n):(l++r).drop n=r:=by rw[←h];simp
theorem take_len {α:Type}{l r:List α}{n:Nat}(h:l.length=n):(l++r).take n=l:=by rw[←h];simp
theorem spl_w {f:Nat}{x:List UInt8}(hh:h.length=8)(hw:wt.length=64)(hf:f+x.length<=64):spl (stCells h wt fill taken) (8+f) (x.map cb)=stCells h (wt.take f++x++wt.drop (f+x.length)) fill taken:=by
 unfold spl
 refine st_ok ?_
 rw[st_list]
 unfold stL
 rw[List.take_append,List.drop_append,List.take_append_of_le_length (by simp;omega),List.drop_append_of_le_length (by simp;omega),List.take_of_length_le (by simp;omega),List.drop_of_length_le (by simp;omega),List.length_map,List.length_map,hh,show 8+f-8=f by omega,show 8+f+x.length-8=f+x.length by omega]
 simp
theorem spl_f {z:Int}(hh:h.length=8)(hw:wt.length=64):spl (stCells h wt fill taken) 72 [i6 z]=stCells h wt z taken:=by
 unfold spl
 refine st_ok ?_
 have e:stL h wt fill taken=(h.map cw++wt.map cb) ++ [i6 fill,.int .u64 (taken:Int)]:=by simp[stL]
 have e2:stL h wt fill taken=(h.map cw++wt.map cb ++ [i6 fill]) ++ [.int .u64 (taken:Int)]:=by simp[stL]
 have t1:(stL h wt fill taken).take 72=h.map cw++wt.map cb:=by rw[e,take_len (by simp;omega)]
 have t2:(stL h wt fill taken).drop (72+1) = [.int .u64 (taken:Int)]:=by rw[e2,drop_len (by simp;omega)]
 rw[st_list,t1]
 show _ ++ [_]++(stL h wt fill taken).drop (72+1)=_
 rw[t2]
 simp[stL]
theorem spl_t {z:Nat}(hh:h.length=8)(hw:wt.length=64):spl (stCells h wt fill taken) 73 [.int .u64 (z:Int)]=stCells h wt fill z:=by
 unfold spl
 refine st_ok ?_
 have e:stL h wt fill taken=(h.map cw++wt.map cb ++ [i6 fill]) ++ [.int .u64 (taken:Int)]:=by simp[stL]
 rw[st_list,e,take_len (by simp;omega),List.drop_of_length_le (by simp;omega)]
 simp[stL]
end
section
variable {D:List Deferred}{nt:Nat}{w0:World}{L:LT}{M:MT}{R:List Rw}{G:Kn}{x y:Operand}{v:Value}{ops:Array Oper}{rest:List Oper}{Q:Exit->Act->World->Prop}{t t2 ty tyo e:TypeId}{ps:String}{af:Array Edge}{k k2:IntKind}{p q:Int}{n g o d:Nat}{h:List Wd}{wt:List UInt8}{fill:Int}{taken:Nat}{b b1 b2 b3:UInt8}
theorem PR.sth (hx:EV G x (px g o):=by exact ev)(hm:MB G g t (stCells h wt fill taken):=by exact mb)(ha:agT ty=some false:=by rfl)(hi:o<h.length:=by omega):PR Tryz.prog G (.load ty x) (.int .u32 (nm (gt h o))):=PR.lc (st_h o hi) hx hm ha
theorem PR.stw (hx:EV G x (px g (8+o)):=by exact ev)(hm:MB G g t (stCells h wt fill taken):=by exact mb)(ha:agT ty=some false:=by rfl)(hh:h.length=8:=by assumption)(hi:o<wt.length:=by omega):PR Tryz.prog G (.load ty x) (.int .u8 ((bt wt o).toNat:Int)):=PR.lc (st_w hh o hi) hx hm ha
theorem PR.stf (hx:EV G x (px g 72):=by exact ev)(hm:MB G g t (stCells h wt fill taken):=by exact mb)(ha:agT ty=some false:=by rfl)(hh:h.length=8:=by assumption)(hw:wt.length=64:=by assumption):PR Tryz.prog G (.load ty x) (i6 fill):=PR.lc (st_f hh hw) hx hm ha
theorem PR.stt (hx:EV G x (px g 73):=by exact ev)(hm:MB G g t (stCells h wt fill taken):=by exact mb)(ha:agT ty=some false:=by rfl)(hh:h.length=8:=by assumption)(hw:wt.length=64:=by assumption):PR Tryz.prog G (.load ty x) (.int .u64 (taken:Int)):=PR.lc (st_t hh hw) hx hm ha
theorem sth (i:Nat){c:Wd}(k:KX D nt w0 L (M.set i (g,isB t (stCells (h.set o c) wt fill taken))) R (wpList Tryz.prog ops Q rest))(e:M[i]?=some (g,isB t (stCells h wt fill taken)):=by rfl)(hx:EV (St D nt w0 L M R) x (px g o):=by exact ev)(hy:EV (St D nt w0 L M R) y (.int .u32 (nm c)):=by exact ev)(hs:szT ty=some 1:=by rfl)(hw:wt.length=64:=by assumption)(ho:o<h.length:=by omega):KX D nt w0 L M R (wpList Tryz.prog ops Q (⟨none,.store ty x y,tyo,ps,af,none⟩::rest)) :=
 s1 i k e hx hy hs rfl (by simp[stCells,cells_size,cells8_size];omega) (spl_h ho)
theorem stf (i:Nat){z:Int}(k:KX D nt w0 L (M.set i (g,isB t (stCells h wt z taken))) R (wpList Tryz.prog ops Q rest))(e:M[i]?=some (g,isB t (stCells h wt fill taken)):=by rfl)(hx:EV (St D nt w0 L M R) x (px g 72):=by exact ev)(hy:EV (St D nt w0 L M R) y (i6 z):=by exact ev)(hs:szT ty=some 1:=by rfl)(hh:h.length=8:=by assumption)(hw:wt.length=64:=by assumption):KX D nt w0 L M R (wpList Tryz.prog ops Q (⟨none,.store ty x y,tyo,ps,af,none⟩::rest)) :=
 s1 i k e hx hy hs rfl (by rw[st_size hh hw];decide) (spl_f hh hw)
theorem stt (i:Nat){z:Nat}(k:KX D nt w0 L (M.set i (g,isB t (stCells h wt fill z))) R (wpList Tryz.prog ops Q rest))(e:M[i]?=some (g,isB t (stCells h wt fill taken)):=by rfl)(hx:EV (St D nt w0 L M R) x (px g 73):=by exact ev)(hy:EV (St D nt w0 L M R) y (.int .u64 (z:Int)):=by exact ev)(hs:szT ty=some 1:=by rfl)(hh:h.length=8:=by assumption)(hw:wt.length=64:=by assumption):KX D nt w0 L M R (wpList Tryz.prog ops Q (⟨none,.store ty x y,tyo,ps,af,none⟩::rest)) :=
 s1 i k e hx hy hs rfl (by rw[st_size hh hw];decide) (spl_t hh hw)
/- four bytes as a word -/
abbrev bw32 (b:UInt8):Int:=IntKind.u32.wrap (b.toNat:Int)
theorem PR.b32 (hx:EV G x (.int .u8 (b.toNat:Int)):=by exact ev)(hu:und t=some (.int .u8):=by rfl)(hu2:und t2=some (.int .u32):=by rfl):PR Tryz.prog G (.convert t t2 x) (.int .u32 (bw32 b)):=PR.cv rfl hx hu hu2
theorem PR.s32 (m:Nat)(hx:EV G x (.int .u32 p):=by exact ev)(hy:EV G y (.int k2 q):=by exact ev)(h0:0<=q/\q<=32:=by decide)(hm:2^q.toNat=m:=by decide):PR Tryz.prog G (.binOp .shl t x y t2) (.int .u32 (IntKind.u32.wrap (p*m))):=PR.shl _ hx hy h0 (by rw[←hm,Int.natCast_pow];rfl)
theorem PR.o32 (hx:EV G x (.int .u32 p):=by exact ev)(hy:EV G y (.int .u32 q):=by exact ev):PR Tryz.prog G (.binOp .or t x y t2) (.int .u32 (bits .or .u32 p q)):=PR.or _ hx hy rfl
theorem PR.w32 (hx:EV G x (.int .u32 (bits .or .u32 (bits .or .u32 (bw32 b) (IntKind.u32.wrap (bw32 b1*(256:Nat)))) (IntKind.u32.wrap (bw32 b2*(65536:Nat))))):=by exact ev)(hy:EV G y (.int .u32 (IntKind.u32.wrap (bw32 b3*(16777216:Nat)))):=by exact ev):PR Tryz.prog G (.binOp .or t x y t2) (.int .u32 (nm (wd b b1 b2 b3))):=PR.or _ hx hy (word_eq b b1 b2 b3)
theorem PR.sT' (j:Nat)(hx:EV G x (px g o):=by exact ev)(hy:EV G y (i6 p):=by exact ev)(hp:p=(j:Int):=by rfl)(hu:und t=some (.array n e):=by rfl)(hz:szT e=some 1:=by rfl)(hj:j<=n:=by omega)(hn:0<n:=by decide):PR Tryz.prog G (.slice t x none (some y) none) (.slice (some ⟨g,o,none⟩) j n):=fun a w op ho hg=>by
 have h1:=run_sliceArr_h (P:=Tryz.prog) (und_ok hu) (szT_ok hz) g o p (by omega) (by omega) hn w
 rw[hp,Int.toNat_natCast] at h1
 unfold execOp
 simp only[ho,hx a w hg,hy a w hg,hp,Option.map,Sem.run_bind,h1,Result.andThen_ok,Sem.run_pure]
theorem PR.sF' (i:Nat)(hx:EV G x (px g o):=by exact ev)(hy:EV G y (i6 p):=by exact ev)(hp:p=(i:Int):=by rfl)(hu:und t=some (.array n e):=by rfl)(hz:szT e=some 1:=by rfl)(hi:i<n:=by omega):PR Tryz.prog G (.slice t x (some y) none none) (.slice (some ⟨g,o+i,none⟩) (n-i) (n-i)):=fun a w op ho hg=>by
 have h1:=run_sliceArr_l (P:=Tryz.prog) (und_ok hu) (szT_ok hz) g o p (by omega) (by omega) w
 rw[hp,Int.toNat_natCast] at h1
 unfold execOp
 simp only[ho,hx a w hg,hy a w hg,hp,Option.map,Sem.run_bind,h1,Result.andThen_ok,Sem.run_pure]
theorem PR.xw {l:List Wd}(i:Nat)(hx:EV G x (.agg (cells l)):=by exact ev)(hy:EV G y (.int k (i:Int)):=by exact ev)(hu:und t=some (.array n ty):=by rfl)(ha:agT ty=some false:=by rfl)(hz:szT ty=some 1:=by rfl)(hi:i<n:=by omega)(hl:i<l.length:=by omega):PR Tryz.prog G (.index t x y) (.int .u32 (nm (gt l i))):=PR.xc i hx hy (by rw[nth_eq,Array.getElem?_toList];exact cells_get l i hl) hu ha hz hi
end
theorem PR.sta {G:Kn}{x:Operand}{g:Nat}{ty t:TypeId}{h:List Wd}{wt:List UInt8}{fill:Int}{taken:Nat}(hx:EV G x (pt g):=by exact ev)(hm:MB G g t (stCells h wt fill taken):=by exact mb)(ha:agT ty=some true:=by rfl)(hz:szT ty=some 8:=by rfl)(hh:h.length=8:=by assumption):PR Tryz.prog G (.load ty x) (.agg (cells h)) :=
 (PR.ls (h.map cw) hx hm (by rw[st_list,List.drop_zero,stL,take_len rfl]) ha (by rw[List.length_map,hh];exact hz)).to rfl
theorem EV.gl {G:Kn}{n:Nat}:EV G (.global n) (pt n):=fun _ _ _=>rfl
end
def fillE (h:List Wd):Nat->List Wd
 | 0=>h++List.replicate 8 0
 | i+1=>(fillE h i).set (8+i) (gt eightV i)
theorem fillE_len (h:List Wd)(hh:h.length=8)(i:Nat):(fillE h i).length=16:=by
 induction i with
 | zero=>simp[fillE,hh]
 | succ i ih=>simp[fillE,ih]
theorem fillE_8 (h:List Wd)(hh:h.length=8):fillE h 8=h++eightV:=by
 match h,hh with
 | [a,b,c,d,e,f,g,i],_=>rfl
theorem spl_E (h:List Wd)(hh:h.length=8):spl (cells (List.replicate 16 0)) 0 (h.map cw)=cells (fillE h 0):=by
 unfold spl
 simp[fillE,cells,hh]
theorem nm_not (x:Wd):bits .xor .u32 IntKind.u32.max (nm x)=nm (~~~ x):=by
 have e:IntKind.u32.max=nm (BitVec.allOnes 32):=by decide
 rw[e,nm_xor,BitVec.allOnes_xor]
theorem u32_nat (t:Nat):IntKind.u32.wrap (t:Int)=nm (BitVec.ofNat 32 t):=by
 rw[wrap_u32];unfold nm;rw[BitVec.toNat_ofNat];omega
theorem u32_hi (t:Nat):IntKind.u32.wrap ((t:Int)/2^(32:Int).toNat)=nm (BitVec.ofNat 32 (t/4294967296)):=by
 rw[←u32_nat];congr 1
theorem PR.not32 {G:Kn}{x:Operand}{t:TypeId}{a:Wd}(hx:EV G x (.int .u32 (nm a)):=by exact ev):PR Tryz.prog G (.unOp .xor t x) (.int .u32 (nm (~~~ a))):=fun a w o ho hg=>by
 unfold execOp
 simp only[ho,hx a w hg]
 rw[←nm_not];rfl
theorem st_map {h:List Wd}{wt:List UInt8}{fill:Int}{taken q:Nat}{v:Value}(hq:(h.map cw)[q]?=some v):(stCells h wt fill taken)[q]?=some v:=by
 have hl:=(List.getElem?_eq_some_iff.1 hq).1
 rw[←Array.getElem?_toList,st_list,stL,List.getElem?_append_left hl];exact hq
theorem map_cw1 {h:List Wd}:∀ u∈h.map cw,u.oneCell'=true:=fun u hu=>by obtain⟨x,_,rfl⟩:=List.mem_map.1 hu;rfl
theorem sg16 (r:Nat)(hr:r<10):sg r 0<16/\sg r 1<16/\sg r 2<16/\sg r 3<16/\sg r 4<16/\sg r 5<16/\sg r 6<16/\sg r 7<16/\sg r 8<16/\sg r 9<16/\sg r 10<16/\sg r 11<16/\sg r 12<16/\sg r 13<16/\sg r 14<16/\sg r 15<16:=⟨sig_lt r hr 0 (by decide),sig_lt r hr 1 (by decide),sig_lt r hr 2 (by decide),sig_lt r hr 3 (by decide),sig_lt r hr 4 (by decide),sig_lt r hr 5 (by decide),sig_lt r hr 6 (by decide),sig_lt r hr 7 (by decide),sig_lt r hr 8 (by decide),sig_lt r hr 9 (by decide),sig_lt r hr 10 (by decide),sig_lt r hr 11 (by decide),sig_lt r hr 12 (by decide),sig_lt r hr 13 (by decide),sig_lt r hr 14 (by decide),sig_lt r hr 15 (by decide)⟩
theorem htake {w0:World}{M0:MT}{R0:List Rw}{gs:Nat}{h:List Wd}{wt:List UInt8}{fill:Int}{taken:Nat}{last:Bool}(hh:h.length=8)(hw:wt.length=64)(hG:HG w0):RM 115 #[pt gs,.bool last] w0 ((gs,isB 130 (stCells h wt fill taken))::M0) R0 (A:=Value) (fun _=>True) (fun u=>u) (fun _=>(gs,isB 130 (stCells (compress h wt taken last) wt fill taken))::M0) (fun _=>R0):=by
 refine enterM Tryz.func115 ?_
 refine rg (aa Tryz.zeroValue288 (fun g0=>en (kM 0 (cells (List.replicate 16 0)) ?_)))
 refine kM 0 (cells (wordsTo wt 0)) ?_
 refine se (r1 .mv (bl ?_))
 have lw:=wordsTo_len wt
 refine lo (A:=Nat) (fun i=>i<=16) (fun i=>16-i) (fun i=>[(0,pt gs),(1,.bool last),(4,pt g0),(13,i6 (i:Int))]) (fun i=>((g0,isB 288 (cells (wordsTo wt i)))::(gs,isB 130 (stCells h wt fill taken))::M0)) (fun i=>(R0)) 0 (by omega) su (fun i hi=>?_)
 refine r1 .lss (se (sd (fun hi=>?_) (fun hi=>?_)))
 ·have hi:i<16:=by omega
  refine sk (nN (se (bl (r2 .mv .as (rg (p1 .mv (pp (PR.ml ((4*i:Nat):Int)) (p1 .as (en ?_)))))))))
  refine dq 39 (Y5 .mv .mv .mv .nil .fa (Y5 (.ia1 (4*i)) .stw .b32 .mv .mv (YQ (PR.ad ((4*i+1:Nat):Int)) (Y5 .nil .fa (.ia1 (4*i+1)) .stw .b32 (Y4 (.s32 256) .o32 .mv .mv (YQ (PR.ad ((4*i+2:Nat):Int)) (Y5 .nil .fa (.ia1 (4*i+2)) .stw .b32 (Y4 (.s32 65536) .o32 .mv .mv (YQ (PR.ad ((4*i+3:Nat):Int)) (Y5 .nil .fa (.ia1 (4*i+3)) .stw .b32 (Y3 (.s32 16777216) .w32 (.ia0 i) (YE (swd 0 ?_ (ho:=(by rw[lw];omega)))))))))))))))
  refine en0 (bN (nN (rg0 (pp (PR.ad ((i+1:Nat):Int)) (p1 .mv (en0 (nN (kM 0 (cells (wordsTo wt (i+1))) ?_))))))))
  exact bk (i+1) (by omega) (by omega) su
 ·obtain rfl:i=16:=by omega
  refine xt (nX (nX (bH (nN (rg (aa Tryz.zeroValue288 (fun g1=>en (kM 0 (cells (List.replicate 16 0)) ?_))))))))
  refine dqs 5 (YQ (PR.sT' 8) (Y3 .mv .nil .fa (YQ PR.sA (YE (cpB 2 0 (h.map cw) ?_ (hc:=fun q v hq=>by rw[Nat.zero_add];exact st_map hq) (hl:=by simp[hh]) (hfit:=by simp[cells,hh]) (h1:=map_cw1))))))
  refine en (kM 0 (cells (fillE h 0)) ?_ (hc:=spl_E h hh))
  refine se (rg (pp (PR.lg (fun _ _ h=>(hG.below h.m.below).e) EV.gl) (p1 .mv (en (bl ?_)))))
  have lE:=fillE_len h hh
  refine lo (A:=Nat) (fun i=>i<=8) (fun i=>8-i) (fun i=>[(0,pt gs),(1,.bool last),(4,pt g0),(7,pt g1),(64,.agg (cells eightV)),(65,i6 (i:Int))]) (fun i=>((g1,isB 288 (cells (fillE h i)))::(g0,isB 288 (cells (wordsTo wt 16)))::(gs,isB 130 (stCells h wt fill taken))::M0)) (fun i=>(R0)) 0 (by omega) su (fun i hi=>?_)
  refine r1 .lss (se (sd (fun hi=>?_) (fun hi=>?_)))
  ·have hi:i<8:=by omega
   refine sk (nN (se (bl (rg (p1 .mv (pp (PR.xw i (l:=eightV) (hl:=by show i<8;omega)) (p2 .as .as (en (rg0 (p1 .mv (pp (PR.ad ((8+i:Nat):Int)) (p2 .mv (.ia0 (8+i)) (swd 0 ?_ (ho:=(by rw[lE];omega)))))))))))))))
   refine en0 (bN (nN (rg0 (pp (PR.ad ((i+1:Nat):Int)) (p1 .mv (en0 (nN (kM 0 (cells (fillE h (i+1))) ?_))))))))
   exact bk (i+1) (by omega) (by omega) su
  ·obtain rfl:i=8:=by omega
   refine xt (nX (nX (bH (nN (kM 0 (cells (h++eightV)) ?_ (hc:=by rw[fillE_8 h hh]))))))
   have l8:(h++eightV).length=16:=by rw[List.length_append,hh];rfl
   refine dqs 9 (Y5 (.ia0 12) .lwd .mv .nil .fa (Y1 .stt (YQ (PR.cv (u32_nat taken)) (Y2 .xorW (.ia0 12) (YE (swd 0 ?_))))))
   refine en (gW 0 (fun v1x ev1x=>?_))
   have lv1x:v1x.length=16:=by rw[ev1x,List.length_set];assumption
   refine dqs 10 (Y5 (.ia0 13) .lwd .mv .nil .fa (Y1 .stt (YQ (PR.shr ((taken:Int)/2^(32:Int).toNat) (h:=rfl)) (YQ (PR.cv (u32_hi taken)) (Y2 .xorW (.ia0 13) (YE (swd 0 ?_)))))))
   refine en (gW 0 (fun v2x ev2x=>?_))
   have lv2x:v2x.length=16:=by rw[ev2x,List.length_set];assumption
   refine jn [(0,pt gs),(1,.bool last),(4,pt g0),(7,pt g1)] ((g1,isB 288 (cells (startV h taken last)))::(g0,isB 288 (cells (wordsTo wt 16)))::(gs,isB 130 (stCells h wt fill taken))::M0) (R0) ?_ ?_
   ·skip
    refine r1 .mv (cs (fun hla=>?_) (fun hla=>?_))
    ·subst hla
     refine rg0 (p2 (.ia0 14) .lwd (pp PR.not32 (p1 (.ia0 14) (swd 0 ?_))))
     refine en0 (kM 0 (cells (startV h taken true)) ?_ (hc:=by subst ev2x ev1x;rfl))
     exact nN (je su)
    ·subst hla
     refine kM 0 (cells (startV h taken false)) ?_ (hc:=by subst ev2x ev1x;rfl)
     exact sk (nN (je su))
   ·skip
    refine se (rg (pp (PR.lg (fun _ _ h=>(hG.below h.m.below).r) EV.gl (hn:=by kernel_rfl)) (p1 .mv (en (bl ?_)))))
    generalize hVV:startV h taken last=V0
    have lV:∀ r,(roundsS (wordsTo wt 16) V0 r).length=16:=fun r=>by rw[roundsS_len,←hVV,startV_len h taken last hh]
    have lm:=wordsTo_len wt 16
    generalize hWW:wordsTo wt 16=m at *
    refine kM 0 (cells (roundsS m V0 0)) ?_ (hc:=by rw[←hVV];rfl)
    refine lo (A:=Nat) (fun r=>r<=10) (fun r=>10-r) (fun r=>[(0,pt gs),(1,.bool last),(4,pt g0),(7,pt g1),(98,.agg sigCells),(99,i6 (r:Int))]) (fun r=>((g1,isB 288 (cells (roundsS m V0 r)))::(g0,isB 288 (cells m))::(gs,isB 130 (stCells h wt fill taken))::M0)) (fun r=>(R0)) 0 (by omega) su (fun r hi=>?_)
    refine r1 .lss (se (sd (fun hr=>?_) (fun hr=>?_)))
    ·have hr:r<10:=by omega
     have lS:=sig_len r hr
     have lR:=lV r
     obtain⟨g0x,g1x,g2x,g3x,g4x,g5x,g6x,g7x,g8x,g9x,g10x,g11x,g12x,g13x,g14x,g15x⟩:=sg16 r hr
     refine sk (nN (se (bl (rg (pp ((PR.xa r).to (by rw[sig_row r hr])) (aa Tryz.zeroValue293 (fun g2=>sw 0 (h1:=cells8_one _) (hV:=by rw[cells8_size,lS]) ?_)))))))
     refine en (fr [1] [] ?_)
     refine dqs 8 (Y5 (.ia0 0) .lby (.ia0 (sg r 0)) .lwd (.ia0 1) (Y3 .lby (.ia0 (sg r 1)) .lwd (YE (cm (hmix (a:=0) (b:=4) (c:=8) (d:=12) lR (by decide) (by decide) (by decide) (by decide)) (fun _ _=>?_)))))
     refine en (gW 0 (fun v3x ev3x=>?_))
     have lv3x:v3x.length=16:=by rw[ev3x,mixS_len];assumption
     refine dqs 8 (Y5 (.ia0 2) .lby (.ia0 (sg r 2)) .lwd (.ia0 3) (Y3 .lby (.ia0 (sg r 3)) .lwd (YE (cm (hmix (a:=1) (b:=5) (c:=9) (d:=13) lv3x (by decide) (by decide) (by decide) (by decide)) (fun _ _=>?_)))))
     refine en (gW 0 (fun v4x ev4x=>?_))
     have lv4x:v4x.length=16:=by rw[ev4x,mixS_len];assumption
     refine dqs 8 (Y5 (.ia0 4) .lby (.ia0 (sg r 4)) .lwd (.ia0 5) (Y3 .lby (.ia0 (sg r 5)) .lwd (YE (cm (hmix (a:=2) (b:=6) (c:=10) (d:=14) lv4x (by decide) (by decide) (by decide) (by decide)) (fun _ _=>?_)))))
     refine en (gW 0 (fun v5x ev5x=>?_))
     have lv5x:v5x.length=16:=by rw[ev5x,mixS_len];assumption
     refine dqs 8 (Y5 (.ia0 6) .lby (.ia0 (sg r 6)) .lwd (.ia0 7) (Y3 .lby (.ia0 (sg r 7)) .lwd (YE (cm (hmix (a:=3) (b:=7) (c:=11) (d:=15) lv5x (by decide) (by decide) (by decide) (by decide)) (fun _ _=>?_)))))
     refine en (gW 0 (fun v6x ev6x=>?_))
     have lv6x:v6x.length=16:=by rw[ev6x,mixS_len];assumption
     refine dqs 8 (Y5 (.ia0 8) .lby (.ia0 (sg r 8)) .lwd (.ia0 9) (Y3 .lby (.ia0 (sg r 9)) .lwd (YE (cm (hmix (a:=0) (b:=5) (c:=10) (d:=15) lv6x (by decide) (by decide) (by decide) (by decide)) (fun _ _=>?_)))))
     refine en (gW 0 (fun v7x ev7x=>?_))
     have lv7x:v7x.length=16:=by rw[ev7x,mixS_len];assumption
     refine dqs 8 (Y5 (.ia0 10) .lby (.ia0 (sg r 10)) .lwd (.ia0 11) (Y3 .lby (.ia0 (sg r 11)) .lwd (YE (cm (hmix (a:=1) (b:=6) (c:=11) (d:=12) lv7x (by decide) (by decide) (by decide) (by decide)) (fun _ _=>?_)))))
     refine en (gW 0 (fun v8x ev8x=>?_))
     have lv8x:v8x.length=16:=by rw[ev8x,mixS_len];assumption
     refine dqs 8 (Y5 (.ia0 12) .lby (.ia0 (sg r 12)) .lwd (.ia0 13) (Y3 .lby (.ia0 (sg r 13)) .lwd (YE (cm (hmix (a:=2) (b:=7) (c:=8) (d:=13) lv8x (by decide) (by decide) (by decide) (by decide)) (fun _ _=>?_)))))
     refine en (gW 0 (fun v9x ev9x=>?_))
     have lv9x:v9x.length=16:=by rw[ev9x,mixS_len];assumption
     refine dq 8 (Y5 (.ia0 14) .lby (.ia0 (sg r 14)) .lwd (.ia0 15) (Y3 .lby (.ia0 (sg r 15)) .lwd (YE (cm (hmix (a:=3) (b:=4) (c:=9) (d:=14) lv9x (by decide) (by decide) (by decide) (by decide)) (fun _ _=>?_)))))
     refine en0 (gW 0 (fun v10x ev10x=>?_))
     have lv10x:v10x.length=16:=by rw[ev10x,mixS_len];assumption
     refine bN (nN (rg0 (pp (PR.ad ((r+1:Nat):Int)) (p1 .mv (en0 (nN (kM 0 (cells (roundsS m V0 (r+1))) ?_ (hc:=by subst ev10x ev9x ev8x ev7x ev6x ev5x ev4x ev3x;rfl))))))))
     exact bk (r+1) (by omega) (by omega) su
    ·obtain rfl:r=10:=by omega
     refine xt (nX (nX (bH (nN (r1 .mv (bl ?_))))))
     generalize hVF:roundsS m V0 10=V at *
     have lV:=lV 10
     rw[hVF] at lV
     have lF:=foldTo_len h V
     refine kM 2 (stCells (foldTo h V 0) wt fill taken) ?_
     refine lo (A:=Nat) (fun i=>i<=8) (fun i=>8-i) (fun i=>[(0,pt gs),(7,pt g1),(175,i6 (i:Int))]) (fun i=>((g1,isB 288 (cells V))::(gs,isB 130 (stCells (foldTo h V i) wt fill taken))::M0)) (fun i=>(R0)) 0 (by omega) su (fun i hi=>?_)
     refine r1 .lss (se (sd (fun hi=>?_) (fun hi=>?_)))
     ·have hi:i<8:=by omega
      have lFi:=lF i
      refine sk (nN (se (bl (r2 .mv .as (dq 18 (Y5 .mv .mv .nil .fa (.ia0 i) (Y5 .sth .mv (.ia0 i) .lwd .mv (YQ (PR.ad ((i+8:Nat):Int)) (Y5 (.ia0 (i+8)) .lwd .xorW .xorW .nil (Y2 .fa (.ia0 i) (YE (sth 1 ?_ (hw:=hw)))))))))))))
      refine en0 (bN (nN (rg0 (pp (PR.ad ((i+1:Nat):Int)) (p1 .mv (en0 (nN (kM 1 (stCells (foldTo h V (i+1)) wt fill taken) ?_ (hc:=by rw[foldTo,foldTo_at h V i i (by omega) (by omega)])))))))))
      exact bk (i+1) (by omega) (by omega) su
     ·obtain rfl:i=8:=by omega
      refine xt (nX (nX (bH ?_)))
      rw[show compress h wt taken last=foldTo h V 8 by rw[←hVF,←hVV,←hWW];rfl]
      exact e0N (fun u w h=>⟨u,trivial,rfl,h.sub (List.sublist_cons_self _ _) (.refl _)⟩)

theorem run_copy_str {P:Program}(w:World)(dT sT ty elem:TypeId)(g o dLen dCap:Nat)(l:List UInt8)(cur:Array Value)(t:TypeId)(n:Nat)
  (hu:P.underlying dT=some (.slice elem)) (hs:(P.info? elem).map (·.size)=some 1) (hg:w.heap[g]?=some (.cells cur t (0,0))) (hn:n=Nat.min l.length dLen) (hfit:o+n<=cur.size) :
  (Builtin.copy_ #[dT,sT] ty #[.slice (some ⟨g,o,none⟩) dLen dCap,.string ⟨l.toArray⟩]).run P w =
   .ok (.int .i64 (n:Int)) (w.setRow g (cur.toList.take o++(l.take n).map cb++cur.toList.drop (o+n)).toArray):=by
 have hln:((l.take n).map cb).length=n:=by rw[List.length_map,List.length_take,hn];show min (min l.length dLen) l.length=min l.length dLen;omega
 have hst:=run_storeCells_at P g o t ((l.take n).map cb) 0 cur w hg (by rw[hln];simpa using hfit) (fun v hv=>by
  simp only[List.mem_map] at hv
  obtain⟨b,_,rfl⟩:=hv
  rfl)
 rw[hln] at hst
 simp only[Nat.add_zero] at hst
 have hmin:Nat.min l.length dLen=n:=hn.symm
 have hsz:(⟨l.toArray⟩:ByteArray).size=l.length:=by show l.toArray.size=_;simp
 have htk:List.take n (List.map (fun b:UInt8=>Value.int IntKind.u8 (b.toNat:Int)) l)=(l.take n).map cb:=by
  rw[←List.map_take];rfl
 cases hq:P.info? elem with
 | none=>simp[hq] at hs
 | some i=>
  simp[Builtin.copy_,run_underlying hu,Builtin.lenOf,Builtin.firstCells,sizeOf,typeInfo,hq,hsz,hmin]
  rw[htk,hst]
  simp[Result.andThen,goInt]
theorem run_clear {P:Program}(w:World)(t1 ty elem:TypeId)(g o n c:Nat)(cur:Array Value)(t:TypeId)
  (hu:P.underlying t1=some (.slice elem)) (hz:∀ w,(zeroValue elem).run P w = .ok (.int .u8 0) w) (hg:w.heap[g]?=some (.cells cur t (0,0))) (hfit:o+n<=cur.size) :
  (Builtin.clear_ #[t1] ty #[.slice (some ⟨g,o,none⟩) n c]).run P w =
   .ok (.tuple #[]) (w.setRow g (cur.toList.take o++(List.replicate n (0:UInt8)).map cb++cur.toList.drop (o+n)).toArray):=by
 have hln:((List.replicate n (0:UInt8)).map cb).length=n:=by simp
 have hst:=run_storeCells_at P g o t ((List.replicate n (0:UInt8)).map cb) 0 cur w hg (by rw[hln];simpa using hfit) (fun v hv=>by
  simp only[List.mem_map] at hv
  obtain⟨b,_,rfl⟩:=hv
  rfl)
 rw[hln] at hst
 simp only[Nat.add_zero] at hst
 have hzc:(Builtin.zeroCells #[.int .u8 0] n).toList=(List.replicate n (0:UInt8)).map cb:=by
  apply List.ext_getElem?
  intro i
  simp[Builtin.zeroCells,cb]
  by_cases hi:i<n
  ·simp[hi,Nat.mod_one]
  ·simp[hi]
 by_cases hn:n=0
 ·subst hn
  simp[Builtin.clear_,run_underlying hu]
  rw[setRow_self w g cur t (0,0) hg]
 ·obtain⟨k,rfl⟩:∃ k,n=k+1:=⟨n-1,by omega⟩
  simp only[Builtin.clear_]
  simp[run_underlying hu,hz,Value.cells]
  rw[hzc,hst]
  simp[Result.andThen]
section
def Abs (h0:List Wd)(p:List UInt8)(h:List Wd)(wt:List UInt8)(f q:Nat):Prop :=
 h=hashTo h0 p q/\wt.length=64/\64*q+f=p.length/\f<=64/\wt.take f=p.drop (64*q)
theorem Abs.block {h0:List Wd}{p:List UInt8}{h:List Wd}{wt:List UInt8}{q:Nat}(ha:Abs h0 p h wt 64 q):Abs h0 p (compress h wt (64*q+64) false) wt 0 (q+1):=by
 obtain⟨rfl,h2,h3,h4,h5⟩:=ha
 refine⟨?_,h2,by omega,by omega,?_⟩
 ·rw[hashTo,←h5,List.take_take,Nat.min_self,List.take_of_length_le (by omega)]
  rfl
 ·rw[List.take_zero,List.drop_of_length_le (by omega)]
theorem Abs.more {h0:List Wd}{p:List UInt8}{h:List Wd}{wt:List UInt8}{f q:Nat}(ha:Abs h0 p h wt f q)(x:List UInt8)(hx:f+x.length<=64):Abs h0 (p++x) h (wt.take f++x++wt.drop (f+x.length)) (f+x.length) q:=by
 obtain⟨rfl,h2,h3,h4,h5⟩:=ha
 refine⟨(hashTo_append h0 p x q (by omega)).symm,?_,by rw[List.length_append];omega,hx,?_⟩
 ·rw[List.length_append,List.length_append,List.length_take,List.length_drop];omega
 ·have hl:(wt.take f++x).length=f+x.length:=by rw[List.length_append,List.length_take];omega
  rw[List.take_append_of_le_length (by omega),List.take_of_length_le (by omega),List.drop_append_of_le_length (by omega),h5]
theorem Abs.last {h0:List Wd}{p:List UInt8}{h:List Wd}{wt:List UInt8}{f q:Nat}(ha:Abs h0 p h wt f q)(hn:1<=f\/p = []) :
  compress h (wt.take f++List.replicate (64-f) 0) (64*q+f) true=blake h0 p:=by
 obtain⟨rfl,h2,h3,h4,h5⟩:=ha
 have hq:full p.length=q:=by
  unfold full
  rcases hn with hn | rfl
  ·omega
  ·simp at h3 ⊢;omega
 unfold blake pad64
 rw[hq,h3,h5]
 congr 2
 rw[List.length_drop]
 congr 1
 congr 1
 omega
structure Hq where
 h:List Wd
 wt:List UInt8
 f:Nat
 q:Nat
structure HqOk (h0:List Wd)(p:List UInt8)(x:Hq):Prop where
 a:Abs h0 p x.h x.wt x.f x.q
 n:1<=x.f\/p = []
 h:x.h.length=8
theorem compress8 {h:List Wd}{wt:List UInt8}{t:Nat}{b:Bool}(hh:h.length=8):(compress h wt t b).length=8:=by rw[compress_len];exact hh
section
variable {D:List Deferred}{nt:Nat}{w0:World}{L:LT}{M:MT}{R:List Rw}{x y:Operand}{ops:Array Oper}{rest:List Oper}{Q:Exit->Act->World->Prop}{t t2 ty tyo e e2:TypeId}{ps:String}{af:Array Edge}{g o d n c:Nat}{l:List UInt8}{cur:Array Value}
theorem cpS (j:Nat)(h:KX D nt w0 ((d,i6 ((Nat.min l.length n:Nat):Int))::L) (M.set j (g,isB e2 (spl cur o ((l.take (Nat.min l.length n)).map cb)))) R (wpList Tryz.prog ops Q rest))(hj:M[j]?=some (g,isB e2 cur):=by rfl)(hx:EV (St D nt w0 L M R) x (.slice (some ⟨g,o,none⟩) n c):=by exact ev)(hy:EV (St D nt w0 L M R) y (sv l):=by exact ev)(hu:und t=some (.slice e):=by rfl)(hz:szT e=some 1:=by rfl)(hb:Nat.blt d nt=true:=by rfl)(hfit:o+Nat.min l.length n<=cur.size):KX D nt w0 L M R (wpList Tryz.prog ops Q (⟨some d,.call { callee:=.builtin .copy,args:=#[x,y],argTypes:=#[t,t2] },tyo,ps,af,none⟩::rest)):=fun a w hs=>by
 have hl:((l.take (Nat.min l.length n)).map cb).length=Nat.min l.length n:=by rw[List.length_map,List.length_take];show min (min l.length n) l.length=min l.length n;omega
 have hr:=run_copy_str (P:=Tryz.prog) w t t2 tyo e g o n c l cur e2 (Nat.min l.length n) (und_ok hu) (info_size hz) (hs.m.at j hj) rfl hfit
 rw[show(cur.toList.take o++(l.take (Nat.min l.length n)).map cb++cur.toList.drop (o+Nat.min l.length n)).toArray=spl cur o ((l.take (Nat.min l.length n)).map cb) by unfold spl;rw[hl]] at hr
 exact sq hs.f (wantedS rfl) (run_copyOp (op:=⟨some d,.call { callee:=.builtin .copy,args:=#[x,y],argTypes:=#[t,t2] },tyo,ps,af,none⟩) rfl (hx a w hs) (hy a w hs) hr) rfl (Nat.le_of_ble_eq_true hb) fun a2 hF=>h a2 _ ⟨hF,hs.m.row j hj _,fun x hx=>(hs.r x hx).upd j hj (grown_setRow w g _),hs.nd⟩
theorem clB (j:Nat)(h:KX D nt w0 L (M.set j (g,isB e2 (spl cur o ((List.replicate n (0:UInt8)).map cb)))) R (wpList Tryz.prog ops Q rest))(hj:M[j]?=some (g,isB e2 cur):=by rfl)(hx:EV (St D nt w0 L M R) x (.slice (some ⟨g,o,none⟩) n c):=by exact ev)(hu:und t=some (.slice e):=by rfl)(hz:∀ w,(zeroValue e).run Tryz.prog w = .ok (.int .u8 0) w:=by intro _;kernel_rfl)(hfit:o+n<=cur.size):KX D nt w0 L M R (wpList Tryz.prog ops Q (⟨none,.call { callee:=.builtin .clear,args:=#[x],argTypes:=#[t] },tyo,ps,af,none⟩::rest)):=fun a w hs=>by
 have hr:=run_clear (P:=Tryz.prog) w t tyo e g o n c cur e2 (und_ok hu) hz (hs.m.at j hj) hfit
 rw[show(cur.toList.take o++(List.replicate n (0:UInt8)).map cb++cur.toList.drop (o+n)).toArray=spl cur o ((List.replicate n (0:UInt8)).map cb) by unfold spl;rw[List.length_map,List.length_replicate]] at hr
 unfold wpList
 rw[if_pos (wantedS rfl)]
 left
 unfold Oper.wp
 rw[show(execOp a.eval ⟨none,.call { callee:=.builtin .clear,args:=#[x],argTypes:=#[t] },tyo,ps,af,none⟩).run Tryz.prog w = .ok (.value (.tuple #[])) (w.setRow g (spl cur o ((List.replicate n (0:UInt8)).map cb))) from ?_,Oper.upon_value]
 ·exact h a _ ⟨hs.f,hs.m.row j hj _,fun x hx=>(hs.r x hx).upd j hj (grown_setRow w g _),hs.nd⟩
 unfold execOp
 simp only[resolve,invoke,builtin,Sem.run_bind,Sem.run_pure,Result.andThen_ok,List.map_toArray,List.map_cons,List.map_nil,hx a w hs,hr]
def StX {A:Type}(I:A->Prop)(D:List Deferred)(nt:Nat)(w0:World)(L:A->LT)(M:A->MT)(R:A->List Rw):Kn:=fun a w=>∃ x,I x/\St D nt w0 (L x) (M x) (R x) a w
theorem jx {A:Type}(I:A->Prop)(L2:A->LT)(M2:A->MT)(R2:A->List Rw){c1 c2:Code}(h1:KX D nt w0 L M R (c1.wp Tryz.prog (Exit.then (StX I D nt w0 L2 M2 R2) Q)))(h2:∀ x,I x->KX D nt w0 (L2 x) (M2 x) (R2 x) (c2.wp Tryz.prog Q)):KX D nt w0 L M R ((Code.seq c1 c2).wp Tryz.prog Q):=fun a w hs=>wp_seq (wp_mono (h1 a w hs) fun e a2 w2 hq=>by
 cases e with
 | normal=>obtain⟨x,hx,h⟩:=hq;exact h2 x hx a2 w2 h
 | _=>exact hq)
theorem jy {A:Type}{I:A->Prop}{L2:A->LT}{M2:A->MT}{R2:A->List Rw}(x:A)(hx:I x)(hs:∀ a w,St D nt w0 L M R a w->St D nt w0 (L2 x) (M2 x) (R2 x) a w):KX D nt w0 L M R (StX I D nt w0 L2 M2 R2):=fun a w h=>⟨x,hx,hs a w h⟩
end
theorem PR.sG {G:Kn}{x y:Operand}{g o n:Nat}{p:Int}{t e:TypeId}(i:Nat)(hx:EV G x (px g o):=by exact ev)(hy:EV G y (i6 p):=by exact ev)(hp:p=(i:Int):=by rfl)(hu:und t=some (.array n e):=by rfl)(hz:szT e=some 1:=by rfl)(hi:i<=n:=by omega):PR Tryz.prog G (.slice t x (some y) none none) (.slice (some ⟨g,if i=n then o else o+i,none⟩) (n-i) (n-i)):=by
 by_cases h:i=n
 ·subst h
  rw[if_pos rfl]
  exact fun a w op ho hg=>by
   obtain⟨h1,h2⟩:=arrLen_of (und_ok hu)
   have ht:Tryz.prog.underlying t=some (.array (Tryz.prog.arrayLen t) (Tryz.prog.elem t)):=by rw[h1,h2];exact und_ok hu
   have hr:(Instr.sliceAt t (px g o) (some (i6 p)) none none).run Tryz.prog w = .ok (.slice (some ⟨g,o,none⟩) (i-i) (i-i)) w:=by
    rw[run_sliceAt_array_l w t ⟨g,o,none⟩ ht .i64 p (by omega) (by rw[h1];omega),h1,h2,szT_ok hz w,hp,Int.toNat_natCast]
    simp only[Result.andThen,slicedAt]
    rw[if_pos trivial]
   unfold execOp
   simp only[ho,hx a w hg,hy a w hg,Option.map,Sem.run_bind,hr,Result.andThen_ok,Sem.run_pure]
 ·rw[if_neg h]
  exact PR.sF' i hx hy hp hu hz (by omega)
end
def h0Of (keyed:Bool):List Wd:=if keyed then h0K else h0U
theorem PR.lst' {G:Kn}{x:Operand}{ty t:TypeId}{g:Nat}{h:List Wd}{wt:List UInt8}{fill:Int}{taken:Nat}(hx:EV G x (pt g):=by exact ev)(hm:MB G g t (stCells h wt fill taken):=by exact mb)(ha:agT ty=some true:=by rfl)(hz:szT ty=some 74:=by rfl)(hh:h.length=8:=by first | rfl | assumption)(hw:wt.length=64:=by first | rfl | assumption):PR Tryz.prog G (.load ty x) (.agg (stCells h wt fill taken)):=PR.lw hx hm ha hz (st_size hh hw)
theorem hbegin {keyed:Bool}{w:World}(hG:HG w):RV 52 #[.bool keyed] w (.agg (stCells (h0Of keyed) (List.replicate 64 0) 0 0)):=by
 refine enter Tryz.func52 ?_
 have lE:eightV.length=8:=rfl
 have lU:h0U.length=8:=rfl
 have lK:h0K.length=8:=rfl
 have hw:(List.replicate 64 (0:UInt8)).length=64:=rfl
 refine rg (aa Tryz.zeroValue130 (fun g0=>kM 0 (stCells (List.replicate 8 0) (List.replicate 64 0) 0 0) ?_))
 refine en (rg (pp (PR.lg (fun _ _ h=>(hG.below h.m.below).e) EV.gl) (pp (PR.bd (stCells eightV (List.replicate 64 0) 0 0)) (aa Tryz.zeroValue130 (fun g1=>kM 0 (stCells (List.replicate 8 0) (List.replicate 64 0) 0 0) ?_)))))
 refine sw 0 (hV:=st_size (by first | rfl | assumption) (by first | rfl | assumption)) (hW:=st_size (by first | rfl | assumption) (by first | rfl | assumption)) (h1:=st_one) ?_
 refine en (rg (p3 .fa (.ia0 0) .sth (pp (PR.xorW (b:=16842784#32)) (p2 .fa (.ia0 0) (sth 0 ?_ (hw:=hw))))))
 refine en (kM 0 (stCells h0U (List.replicate 64 0) 0 0) ?_)
 refine se (r1 .mv (cs (fun hk=>?_) (fun hk=>?_)))
 ·subst hk
  refine rg0 (p3 .fa (.ia0 0) .sth (pp (PR.xorW (b:=8192#32)) (p2 .fa (.ia0 0) (sth 0 ?_ (hw:=hw)))))
  refine en0 (kM 0 (stCells h0K (List.replicate 64 0) 0 0) ?_)
  refine nN (rg (p1 .lst' (sw 1 (hV:=st_size (by first | rfl | assumption) (by first | rfl | assumption)) (hW:=st_size (by first | rfl | assumption) (by first | rfl | assumption)) (h1:=st_one) ?_)))
  exact en (rt qv)
 ·subst hk
  refine sk (nN (rg (p1 .lst' (sw 1 (hV:=st_size (by first | rfl | assumption) (by first | rfl | assumption)) (hW:=st_size (by first | rfl | assumption) (by first | rfl | assumption)) (h1:=st_one) ?_))))
  exact en (rt qv)
theorem hadd {w0:World}{M0:MT}{R0:List Rw}{gs:Nat}{h0:List Wd}{p s:List UInt8}{x0:Hq}(hG:HG w0)(hx:HqOk h0 p x0)(hsz:p.length+s.length<2^62):RM 53 #[pt gs,sv s] w0 ((gs,isB 130 (stCells x0.h x0.wt (x0.f:Int) (64*x0.q)))::M0) R0 (A:=Hq×Value) (fun x=>HqOk h0 (p++s) x.1) (fun x=>x.2) (fun x=>(gs,isB 130 (stCells x.1.h x.1.wt (x.1.f:Int) (64*x.1.q)))::M0) (fun _=>R0):=by
 refine enterM Tryz.func53 ?_
 refine bl (lo2 (fun x i=>HqOk h0 (p++s.take i) x/\i<=s.length) (fun _ i=>s.length-i) (fun _ i=>[(0,pt gs),(1,sv (s.drop i))]) (fun x _=>(gs,isB 130 (stCells x.h x.wt (x.f:Int) (64*x.q)))::M0) (fun _ _=>R0) x0 0 ⟨by rw[List.take_zero,List.append_nil];exact hx,Nat.zero_le _⟩ su (fun x i hi=>?_))
 have hls:(s.drop i).length=s.length-i:=List.length_drop ..
 have hC:∀ n,n<=s.length-i->(p++s.take i)++(s.drop i).take n=p++s.take (i+n)/\(s.drop i).drop n=s.drop (i+n):=fun n _=>⟨by rw[List.append_assoc,List.take_add],by rw[List.drop_drop]⟩
 have hpl:(p++s.take i).length<=p.length+s.length:=by rw[List.length_append,List.length_take];omega
 obtain⟨⟨ha,hn,hh⟩,hi⟩:=hi
 have hw:=ha.2.1
 have hlen:=ha.2.2.1
 have hf:=ha.2.2.2.1
 generalize hl:s.drop i=l at *
 generalize hP:p++s.take i=P at *
 refine se (r3 .mv .ln .gtr (sd (fun hgt=>?_) (fun hgt=>?_)))
 ·have hgt:0<l.length:=by omega
  refine sk (nN (bl (jx (fun x2:Hq=>Abs h0 P x2.h x2.wt x2.f x2.q/\x2.f<64/\x2.h.length=8) (fun _=>[(0,pt gs),(1,sv l)]) (fun x2=>(gs,isB 130 (stCells x2.h x2.wt (x2.f:Int) (64*x2.q)))::M0) (fun _=>R0) ?_ (fun x2 hx2=>?_))))
  ·skip
   refine r5 .mv .nil .fa .stf .eqi (sd (fun h64=>?_) (fun h64=>?_))
   ·have hf64:x.f=64:=by omega
    rw[hf64] at ha
    refine rg (p4 .mv .nil .fa .stt (pp (PR.add (r:=((64*x.q+64:Nat):Int)) (h:=by rw[wrap_u64];omega)) (p2 .nil .fa (stt 0 ?_))))
    refine en (rg (p1 .mv (cm (htake (wt:=x.wt) (taken:=64*x.q+64) hh hw hG) (fun _ _=>?_))))
    refine en ?_
    have hh:=compress8 (wt:=x.wt) (t:=64*x.q+64) (b:=false) hh
    refine rg0 (p3 .mv .nil .fa (stf 0 ?_))
    exact en0 (nN (jy ⟨compress x.h x.wt (64*x.q+64) false,x.wt,0,x.q+1⟩ ⟨ha.block,by show(0:Nat)<64;decide,hh⟩ su))
   ·have hf64:x.f<64:=by omega
    exact sk (nN (jy x ⟨ha,hf64,hh⟩ su))
  ·skip
   have hh2:=hx2.2.2
   have hw2:=hx2.1.2.1
   have hf2:=hx2.2.1
   have hl2:=hx2.1.2.2.1
   obtain⟨n,hmin⟩:∃ n,Nat.min l.length (64-x2.f)=n:=⟨_,rfl⟩
   have hn1:n<=l.length:=by rw[←hmin];exact Nat.min_le_left _ _
   have hn2:n<=64-x2.f:=by rw[←hmin];exact Nat.min_le_right _ _
   have hn3:1<=n:=by rw[←hmin];exact Nat.le_min.2 ⟨by omega,by omega⟩
   have hln:(l.take n).length=n:=by rw[List.length_take];omega
   refine dqs 9 (Y5 .mv .nil .fa .mv .nil (Y2 .fa .stf (YQ (PR.sF' x2.f) (Y1 .mv (YE (cpS 0 ?_ (hfit:=by rw[hmin,st_size hh2 hw2];omega)))))))
   refine p1 .as (en (kM 0 (stCells x2.h (x2.wt.take x2.f++l.take n++x2.wt.drop (x2.f+(l.take n).length)) (x2.f:Int) (64*x2.q)) ?_ (hc:=by rw[hmin];exact spl_w hh2 hw2 (by omega))))
   generalize hwt:x2.wt.take x2.f++l.take n++x2.wt.drop (x2.f+(l.take n).length)=wt3
   have hw3:wt3.length=64:=by rw[←hwt,List.length_append,List.length_append,List.length_drop,List.length_take];omega
   refine rg (p5 .mv .nil .fa .stf .mv (pp (PR.ad ((x2.f+n:Nat):Int) (h:=by rw[hmin];omega)) (p2 .nil .fa (stf 0 ?_))))
   refine en (rg0 (p2 .mv .mv (pp (PR.sd (p:=((Nat.min l.length (64-x2.f):Nat):Int)) (i:=n) (hp:=by rw[hmin])) (p1 .as (en0 (bN (nN ?_)))))))
   have hab:=hx2.1.more (l.take n) (by omega)
   rw[hwt,hln] at hab
   exact bk2 ⟨x2.h,wt3,x2.f+n,x2.q⟩ (i+n) ⟨⟨by rw[←(hC n (by omega)).1];exact hab,.inl (by show 1<=x2.f+n;omega),hh2⟩,by omega⟩ (by omega) (by rw[←(hC n (by omega)).2];exact su)
 ·have hie:i=s.length:=by omega
  subst hie
  rw[List.take_length] at hP
  subst hP
  exact xt (nX (nX (bH (e0N (fun u w h=>⟨(x,u),⟨ha,hn,hh⟩,rfl,h⟩)))))
theorem spl_z {h:List Wd}{wt:List UInt8}{fill:Int}{taken f:Nat}(hh:h.length=8)(hw:wt.length=64)(hf:f<=64):spl (stCells h wt fill taken) (if f=64 then 8 else 8+f) ((List.replicate (64-f) (0:UInt8)).map cb)=stCells h (wt.take f++List.replicate (64-f) 0) fill taken:=by
 split
 ·subst f
  simp only[Nat.sub_self,List.replicate_zero,List.map_nil,List.append_nil]
  rw[List.take_of_length_le (by omega)]
  unfold spl
  simp
 ·have e:=spl_w (fill:=fill) (taken:=taken) (f:=f) (x:=List.replicate (64-f) 0) hh hw (by simp;omega)
  rw[e,List.length_replicate,show f+(64-f)=64 by omega,List.drop_of_length_le (by omega),List.append_nil]
theorem hend {w0:World}{M0:MT}{R0:List Rw}{gs:Nat}{h0:List Wd}{p:List UInt8}{x0:Hq}(hG:HG w0)(hx:HqOk h0 p x0)(hsz:p.length<2^62):RM 54 #[pt gs] w0 ((gs,isB 130 (stCells x0.h x0.wt (x0.f:Int) (64*x0.q)))::M0) R0 (A:=Unit) (fun _=>True) (fun _=>.agg (cells8 (outD (blake h0 p) 32))) (fun _=>M0) (fun _=>R0):=by
 refine enterM Tryz.func54 ?_
 have hh:=hx.h
 have hw:=hx.a.2.1
 have hf:=hx.a.2.2.2.1
 have hlen:=hx.a.2.2.1
 refine rg (aa Tryz.zeroValue65 (fun g0=>en (dqs 12 (Y5 .mv .nil .fa .stt .mv (Y3 .nil .fa .stf (YQ (PR.cv (p:=(x0.f:Int)) (r:=(x0.f:Int)) (by rw[wrap_u64];omega)) (YQ (PR.add (r:=((64*x0.q+x0.f:Nat):Int)) (h:=by rw[wrap_u64];omega)) (Y2 .nil .fa (YE (stt 1 ?_))))))))))
 refine en (dqs 8 (Y5 .mv .nil .fa .mv .nil (Y2 .fa .stf (YQ (PR.sG x0.f) (YE (clB 1 ?_ (hfit:=by rw[st_size hh hw];split <;> omega)))))))
 refine en (kM 1 (stCells x0.h (x0.wt.take x0.f++List.replicate (64-x0.f) 0) (x0.f:Int) (64*x0.q+x0.f)) ?_ (hc:=spl_z hh hw hf))
 have hw:(x0.wt.take x0.f++List.replicate (64-x0.f) 0).length=64:=by rw[List.length_append,List.length_take,List.length_replicate];omega
 refine fr [1] [] ?_
 refine rg (p1 .mv (cm (htake hh hw hG) (fun _ _=>?_)))
 rw[hx.a.last hx.n]
 have hH:(blake h0 p).length=8:=by rw[←hx.a.last hx.n];exact compress8 hh
 generalize blake h0 p=H at *
 refine en (rg (aa Tryz.zeroValue65 (fun g1=>en (kM 0 (cells8 (outD H 0)) ?_))))
 refine se (rg (p3 .mv .nil .fa (pp PR.sta (p1 .mv (en (bl ?_))))))
 have lO:=outD_len H
 refine lo (A:=Nat) (fun i=>i<=8) (fun i=>8-i) (fun i=>[(2,pt g0),(3,pt g1),(32,.agg (cells H)),(33,i6 (i:Int))]) (fun i=>((g1,isB 65 (cells8 (outD H (4*i))))::(g0,isB 65 #[.int .u8 0,.int .u8 0,.int .u8 0,.int .u8 0,.int .u8 0,.int .u8 0,.int .u8 0,.int .u8 0,.int .u8 0,.int .u8 0,.int .u8 0,.int .u8 0,.int .u8 0,.int .u8 0,.int .u8 0,.int .u8 0,.int .u8 0,.int .u8 0,.int .u8 0,.int .u8 0,.int .u8 0,.int .u8 0,.int .u8 0,.int .u8 0,.int .u8 0,.int .u8 0,.int .u8 0,.int .u8 0,.int .u8 0,.int .u8 0,.int .u8 0,.int .u8 0])::M0)) (fun i=>(R0)) 0 (by omega) su (fun i hi=>?_)
 refine r1 .lss (se (sd (fun hi=>?_) (fun hi=>?_)))
 ·have hi:i<8:=by omega
  refine sk (nN (se (bl (rg (p1 .mv (pp (PR.xw i (l:=H)) (p2 .as .as (en (r1 .mv (bl (lo (A:=Nat) (fun j=>j<=4) (fun j=>4-j) (fun j=>[(2,pt g0),(3,pt g1),(4,i6 (i:Int)),(5,.int .u32 (nm (gt H i))),(32,.agg (cells H)),(33,i6 (i:Int)),(37,i6 (j:Int))]) (fun j=>((g1,isB 65 (cells8 (outD H (4*i+j))))::(g0,isB 65 #[.int .u8 0,.int .u8 0,.int .u8 0,.int .u8 0,.int .u8 0,.int .u8 0,.int .u8 0,.int .u8 0,.int .u8 0,.int .u8 0,.int .u8 0,.int .u8 0,.int .u8 0,.int .u8 0,.int .u8 0,.int .u8 0,.int .u8 0,.int .u8 0,.int .u8 0,.int .u8 0,.int .u8 0,.int .u8 0,.int .u8 0,.int .u8 0,.int .u8 0,.int .u8 0,.int .u8 0,.int .u8 0,.int .u8 0,.int .u8 0,.int .u8 0,.int .u8 0])::M0)) (fun j=>(R0)) 0 (by omega) su (fun j hi=>?_))))))))))))
  refine r1 .lss (se (sd (fun hj=>?_) (fun hj=>?_)))
  ·have hj:j<4:=by omega
   have lOj:=lO (4*i+j)
   refine sk (nN ?_)
   refine se (bl (r2 .mv .as (rg0 (p1 .mv (pp (PR.ml ((4*i:Nat):Int)) (p1 .mv (pp (PR.ad ((4*i+j:Nat):Int)) (p2 .mv .mv (pp (PR.ml ((8*j:Nat):Int)) (pp (PR.shr (nm (gt H i)/2^(8*j)) (h:=by rw[Int.toNat_natCast]) (h0:=⟨by omega,by show _<=((32:Nat):Int);omega⟩)) (pp (PR.cv (byteOf_eq (gt H i) j)) (p1 (.ia0 (4*i+j)) (sby 0 ?_)))))))))))))
   refine en0 (bN (nN (rg0 (pp (PR.ad ((j+1:Nat):Int)) (p1 .mv (en0 (nN (kM 0 (cells8 (outD H (4*i+(j+1)))) ?_ (hc:=by rw[←Nat.add_assoc,outD,show(4*i+j)/4=i by omega,show(4*i+j)%4=j by omega])))))))))
   exact bk (j+1) (by omega) (by omega) su
  ·obtain rfl:j=4:=by omega
   refine xt (nX (nX (bH (bN (nN (rg0 (pp (PR.ad ((i+1:Nat):Int)) (p1 .mv (en0 (nN (kM 0 (cells8 (outD H (4*(i+1)))) ?_ (hc:=by rw[show 4*(i+1)=4*i+4 from rfl]))))))))))))
   exact bk (i+1) (by omega) (by omega) su
 ·obtain rfl:i=8:=by omega
  rw[show(4*8:Nat)=32 from rfl]
  have hD:=lO 32
  generalize outD H 32=Dg at *
  have hDs:(cells8 Dg).size=32:=by rw[cells8_size,hD]
  refine xt (nX (nX (bH (nN (rg (pp (PR.lw (hn:=by rw[cells8_size];exact hD)) (sw 1 (h1:=cells8_one _) (hV:=by rw[cells8_size];exact hD) ?_)))))))
  exact en (rt (rm () trivial su))
theorem tx_at {l:List (List UInt8)}{i:Nat}{s:List UInt8}(h:l[i]?=some s):(txs l)[i*1]?=some (sv s):=by rw[Nat.mul_one,List.getElem?_map,h];rfl
theorem flat_take {l:List (List UInt8)}{i:Nat}{s:List UInt8}(h:l[i]?=some s):(l.take (i+1)).flatten=(l.take i).flatten++s:=by rw[List.take_add_one,h];simp
theorem flat_len (l:List (List UInt8))(i:Nat):(l.take i).flatten.length<=l.flatten.length:=by
 have h:l.flatten=(l.take i).flatten++(l.drop i).flatten:=by rw[←List.flatten_append,List.take_append_drop]
 rw[h,List.length_append];omega
theorem hq_nil {l:List (List UInt8)}:HqOk h0U (l.take 0).flatten ⟨h0U,List.replicate 64 0,0,0⟩:=⟨⟨rfl,rfl,rfl,by decide,rfl⟩,.inr rfl,rfl⟩
theorem hq_key {k:List UInt8}(hk:k.length=32){l:List (List UInt8)}:HqOk h0K (k++List.replicate 32 0++(l.take 0).flatten) ⟨h0K,k++List.replicate 32 0,64,0⟩:=by
 have hl:(k++List.replicate 32 (0:UInt8)).length=64:=by simp[hk]
 rw[List.take_zero,List.flatten_nil,List.append_nil]
 exact⟨⟨rfl,hl,by show 64*0+64=_;rw[hl],by show 64<=64;decide,by show(k++List.replicate 32 (0:UInt8)).take 64=(k++List.replicate 32 0).drop (64*0);rw[List.take_of_length_le (by omega)];rfl⟩,.inl (by show 1<=64;decide),rfl⟩
theorem hsum {l:List (List UInt8)}{v:Value}{w:World}(hG:HG w)(hV:Sl w v 1 l.length (txs l))(hl:l.flatten.length<2^60)(hn:l.length<2^60):RV 95 #[v] w (.agg (cells8 (sumS l.flatten))):=by
 refine enter Tryz.func95 ?_
 refine rg (aa Tryz.zeroValue65 (fun g0=>en (kM 0 (cells8 (List.replicate 32 0)) ?_)))
 refine rg (cl (fun _ _ h=>hbegin (hG.below h.m.below)) (aa Tryz.zeroValue130 (fun g1=>kM 0 (stCells (List.replicate 8 0) (List.replicate 64 0) 0 0) ?_)))
 refine sw 0 (hV:=st_size (by first | rfl | assumption) (by first | rfl | assumption)) (hW:=st_size (by first | rfl | assumption) (by first | rfl | assumption)) (h1:=st_one) ?_
 refine en (se (rg (p1 .mv (pp (PR.lr) (p1 .mv (en (bl (lo2 (fun x i=>HqOk h0U (l.take i).flatten x/\i<=l.length) (fun _ i=>l.length-i) (fun _ i=>[(2,pt g0),(3,pt g1),(7,v),(8,i6 ((l.length:Nat):Int)),(9,i6 (i:Int))]) (fun x i=>((g1,isB 130 (stCells x.h x.wt (x.f:Int) (64*x.q))) :: [(g0,isB 65 (cells8 (List.replicate 32 0)))])) (fun _ _=>[]) ⟨h0U,List.replicate 64 0,0,0⟩ 0 ⟨hq_nil,Nat.zero_le _⟩ su (fun x i hi=>?_)))))))))
 obtain⟨hx,hi⟩:=hi
 refine r1 .lss (se (sd (fun hi=>?_) (fun hi=>?_)))
 ·have hi:i<l.length:=by omega
  obtain⟨s,hs⟩:∃ s,l[i]?=some s:=⟨_,List.getElem?_eq_getElem hi⟩
  have hsum:=flat_take hs
  have hlen2:=flat_len l (i+1)
  rw[hsum,List.length_append] at hlen2
  refine sk (nN (se (bl (rg (pp (PR.ix (i:=i)) (pp (PR.lp (v2:=sv s) (tx_at hs)) (p1 .as (en (rg0 (p1 .mv (cm (hadd (s:=s) hG hx (by omega)) (fun x2 hx2=>?_))))))))))))
  exact en0 (bN (nN (rg0 (pp (PR.ad ((i+1:Nat):Int)) (p1 .mv (en0 (nN (bk2 x2.1 (i+1) ⟨by rw[hsum];exact hx2,by omega⟩ (by omega) su))))))))
 ·obtain rfl:i=l.length:=by omega
  rw[List.take_length] at hx
  refine xt (nX (nX (bH (nN ?_))))
  have hDl:(sumS l.flatten).length=32:=sumS_len _
  have hDg:outD (blake h0U l.flatten) 32=sumS l.flatten:=rfl
  generalize sumS l.flatten=Dg at *
  refine rg (cm (hend hG hx (by omega)) (fun _ _=>?_))
  rw[hDg]
  have hDs:(cells8 Dg).size=32:=by rw[cells8_size,hDl]
  refine sw 0 (h1:=cells8_one _) (hV:=by rw[cells8_size];exact hDl) ?_
  exact en (rt qv)
theorem cells8_map {l:List UInt8}{q:Nat}{v:Value}(hq:(l.map cb)[q]?=some v):(cells8 l)[q]?=some v:=by rw[←Array.getElem?_toList];exact hq
theorem cb_one {l:List UInt8}:∀ u∈l.map cb,u.oneCell'=true:=fun u hu=>by obtain⟨x,_,rfl⟩:=List.mem_map.1 hu;rfl
theorem spl_key {k:List UInt8}(hk:k.length=32):spl (stCells h0K (List.replicate 64 0) 0 0) 8 (k.map cb)=stCells h0K (k++List.replicate 32 0) 0 0:=by
 have e:=spl_w (h:=h0K) (wt:=List.replicate 64 0) (fill:=0) (taken:=0) (f:=0) (x:=k) rfl rfl (by omega)
 rw[List.take_zero,List.nil_append,Nat.zero_add,Nat.add_zero,hk] at e
 exact e
theorem hkeyed {k:List UInt8}{l:List (List UInt8)}{v:Value}{w:World}(hk:k.length=32)(hG:HG w)(hV:Sl w v 1 l.length (txs l))(hl:l.flatten.length<2^60)(hn:l.length<2^60):RV 22 #[.agg (cells8 k),v] w (.agg (cells8 (keyedS k l.flatten))):=by
 refine enter Tryz.func22 ?_
 have hk2:(cells8 k).size=32:=by rw[cells8_size,hk]
 refine rg (ba (fun g0=>?_))
 refine aa Tryz.zeroValue65 (fun g1=>en (kM 0 (cells8 (List.replicate 32 0)) ?_))
 refine rg (cl (fun _ _ h=>hbegin (hG.below h.m.below)) (aa Tryz.zeroValue130 (fun g2=>kM 0 (stCells (List.replicate 8 0) (List.replicate 64 0) 0 0) ?_)))
 refine sw 0 (hV:=st_size (by first | rfl | assumption) (by first | rfl | assumption)) (hW:=st_size (by first | rfl | assumption) (by first | rfl | assumption)) (h1:=st_one) ?_
 refine en (dqs 3 (Y1 .fa (YQ PR.sA (YQ PR.sA (YE (cpB 2 0 (k.map cb) ?_ (hc:=fun q v hq=>by rw[Nat.zero_add];exact cells8_map hq) (hl:=by simp[hk]) (hfit:=by rw[st_size rfl rfl];simp[hk]) (h1:=cb_one)))))))
 refine en ?_
 have hh:h0K.length=8:=rfl
 have hl64:(k++List.replicate 32 (0:UInt8)).length=64:=by simp[hk]
 refine kM 0 (stCells h0K (k++List.replicate 32 0) 0 0) ?_ (hc:=spl_key hk)
 refine rg (p1 .fa (stf 0 ?_))
 refine en (se (rg (p1 .mv (pp (PR.lr) (p1 .mv (en (bl (lo2 (fun x i=>HqOk h0K (k++List.replicate 32 0++(l.take i).flatten) x/\i<=l.length) (fun _ i=>l.length-i) (fun _ i=>[(4,pt g1),(5,pt g2),(14,v),(15,i6 ((l.length:Nat):Int)),(16,i6 (i:Int))]) (fun x i=>((g2,isB 130 (stCells x.h x.wt (x.f:Int) (64*x.q))) :: [(g1,isB 65 (cells8 (List.replicate 32 0))),(g0,isB 23 (cells8 k))])) (fun _ _=>[]) ⟨h0K,k++List.replicate 32 0,64,0⟩ 0 ⟨hq_key hk,Nat.zero_le _⟩ su (fun x i hi=>?_)))))))))
 obtain⟨hx,hi⟩:=hi
 refine r1 .lss (se (sd (fun hi=>?_) (fun hi=>?_)))
 ·have hi:i<l.length:=by omega
  obtain⟨s,hs⟩:∃ s,l[i]?=some s:=⟨_,List.getElem?_eq_getElem hi⟩
  have hsum:=flat_take hs
  have hlen2:=flat_len l (i+1)
  rw[hsum,List.length_append] at hlen2
  refine sk (nN (se (bl (rg (pp (PR.ix (i:=i)) (pp (PR.lp (v2:=sv s) (tx_at hs)) (p1 .as (en (rg0 (p1 .mv (cm (hadd (s:=s) hG hx (by rw[List.length_append,List.length_append,List.length_replicate];omega)) (fun x2 hx2=>?_))))))))))))
  exact en0 (bN (nN (rg0 (pp (PR.ad ((i+1:Nat):Int)) (p1 .mv (en0 (nN (bk2 x2.1 (i+1) ⟨by rw[hsum];rw[←List.append_assoc];exact hx2,by omega⟩ (by omega) su))))))))
 ·obtain rfl:i=l.length:=by omega
  rw[List.take_length] at hx
  refine xt (nX (nX (bH (nN ?_))))
  have hDl:(keyedS k l.flatten).length=32:=keyedS_len _ _
  have hDg:outD (blake h0K (k++List.replicate 32 0++l.flatten)) 32=keyedS k l.flatten:=rfl
  generalize keyedS k l.flatten=Dg at *
  have hsz:(k++List.replicate 32 0++l.flatten).length=64+l.flatten.length:=by rw[List.length_append];simp[hk]
  refine rg (cm (hend hG hx (by omega)) (fun _ _=>?_))
  rw[hDg]
  have hDs:(cells8 Dg).size=32:=by rw[cells8_size,hDl]
  refine sw 0 (h1:=cells8_one _) (hV:=by rw[cells8_size];exact hDl) ?_
  exact en (rt qv)
section
section
variable {D:List Deferred}{nt:Nat}{w0:World}{L:LT}{M:MT}{R:List Rw}{G:Kn}{x y:Operand}{v:Value}{t t2 ty e:TypeId}{k:IntKind}{p q:Int}{n g:Nat}{b:UInt8}
theorem PR.xby {l:List UInt8}(i:Nat)(hx:EV G x (.agg (cells8 l)):=by exact ev)(hy:EV G y (.int k (i:Int)):=by exact ev)(hu:und t=some (.array n ty):=by rfl)(ha:agT ty=some false:=by rfl)(hz:szT ty=some 1:=by rfl)(hi:i<n:=by omega)(hl:i<l.length:=by omega):PR Tryz.prog G (.index t x y) (.int .u8 ((bt l i).toNat:Int)):=PR.xc i hx hy (by rw[nth_eq,Array.getElem?_toList];exact cells8_get l i hl) hu ha hz hi
theorem PR.rs (i:Nat){l:List UInt8}(hi:R[i]?=some ⟨v,5,1,n,l.map cb⟩:=by rfl)(hx:EV (St D nt w0 L M R) x v:=by exact ev)(hn:l.length=n):PR Tryz.prog (St D nt w0 L M R) (.convert 75 9 x) (sv l):=fun a w op ho hg=>by
 subst hn
 have h1:=(hg.row i hi).owns
 unfold execOp
 simp only[ho,hx a w hg,Sem.run_bind,run_strOwn h1,Result.andThen_ok,Sem.run_pure]
/- bits of a byte -/
theorem and15 (b:UInt8):bits .and .u8 (b.toNat:Int) 15=((b.toNat%16:Nat):Int):=by
 have key:∀ x:Fin 256,bits .and .u8 ((x.val:Nat):Int) 15=((x.val%16:Nat):Int):=by decide +kernel
 exact key ⟨b.toNat,b.toNat_lt⟩
theorem PR.lo4 (hx:EV G x (.int .u8 (b.toNat:Int)):=by exact ev)(hy:EV G y (.int .u8 15):=by exact ev):PR Tryz.prog G (.binOp .and t x y t2) (.int .u8 ((b.toNat%16:Nat):Int)):=PR.and _ hx hy (and15 b)
theorem PR.hi4 (hx:EV G x (.int .u8 (b.toNat:Int)):=by exact ev)(hy:EV G y (.int k 4):=by exact ev):PR Tryz.prog G (.binOp .shr t x y t2) (.int .u8 ((b.toNat/16:Nat):Int)):=PR.shr _ hx hy (by show(b.toNat:Int)/16=_;omega) (by show(0:Int)<=4/\(4:Int)<=((8:Nat):Int);decide)
end
theorem w8 {x:Int}(h:0<=x/\x<256:=by omega):IntKind.u8.wrap x=x:=by rw[wrap_u8];omega
end
end Go.Proofs.YtdjholkjkbihmaaGreatDoor
