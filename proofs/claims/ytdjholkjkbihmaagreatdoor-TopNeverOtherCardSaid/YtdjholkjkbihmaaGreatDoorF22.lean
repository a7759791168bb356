/- Laws and walks of TopNeverOther. -/
import Derived.Stop.BytesEq
import Derived.Test.YtdjholkjkbihmaaGreatDoorF19
import Derived.Test.YtdjholkjkbihmaaGreatDoorF21
namespace Go.Proofs.YtdjholkjkbihmaaGreatDoor
open Go.RowKit
set_option maxRecDepth 100000
set_option maxHeartbeats 4000000
theorem cb_at {l:List UInt8}{i:Nat}(h:i<l.length):(l.map cb)[i*1]?=some (.int .u8 ((bt l i).toNat:Int)):=by
 rw[Nat.mul_one,List.getElem?_map,List.getElem?_eq_getElem h]
 simp[bt,h,cb]
theorem cword {l:List UInt8}{v:Value}{n:Nat}{w:World}(hV:Sl w v 1 n (l.map cb))(h4:4<=n)(hl:l.length=n):RV 266 #[v] w (.int .u32 (nm (wdAt l 0))):=by
 refine enter Tryz.func266 ?_
 refine r1 .as (dqb (Y1 .mv (YQ (PR.ix (i:=0)) ?_)))
 exact YQ (PR.lp (cb_at (l:=l) (i:=0) (by omega))) (Y2 .b32 .mv (YQ (PR.ix (i:=1)) (YQ (PR.lp (cb_at (l:=l) (i:=1) (by omega))) (Y4 .b32 (.s32 256) .o32 .mv (YQ (PR.ix (i:=2)) (YQ (PR.lp (cb_at (l:=l) (i:=2) (by omega))) (Y4 .b32 (.s32 65536) .o32 .mv (YQ (PR.ix (i:=3)) (YQ (PR.lp (cb_at (l:=l) (i:=3) (by omega))) (Y4 .b32 (.s32 16777216) .w32 .as (YE (rt (q1 rfl)))))))))))))
theorem cwordB {l:List UInt8}{g o n c:Nat}{t:TypeId}{w:World}(hB:Blk w g t (cells8 l))(hn:n=l.length-o)(h4:o+4<=l.length):RV 266 #[.slice (some ⟨g,0+o,none⟩) n c] w (.int .u32 (nm (wdAt l o))):=by
 have h:=cword (l:=l.drop o) (v:=.slice (some ⟨g,0+o,none⟩) n c) (n:=n) (w:=w) ⟨by simp[hn],.inr ⟨g,0+o,c,rfl,lt_of_ob hB,fun j u hj=>by
  rw[hB.cell,Nat.zero_add,←Array.getElem?_toList]
  show(l.map cb)[o+j]?=some u
  rw[List.map_drop,List.getElem?_drop] at hj;exact hj⟩⟩ (by omega) (by rw[List.length_drop];exact hn.symm)
 rw[show wdAt (l.drop o) 0=wdAt l o by unfold wdAt bt;simp] at h
 exact h
theorem cfirst {k no:List UInt8}{n:Wd}{w:World}(hk:k.length=32)(hn:no.length=12):RV 247 #[.agg (cells8 k),.agg (cells8 no),.int .u32 (nm n)] w (.agg (cells (fst16 k no n))):=by
 refine enter Tryz.func247 ?_
 have hk2:(cells8 k).size=32:=by rw[cells8_size,hk]
 have hn2:(cells8 no).size=12:=by rw[cells8_size,hn]
 have hF:(cells (fst16 k no n)).size=16:=by rw[cells_size,fst16_len]
 refine rg (ba (fun g0=>?_))
 refine ba (fun g1=>?_)
 refine aa Tryz.zeroValue288 (fun g2=>kM 0 (cells (List.replicate 16 0)) ?_)
 refine en (rg (pp (PR.bd (cells base16)) (aa Tryz.zeroValue288 (fun g3=>kM 0 (cells (List.replicate 16 0)) ?_))))
 refine sw 0 (h1:=cells_one _) (hV:=by rw[cells_size];first | rfl | assumption) (hW:=by rw[cells_size];first | rfl | assumption) ?_
 refine en (se (r1 .mv (bl (kM 0 (cells (putWs k 4 base16 0)) ?_))))
 have lP:∀ i,(putWs k 4 base16 i).length=16:=fun i=>(putWs_len k 4 base16 i).trans rfl
 refine lo (A:=Nat) (fun i=>i<=8) (fun i=>8-i) (fun i=>[(2,.int .u32 (nm n)),(3,pt g0),(4,pt g1),(6,pt g2),(7,pt g3),(11,i6 (i:Int))]) (fun i=>[(g3,isB 288 (cells (putWs k 4 base16 i))),(g2,isB 288 (cells (List.replicate 16 0))),(g1,isB 184 (cells8 no)),(g0,isB 23 (cells8 k))]) (fun i=>[]) 0 (by omega) su (fun i hi=>?_)
 refine r1 .lss (se (sd (fun hi=>?_) (fun hi=>?_)))
 ·have hi:i<8:=by omega
  have lPi:=lP i
  refine sk (nN (se (bl (r2 .mv .as (rg0 (p1 .mv (pp (PR.ad ((4+i:Nat):Int)) (p1 .mv (pp (PR.ml ((4*i:Nat):Int)) (pp (PR.sF' (4*i)) (cl (fun _ _ h=>cwordB (l:=k) (o:=4*i) (h.m.at 3 rfl) (by rw[hk]) (by rw[hk];omega)) (p1 (.ia0 (4+i)) (swd 0 ?_)))))))))))))
  refine en0 (bN (nN (rg0 (pp (PR.ad ((i+1:Nat):Int)) (p1 .mv (en0 (nN (kM 0 (cells (putWs k 4 base16 (i+1))) ?_))))))))
  exact bk (i+1) (by omega) (by omega) su
 ·obtain rfl:i=8:=by omega
  refine xt (nX (nX (bH (nN ?_))))
  have l8:=lP 8
  refine rg (p2 .mv (.ia0 12) (swd 0 ?_))
  refine en ?_
  have lW:((putWs k 4 base16 8).set 12 n).length=16:=by rw[List.length_set];exact l8
  refine se (r1 .mv (bl (kM 0 (cells (putWs no 13 ((putWs k 4 base16 8).set 12 n) 0)) ?_)))
  have lP:∀ i,(putWs no 13 ((putWs k 4 base16 8).set 12 n) i).length=16:=fun i=>(putWs_len no 13 ((putWs k 4 base16 8).set 12 n) i).trans lW
  refine lo (A:=Nat) (fun i=>i<=3) (fun i=>3-i) (fun i=>[(2,.int .u32 (nm n)),(3,pt g0),(4,pt g1),(6,pt g2),(7,pt g3),(24,i6 (i:Int))]) (fun i=>[(g3,isB 288 (cells (putWs no 13 ((putWs k 4 base16 8).set 12 n) i))),(g2,isB 288 (cells (List.replicate 16 0))),(g1,isB 184 (cells8 no)),(g0,isB 23 (cells8 k))]) (fun i=>[]) 0 (by omega) su (fun i hi=>?_)
  refine r1 .lss (se (sd (fun hi=>?_) (fun hi=>?_)))
  ·have hi:i<3:=by omega
   have lPi:=lP i
   refine sk (nN (se (bl (r2 .mv .as (rg0 (p1 .mv (pp (PR.ad ((13+i:Nat):Int)) (p1 .mv (pp (PR.ml ((4*i:Nat):Int)) (pp (PR.sF' (4*i)) (cl (fun _ _ h=>cwordB (l:=no) (o:=4*i) (h.m.at 2 rfl) (by rw[hn]) (by rw[hn];omega)) (p1 (.ia0 (13+i)) (swd 0 ?_)))))))))))))
   refine en0 (bN (nN (rg0 (pp (PR.ad ((i+1:Nat):Int)) (p1 .mv (en0 (nN (kM 0 (cells (putWs no 13 ((putWs k 4 base16 8).set 12 n) (i+1))) ?_))))))))
   exact bk (i+1) (by omega) (by omega) su
  ·obtain rfl:i=3:=by omega
   refine xt (nX (nX (bH (nN ?_))))
   rw[show(putWs no 13 ((putWs k 4 base16 8).set 12 n) 3)=fst16 k no n from rfl]
   have lF:=fst16_len k no n
   generalize fst16 k no n=F at *
   refine rg (p1 (.lw (hn:=by rw[cells_size];first | rfl | assumption)) (sw 1 (h1:=cells_one _) (hV:=by rw[cells_size];first | rfl | assumption) (hW:=by rw[cells_size];first | rfl | assumption) ?_))
   exact en (rt qv)
theorem cstep {w0:World}{M0:MT}{R0:List Rw}{gv a b c d:Nat}{v:List Wd}(hl:v.length=16)(ha:a<16)(hb:b<16)(hc:c<16)(hd:d<16):RM 248 #[i6 (a:Int),i6 (b:Int),i6 (c:Int),i6 (d:Int),pt gv] w0 ((gv,isB 288 (cells v))::M0) R0 (A:=Value) (fun _=>True) (fun u=>u) (fun _=>(gv,isB 288 (cells (qr v a b c d)))::M0) (fun _=>R0):=by
 refine enterM Tryz.func248 ?_
 have l0:=hl
 refine dqs 8 (Y5 .mv (.ia0 a) .lwd .mv (.ia0 b) (Y3 .lwd .addW (.ia0 a) (YE (swd 0 ?_))))
 refine en (gW 0 (fun v1x ev1x=>?_))
 have lv1x:v1x.length=16:=by rw[ev1x,List.length_set];assumption
 refine dqs 10 (Y5 .mv .mv (.ia0 d) .lwd .mv (Y3 (.ia0 a) .lwd .xorW (YC (fun _ _ h=>rotK ((gt v1x d)^^^(gt v1x a)) 16 16) (Y1 (.ia0 d) (YE (swd 0 ?_))))))
 refine en (gW 0 (fun v2x ev2x=>?_))
 have lv2x:v2x.length=16:=by rw[ev2x,List.length_set];assumption
 refine dqs 8 (Y5 .mv (.ia0 c) .lwd .mv (.ia0 d) (Y3 .lwd .addW (.ia0 c) (YE (swd 0 ?_))))
 refine en (gW 0 (fun v3x ev3x=>?_))
 have lv3x:v3x.length=16:=by rw[ev3x,List.length_set];assumption
 refine dqs 10 (Y5 .mv .mv (.ia0 b) .lwd .mv (Y3 (.ia0 c) .lwd .xorW (YC (fun _ _ h=>rotK ((gt v3x b)^^^(gt v3x c)) 12 12) (Y1 (.ia0 b) (YE (swd 0 ?_))))))
 refine en (gW 0 (fun v4x ev4x=>?_))
 have lv4x:v4x.length=16:=by rw[ev4x,List.length_set];assumption
 refine dqs 8 (Y5 .mv (.ia0 a) .lwd .mv (.ia0 b) (Y3 .lwd .addW (.ia0 a) (YE (swd 0 ?_))))
 refine en (gW 0 (fun v5x ev5x=>?_))
 have lv5x:v5x.length=16:=by rw[ev5x,List.length_set];assumption
 refine dqs 10 (Y5 .mv .mv (.ia0 d) .lwd .mv (Y3 (.ia0 a) .lwd .xorW (YC (fun _ _ h=>rotK ((gt v5x d)^^^(gt v5x a)) 8 8) (Y1 (.ia0 d) (YE (swd 0 ?_))))))
 refine en (gW 0 (fun v6x ev6x=>?_))
 have lv6x:v6x.length=16:=by rw[ev6x,List.length_set];assumption
 refine dqs 8 (Y5 .mv (.ia0 c) .lwd .mv (.ia0 d) (Y3 .lwd .addW (.ia0 c) (YE (swd 0 ?_))))
 refine en (gW 0 (fun v7x ev7x=>?_))
 have lv7x:v7x.length=16:=by rw[ev7x,List.length_set];assumption
 refine dq 10 (Y5 .mv .mv (.ia0 b) .lwd .mv (Y3 (.ia0 c) .lwd .xorW (YC (fun _ _ h=>rotK ((gt v7x b)^^^(gt v7x c)) 7 7) (Y1 (.ia0 b) (YE (swd 0 ?_))))))
 refine en0 (gW 0 (fun v8x ev8x=>?_))
 have lv8x:v8x.length=16:=by rw[ev8x,List.length_set];assumption
 refine kM 0 (cells (qr v a b c d)) ?_ (hc:=by subst ev8x ev7x ev6x ev5x ev4x ev3x ev2x ev1x;rfl)
 exact e0N (fun u w h=>⟨u,trivial,rfl,h⟩)
theorem cblock {k no:List UInt8}{n:Wd}{w:World}(hk:k.length=32)(hn:no.length=12):RV 216 #[.agg (cells8 k),.agg (cells8 no),.int .u32 (nm n)] w (.agg (cells8 (chacha k no n))):=by
 rw[chacha]
 refine enter Tryz.func216 ?_
 have hk2:(cells8 k).size=32:=by rw[cells8_size,hk]
 have hn2:(cells8 no).size=12:=by rw[cells8_size,hn]
 refine rg (ba (fun g0=>?_))
 refine ba (fun g1=>?_)
 refine aa Tryz.zeroValue24 (fun g2=>kM 0 (cells8 (List.replicate 64 0)) ?_)
 refine en ?_
 have lF:=fst16_len k no n
 have hfs:=@cfirst k no n
 generalize fst16 k no n=F at *
 refine rg (p3 (.lw (hn:=by rw[cells8_size];first | rfl | assumption)) (.lw (hn:=by rw[cells8_size];first | rfl | assumption)) .mv (cl (fun _ _ h=>hfs hk hn) (aa Tryz.zeroValue288 (fun g3=>kM 0 (cells (List.replicate 16 0)) ?_))))
 refine sw 0 (h1:=cells_one _) (hV:=by rw[cells_size];first | rfl | assumption) (hW:=by rw[cells_size];first | rfl | assumption) ?_
 refine en (rg (p1 (.lw (hn:=by rw[cells_size];first | rfl | assumption)) (aa Tryz.zeroValue288 (fun g4=>kM 0 (cells (List.replicate 16 0)) ?_))))
 refine sw 0 (h1:=cells_one _) (hV:=by rw[cells_size];first | rfl | assumption) (hW:=by rw[cells_size];first | rfl | assumption) ?_
 refine en (rg (pp PR.mk (p1 .as (en (se (r1 .mv (bl (fr [0] [] ?_))))))))
 have lR:∀ r,(rnds F r).length=16:=fun r=>by rw[rnds_len,lF]
 refine kM 0 (cells (rnds F 0)) ?_
 refine lo (A:=Nat) (fun r=>r<=10) (fun r=>10-r) (fun r=>[(6,pt g2),(7,pt g3),(8,pt g4),(9,.func (.func 248) #[] #[pt g4]),(20,i6 (r:Int))]) (fun r=>[(g4,isB 288 (cells (rnds F r))),(g3,isB 288 (cells F)),(g2,isB 24 (cells8 (List.replicate 64 0))),(g1,isB 184 (cells8 no)),(g0,isB 23 (cells8 k))]) (fun r=>[]) 0 (by omega) su (fun r hi=>?_)
 refine r1 .lss (se (sd (fun hr=>?_) (fun hr=>?_)))
 ·have hr:r<10:=by omega
  have lRr:=lR r
  refine sk (nN (se (bl (rg (p1 .mv (cmF (cstep (a:=0) (b:=4) (c:=8) (d:=12) lRr (by decide) (by decide) (by decide) (by decide)) (fun _ _=>?_)))))))
  refine en (gW 0 (fun v1x ev1x=>?_))
  have lv1x:v1x.length=16:=by rw[ev1x,qr_len];assumption
  refine rg (p1 .mv (cmF (cstep (a:=1) (b:=5) (c:=9) (d:=13) lv1x (by decide) (by decide) (by decide) (by decide)) (fun _ _=>?_)))
  refine en (gW 0 (fun v2x ev2x=>?_))
  have lv2x:v2x.length=16:=by rw[ev2x,qr_len];assumption
  refine rg (p1 .mv (cmF (cstep (a:=2) (b:=6) (c:=10) (d:=14) lv2x (by decide) (by decide) (by decide) (by decide)) (fun _ _=>?_)))
  refine en (gW 0 (fun v3x ev3x=>?_))
  have lv3x:v3x.length=16:=by rw[ev3x,qr_len];assumption
  refine rg (p1 .mv (cmF (cstep (a:=3) (b:=7) (c:=11) (d:=15) lv3x (by decide) (by decide) (by decide) (by decide)) (fun _ _=>?_)))
  refine en (gW 0 (fun v4x ev4x=>?_))
  have lv4x:v4x.length=16:=by rw[ev4x,qr_len];assumption
  refine rg (p1 .mv (cmF (cstep (a:=0) (b:=5) (c:=10) (d:=15) lv4x (by decide) (by decide) (by decide) (by decide)) (fun _ _=>?_)))
  refine en (gW 0 (fun v5x ev5x=>?_))
  have lv5x:v5x.length=16:=by rw[ev5x,qr_len];assumption
  refine rg (p1 .mv (cmF (cstep (a:=1) (b:=6) (c:=11) (d:=12) lv5x (by decide) (by decide) (by decide) (by decide)) (fun _ _=>?_)))
  refine en (gW 0 (fun v6x ev6x=>?_))
  have lv6x:v6x.length=16:=by rw[ev6x,qr_len];assumption
  refine rg (p1 .mv (cmF (cstep (a:=2) (b:=7) (c:=8) (d:=13) lv6x (by decide) (by decide) (by decide) (by decide)) (fun _ _=>?_)))
  refine en (gW 0 (fun v7x ev7x=>?_))
  have lv7x:v7x.length=16:=by rw[ev7x,qr_len];assumption
  refine rg0 (p1 .mv (cmF (cstep (a:=3) (b:=4) (c:=9) (d:=14) lv7x (by decide) (by decide) (by decide) (by decide)) (fun _ _=>?_)))
  refine en0 (gW 0 (fun v8x ev8x=>?_))
  have lv8x:v8x.length=16:=by rw[ev8x,qr_len];assumption
  refine bN (nN (rg0 (pp (PR.ad ((r+1:Nat):Int)) (p1 .mv (en0 (nN (kM 0 (cells (rnds F (r+1))) ?_ (hc:=by subst ev8x ev7x ev6x ev5x ev4x ev3x ev2x ev1x;rfl))))))))
  exact bk (r+1) (by omega) (by omega) su
 ·obtain rfl:r=10:=by omega
  refine xt (nX (nX (bH (nN ?_))))
  have lV:=lR 10
  generalize rnds F 10=V at *
  refine rg (aa Tryz.zeroValue24 (fun g5=>kM 0 (cells8 (List.replicate 64 0)) ?_))
  refine en (se (r2 (.lw (hn:=by rw[cells_size];first | rfl | assumption)) .mv (bl ?_)))
  have lO:=outs_len V F
  refine kM 0 (cells8 (outs V F (4*0))) ?_
  refine lo (A:=Nat) (fun i=>i<=16) (fun i=>16-i) (fun i=>[(6,pt g2),(7,pt g3),(10,pt g5),(39,.agg (cells V)),(40,i6 (i:Int))]) (fun i=>[(g5,isB 24 (cells8 (outs V F (4*i)))),(g3,isB 288 (cells F)),(g2,isB 24 (cells8 (List.replicate 64 0))),(g1,isB 184 (cells8 no)),(g0,isB 23 (cells8 k))]) (fun i=>[]) 0 (by omega) su (fun i hi=>?_)
  refine r1 .lss (se (sd (fun hi=>?_) (fun hi=>?_)))
  ·have hi:i<16:=by omega
   refine sk (nN ?_)
   refine se (bl (rg (p1 .mv (pp (PR.xw i (l:=V)) (p2 .as .as (en (rg (p5 .mv .mv (.ia0 i) .lwd .addW (p1 .as (en (r1 .mv (bl (lo (A:=Nat) (fun j=>j<=4) (fun j=>4-j) (fun j=>[(6,pt g2),(7,pt g3),(10,pt g5),(11,i6 (i:Int)),(12,.int .u32 (nm ((gt V i)+(gt F i)))),(39,.agg (cells V)),(40,i6 (i:Int)),(49,i6 (j:Int))]) (fun j=>[(g5,isB 24 (cells8 (outs V F (4*i+j)))),(g3,isB 288 (cells F)),(g2,isB 24 (cells8 (List.replicate 64 0))),(g1,isB 184 (cells8 no)),(g0,isB 23 (cells8 k))]) (fun j=>[]) 0 (by omega) su (fun j hi=>?_))))))))))))))
   refine r1 .lss (se (sd (fun hj=>?_) (fun hj=>?_)))
   ·have hj:j<4:=by omega
    have lOj:=lO (4*i+j)
    refine sk (nN ?_)
    refine se (bl (r2 .mv .as (rg0 (p1 .mv (pp (PR.ml ((4*i:Nat):Int)) (p1 .mv (pp (PR.ad ((4*i+j:Nat):Int)) (p2 .mv .mv (pp (PR.ml ((8*j:Nat):Int)) (pp (PR.shr (nm (gt V i+gt F i)/2^(8*j)) (h:=by rw[Int.toNat_natCast]) (h0:=⟨by omega,by show _<=((32:Nat):Int);omega⟩)) (pp (PR.cv (byteOf_eq (gt V i+gt F i) j)) (p1 (.ia0 (4*i+j)) (sby 0 ?_)))))))))))))
    refine en0 (bN (nN (rg0 (pp (PR.ad ((j+1:Nat):Int)) (p1 .mv (en0 (nN (kM 0 (cells8 (outs V F (4*i+(j+1)))) ?_ (hc:=by rw[←Nat.add_assoc,outs,show(4*i+j)/4=i by omega,show(4*i+j)%4=j by omega])))))))))
    exact bk (j+1) (by omega) (by omega) su
   ·obtain rfl:j=4:=by omega
    refine xt (nX (nX (bH (bN (nN (rg0 (pp (PR.ad ((i+1:Nat):Int)) (p1 .mv (en0 (nN (kM 0 (cells8 (outs V F (4*(i+1)))) ?_ (hc:=by rw[show 4*(i+1)=4*i+4 from rfl]))))))))))))
    exact bk (i+1) (by omega) (by omega) su
  ·obtain rfl:i=16:=by omega
   rw[show(4*16:Nat)=64 from rfl]
   have hD:=lO 64
   generalize outs V F 64=Dg at *
   refine xt (nX (nX (bH (nN ?_))))
   have hDs:(cells8 Dg).size=64:=by rw[cells8_size,hD]
   refine rg (p1 (.lw (hn:=by rw[cells8_size];first | rfl | assumption)) (sw 2 (h1:=cells8_one _) (hV:=by rw[cells8_size];first | rfl | assumption) (hW:=by rw[cells8_size];first | rfl | assumption) ?_))
   exact en (rt qv)
section
section
variable {D:List Deferred}{nt:Nat}{w0:World}{L:LT}{M:MT}{R:List Rw}{G:Kn}{x y z:Operand}{v:Value}{ops:Array Oper}{rest:List Oper}{Q:Exit->Act->World->Prop}{t t2 ty tyo e:TypeId}{ps:String}{af:Array Edge}{k k2:IntKind}{p q r:Int}{n m g o d c:Nat}{b:UInt8}{l:List UInt8}
theorem yB (h:∀ g c,l.length<=c->KX D nt w0 ((d,.slice (some ⟨g,0,none⟩) l.length c)::L) ((g,isY l)::M) R (wpList Tryz.prog ops Q rest))(hx:EV (St D nt w0 L M R) x (sv l):=by exact ev)(hu:und t=some .string:=by rfl)(hb:Nat.blt d nt=true:=by rfl):KX D nt w0 L M R (wpList Tryz.prog ops Q (⟨some d,.convert t 75 x,tyo,ps,af,none⟩::rest)):=fun a w hs=>
 sqBytesOf hs.f hs.m (wantedS rfl) rfl (hx a w hs) (und_ok hu) rfl (Nat.le_of_ble_eq_true hb) fun g c a2 w2 hg hB hc hF hM=>h g c hc a2 w2 ⟨hF,hM,fun x hx=>(hs.r x hx).add hB hg,hs.nd⟩
theorem isY_sl {w:World}(h:∃ ob,w.heap[g]?=some ob/\isY l ob):Sl w (.slice (some ⟨g,0,none⟩) l.length l.length) 1 l.length (l.map cb):=⟨by simp,.inr ⟨g,0,_,rfl,by obtain⟨ob,h1,_⟩:=h;exact lt_of_ob h1,fun j u hj=>by
 have hl:j<l.length:=by have:=(List.getElem?_eq_some_iff.1 hj).1;simpa using this
 rw[Nat.zero_add,isY_cell h hl]
 rw[List.getElem?_map,List.getElem?_eq_getElem hl] at hj
 simpa[bt,hl,cb] using hj⟩⟩
theorem PR.ly (kk:Nat)(h:M[kk]?=some (g,isY l):=by rfl)(hx:EV (St D nt w0 L M R) x (px g o):=by exact ev)(ha:agT ty=some false:=by rfl)(ho:o<l.length:=by omega):PR Tryz.prog (St D nt w0 L M R) (.load ty x) (.int .u8 ((bt l o).toNat:Int)) :=
 PR.lp (v:=.slice (some ⟨g,0,none⟩) l.length l.length) (o:=o) (m:=1) (n:=l.length) (cs:=l.map cb) (by rw[List.getElem?_map,List.getElem?_eq_getElem ho];simp[bt,ho,cb]) (fun a w hs=>by rw[hx a w hs];simp only[slPtr,addr_add,Nat.zero_add]) (fun a w hs=>isY_sl (hs.m.ob kk h)) ha
theorem sY (j:Nat)(k:KX D nt w0 L (M.set j (g,isY (l.set o b))) R (wpList Tryz.prog ops Q rest))(e:M[j]?=some (g,isY l):=by rfl)(hx:EV (St D nt w0 L M R) x (px g o):=by exact ev)(hy:EV (St D nt w0 L M R) y (.int .u8 (b.toNat:Int)):=by exact ev)(ho:o<l.length:=by omega):KX D nt w0 L M R (wpList Tryz.prog ops Q (⟨none,.store 5 x y,tyo,ps,af,none⟩::rest)):=fun a w hs=>by
 have hob:=hs.m.ob j e
 have hc:=isY_cell hob ho
 have hf:=isY_free hob ho
 refine sqN hs.f (wantedS rfl) (w2:=w.setCell ⟨g,o,none⟩ (.int .u8 (b.toNat:Int))) ?_ rfl fun a2 hF2=>k a2 _ ⟨hF2,hs.m.upd j e (grown_setCell w g o _) (isY_set hob ho b),fun x hx=>(hs.r x hx).upd j e (grown_setCell w g o _),hs.nd⟩
 unfold execOp
 simp only[hx a w hs,hy a w hs]
 simp[go_sem,hc,hf]
theorem PR.yS (kk:Nat)(h:M[kk]?=some (g,isY l):=by rfl)(hx:EV (St D nt w0 L M R) x (.slice (some ⟨g,0,none⟩) n c):=by exact ev)(hn:n=l.length:=by first | rfl | assumption):PR Tryz.prog (St D nt w0 L M R) (.convert 75 9 x) (sv l):=fun a w op ho hg=>by
 have h1:=run_strYall (c:=c) (hg.m.ob kk h) hn
 unfold execOp
 simp only[ho,hx a w hg,Sem.run_bind,h1,Result.andThen_ok,Sem.run_pure]
theorem PR.ic (i:Nat)(hx:EV G x (.slice (some ⟨g,o,none⟩) n c):=by exact ev)(hy:EV G y (.int k p):=by exact ev)(hp:p=(i:Int):=by rfl)(hu:und t=some (.slice ty):=by rfl)(hz:szT ty=some 1:=by rfl)(hi:i<n:=by omega):PR Tryz.prog G (.indexAddr t x y) (px g (o+i)):=fun a w op ho hg=>by
 have hu:=und_ok hu
 have hz:=szT_ok hz w
 have hx:=hx a w hg
 have hy:=hy a w hg
 subst hp
 have he:Tryz.prog.elem t=ty:=by simp[Program.elem,hu]
 have hr:=run_indexAt_slice (P:=Tryz.prog) w t ⟨g,o,none⟩ n c k (i:Int) (by rw[he];exact hu)
 unfold execOp
 simp only[ho,hx,hy]
 rw[Sem.run_bind,hr,he,hz,if_pos (by omega)]
 simp only[Result.andThen_ok,Sem.run_pure,Int.toNat_natCast,Nat.mul_one,addr_add]
theorem PR.bM (i j:Nat)(hx:EV G x (.slice (some ⟨g,o,none⟩) n c):=by exact ev)(hy:EV G y (.int k p):=by exact ev)(hz:EV G z (.int k2 q):=by exact ev)(hp:p=(i:Int):=by rfl)(hq:q=(j:Int):=by rfl)(hu:und t=some (.slice e):=by rfl)(hs:szT e=some 1:=by rfl)(hij:i<=j:=by omega)(hj:j<=c:=by omega)(hc:i<c:=by omega):PR Tryz.prog G (.slice t x (some y) (some z) none) (.slice (some ⟨g,o+i,none⟩) (j-i) (c-i)):=fun a w op ho hg=>by
 have h1:=und_ok hu
 have he:Tryz.prog.elem t=e:=by simp[Program.elem,h1]
 have ht:Tryz.prog.underlying t=some (.slice (Tryz.prog.elem t)):=by rw[he];exact h1
 have hr:=run_slice_lh (P:=Tryz.prog) w t (some ⟨g,o,none⟩) n c ht k k2 (i:Int) (j:Int) (by omega) (by omega) (by omega)
 subst hp hq
 have hsA:(Instr.sliceAt t (.slice (some ⟨g,o,none⟩) n c) (some (.int k (i:Int))) (some (.int k2 (j:Int))) none).run Tryz.prog w = .ok (.slice (some ⟨g,o+i,none⟩) (j-i) (c-i)) w:=by
  rw[run_sliceAt_slice w t _ _ _ _ ht,hr,he,szT_ok hs]
  show Result.ok (sliced (some ⟨g,o,none⟩) (i:Int).toNat (j:Int).toNat c 1) w=_
  rw[Int.toNat_natCast,Int.toNat_natCast]
  unfold sliced
  rw[if_neg (by omega)]
  simp only[Option.map,addr_add,Nat.mul_one]
 unfold execOp
 simp only[ho,hx a w hg,hy a w hg,hz a w hg,Option.map,Sem.run_bind,hsA,Result.andThen_ok,Sem.run_pure]
theorem PR.min (r:Int){ts:Array TypeId}(hx:EV G x (.int k p):=by exact ev)(hy:EV G y (.int k2 q):=by exact ev)(hr:(if q<p then q else p)=r)(hk:k=k2:=by rfl):PR Tryz.prog G (.call { callee:=.builtin .min,args:=#[x,y],argTypes:=ts }) (.int k r):=fun a w _ ho hg=>by
 subst hk
 exact run_min2 ho (hx a w hg) (hy a w hg) hr
theorem PR.max (r:Int){ts:Array TypeId}(hx:EV G x (.int k p):=by exact ev)(hy:EV G y (.int k2 q):=by exact ev)(hr:(if p<q then q else p)=r)(hk:k=k2:=by rfl):PR Tryz.prog G (.call { callee:=.builtin .max,args:=#[x,y],argTypes:=ts }) (.int k r):=fun a w _ ho hg=>by
 subst hk
 exact run_max2 ho (hx a w hg) (hy a w hg) hr
end
end
theorem kY (i:Nat){D:List Deferred}{nt:Nat}{w0:World}{L:LT}{M:MT}{R:List Rw}{X:Act->World->Prop}{g:Nat}{l:List UInt8}(l2:List UInt8)(h:KX D nt w0 L (M.set i (g,isY l2)) R X)(e:M[i]?=some (g,isY l):=by rfl)(hc:l=l2:=by rfl):KX D nt w0 L M R X:=by
 subst hc
 have:M.set i (g,isY l)=M:=by
  obtain⟨h1,h2⟩:=List.getElem?_eq_some_iff.1 e
  rw[←h2];exact List.set_getElem_self h1
 rwa[this] at h
theorem cxor {k no data:List UInt8}{n:Wd}{w:World}(hk:k.length=32)(hn:no.length=12)(hd:data.length<2^60):RV 149 #[.agg (cells8 k),.agg (cells8 no),.int .u32 (nm n),sv data] w (sv (xorS k no n data)):=by
 refine enter Tryz.func149 ?_
 have hk2:(cells8 k).size=32:=by rw[cells8_size,hk]
 have hn2:(cells8 no).size=12:=by rw[cells8_size,hn]
 refine rg (ba (fun g0=>?_))
 refine ba (fun g1=>?_)
 refine p1 .as (en (rg (p1 .mv (yB (fun gy cy hcy=>?_)))))
 refine p1 .as (en (se (r1 .as (bl (lo (A:=Nat) (fun j=>64*j<data.length+64) (fun j=>data.length+64-64*j) (fun j=>[(2,.int .u32 (nm (n+BitVec.ofNat 32 j))),(4,pt g0),(5,pt g1),(9,.slice (some ⟨gy,0,none⟩) data.length cy),(10,i6 ((64*j:Nat):Int))]) (fun j=>[(gy,isY (xorTo k no n data (min (64*j) data.length))),(g1,isB 184 (cells8 no)),(g0,isB 23 (cells8 k))]) (fun _=>[]) 0 (by omega) (by rw[show n+BitVec.ofNat 32 0=n from BitVec.add_zero n,show min (64*0) data.length=0 by omega];exact su) (fun j hj=>?_))))))
 refine se (r4 .mv .mv .l0 .lss (sd (fun hlt=>?_) (fun hlt=>?_)))
 ·have hlt:64*j<data.length:=by omega
  rw[show min (64*j) data.length=64*j+0 by omega]
  refine sk (nN (se (bl ?_)))
  have lS:=chacha_len k no (n+BitVec.ofNat 32 j)
  have hcb:=@cblock k no (n+BitVec.ofNat 32 j)
  have hsx:∀ q,q<64->sx k no n (64*j+q)=bt (chacha k no (n+BitVec.ofNat 32 j)) q:=fun q hq=>by unfold sx;rw[show(64*j+q)/64=j by omega,show(64*j+q)%64=q by omega]
  generalize chacha k no (n+BitVec.ofNat 32 j)=Sj at *
  refine rg (p3 (.lw (hn:=by rw[cells8_size];first | rfl | assumption)) (.lw (hn:=by rw[cells8_size];first | rfl | assumption)) .mv (cl (fun _ _ h=>hcb hk hn) (aa Tryz.zeroValue24 (fun g2=>kM 0 (cells8 (List.replicate 64 0)) ?_))))
  refine sw 0 (h1:=cells8_one _) (hV:=by rw[cells8_size];first | rfl | assumption) (hW:=by rw[cells8_size];first | rfl | assumption) ?_
  refine en (rg (p1 .mv (pp (PR.add (r:=nm (n+BitVec.ofNat 32 (j+1))) (h:=by rw[wrap_u32];exact nm_succ n j)) (p1 .as (en ?_)))))
  obtain⟨e,he⟩:∃ e,(if data.length<64*j+64 then data.length else 64*j+64)=e:=⟨_,rfl⟩
  have he1:e<=data.length/\64*j<e/\e<=64*j+64/\(e=data.length\/e=64*j+64):=by split at he <;> omega
  refine rg (p3 .mv .mv .mv (pp (PR.ad ((64*j+64:Nat):Int)) (p2 .mv .l0 (pp (PR.min (e:Int) (hr:=by split <;> omega)) (pp (PR.bM (64*j) e) (p1 .as (en (r3 .mv .l0 .mv (bl ?_)))))))))
  have lX:∀ m,(xorTo k no n data m).length=data.length:=fun m=>xorTo_len k no n data m
  refine lo (A:=Nat) (fun i=>i<=e-64*j) (fun i=>e-64*j-i) (fun i=>[(2,.int .u32 (nm (n+BitVec.ofNat 32 (j+1)))),(4,pt g0),(5,pt g1),(9,.slice (some ⟨gy,0,none⟩) data.length cy),(10,i6 ((64*j:Nat):Int)),(11,pt g2),(12,.slice (some ⟨gy,0+64*j,none⟩) (e-64*j) (cy-64*j)),(37,i6 ((e-64*j:Nat):Int)),(38,i6 (i:Int))]) (fun i=>[(g2,isB 24 (cells8 Sj)),(gy,isY (xorTo k no n data (64*j+i))),(g1,isB 184 (cells8 no)),(g0,isB 23 (cells8 k))]) (fun _=>[]) 0 (by omega) su (fun i hi=>?_)
  refine r1 .lss (se (sd (fun hq=>?_) (fun hq=>?_)))
  ·have hq:i<e-64*j:=by omega
   have lXi:=lX (64*j+i)
   refine sk (nN (se (bl (r2 .mv .as (dq 9 (Y2 .mv .mv (YQ (PR.ic i) (YQ (PR.ly 1) (Y4 .mv (.ia0 i) .lby .xor8 (YQ (PR.ic i) (YE (sY 1 ?_))))))))))))
   refine en0 (bN (nN (rg0 (pp (PR.ad ((i+1:Nat):Int)) (p1 .mv (en0 (nN (kY 1 (xorTo k no n data (64*j+(i+1))) ?_ (hc:=by rw[←Nat.add_assoc,xorTo,Nat.zero_add,hsx i (by omega),show bt (xorTo k no n data (64*j+i)) (64*j+i)=bt data (64*j+i) by rw[xorTo_at k no n data _ (by omega),if_neg (by omega)]])))))))))
   exact bk (i+1) (by omega) (by omega) su
  ·obtain rfl:i=e-64*j:=by omega
   rw[show 64*j+(e-64*j)=e by omega]
   refine xt (nX (nX (bH (bN (nN (rg0 (p1 .mv (pp (PR.ad ((64*(j+1):Nat):Int)) (p1 .as (en0 (nN ?_)))))))))))
   rw[show(xorTo k no n data e)=(xorTo k no n data (min (64*(j+1)) data.length)) by rw[show min (64*(j+1)) data.length=e by omega]]
   exact bk (j+1) (by omega) (by omega) su
 ·rw[show min (64*j) data.length=data.length by omega]
  exact xt (nX (nX (bH (nN (rg (p1 .mv (pp (PR.yS 0 (hn:=(xorTo_len _ _ _ _ _).symm)) (p1 .as (en (rt (q1 rfl)))))))))))
def openS (k h x:List UInt8):List UInt8×Int :=
 if x.length<44 then([],4) else if tagS k h (x.take (x.length-32))=x.drop (x.length-32) then(xorS (keyedS k cipherT) (nonceS (x.take (x.length-32))) 1 ((x.take (x.length-32)).drop 12),0) else([],5)
theorem openS_short (k h x:List UInt8)(hs:x.length<44):openS k h x=([],4):=by unfold openS;rw[if_pos hs]
theorem openS_bent (k h x:List UInt8)(hs:¬ x.length<44)(ht:¬ tagS k h (x.take (x.length-32))=x.drop (x.length-32)):openS k h x=([],5):=by unfold openS;rw[if_neg hs,if_neg ht]
theorem openS_ok (k h x:List UInt8)(hs:¬ x.length<44)(ht:tagS k h (x.take (x.length-32))=x.drop (x.length-32)):openS k h x=(xorS (keyedS k cipherT) (nonceS (x.take (x.length-32))) 1 ((x.take (x.length-32)).drop 12),0):=by unfold openS;rw[if_neg hs,if_pos ht]
theorem nonceS_app (n x:List UInt8)(hn:n.length=12):nonceS (n++x)=n:=by
 unfold nonceS
 rw[List.length_append,hn,show 12-(12+x.length)=0 by omega,←hn,List.take_left];simp
theorem openS_seal (k nonce h d:List UInt8)(hn:nonce.length=12):openS k h (sealS k nonce h d)=(d,0):=by
 have hL:=sealS_len k nonce h d hn
 have hA:=aheadS_len k nonce d hn
 unfold openS
 rw[if_neg (by omega),hL,show d.length+44-32=(aheadS k nonce d).length by omega]
 unfold sealS
 rw[List.take_left,List.drop_left,if_pos rfl]
 unfold aheadS
 rw[nonceS_app _ _ hn,show List.drop 12 (nonce++xorS (keyedS k cipherT) nonce 1 d)=xorS (keyedS k cipherT) nonce 1 d by rw[←hn,List.drop_left],xorS_back]
theorem openS_le (k h x:List UInt8):(openS k h x).1.length<=x.length:=by
 unfold openS
 split
 ·simp
 ·split
  ·simp only[xorS_len,List.length_drop,List.length_take];omega
  ·simp
theorem hkeyAt {k s:List UInt8}{w:World}(hG:HG w)(hk:k.length=32)(hs:s.length<2^59):∀ w2 v,Below w.heap.size w w2->Sl w2 v 1 1 [sv s]->RV 22 #[.agg (cells8 k),v] w2 (.agg (cells8 (keyedS k s))):=fun w2 v hb hV=>by
 have h:=hkeyed (l:=[s]) hk (hG.below hb) hV (by simp;omega) (by simp)
 rwa[List.flatten_singleton] at h
theorem splQ_all {n:Nat}{old cs:Array Value}(h1:old.size=n)(h2:cs.size=n):splQ old 0 cs.toList=cs:=by
 unfold splQ
 rw[List.take_zero,List.nil_append,Nat.zero_add,List.drop_eq_nil_of_le (by simp[h1,h2]),List.append_nil,Array.toArray_toList]
theorem skeys {k:List UInt8}{w:World}(hG:HG w)(hk:k.length=32):RV 148 #[.agg (cells8 k)] w (.tuple #[.agg (cells8 (keyedS k cipherT)),.agg (cells8 (keyedS k tagT))]):=by
 refine enter Tryz.func148 ?_
 have hk2:(cells8 k).size=32:=by rw[cells8_size,hk]
 have hc1:=hkeyAt (s:=cipherT) hG hk (by decide)
 have hc2:=hkeyAt (s:=tagT) hG hk (by decide)
 have l1:(cells8 (keyedS k cipherT)).size=32:=by rw[cells8_size,keyedS_len]
 have l2:(cells8 (keyedS k tagT)).size=32:=by rw[cells8_size,keyedS_len]
 generalize keyedS k cipherT=K1 at *
 generalize keyedS k tagT=K2 at *
 have o1:=cells8_one K1
 have o2:=cells8_one K2
 refine rg (ba (fun g0=>?_))
 refine aa Tryz.zeroValue23 (fun g1=>kM 0 (cells8 (List.replicate 32 0)) ?_)
 refine aa Tryz.zeroValue23 (fun g2=>kM 0 (cells8 (List.replicate 32 0)) ?_)
 refine en (dr [_,.tel [9] (.row 9 1 1 [.string ⟨#[99,105,112,104,101,114]⟩] fun v=>.ret v),_,_,.tel [9] (.row 9 1 1 [.string ⟨#[116,97,103]⟩] fun v=>.ret v),_,.any,.any] [] [⟨6,_,_,_,0,.val (.agg (cells8 K1))⟩,⟨7,_,_,_,0,.val (.agg (cells8 K2))⟩] [1,0] [] ⟨rfl,rfl,trivial⟩ (fun Bs=>⟨kv (oP (PR.lw ez (mk' 2) (hn:=hk2))),kv (oS (List.toArray [.string ⟨#[99,105,112,104,101,114]⟩]) (fun _ _ h=>h.size) (.cons EV.k .nil)),kv (oO1 (s:=5) (fun _ _ h=>h) fun v=>oC (xs:=[.tmp 4,.tmp 5]) (vs:=[.agg (cells8 k),v]) (fun _ _ h=>hc1 _ _ h.1.low (SL.qr (e:=9) (List.mem_singleton.2 rfl) _ _ h)) (.cons (EV.yy ed) (.cons EV.qq .nil))),kv (oP (PR.lw ez (mk' 2) (hn:=hk2))),kv (oS (List.toArray [.string ⟨#[116,97,103]⟩]) (fun _ _ h=>h.size) (.cons EV.k .nil)),kv (oO1 (s:=8) (fun _ _ h=>h) fun v=>oC (xs:=[.tmp 7,.tmp 8]) (vs:=[.agg (cells8 k),v]) (fun _ _ h=>hc2 _ _ h.1.low (SL.qr (e:=9) (List.mem_singleton.2 rfl) _ _ h)) (.cons (EV.yy ed) (.cons EV.qq .nil))),ks 0,ks 1,trivial⟩) ?_)
 refine kM 0 (cells8 K2) ?_ (hc:=splQ_all (n:=32) rfl l2)
 refine kM 1 (cells8 K1) ?_ (hc:=splQ_all (n:=32) rfl l1)
 exact rt qv
theorem stag {k hd a:List UInt8}{w:World}(hG:HG w)(hk:k.length=32)(hl:hd.length+a.length<2^46):RV 150 #[.agg (cells8 k),sv hd,sv a] w (sv (keyedS k (rowS [hd,a]))):=by
 refine enter Tryz.func150 ?_
 have hk2:(cells8 k).size=32:=by rw[cells8_size,hk]
 have hrl:=rowS_len [hd,a]
 simp only[List.flatten_cons,List.flatten_nil,List.length_append,List.length_cons,List.length_nil] at hrl
 have hc1:=hkeyAt (s:=rowS [hd,a]) hG hk (by omega)
 have lT:(keyedS k (rowS [hd,a])).length=32:=keyedS_len _ _
 generalize keyedS k (rowS [hd,a])=T at *
 have l1:(cells8 T).size=32:=by rw[cells8_size,lT]
 have o1:=cells8_one T
 refine rg (ba (fun g0=>?_))
 refine p1 .as (en (dr [_,_,_,.tel [9] (.row 9 1 2 (txs [hd,a]) fun v=>.ret v),_,.tel [9] (.row 9 1 1 [sv (rowS [hd,a])] fun v=>.ret v),_,.any,.any] [⟨7,7,8,65,#[.int .u8 0,.int .u8 0,.int .u8 0,.int .u8 0,.int .u8 0,.int .u8 0,.int .u8 0,.int .u8 0,.int .u8 0,.int .u8 0,.int .u8 0,.int .u8 0,.int .u8 0,.int .u8 0,.int .u8 0,.int .u8 0,.int .u8 0,.int .u8 0,.int .u8 0,.int .u8 0,.int .u8 0,.int .u8 0,.int .u8 0,.int .u8 0,.int .u8 0,.int .u8 0,.int .u8 0,.int .u8 0,.int .u8 0,.int .u8 0,.int .u8 0,.int .u8 0],.val (.agg (cells8 T))⟩] [] [] [] trivial (fun Bs=>⟨kv (oP (PR.lw ez (mk' 0) (hn:=hk2))),kv (oP (PR.mv ez)),kv (oP (PR.mv ez)),kv (oS (txs [hd,a]).toArray (fun _ _ h=>h.size) (.cons ed (.cons ed .nil))),kv (oO1 (s:=11) (fun _ _ h=>h) fun v=>oC (xs:=[.tmp 11]) (vs:=[v]) (fun _ _ h=>nrowK (l:=[hd,a]) (SL.qr (e:=9) (List.mem_singleton.2 rfl) _ _ h) (by simp;omega) (by simp)) (.cons EV.qq .nil)),kv (oS (List.toArray [sv (rowS [hd,a])]) (fun _ _ h=>h.size) (.cons ed .nil)),kv (oO1 (s:=13) (fun _ _ h=>h) fun v=>oC (xs:=[.tmp 8,.tmp 13]) (vs:=[.agg (cells8 k),v]) (fun _ _ h=>hc1 _ _ h.1.low (SL.qr (e:=9) (List.mem_singleton.2 rfl) _ _ h)) (.cons (EV.yy ed) (.cons EV.qq .nil))),kn 0 Tryz.zeroValue65 (V:=.agg #[.int .u8 0,.int .u8 0,.int .u8 0,.int .u8 0,.int .u8 0,.int .u8 0,.int .u8 0,.int .u8 0,.int .u8 0,.int .u8 0,.int .u8 0,.int .u8 0,.int .u8 0,.int .u8 0,.int .u8 0,.int .u8 0,.int .u8 0,.int .u8 0,.int .u8 0,.int .u8 0,.int .u8 0,.int .u8 0,.int .u8 0,.int .u8 0,.int .u8 0,.int .u8 0,.int .u8 0,.int .u8 0,.int .u8 0,.int .u8 0,.int .u8 0,.int .u8 0]),kp 0,trivial⟩) (fun g1=>?_)))
 exact rg (p1 .sA (pp (PR.bB (l:=T) (hl:=lT)) (p1 .as (en (rt (q1 rfl))))))
theorem sseal {k no hd d:List UInt8}{w:World}(hG:HG w)(hk:k.length=32)(hn:no.length=12)(hl:hd.length+d.length<2^45):RV 89 #[.agg (cells8 k),.agg (cells8 no),sv hd,sv d] w (sv (sealS k no hd d)):=by
 refine enter Tryz.func89 ?_
 have hk2:(cells8 k).size=32:=by rw[cells8_size,hk]
 have hn2:(cells8 no).size=12:=by rw[cells8_size,hn]
 have hc1:∀ w2,Below w.heap.size w w2->RV 148 #[.agg (cells8 k)] w2 _:=fun w2 hb=>skeys (hG.below hb) hk
 have hc2:∀ w2,RV 149 #[.agg (cells8 (keyedS k cipherT)),.agg (cells8 no),.int .u32 (nm 1),sv d] w2 _:=fun w2=>cxor (keyedS_len _ _) hn (by omega)
 have lX:=xorS_len (keyedS k cipherT) no 1 d
 have hc3:∀ w2,Below w.heap.size w w2->RV 150 #[.agg (cells8 (keyedS k tagT)),sv hd,sv (no++xorS (keyedS k cipherT) no 1 d)] w2 _:=fun w2 hb=>stag (hG.below hb) (keyedS_len _ _) (by rw[List.length_append];omega)
 have lT:=keyedS_len (keyedS k tagT) (rowS [hd,no++xorS (keyedS k cipherT) no 1 d])
 rw[show sealS k no hd d=no++xorS (keyedS k cipherT) no 1 d++keyedS (keyedS k tagT) (rowS [hd,no++xorS (keyedS k cipherT) no 1 d]) from rfl]
 generalize keyedS (keyedS k tagT) (rowS [hd,no++xorS (keyedS k cipherT) no 1 d])=T at *
 generalize xorS (keyedS k cipherT) no 1 d=X at *
 have l1:(keyedS k cipherT).length=32:=keyedS_len _ _
 have l2:(keyedS k tagT).length=32:=keyedS_len _ _
 generalize keyedS k cipherT=K1 at *
 generalize keyedS k tagT=K2 at *
 refine rg (ba (fun g0=>?_))
 refine ba (fun g1=>?_)
 refine p1 .as (en (rg (p1 (.lw (hn:=by rw[cells8_size];first | rfl | assumption)) (cl (fun _ _ h=>hc1 _ h.m.below) (p3 .mv .ext .ext (aa Tryz.zeroValue23 (fun g2=>kM 0 (cells8 (List.replicate 32 0)) ?_)))))))
 refine aa Tryz.zeroValue23 (fun g3=>kM 0 (cells8 (List.replicate 32 0)) ?_)
 refine sw 1 (h1:=cells8_one _) (hV:=by rw[cells8_size];first | rfl | assumption) (hW:=by rw[cells8_size];first | rfl | assumption) ?_
 refine sw 0 (h1:=cells8_one _) (hV:=by rw[cells8_size];first | rfl | assumption) (hW:=by rw[cells8_size];first | rfl | assumption) ?_
 refine en (dqb (YQ PR.sA ?_))
 exact YQ (PR.bB (l:=no) (hl:=hn)) (Y3 (.lw (hn:=by rw[cells8_size];first | rfl | assumption)) (.lw (hn:=by rw[cells8_size];first | rfl | assumption)) .mv (YC (fun _ _ h=>hc2 _) (YQ (PR.cat (s:=no) (s2:=X) ev ev (by omega)) (Y1 .as (YE (rg (p4 .mv (.lw (hn:=by rw[cells8_size];first | rfl | assumption)) .mv .mv (cl (fun _ _ h=>hc3 _ h.m.below) (pp (PR.cat (s:=no++X) (s2:=T) ev ev (by rw[List.length_append];omega)) (p1 .as (en (rt (q1 rfl)))))))))))))
theorem spl_non (s:List UInt8):spl (cells8 (List.replicate 12 0)) 0 ((s.take (Nat.min s.length 12)).map cb)=cells8 (nonceS s):=by
 have hm:Nat.min s.length 12=min s.length 12:=rfl
 unfold spl cells8 nonceS
 apply Array.ext'
 rw[hm]
 simp only[List.map_append,List.map_take,List.map_replicate,List.take_zero,List.nil_append,List.length_map,List.length_take,Nat.zero_add,List.drop_replicate]
 by_cases h:s.length<=12
 ·rw[Nat.min_eq_left h,List.take_of_length_le (by simp),List.take_of_length_le (by simp;omega)];simp
 ·rw[Nat.min_eq_right (by omega)];simp[show 12-s.length=0 by omega,Nat.min_eq_left (show 12<=s.length by omega)]
theorem snonce {s:List UInt8}{w:World}:RV 90 #[sv s] w (.agg (cells8 (nonceS s))):=by
 refine enter Tryz.func90 ?_
 refine rg (aa Tryz.zeroValue184 (fun g0=>kM 0 (cells8 (List.replicate 12 0)) ?_))
 refine en (rg (aa Tryz.zeroValue184 (fun g1=>kM 0 (cells8 (List.replicate 12 0)) ?_)))
 refine en (rg (pp PR.sA (p1 .mv (cpS 0 ?_ (hfit:=by rw[cells8_size,List.length_replicate,Nat.zero_add];exact Nat.min_le_right _ _)))))
 refine en (kM 0 (cells8 (nonceS s)) ?_ (hc:=spl_non s))
 have hN:=nonceS_len s
 have hNs:(cells8 (nonceS s)).size=12:=by rw[cells8_size,hN]
 refine rg (p1 (.lw (hn:=by rw[cells8_size];first | rfl | assumption)) (sw 1 (h1:=cells8_one _) (hV:=by rw[cells8_size];first | rfl | assumption) (hW:=by rw[cells8_size];first | rfl | assumption) ?_))
 exact en (rt qv)
theorem sopen {k hd x:List UInt8}{w:World}(hG:HG w)(hk:k.length=32)(hl:hd.length+x.length<2^45):RV 137 #[.agg (cells8 k),sv hd,sv x] w (.tuple #[.string ⟨(openS k hd x).1.toArray⟩,i6 (openS k hd x).2]):=by
 refine enter Tryz.func137 ?_
 have hk2:(cells8 k).size=32:=by rw[cells8_size,hk]
 refine rg (ba (fun g0=>?_))
 refine p2 .as .as (en (se (r3 .mv .ln .lss (sd (fun hs=>?_) (fun hs=>?_)))))
 ·rw[openS_short k hd x (by omega)]
  exact r2 .as .as (rt (nR qv))
 ·have hs:¬ x.length<44:=by omega
  refine sk (nN ?_)
  have hA:(x.take (x.length-32)).length=x.length-32:=by rw[List.length_take];omega
  have hc1:∀ w2,Below w.heap.size w w2->RV 148 #[.agg (cells8 k)] w2 _:=fun w2 hb=>skeys (hG.below hb) hk
  have hc2:∀ w2,RV 149 #[.agg (cells8 (keyedS k cipherT)),.agg (cells8 (nonceS (x.take (x.length-32)))),.int .u32 (nm 1),sv ((x.take (x.length-32)).drop 12)] w2 _:=fun w2=>cxor (keyedS_len _ _) (nonceS_len _) (by rw[List.length_drop];omega)
  have hc3:∀ w2,Below w.heap.size w w2->RV 150 #[.agg (cells8 (keyedS k tagT)),sv hd,sv (x.take (x.length-32))] w2 (sv (tagS k hd (x.take (x.length-32)))):=fun w2 hb=>stag (hG.below hb) (keyedS_len _ _) (by omega)
  have l1:(keyedS k cipherT).length=32:=keyedS_len _ _
  have l2:(keyedS k tagT).length=32:=keyedS_len _ _
  refine rg (p1 (.lw (hn:=by rw[cells8_size];exact hk)) (cl (fun _ _ h=>hc1 _ h.m.below) (p3 .mv .ext .ext (aa Tryz.zeroValue23 (fun g1=>kM 0 (cells8 (List.replicate 32 0)) ?_)))))
  refine aa Tryz.zeroValue23 (fun g2=>kM 0 (cells8 (List.replicate 32 0)) ?_)
  refine sw 1 (h1:=cells8_one _) (hV:=by rw[cells8_size];exact l1) (hW:=by rw[cells8_size];rfl) ?_
  refine sw 0 (h1:=cells8_one _) (hV:=by rw[cells8_size];exact l2) (hW:=by rw[cells8_size];rfl) ?_
  refine en (rg ?_)
  refine p3 .mv .mv .ln (pp (PR.sb ((x.length-32:Nat):Int)) (pp (PR.st (i:=x.length-32)) (p1 .as (en (se (dqb (Y3 (.lw (hn:=by rw[cells8_size];exact l2)) .mv .mv (YC (fun _ _ h=>hc3 _ h.m.below) (Y3 .mv .mv .ln (YQ (PR.sd (p:=((x.take (x.length-32)).length:Int)) (i:=x.length-32) (hp:=by rw[hA])) (Y1 .nes (YE (sd (fun ht=>?_) (fun ht=>?_))))))))))))))
  ·rw[openS_bent k hd x hs ht]
   exact r2 .as .as (rt (nR qv))
  ·rw[openS_ok k hd x hs (by simpa using ht)]
   exact sk (nN (dqb (Y2 (.lw (hn:=by rw[cells8_size];exact l1)) .mv (YC (fun _ _ h=>snonce) (Y1 .mv (YQ (PR.sd (i:=12)) (YC (fun _ _ h=>hc2 _) (Y2 .as .as (YE (rt qv))))))))))
section
theorem list32 {k:List UInt8}(h:k.length=32):∃ a0 a1 a2 a3 a4 a5 a6 a7 a8 a9 b0 b1 b2 b3 b4 b5 b6 b7 b8 b9 c0 c1 c2 c3 c4 c5 c6 c7 c8 c9 d0 d1,k = [a0,a1,a2,a3,a4,a5,a6,a7,a8,a9,b0,b1,b2,b3,b4,b5,b6,b7,b8,b9,c0,c1,c2,c3,c4,c5,c6,c7,c8,c9,d0,d1]:=by
 match k,h with
 | [a0,a1,a2,a3,a4,a5,a6,a7,a8,a9,b0,b1,b2,b3,b4,b5,b6,b7,b8,b9,c0,c1,c2,c3,c4,c5,c6,c7,c8,c9,d0,d1],_=>exact⟨a0,a1,a2,a3,a4,a5,a6,a7,a8,a9,b0,b1,b2,b3,b4,b5,b6,b7,b8,b9,c0,c1,c2,c3,c4,c5,c6,c7,c8,c9,d0,d1,rfl⟩
def ep1 (c:List UInt8):List Value:=c.map cb ++ [.string ⟨#[]⟩]
theorem ep1_len {c:List UInt8}(h:c.length=32):(ep1 c).length=33:=by simp[ep1,h]
theorem ep1_one (c:List UInt8):∀ u∈ep1 c,u.oneCell'=true:=fun u hu=>by
 rcases List.mem_append.1 hu with h | h
 ·exact cb_one u h
 ·rw[List.mem_singleton.1 h];rfl
theorem built_ep1 {c:List UInt8}(h:c.length=32):Tryz.prog.built 106 [(0,.agg (cells8 c))]=some (ep1 c).toArray:=by
 obtain⟨a0,a1,a2,a3,a4,a5,a6,a7,a8,a9,b0,b1,b2,b3,b4,b5,b6,b7,b8,b9,c0,c1,c2,c3,c4,c5,c6,c7,c8,c9,d0,d1,rfl⟩:=list32 h
 kernel_rfl
theorem len2 {α:Type}{l:List α}(h:l.length=2):∃ a b,l = [a,b]:=by
 match l,h with
 | [a,b],_=>exact⟨a,b,rfl⟩
theorem eq2_gen {P:Program}{w:World}(d:Nat){t ts tn:TypeId}{A:Array Value}{m n:Value}{q:Nat}(ht:P.underlying t=some (.struct (P.fieldsOf t)))(hp:P.stoodInHeld t=false)
  (hf:(P.fieldsOf t).toList.map (fun f=>(f.name != "_",f.type,f.offset)) = [(true,ts,0),(true,tn,q)])
  (p0:(part ts A 0).run P w = .ok m w) (p1:(part tn A q).run P w = .ok n w)
  (q0:(Op.equalIn d ts m m).run P w = .ok true w) (q1:(Op.equalIn d tn n n).run P w = .ok true w):(Op.equalIn (d+1) t (.agg A) (.agg A)).run P w = .ok true w:=by
 rw[run_equalIn_struct w d t A A ht hp]
 generalize (P.fieldsOf t).toList=fs at hf ⊢
 obtain⟨f0,f1,rfl⟩:=len2 (show fs.length=2 by have:=congrArg List.length hf;simpa using this)
 simp only[List.map_cons,List.map_nil,List.cons.injEq,Prod.mk.injEq,and_true,bne_iff_ne,ne_eq] at hf
 obtain⟨⟨n0,t0,o0⟩,⟨n1,t1,o1⟩⟩:=hf
 simp[Op.eqFields,n0,n1,t0,t1,o0,o1,p0,p1,q0,q1]
theorem eqD8 (d:Nat){C:List UInt8}(hC:C.length=32)(W:World):(Op.equalIn (d+2) 65 (.agg (cells8 C)) (.agg (cells8 C))).run Tryz.prog W = .ok true W:=by
 have h:=run_equalIn_bytes (P:=Tryz.prog) W d 65 5 32 Tryz.underlying65 Tryz.underlying5 (fun _=>by kernel_rfl) C C hC hC
 rw[beq_self_eq_true] at h
 exact h
theorem eqE8 {C:List UInt8}(hC:C.length=32)(W:World):(Op.equalIn 10000 106 (.agg (ep1 C).toArray) (.agg (ep1 C).toArray)).run Tryz.prog W = .ok true W :=
 eq2_gen (ts:=65) (tn:=9) (q:=32) (m:=.agg (cells8 C)) (n:=.string ⟨#[]⟩) 9999 (by kernel_rfl) (by kernel_rfl) (by kernel_rfl)
  (by simp[part,agT_ok (t:=65) (b:=true) rfl W,szT_ok (t:=65) (m:=32) rfl W,ep1,cells8,List.extract_eq_take_drop,hC,take_len (l:=C.map cb) (n:=32) (by simp[hC])])
  (by simp[part,agT_ok (t:=9) (b:=false) rfl W,ep1,hC]) (eqD8 9997 hC W) (by rw[run_equalIn_string W 9998 9 _ _ Tryz.underlying9,beq_self_eq_true])
section
variable {G:Kn}{x y:Operand}{t2:TypeId}{C:List UInt8}
theorem PR.neD (hC:C.length=32)(hx:EV G x (.agg (cells8 C)):=by exact ev)(hy:EV G y (.agg (cells8 C)):=by exact ev):PR Tryz.prog G (.binOp .neq 65 x y t2) (.bool false):=fun a w _ ho hg=>
 run_bin ho (hx a w hg) (hy a w hg) (run_eqGuard_agg w _ _ _ _ _ _ (by kernel_rfl)) (by rw[run_neq_struct,eqD8 9998 hC];rfl)
theorem PR.neE (hC:C.length=32)(hx:EV G x (.agg (ep1 C).toArray):=by exact ev)(hy:EV G y (.agg (ep1 C).toArray):=by exact ev):PR Tryz.prog G (.binOp .neq 106 x y t2) (.bool false):=fun a w _ ho hg=>
 run_bin ho (hx a w hg) (hy a w hg) (run_eqGuard_agg w _ _ _ _ _ _ (by kernel_rfl)) (by rw[run_neq_struct,eqE8 hC];rfl)
end
end
def shL (f:Nat->UInt8):List UInt8:=(List.range 165).map f
theorem shL_len (f:Nat->UInt8):(shL f).length=165:=by simp[shL]
theorem bt_shL (f:Nat->UInt8){q:Nat}(h:q<165):bt (shL f) q=f q:=by simp[bt,shL,h]
theorem shL_set (f:Nat->UInt8)(q:Nat)(b:UInt8):(shL f).set q b=shL fun p=>if p=q then b else f p:=by
 apply List.ext_getElem?
 intro p
 unfold shL
 by_cases hp:p<165
 ·by_cases h:q=p
  ·subst h;simp[hp]
  ·have h2:¬ p=q:=fun e=>h e.symm
   simp[hp,h,h2]
 ·simp[hp]
theorem shL_congr {f g:Nat->UInt8}(h:∀ q,q<165->f q=g q):shL f=shL g:=List.map_congr_left fun q hq=>h q (List.mem_range.1 hq)
def polS (k no:List UInt8)(i:Nat):List UInt8:=[bt k i,bt no i,bt no (32+i)]
def shV (k no:List UInt8)(q:Nat):UInt8:=if q%33=0 then UInt8.ofNat (q/33+1) else evalS (polS k no (q%33-1)) (UInt8.ofNat (q/33+1))
def shA (i q:Nat):UInt8:=if q%33=0/\q/33<i then UInt8.ofNat (q/33+1) else 0
def shB (k no:List UInt8)(i j q:Nat):UInt8:=if q%33<i+1\/(q%33=i+1/\q/33<j) then shV k no q else 0
theorem shA_zero :List.replicate 165 0=shL (shA 0):=by decide +kernel
theorem shA_step (i:Nat):(shL (shA i)).set (i*33+0) (UInt8.ofNat (i+1))=shL (shA (i+1)):=by
 rw[shL_set]
 refine shL_congr fun q hq=>?_
 unfold shA
 by_cases h:q=i*33+0
 ·have h1:q/33=i:=by omega
  rw[if_pos h,if_pos (by omega),h1]
 ·rw[if_neg h]
  by_cases h2:q%33=0/\q/33<i
  ·rw[if_pos h2,if_pos (by omega)]
  ·rw[if_neg h2,if_neg (by omega)]
theorem shA_B (k no:List UInt8):shL (shA 5)=shL (shB k no 0 0):=by
 refine shL_congr fun q hq=>?_
 unfold shA shB shV
 by_cases h:q%33=0
 ·rw[if_pos (by omega),if_pos (by omega),if_pos h]
 ·rw[if_neg (by omega),if_neg (by omega)]
theorem shB_step {k no:List UInt8}{i j:Nat}(hi:i<32):(shL (shB k no i j)).set (j*33+1+i) (evalS (polS k no i) (UInt8.ofNat (j+1)))=shL (shB k no i (j+1)):=by
 rw[shL_set]
 refine shL_congr fun q hq=>?_
 unfold shB
 by_cases h:q=j*33+1+i
 ·have h1:q/33=j:=by omega
  have h2:q%33=i+1:=by omega
  rw[if_pos h,if_pos (by omega),shV,if_neg (by omega),h1,h2,Nat.add_sub_cancel]
 ·rw[if_neg h]
  by_cases h2:q%33<i+1\/(q%33=i+1/\q/33<j)
  ·rw[if_pos h2,if_pos (by omega)]
  ·rw[if_neg h2,if_neg (by omega)]
theorem shB_next (k no:List UInt8)(i:Nat):shL (shB k no i 5)=shL (shB k no (i+1) 0):=by
 refine shL_congr fun q hq=>?_
 unfold shB
 by_cases h2:q%33<i+1\/(q%33=i+1/\q/33<5)
 ·rw[if_pos h2,if_pos (by omega)]
 ·rw[if_neg h2,if_neg (by omega)]
theorem shB_x (k no:List UInt8)(i j l:Nat):shB k no i j (l*33+0)=UInt8.ofNat (l+1):=by
 unfold shB shV
 rw[if_pos (by omega),if_pos (by omega),show(l*33+0)/33=l by omega]
theorem shB_all (k no:List UInt8):shL (shB k no 32 0)=shL (shV k no):=by
 refine shL_congr fun q _=>?_
 unfold shB
 rw[if_pos (by omega)]
def jnT (b:List UInt8)(i:Nat):List UInt8:=(List.range 32).map fun q=>if q<i then atT [bt b 0,bt b 33,bt b 66] [bt b (1+q),bt b (34+q),bt b (67+q)] 0 3 else 0
theorem jnT_len (b:List UInt8)(i:Nat):(jnT b i).length=32:=by simp[jnT]
theorem jnT_zero (b:List UInt8):List.replicate 32 0=jnT b 0:=by
 rw[jnT,List.map_congr_left (g:=fun _=>(0:UInt8)) fun q _=>if_neg (Nat.not_lt_zero q),List.map_const',List.length_range]
theorem jnT_step (b:List UInt8)(i:Nat):(jnT b i).set i (atT [bt b 0,bt b 33,bt b 66] [bt b (1+i),bt b (34+i),bt b (67+i)] 0 3)=jnT b (i+1):=by
 apply List.ext_getElem?
 intro q
 by_cases hq:q<32
 ·by_cases h:i=q
  ·subst h
   simp[jnT,hq]
  ·have h1:(q<i+1)=(q<i):=by apply propext;omega
   simp[jnT,h,hq,h1]
 ·simp[jnT,hq]
instance mulAssoc:Std.Associative mulS:=⟨mulS_assoc⟩
instance mulComm:Std.Commutative mulS:=⟨mulS_comm⟩
theorem xor_eq_zero {a b:UInt8}(h:a^^^b=0):a=b:=by
 have h2:(a^^^b)^^^b=0^^^b:=by rw[h]
 rwa[UInt8.xor_assoc,UInt8.xor_self,UInt8.xor_zero,UInt8.zero_xor] at h2
theorem mulS_zero {a b:UInt8}(h:mulS a b=0)(ha:a≠0):b=0:=by
 have h2:mulS (invS a) (mulS a b)=0:=by rw[h,mulS_zeroR]
 rwa[←mulS_assoc,mulS_comm (invS a),mulS_inv a ha,mulS_oneL] at h2
theorem eval3 (s p q x:UInt8):evalS [s,p,q] x=s^^^mulS p x^^^mulS q (mulS x x):=by
 show mulS (mulS (mulS 0 x^^^q) x^^^p) x^^^s=_
 rw[mulS_zeroL,UInt8.zero_xor,mulS_xorL,mulS_assoc]
 ac_rfl
theorem quad_zero {a b c x y z:UInt8}(hxy:x≠y)(hxz:x≠z)(hyz:y≠z)(h1:a^^^mulS b x^^^mulS c (mulS x x)=0)(h2:a^^^mulS b y^^^mulS c (mulS y y)=0)(h3:a^^^mulS b z^^^mulS c (mulS z z)=0):a=0/\b=0/\c=0:=by
 have ne:∀ {u v:UInt8},u≠v->u^^^v≠0:=fun h e=>h (xor_eq_zero e)
 have key:∀ {u v:UInt8},u≠v->a^^^mulS b u^^^mulS c (mulS u u)=0->a^^^mulS b v^^^mulS c (mulS v v)=0->b=mulS c (u^^^v):=by
  intro u v huv e1 e2
  have e3:mulS (u^^^v) (b^^^mulS c (u^^^v))=0:=by
   have:mulS (u^^^v) (b^^^mulS c (u^^^v))=(a^^^mulS b u^^^mulS c (mulS u u))^^^(a^^^mulS b v^^^mulS c (mulS v v))^^^(mulS u (mulS c v)^^^mulS v (mulS c u))^^^(a^^^a):=by
    simp only[mulS_xorL,mulS_xorR]
    have e5:a^^^a=0:=UInt8.xor_self
    have e4:(a^^^mulS b u^^^mulS c (mulS u u))^^^(a^^^mulS b v^^^mulS c (mulS v v))^^^(mulS u (mulS c v)^^^mulS v (mulS c u))^^^(a^^^a)=(a^^^a)^^^(a^^^a)^^^(mulS u b^^^mulS v b^^^(mulS u (mulS c u)^^^mulS v (mulS c u)^^^(mulS u (mulS c v)^^^mulS v (mulS c v)))):=by ac_rfl
    rw[e4,e5,UInt8.xor_self,UInt8.zero_xor]
   rw[this,e1,e2,UInt8.xor_self,UInt8.xor_self]
   have:mulS u (mulS c v)=mulS v (mulS c u):=by ac_rfl
   rw[this,UInt8.xor_self]
   rfl
  exact xor_eq_zero (mulS_zero e3 (ne huv))
 have b1:=key hxy h1 h2
 have b2:=key hxz h1 h3
 have hc:mulS (y^^^z) c=0:=by
  have e:mulS (y^^^z) c=mulS c (x^^^y)^^^mulS c (x^^^z):=by
   rw[mulS_xorR,mulS_xorR,xor_ac,UInt8.xor_self,UInt8.zero_xor,←mulS_xorR,mulS_comm]
  rw[e,←b1,←b2,UInt8.xor_self]
 have c0:=mulS_zero hc (ne hyz)
 rw[c0,mulS_zeroL] at b1
 rw[b1,c0,mulS_zeroL,mulS_zeroL,UInt8.xor_zero,UInt8.xor_zero] at h1
 exact⟨h1,b1,c0⟩
theorem atT3 (x0 x1 x2 y0 y1 y2 z:UInt8):atT [x0,x1,x2] [y0,y1,y2] z 3 =
  mulS (mulS y0 (invS (mulS (x0^^^x1) (x0^^^x2)))) (mulS (z^^^x1) (z^^^x2))^^^mulS (mulS y1 (invS (mulS (x1^^^x0) (x1^^^x2)))) (mulS (z^^^x0) (z^^^x2)) ^^^
  mulS (mulS y2 (invS (mulS (x2^^^x0) (x2^^^x1)))) (mulS (z^^^x0) (z^^^x1)):=by
 have h:atT [x0,x1,x2] [y0,y1,y2] z 3=0^^^mulS (mulS (mulS y0 (z^^^x1)) (z^^^x2)) (invS (mulS (mulS 1 (x0^^^x1)) (x0^^^x2)))^^^mulS (mulS (mulS y1 (z^^^x0)) (z^^^x2)) (invS (mulS (mulS 1 (x1^^^x0)) (x1^^^x2))) ^^^
   mulS (mulS (mulS y2 (z^^^x0)) (z^^^x1)) (invS (mulS (mulS 1 (x2^^^x0)) (x2^^^x1))):=rfl
 rw[h,UInt8.zero_xor,mulS_oneL,mulS_oneL,mulS_oneL]
 generalize invS _=a
 generalize invS _=b
 generalize invS _=c
 have e:∀ y u v a:UInt8,mulS (mulS (mulS y u) v) a=mulS (mulS y a) (mulS u v):=fun y u v a=>by ac_rfl
 rw[e,e,e]
theorem cancel3 (y d e:UInt8)(hd:d≠0)(he:e≠0):mulS (mulS y (invS (mulS d e))) (mulS d e)=y:=by
 have hde:mulS d e≠0:=fun h=>he (mulS_zero h hd)
 rw[mulS_assoc,mulS_comm (invS _),mulS_inv _ hde,mulS_one]
theorem at_eval (s p q x0 x1 x2 z:UInt8)(h01:x0≠x1)(h02:x0≠x2)(h12:x1≠x2):atT [x0,x1,x2] [evalS [s,p,q] x0,evalS [s,p,q] x1,evalS [s,p,q] x2] z 3=evalS [s,p,q] z:=by
 have ne:∀ {u v:UInt8},u≠v->u^^^v≠0:=fun h e=>h (xor_eq_zero e)
 obtain⟨W0,hW0⟩:∃ W,mulS (evalS [s,p,q] x0) (invS (mulS (x0^^^x1) (x0^^^x2)))=W:=⟨_,rfl⟩
 obtain⟨W1,hW1⟩:∃ W,mulS (evalS [s,p,q] x1) (invS (mulS (x1^^^x0) (x1^^^x2)))=W:=⟨_,rfl⟩
 obtain⟨W2,hW2⟩:∃ W,mulS (evalS [s,p,q] x2) (invS (mulS (x2^^^x0) (x2^^^x1)))=W:=⟨_,rfl⟩
 have c0:mulS W0 (mulS (x0^^^x1) (x0^^^x2))=evalS [s,p,q] x0:=by rw[←hW0];exact cancel3 _ _ _ (ne h01) (ne h02)
 have c1:mulS W1 (mulS (x1^^^x0) (x1^^^x2))=evalS [s,p,q] x1:=by rw[←hW1];exact cancel3 _ _ _ (ne (Ne.symm h01)) (ne h12)
 have c2:mulS W2 (mulS (x2^^^x0) (x2^^^x1))=evalS [s,p,q] x2:=by rw[←hW2];exact cancel3 _ _ _ (ne (Ne.symm h02)) (ne (Ne.symm h12))
 have hz:∀ z,atT [x0,x1,x2] [evalS [s,p,q] x0,evalS [s,p,q] x1,evalS [s,p,q] x2] z 3=mulS W0 (mulS (z^^^x1) (z^^^x2))^^^mulS W1 (mulS (z^^^x0) (z^^^x2))^^^mulS W2 (mulS (z^^^x0) (z^^^x1)):=fun z=>by rw[atT3,hW0,hW1,hW2]
 have hg:∀ z,(mulS W0 (mulS (z^^^x1) (z^^^x2))^^^mulS W1 (mulS (z^^^x0) (z^^^x2))^^^mulS W2 (mulS (z^^^x0) (z^^^x1)))^^^evalS [s,p,q] z =
   (s^^^(mulS W0 (mulS x1 x2)^^^mulS W1 (mulS x0 x2)^^^mulS W2 (mulS x0 x1)))^^^mulS (p^^^(mulS W0 (x1^^^x2)^^^mulS W1 (x0^^^x2)^^^mulS W2 (x0^^^x1))) z^^^mulS (q^^^(W0^^^W1^^^W2)) (mulS z z):=by
  intro z
  rw[eval3]
  simp only[mulS_xorL,mulS_xorR]
  ac_rfl
 have hs:∀ u:UInt8,mulS (u^^^u) z=0:=fun u=>by rw[UInt8.xor_self,mulS_zeroL]
 have g0:=hg x0
 have g1:=hg x1
 have g2:=hg x2
 rw[UInt8.xor_self,mulS_zeroL,mulS_zeroL,mulS_zeroR,mulS_zeroR,c0,UInt8.xor_zero,UInt8.xor_zero,UInt8.xor_self] at g0
 rw[UInt8.xor_self,mulS_zeroL,mulS_zeroR,mulS_zeroR,mulS_zeroR,c1,UInt8.xor_zero,UInt8.zero_xor,UInt8.xor_self] at g1
 rw[UInt8.xor_self,mulS_zeroR,mulS_zeroR,mulS_zeroR,mulS_zeroR,c2,UInt8.xor_zero,UInt8.zero_xor,UInt8.xor_self] at g2
 obtain⟨q1,q2,q3⟩:=quad_zero h01 h02 h12 g0.symm g1.symm g2.symm
 have g:=hg z
 rw[q1,q2,q3,mulS_zeroL,mulS_zeroL,UInt8.xor_self,UInt8.xor_self] at g
 rw[hz]
 exact xor_eq_zero g
section
def Tele.ext (k:Value->Tele):Tele->Tele
 | .ret v=>k v
 | .row e m n xs f=>.row e m n xs fun v=>(f v).ext k
 | .ex p f=>.ex p fun s=>(f s).ext k
theorem Tele.sat_ext {B:Nat}{w:World}{k:Value->Tele}:∀ {T:Tele} {A:List Value} {u:Value},(T.ext k).sat B w A u->∃ g A2,T.sat B w A g/\(k g).sat B w A2 u
 | .ret v,A,_,h=>⟨v,A,rfl,h⟩
 | .row _ _ _ _ _,_,_,⟨v,h1,h2,h3⟩=>by
  obtain⟨g,A2,h4,h5⟩:=Tele.sat_ext h3
  exact⟨g,A2,⟨v,h1,h2,h4⟩,h5⟩
 | .ex _ _,_,_,⟨s,h1,h2⟩=>by
  obtain⟨g,A2,h4,h5⟩:=Tele.sat_ext h2
  exact⟨g,A2,⟨s,h1,h4⟩,h5⟩
section
variable {D:List Deferred}{nt:Nat}{w0:World}{L:LT}{M:MT}{R:List Rw}{l:List Oper}{KL:List Kp}{AL:List NewZ}{BL:List OldQ}{js:List Nat}{Bs i j s d m n:Nat}{e ty:TypeId}{xs:List Value}{c:Value}{ps:String}{af:Array Edge}{es es2:List TypeId}{T:Tele}
abbrev tup3 (e:TypeId)(m n:Nat)(xs:List Value)(c:Value):Value->Tele:=fun g=>.row e m n xs fun v=>.ret (.tuple #[g,v,c])
theorem oE0 (hj:dIdx l s 0=some j:=by rfl)(hK:KL.getD j .any = .tel es (T.ext (tup3 e m n xs c)):=by rfl)(hE:T.inE es2:=by exact inE)(hb:depB l i j s=true:=by kernel_rfl)(hA:(AL.all fun d=>!(Nat.beq d.iA j))=true:=by kernel_rfl):OPd Tryz.prog (QZ D nt w0 L M R l KL AL BL js Bs i) ⟨some d,.extract (.tmp s) 0,ty,ps,af,none⟩ l (.tel es2 T) Bs:=fun a W hg=>by
 obtain⟨v,h1,h2⟩:=hg.dep j s hb hA
 rw[hK] at h2
 obtain⟨g,A2,h3,x,h4,h5,h6⟩:=Tele.sat_ext h2.2
 subst h6
 exact .inl ⟨wanted_yes rfl,givz_run (run_ext rfl (eval_tmp h1) rfl) ⟨hE,h3⟩⟩
theorem oE1 (hj:dIdx l s 0=some j:=by rfl)(hK:KL.getD j .any = .tel es (T.ext (tup3 e m n xs c)):=by rfl)(hb:depB l i j s=true:=by kernel_rfl)(hA:(AL.all fun d=>!(Nat.beq d.iA j))=true:=by kernel_rfl):OPd Tryz.prog (QZ D nt w0 L M R l KL AL BL js Bs i) ⟨some d,.extract (.tmp s) 1,ty,ps,af,none⟩ l (.tel [e] (.row e m n xs fun v=>.ret v)) Bs:=fun a W hg=>by
 obtain⟨v,h1,h2⟩:=hg.dep j s hb hA
 rw[hK] at h2
 obtain⟨g,A2,h3,x,h4,h5,h6⟩:=Tele.sat_ext h2.2
 subst h6
 exact .inl ⟨wanted_yes rfl,givz_run (run_ext rfl (eval_tmp h1) rfl) ⟨⟨by simp,fun _=>trivial⟩,x,h4,by simp,rfl⟩⟩
theorem oE2 (hj:dIdx l s 0=some j:=by rfl)(hK:KL.getD j .any = .tel es (T.ext (tup3 e m n xs c)):=by rfl)(hb:depB l i j s=true:=by kernel_rfl)(hA:(AL.all fun d=>!(Nat.beq d.iA j))=true:=by kernel_rfl):OPd Tryz.prog (QZ D nt w0 L M R l KL AL BL js Bs i) ⟨some d,.extract (.tmp s) 2,ty,ps,af,none⟩ l (.val c) Bs:=fun a W hg=>by
 obtain⟨v,h1,h2⟩:=hg.dep j s hb hA
 rw[hK] at h2
 obtain⟨g,A2,h3,x,h4,h5,h6⟩:=Tele.sat_ext h2.2
 subst h6
 exact .inl ⟨wanted_yes rfl,givz_run (run_ext rfl (eval_tmp h1) rfl) rfl⟩
end
end
section
section
variable {D:List Deferred}{nt:Nat}{w0:World}{L:LT}{M:MT}{R:List Rw}{ops:Array Oper}{rest:List Oper}{Q:Exit->Act->World->Prop}{tyo:TypeId}{ps:String}{af:Array Edge}{op:Op}{dst:Option Tmp}{j sj d:Nat}{want b:Bool}{oj:Oper}
theorem gDo (h:KX D nt w0 L M R (wpList Tryz.prog ops Q (⟨dst,op,tyo,ps,af,none⟩::rest)))(hj:ops[j]?=some oj:=by rfl)(hd:oj.dst=some sj:=by rfl)(he:lz L sj=some (.bool b):=by rfl)(hb:(b==want)=true:=by rfl):KX D nt w0 L M R (wpList Tryz.prog ops Q (⟨dst,op,tyo,ps,af,some (j,want)⟩::rest)):=fun a w hs=>by
 have h1:Region.wanted ⟨dst,op,tyo,ps,af,some (j,want)⟩ (yielded ops a.tmps)=true:=wantedG hs.f rfl hj hd (by rw[←lz_eq];exact he) hb
 have h2:=h a w hs
 unfold wpList at h2 ⊢
 rw[if_pos (wantedS rfl)] at h2
 rw[if_pos h1]
 exact h2
theorem gSk (h:KX D nt w0 ((d,undef)::L) M R (wpList Tryz.prog ops Q rest))(hj:ops[j]?=some oj:=by rfl)(hd:oj.dst=some sj:=by rfl)(he:lz L sj=some (.bool b):=by rfl)(hb:(b==want)=false:=by rfl)(hlt:Nat.blt d nt=true:=by rfl):KX D nt w0 L M R (wpList Tryz.prog ops Q (⟨some d,op,tyo,ps,af,some (j,want)⟩::rest)):=fun a w hs=>by
 have h1:Region.wanted ⟨some d,op,tyo,ps,af,some (j,want)⟩ (yielded ops a.tmps)=false:=by
  have h3:a.tmps[sj]?=some (.bool b):=hs.f.has sj _ (by rw[←lz_eq];exact he)
  have h4:=wantedG (o:=⟨some d,op,tyo,ps,af,some (j,!want)⟩) hs.f rfl hj hd (by rw[←lz_eq];exact he) (by revert hb;cases b <;> cases want <;> simp)
  simp only[Region.wanted] at h4 ⊢
  revert h4
  cases b <;> cases want <;> simp_all
 unfold wpList
 rw[if_neg (by rw[h1];decide)]
 exact h _ w ⟨hs.f.put (Nat.le_of_ble_eq_true hlt),hs.m,hs.r,hs.nd⟩
end
end
end Go.Proofs.YtdjholkjkbihmaaGreatDoor
