/- Laws and walks of TopNeverOther. -/
import Derived.ProofKit
import Derived.Test.YtdjholkjkbihmaaGreatDoorF13
namespace Go.Proofs.YtdjholkjkbihmaaGreatDoor
open Go.RowKit
set_option maxRecDepth 100000
set_option maxHeartbeats 4000000
theorem tkV_hon {s:Shf}(h:s.fates = [])(b:Bool)(v:Value):cond b (tkV s v) v=v:=by
 have:tkV s v=v:=by unfold tkV;rw[if_pos (by rw[h];rfl)]
 rw[this];cases b <;> rfl
theorem tlD_on (s:Shf)(nm:List UInt8):tlD (-1) s nm=(toldS s nm).1:=by unfold tlD;rw[if_neg (by decide)]
theorem tlE_on (s:Shf)(nm:List UInt8):tlE (-1) s nm=(toldS s nm).2:=by unfold tlE;rw[if_neg (by decide)]
theorem lf_on :lf (-1) = -1:=by unfold lf;rw[if_neg (by decide)]
theorem getallH {w0:World}{u0 v0 u1 v1 u2 v2 u3 v3 u4 v4:Value}{Z:Nat->Shf}{nm:List UInt8}{dd:Nat->List UInt8}{ee:Nat->Int}(hS:StoIn w0 u0 v0 u1 v1 u2 v2 u3 v3 u4 v4 (Z 0) (Z 1) (Z 2) (Z 3) (Z 4))(hB:∀ i,i<5->ShB (Z i))(hf:∀ i,i<5->(Z i).fates = [])(hT:∀ i,i<5->toldS (Z i) nm=(dd i,ee i)):RT 110 #[.agg #[u0,v0,u1,v1,u2,v2,u3,v3,u4,v4,i6 (-1)],sv nm] w0 (stZ Z fun a b c d e f g h i j=>.ret (.tuple #[.agg #[a,b,c,d,e,f,g,h,i,j,i6 (-1)],.agg #[sv (dd 0),i6 (ee 0),.bool false,sv (dd 1),i6 (ee 1),.bool false,sv (dd 2),i6 (ee 2),.bool false,sv (dd 3),i6 (ee 3),.bool false,sv (dd 4),i6 (ee 4),.bool false]])):=by
 have q:=getall (nm:=nm) (left:=-1) hS (by decide) (hB 0 (by decide)) (hB 1 (by decide)) (hB 2 (by decide)) (hB 3 (by decide)) (hB 4 (by decide))
 simp only[lf_on,tlD_on,tlE_on,tkV_hon (hf 0 (by decide)),tkV_hon (hf 1 (by decide)),tkV_hon (hf 2 (by decide)),tkV_hon (hf 3 (by decide)),tkV_hon (hf 4 (by decide)),hT 0 (by decide),hT 1 (by decide),hT 2 (by decide),hT 3 (by decide),hT 4 (by decide)] at q
 exact q
theorem spvote {w0:World}{u0 v0 u1 v1 u2 v2 u3 v3 u4 v4:Value}{Z:Nat->Shf}{nm d:List UInt8}(hS:StoIn w0 u0 v0 u1 v1 u2 v2 u3 v3 u4 v4 (Z 0) (Z 1) (Z 2) (Z 3) (Z 4))(hn:1<=nm.length/\nm.length<=100)(hB:∀ i,i<5->ShB (Z i))(hf:∀ i,i<5->(Z i).fates = [])(hT:∀ i,i<5->toldS (Z i) nm=(d,0)):RT 75 #[.agg #[u0,v0,u1,v1,u2,v2,u3,v3,u4,v4,i6 (-1)],sv nm] w0 (stZ Z fun a b c d1 e f g h i j=>.ret (.tuple #[.agg #[a,b,c,d1,e,f,g,h,i,j,i6 (-1)],sv d,i6 0])):=by
 refine enter Tryz.func75 ?_
 obtain⟨h0,h1,h2,h3,h4,h5,h6,h7,h8,h9⟩:=hS.one
 refine rg (ba (fun g0=>?_))
 refine aa Tryz.zeroValue31 (fun g1=>?_)
 refine p2 .as .as (en (se (rg (p1 .mv (cl (fun _ _ h=>spmay nm _) (p1 .not (en (cf (hb:=(by rw[decide_eq_true hn];rfl)) (sk (nN (rg (p2 .lw .mv (ce (fun _ _ h=>getallH (nm:=nm) (dd:=fun _=>d) (ee:=fun _=>0) (hS.below h.m.below) hB hf hT) (fun a0 b0 a1 b1 a2 b2 a3 b3 a4 b4=>?_))))))))))))))
 refine osL 10 ?_
 iterate 20 intro
 refine p3 .mv .ext .ext (aa Tryz.zeroValue208 (fun g2=>sw 2 ?_))
 refine sw 0 ?_
 refine en (se (r2 .lw .mv (bl ?_)))
 refine lr 1 (kL [(1,sv nm),(2,pt g0),(4,pt g1),(5,.string ⟨#[]⟩),(6,i6 0),(7,pt g2),(24,.agg #[sv d,i6 0,.bool false,sv d,i6 0,.bool false,sv d,i6 0,.bool false,sv d,i6 0,.bool false,sv d,i6 0,.bool false]),(25,i6 0)] (un (r1 .lss (se (ct (sk (nN (se (bl (rg (pp (PR.xl 0 [sv d,i6 0,.bool false]) (aa Tryz.zeroValue207 (fun g3=>sw 0 ?_)))))))))))))
 refine en (se (r3 .fa .ld .nei (cf (sk (nN (r1 .as (se (r2 .lw .mv (bl ?_)))))))))
 refine lr 6 (kL [(1,sv nm),(2,pt g0),(4,pt g1),(5,.string ⟨#[]⟩),(6,i6 0),(7,pt g2),(9,pt g3),(10,i6 0),(31,.agg #[sv d,i6 0,.bool false,sv d,i6 0,.bool false,sv d,i6 0,.bool false,sv d,i6 0,.bool false,sv d,i6 0,.bool false]),(32,i6 0)] (un (r1 .lss (se (ct (sk (nN (se (bl (rg (pp (PR.xl 0 [sv d,i6 0,.bool false]) (aa Tryz.zeroValue207 (fun g4=>sw 0 ?_)))))))))))))
 refine en (rg (p4 .fa .ld .eqi .mv (gTt (hp:=PR.fa) ?_)))
 refine gTt (hp:=PR.ld) ?_
 refine gTt (hp:=PR.fa) ?_
 refine gTt (hp:=PR.ld) ?_
 refine gTt (hp:=PR.eqs) ?_
 refine p1 .pand (en (ct (hb:=(by simp)) (rg0 (p1 .mv (pp (PR.ad 1) (p1 .as (en0 (bN (nN (rg0 (pp (PR.ad 1) (p1 .mv (en0 ?_)))))))))))))
 refine nN (kL [(1,sv nm),(2,pt g0),(4,pt g1),(5,.string ⟨#[]⟩),(6,i6 0),(7,pt g2),(9,pt g3),(10,i6 1),(31,.agg #[sv d,i6 0,.bool false,sv d,i6 0,.bool false,sv d,i6 0,.bool false,sv d,i6 0,.bool false,sv d,i6 0,.bool false]),(32,i6 1)] (un (r1 .lss (se (ct (sk (nN (se (bl (rg (pp (PR.xl 1 [sv d,i6 0,.bool false]) (aa Tryz.zeroValue207 (fun g5=>sw 0 ?_)))))))))))))
 refine en (rg (p4 .fa .ld .eqi .mv (gTt (hp:=PR.fa) ?_)))
 refine gTt (hp:=PR.ld) ?_
 refine gTt (hp:=PR.fa) ?_
 refine gTt (hp:=PR.ld) ?_
 refine gTt (hp:=PR.eqs) ?_
 refine p1 .pand (en (ct (hb:=(by simp)) (rg0 (p1 .mv (pp (PR.ad 2) (p1 .as (en0 (bN (nN (rg0 (pp (PR.ad 2) (p1 .mv (en0 ?_)))))))))))))
 refine nN (kL [(1,sv nm),(2,pt g0),(4,pt g1),(5,.string ⟨#[]⟩),(6,i6 0),(7,pt g2),(9,pt g3),(10,i6 2),(31,.agg #[sv d,i6 0,.bool false,sv d,i6 0,.bool false,sv d,i6 0,.bool false,sv d,i6 0,.bool false,sv d,i6 0,.bool false]),(32,i6 2)] (un (r1 .lss (se (ct (sk (nN (se (bl (rg (pp (PR.xl 2 [sv d,i6 0,.bool false]) (aa Tryz.zeroValue207 (fun g6=>sw 0 ?_)))))))))))))
 refine en (rg (p4 .fa .ld .eqi .mv (gTt (hp:=PR.fa) ?_)))
 refine gTt (hp:=PR.ld) ?_
 refine gTt (hp:=PR.fa) ?_
 refine gTt (hp:=PR.ld) ?_
 refine gTt (hp:=PR.eqs) ?_
 refine p1 .pand (en (ct (hb:=(by simp)) (rg0 (p1 .mv (pp (PR.ad 3) (p1 .as (en0 (bN (nN (rg0 (pp (PR.ad 3) (p1 .mv (en0 ?_)))))))))))))
 refine nN (kL [(1,sv nm),(2,pt g0),(4,pt g1),(5,.string ⟨#[]⟩),(6,i6 0),(7,pt g2),(9,pt g3),(10,i6 3),(31,.agg #[sv d,i6 0,.bool false,sv d,i6 0,.bool false,sv d,i6 0,.bool false,sv d,i6 0,.bool false,sv d,i6 0,.bool false]),(32,i6 3)] (un (r1 .lss (se (ct (sk (nN (se (bl (rg (pp (PR.xl 3 [sv d,i6 0,.bool false]) (aa Tryz.zeroValue207 (fun g7=>sw 0 ?_)))))))))))))
 refine en (rg (p4 .fa .ld .eqi .mv (gTt (hp:=PR.fa) ?_)))
 refine gTt (hp:=PR.ld) ?_
 refine gTt (hp:=PR.fa) ?_
 refine gTt (hp:=PR.ld) ?_
 refine gTt (hp:=PR.eqs) ?_
 refine p1 .pand (en (ct (hb:=(by simp)) (rg0 (p1 .mv (pp (PR.ad 4) (p1 .as (en0 (bN (nN (rg0 (pp (PR.ad 4) (p1 .mv (en0 ?_)))))))))))))
 refine nN (kL [(1,sv nm),(2,pt g0),(4,pt g1),(5,.string ⟨#[]⟩),(6,i6 0),(7,pt g2),(9,pt g3),(10,i6 4),(31,.agg #[sv d,i6 0,.bool false,sv d,i6 0,.bool false,sv d,i6 0,.bool false,sv d,i6 0,.bool false,sv d,i6 0,.bool false]),(32,i6 4)] (un (r1 .lss (se (ct (sk (nN (se (bl (rg (pp (PR.xl 4 [sv d,i6 0,.bool false]) (aa Tryz.zeroValue207 (fun g8=>sw 0 ?_)))))))))))))
 refine en (rg (p4 .fa .ld .eqi .mv (gTt (hp:=PR.fa) ?_)))
 refine gTt (hp:=PR.ld) ?_
 refine gTt (hp:=PR.fa) ?_
 refine gTt (hp:=PR.ld) ?_
 refine gTt (hp:=PR.eqs) ?_
 refine p1 .pand (en (ct (hb:=(by simp)) (rg0 (p1 .mv (pp (PR.ad 5) (p1 .as (en0 (bN (nN ?_)))))))))
 refine rg0 (pp (PR.ad 5) (p1 .mv (en0 (nN (kL [(1,sv nm),(2,pt g0),(4,pt g1),(5,.string ⟨#[]⟩),(6,i6 0),(7,pt g2),(9,pt g3),(10,i6 5),(31,.agg #[sv d,i6 0,.bool false,sv d,i6 0,.bool false,sv d,i6 0,.bool false,sv d,i6 0,.bool false,sv d,i6 0,.bool false]),(32,i6 5)] (un (r1 .lss (se (cf (xt (nX (nX (bH (nN (r2 .mv .geq (ct (dr [_,_,_,.any,_,_] [] [⟨3,_,_,_,0,.val (.agg #[a0,b0,a1,b1,a2,b2,a3,b3,a4,b4,i6 (-1)])⟩] [7] [5,6] ⟨rfl,trivial⟩ (fun Bs=>⟨kv (oP (PR.lw ez (mk' 8))),kv (oP (PR.fa ez)),kv (oP (PR.ld ed (mk' 5))),ks 0,kv (oP (PR.as ed)),kv (oP (PR.as EV.k)),trivial⟩) ?_)))))))))))))))))
 exact rt (bR (nR (nR (bR (nR (et [0,1,2,3,4,5,6,7,8,9]))))))
theorem ito1 :Lib.itoa 1 = [49]:=by
 rw[itoa_dig 1 (by decide),show(1:Int).toNat=1 from rfl,Lib.decDigits,dif_pos (by decide)];rfl
theorem ito2 :Lib.itoa 2 = [50]:=by
 rw[itoa_dig 2 (by decide),show(2:Int).toNat=2 from rfl,Lib.decDigits,dif_pos (by decide)];rfl
theorem nameR1 :nameR 1 = [114,111,111,116,47,48,48,48,48,48,48,48,49]:=by unfold nameR;rw[ito1];rfl
theorem nameR2 :nameR 2 = [114,111,111,116,47,48,48,48,48,48,48,48,50]:=by unfold nameR;rw[ito2];rfl
def pkN (t:List UInt8):List UInt8:=pckT++t
theorem pkN_len {t:List UInt8}(h:t.length=64):(pkN t).length=69:=by unfold pkN;rw[List.length_append,h];rfl
theorem cmp_self :∀ l:List UInt8,Lib.compareBytes l l=0
 | []=>rfl
 | a::r=>by
  have h:¬ a<a:=by simp
  rw[Lib.compareBytes,if_neg h,if_neg h,cmp_self r]
theorem cmp1p (t:List UInt8):Lib.compareBytes (nameR 1) (pkN t)=1:=by rw[nameR1];rfl
theorem cmp12 :Lib.compareBytes (nameR 1) (nameR 2) = -1:=by rw[nameR1,nameR2];rfl
abbrev kO1 (d1:List UInt8):Ob:=⟨nameR 1,d1,[],false⟩
abbrev kO2 (d2:List UInt8):Ob:=⟨nameR 2,d2,[],false⟩
abbrev kO3 (d2:List UInt8):Ob:=⟨nameR 2,d2,d2,true⟩
abbrev kOp (t p:List UInt8):Ob:=⟨pkN t,p,[],false⟩
theorem putB1 (t p d1:List UInt8):putO [kO1 d1] (pkN t) p = [kOp t p,kO1 d1]:=by
 have h:findI [kO1 d1] (pkN t)=0:=by simp[findI,bsS,bsN,cmpO,cmp1p]
 simp[putO,findB,h,cmpO,cmp1p]
theorem putC (t p d1 d2:List UInt8):putO [kOp t p,kO1 d1] (nameR 2) d2 = [kOp t p,kO1 d1,kO2 d2]:=by
 have h:findI [kOp t p,kO1 d1] (nameR 2)=2:=by simp[findI,bsS,bsN,cmpO,cmp12]
 simp[putO,findB,h]
theorem find3 (t p d1 d2:List UInt8):findI [kOp t p,kO1 d1,kO2 d2] (nameR 2)=2:=by simp[findI,bsS,bsN,cmpO,cmp12,cmp_self]
theorem putD (t p d1 d2:List UInt8):putO [kOp t p,kO1 d1,kO2 d2] (nameR 2) d2 = [kOp t p,kO1 d1,kO3 d2]:=by
 simp[putO,findB,find3,cmpO,cmp_self]
theorem find4 (t p d1 d2:List UInt8):findI [kOp t p,kO1 d1,kO3 d2] (pkN t)=0:=by simp[findI,bsS,bsN,cmpO,cmp1p,cmp_self]
theorem nl1 :(nameR 1).length=13:=by rw[nameR1];rfl
theorem nl2 :(nameR 2).length=13:=by rw[nameR2];rfl
theorem chkA {d1:List UInt8}(h1:d1.length<=65536):chkS [kO1 d1]=0:=by
 have h:=Nat.not_lt.2 h1
 simp[chkS,chkF,chkO,nl1,h]
theorem nb1p (t:List UInt8):(nameR 1==pkN t)=false:=by rw[nameR1];rfl
theorem lt1p (t:List UInt8):Op.bytesLess (nameR 1) (pkN t)=false:=by rw[nameR1];rfl
theorem nb21 :(nameR 2==nameR 1)=false:=by rw[nameR1,nameR2];decide
theorem lt21 :Op.bytesLess (nameR 2) (nameR 1)=false:=by rw[nameR1,nameR2];decide
theorem chkO1 {q:Option Ob}{d1:List UInt8}(h1:d1.length<=65536)(ha:q.any (fun q=>nameR 1==q.nm)=false)(hb:q.any (fun q=>Op.bytesLess (nameR 1) q.nm)=false):chkO q (kO1 d1)=0:=by
 unfold chkO
 rw[if_neg (by rw[nl1];decide),if_neg (by rw[ha];decide),if_neg (by rw[hb];decide),if_neg (by simp;exact h1),if_neg (by simp)]
theorem chkOp {t p:List UInt8}(ht:t.length=64)(hp:p.length<=65536):chkO none (kOp t p)=0:=by
 unfold chkO
 rw[if_neg (by rw[pkN_len ht];decide),if_neg (by simp),if_neg (by simp),if_neg (by simp;exact hp),if_neg (by simp)]
theorem chkO2 {d1 d2 w:List UInt8}{b:Bool}(h2:d2.length<=65536)(hw:w.length<=65536)(hb:b=false->w = []):chkO (some (kO1 d1)) ⟨nameR 2,d2,w,b⟩=0:=by
 unfold chkO
 rw[if_neg (by rw[nl2];decide),if_neg (by rw[Option.any_some,nb21];decide),if_neg (by rw[Option.any_some,lt21];decide),if_neg (by show ¬ (65536<d2.length\/65536<w.length);omega),if_neg (fun h=>h.2 (hb h.1))]
theorem chkB {t p d1:List UInt8}(ht:t.length=64)(hp:p.length<=65536)(h1:d1.length<=65536):chkS [kOp t p,kO1 d1]=0:=by
 rw[chkS,chkF,if_pos (chkOp ht hp),chkF,if_pos (chkO1 h1 (by rw[Option.any_some];exact nb1p t) (by rw[Option.any_some];exact lt1p t)),chkF]
theorem chkC {t p d1 d2 w:List UInt8}{b:Bool}(ht:t.length=64)(hp:p.length<=65536)(h1:d1.length<=65536)(h2:d2.length<=65536)(hw:w.length<=65536)(hb:b=false->w = []):chkS [kOp t p,kO1 d1,⟨nameR 2,d2,w,b⟩]=0:=by
 rw[chkS,chkF,if_pos (chkOp ht hp),chkF,if_pos (chkO1 h1 (by rw[Option.any_some];exact nb1p t) (by rw[Option.any_some];exact lt1p t)),chkF,if_pos (chkO2 h2 hw hb),chkF]
theorem askS0 {l:List Ob}{nm:List UInt8}(h:chkS l=0)(hn:1<=nm.length/\nm.length<=100):askS l nm=0:=by
 unfold askS
 rw[if_neg (by rw[h];decide),if_neg (by omega)]
theorem told_of {l:List Ob}{nm:List UInt8}{i:Nat}{o:Ob}(h:askS l nm=0)(hf:findI l nm=i)(ho:l[i]?=some o)(hn:o.nm=nm):toldS ⟨l,[]⟩ nm=(o.da,0):=by
 have hg:l.getD i noOb=o:=by rw[List.getD_eq_getElem?_getD,ho];rfl
 have hl:i<l.length:=(List.getElem?_eq_some_iff.1 ho).1
 have hb:findB l nm=true:=by
  unfold findB
  rw[hf,decide_eq_true hl,cmpO,hg,hn,cmp_self];rfl
 unfold toldS
 rw[if_neg (by rw[h];decide),if_neg (by simp),if_neg (by rw[hb];simp),if_neg (by simp),if_neg (by simp),hf,hg]
theorem nmS3 (t p d1 d2 w:List UInt8)(b:Bool):nmS [kOp t p,kO1 d1,⟨nameR 2,d2,w,b⟩] rootT = [nameR 1,nameR 2]:=by
 have h0:Lib.hasPrefix (pkN t) rootT=false:=rfl
 have h1:Lib.hasPrefix (nameR 1) rootT=true:=by rw[nameR1];decide
 have h2:Lib.hasPrefix (nameR 2) rootT=true:=by rw[nameR2];decide
 simp[nmS,h0,h1,h2]
theorem nmA3 {Z:Nat->Shf}{t d1 d2 w:List UInt8}{p:Nat->List UInt8}{b:Bool}(h:∀ i,i<5->(Z i).objs = [kOp t (p i),kO1 d1,⟨nameR 2,d2,w,b⟩]):nmA Z rootT = [nameR 1] ++ [nameR 2]:=by
 have e:accN Z rootT 5 = [nameR 1,nameR 2,nameR 1,nameR 2,nameR 1,nameR 2,nameR 1,nameR 2,nameR 1,nameR 2]:=by
  simp[accN,h 0,h 1,h 2,h 3,h 4,nmS3]
 unfold nmA
 rw[e]
 have hp:[nameR 1,nameR 2,nameR 1,nameR 2,nameR 1,nameR 2,nameR 1,nameR 2,nameR 1,nameR 2].Perm (List.replicate 5 (nameR 1)++List.replicate 5 (nameR 2)):=by rw[nameR1,nameR2];decide
 have hs:srt [nameR 1,nameR 2,nameR 1,nameR 2,nameR 1,nameR 2,nameR 1,nameR 2,nameR 1,nameR 2]=List.replicate 5 (nameR 1)++List.replicate 5 (nameR 2):=by
  refine List.Perm.eq_of_pairwise (le:=fun x y=>decide (x<=y)=true) (fun(a b:List UInt8) _ _ h1 h2=>List.le_antisymm (of_decide_eq_true h1) (of_decide_eq_true h2)) ?_ ?_ ((List.mergeSort_perm _ _).trans hp)
  ·exact List.pairwise_mergeSort (le:=fun(x y:List UInt8)=>decide (x<=y)) (fun(a b c:List UInt8) h1 h2=>decide_eq_true (List.le_trans (of_decide_eq_true h1) (of_decide_eq_true h2))) (fun(a b:List UInt8)=>by rcases List.le_total a b with h | h <;> simp[h]) _
  ·rw[nameR1,nameR2];decide
 rw[hs,nameR1,nameR2]
 decide
def xtF (a:UInt8):UInt8:=if 128<=a.toNat then UInt8.ofNat (a.toNat*2)^^^29 else UInt8.ofNat (a.toNat*2)
def mulA (a:UInt8):Nat->UInt8
 | 0=>a
 | i+1=>xtF (mulA a i)
def mulP (a b:UInt8):Nat->UInt8
 | 0=>0
 | i+1=>if b.toNat/2^i%2=1 then mulP a b i^^^mulA a i else mulP a b i
def mulS (a b:UInt8):UInt8:=mulP a b 8
def invT (a:UInt8):Nat->UInt8×UInt8
 | 0=>(a,1)
 | i+1=>(mulS (invT a i).1 (invT a i).1,mulS (invT a i).2 (mulS (invT a i).1 (invT a i).1))
def invS (a:UInt8):UInt8:=(invT a 7).2
def evalT (l:List UInt8)(x:UInt8):Nat->UInt8
 | 0=>0
 | i+1=>mulS (evalT l x i) x^^^l.getD (l.length-1-i) 0
def evalS (l:List UInt8)(x:UInt8):UInt8:=evalT l x l.length
def aboT (xs:List UInt8)(x y:UInt8)(i:Nat):Nat->UInt8
 | 0=>y
 | j+1=>if j=i then aboT xs x y i j else mulS (aboT xs x y i j) (x^^^xs.getD j 0)
def belT (xs:List UInt8)(i:Nat):Nat->UInt8
 | 0=>1
 | j+1=>if j=i then belT xs i j else mulS (belT xs i j) (xs.getD i 0^^^xs.getD j 0)
def atT (xs ys:List UInt8)(x:UInt8):Nat->UInt8
 | 0=>0
 | i+1=>atT xs ys x i^^^mulS (aboT xs x (ys.getD i 0) i xs.length) (invS (belT xs i xs.length))
def metF (l:List UInt8)(i:Nat)(q:Nat):Bool:=(l.take i).any fun b=>b.toNat==q
theorem metF_step {l:List UInt8}{i:Nat}{x:UInt8}(hx:l[i]?=some x):(fun q=>if q=x.toNat then true else metF l i q)=metF l (i+1):=by
 funext q
 obtain⟨hi,he⟩:=List.getElem?_eq_some_iff.1 hx
 unfold metF
 rw[List.take_succ_eq_append_getElem hi,he,List.any_append]
 by_cases h:q=x.toNat
 ·rw[if_pos h];simp[h]
 ·rw[if_neg h]
  have h2:(x.toNat==q)=false:=beq_eq_false_iff_ne.2 fun e=>h e.symm
  rw[List.any_cons,h2,List.any_nil,Bool.false_or,Bool.or_false]
theorem metF_mem {l:List UInt8}{i:Nat}{x:UInt8}:metF l i x.toNat=true ↔ x∈l.take i:=by
 unfold metF
 rw[List.any_eq_true]
 constructor
 ·rintro⟨b,hb,he⟩
  have:b=x:=UInt8.toNat_inj.1 (by simpa using he)
  rw[←this];exact hb
 ·intro h;exact⟨x,h,by simp⟩
theorem nodup_take_succ {l:List UInt8}{i:Nat}{x:UInt8}(hx:l[i]?=some x)(h:(l.take i).Nodup):metF l i x.toNat=false->(l.take (i+1)).Nodup:=by
 intro hm
 obtain⟨hi,he⟩:=List.getElem?_eq_some_iff.1 hx
 have hn:x∉l.take i:=fun hc=>by rw[metF_mem.2 hc] at hm;cases hm
 rw[List.take_succ_eq_append_getElem hi,he,List.nodup_append]
 refine⟨h,by simp,fun a ha b hb=>?_⟩
 rw[List.mem_singleton] at hb
 subst hb
 exact fun e=>hn (e▸ha)
theorem not_nodup_at {l:List UInt8}{i:Nat}{x:UInt8}(hx:l[i]?=some x)(hm:metF l i x.toNat=true):¬ l.Nodup:=by
 intro h
 obtain⟨hi,he⟩:=List.getElem?_eq_some_iff.1 hx
 obtain⟨j,hj⟩:=List.mem_iff_getElem?.1 (metF_mem.1 hm)
 have hji:j<i:=by have:=(List.getElem?_eq_some_iff.1 hj).1;rw[List.length_take] at this;omega
 rw[List.getElem?_take_of_lt hji] at hj
 obtain⟨hj2,hje⟩:=List.getElem?_eq_some_iff.1 hj
 have:=List.pairwise_iff_getElem.1 h j i hj2 hi hji
 exact this (by rw[hje,he])

theorem shr_nat (b i:Nat):(b:Int)/2^((i:Int)).toNat=((b/2^i:Nat):Int):=by
 rw[Int.toNat_natCast,Int.natCast_ediv,Int.natCast_pow];rfl
theorem and1 (n:Nat)(h:n<256):bits .and .u8 (n:Int) 1=((n%2:Nat):Int):=by
 have:∀ m:Nat,m<256->bits .and .u8 (m:Int) 1=((m%2:Nat):Int):=by decide +kernel
 exact this n h
theorem and128 (n:Nat)(h:n<256):bits .and .u8 (n:Int) 128=((n/128*128:Nat):Int):=by
 have:∀ m:Nat,m<256->bits .and .u8 (m:Int) 128=((m/128*128:Nat):Int):=by decide +kernel
 exact this n h
theorem fmul_any (a b:UInt8)(w:World):Calls Tryz.prog 191 #[.int .u8 (a.toNat:Int),.int .u8 (b.toNat:Int)] w fun e w'=>e = .returned (.int .u8 ((mulS a b).toNat:Int))/\Below w.heap.size w w':=by
 refine walk_enter Tryz.func191 rfl rfl rfl fun a0 F0=>?_
 have M0:=Mem.new w
 refine wsl ?_
 refine sr (v:=(.int .u8 0)) F0 (run_as rfl rfl) rfl rfl rfl fun a1 F1=>?_
 refine sn ?_
 clear F0
 refine wsl ?_
 refine sr (v:=(.int .u8 0)) F1 (run_as rfl rfl) rfl rfl rfl fun a2 F2=>?_
 refine sn ?_
 clear F1
 refine wp_seq ?_
 refine wsl ?_
 refine sr (v:=(.int .i64 0)) F2 (run_mv rfl rfl) rfl rfl rfl fun a3 F3=>?_
 refine sn ?_
 clear F2
 refine wp_block ?_
 refine wkLoop (fun m a0 w2=>∃ i:Nat,i<=8/\m=8-i/\Fr a0 29 [(0,.int .u8 ((mulA a i).toNat:Int)),(1,.int .u8 (b.toNat:Int)),(5,.int .u8 ((mulP a b i).toNat:Int)),(8,.int .i64 (i:Int))]/\Mem w [] w2) 8 ⟨0,Nat.zero_le _,rfl,F3.sub ⟨rfl,rfl,rfl,rfl,trivial⟩,M0⟩ ?_
 rintro m a0 w1 ⟨i,hi,rfl,F0,M0⟩
 have hb:=b.toNat_lt
 obtain⟨A,hA⟩:∃ A,mulA a i=A:=⟨_,rfl⟩
 obtain⟨Q,hQ⟩:∃ Q,mulP a b i=Q:=⟨_,rfl⟩
 have hAl:=A.toNat_lt
 have hA1:mulA a (i+1)=xtF A:=by rw[mulA,hA]
 have hd:b.toNat/2^i<256:=Nat.lt_of_le_of_lt (Nat.div_le_self _ _) hb
 rw[hA,hQ] at F0
 by_cases h1:i<8
 ·have hsh:(UInt8.ofNat (A.toNat*2)).toNat=A.toNat*2%256:=UInt8.toNat_ofNat'
  by_cases h2:b.toNat/2^i%2=1
  ·have hP:mulP a b (i+1)=Q^^^A:=by rw[mulP,hA,hQ,if_pos h2]
   by_cases h3:128<=A.toNat
   ·have hx:xtF A=UInt8.ofNat (A.toNat*2)^^^29:=by rw[xtF,if_pos h3]
    refine wsl ?_
    refine sr (v:=(.bool true)) F0 (run_lss rfl (F0.ev 8 rfl) rfl (decide_eq_true (by omega))) rfl rfl rfl fun a1 F1=>?_
    refine sn ?_
    clear F0
    refine wp_seq ?_
    refine cts (F1.ev 9 rfl) ?_
    refine wp_seq ?_
    refine wp_block ?_
    refine wsl ?_
    refine mvS F1 rfl rfl rfl rfl rfl fun a2 F2=>?_
    refine asS F2 rfl rfl rfl rfl rfl fun a3 F3=>?_
    refine sn ?_
    clear F1 F2
    refine wp_seq ?_
    refine wsl ?_
    refine mvS F3 rfl rfl rfl rfl rfl fun a4 F4=>?_
    refine mvS F4 rfl rfl rfl rfl rfl fun a5 F5=>?_
    refine sr (v:=(.int .u8 ((b.toNat/2^i:Nat):Int))) F5 (run_shr (r:=((b.toNat/2^i:Nat):Int)) rfl (F5.ev 11 rfl) (F5.ev 12 rfl) (by omega) (by first | decide | (simp[IntKind.bits];omega)) (shr_nat _ _)) rfl rfl rfl fun a6 F6=>?_
    refine sr (v:=(.int .u8 ((b.toNat/2^i%2:Nat):Int))) F6 (run_and (r:=((b.toNat/2^i%2:Nat):Int)) rfl (F6.ev 13 rfl) rfl (and1 _ hd)) rfl rfl rfl fun a7 F7=>?_
    refine sr (v:=(.bool true)) F7 (run_eqi rfl (F7.ev 14 rfl) rfl (beq_iff_eq.2 (by omega))) rfl rfl rfl fun a8 F8=>?_
    refine sn ?_
    clear F3 F4 F5 F6 F7
    refine wp_cond_true (F8.ev 15 rfl) ?_
    refine wp_region_lit ?_
    refine mvS F8 rfl rfl rfl rfl rfl fun a9 F9=>?_
    refine mvS F9 rfl rfl rfl rfl rfl fun a10 F10=>?_
    refine sr (v:=(.int .u8 ((Q^^^A).toNat:Int))) F10 (run_xor8 rfl (F10.ev 16 rfl) (F10.ev 17 rfl)) rfl rfl rfl fun a11 F11=>?_
    refine asS F11 rfl rfl rfl rfl rfl fun a12 F12=>?_
    refine sn ?_
    clear F8 F9 F10 F11
    refine wsl ?_
    refine mvS F12 rfl rfl rfl rfl rfl fun a13 F13=>?_
    refine sr (v:=(.int .u8 ((A.toNat/128*128:Nat):Int))) F13 (run_and (r:=((A.toNat/128*128:Nat):Int)) rfl (F13.ev 19 rfl) rfl (and128 _ hAl)) rfl rfl rfl fun a14 F14=>?_
    refine sr (v:=(.bool true)) F14 (run_nei rfl (F14.ev 20 rfl) rfl (bne_iff_ne.2 (by omega))) rfl rfl rfl fun a15 F15=>?_
    refine asS F15 rfl rfl rfl rfl rfl fun a16 F16=>?_
    refine sn ?_
    clear F12 F13 F14 F15
    refine wsl ?_
    refine mvS F16 rfl rfl rfl rfl rfl fun a17 F17=>?_
    refine sr (v:=(.int .u8 ((UInt8.ofNat (A.toNat*2)).toNat:Int))) F17 (run_shl (r:=((UInt8.ofNat (A.toNat*2)).toNat:Int)) rfl (F17.ev 22 rfl) rfl (by omega) (by first | decide | (simp[IntKind.bits];omega)) (by rw[hsh,IntKind.wrap_u8];simp)) rfl rfl rfl fun a18 F18=>?_
    refine asS F18 rfl rfl rfl rfl rfl fun a19 F19=>?_
    refine sn ?_
    clear F16 F17 F18
    refine wsl ?_
    refine mvS F19 rfl rfl rfl rfl rfl fun a20 F20=>?_
    refine sn ?_
    clear F19
    refine wp_cond_true (F20.ev 24 rfl) ?_
    refine wp_region_lit ?_
    refine mvS F20 rfl rfl rfl rfl rfl fun a21 F21=>?_
    refine sr (v:=(.int .u8 (((UInt8.ofNat (A.toNat*2))^^^29).toNat:Int))) F21 (run_xor8 rfl (F21.ev 25 rfl) rfl) rfl rfl rfl fun a22 F22=>?_
    refine asS F22 rfl rfl rfl rfl rfl fun a23 F23=>?_
    refine sqEnd ?_
    clear F20 F21 F22
    refine bkEnd ?_
    refine nx ?_
    refine wp_region_lit ?_
    refine sr F23 (run_add (r:=((i+1:Nat):Int)) rfl (F23.ev 8 rfl) rfl (by rw[IntKind.wrap_i64];omega)) rfl rfl rfl fun a24 F24=>?_
    refine mvS F24 rfl rfl rfl rfl rfl fun a25 F25=>?_
    refine sn ?_
    clear F23 F24
    exact⟨_,by omega,i+1,by omega,rfl,by rw[hA1,hx,hP];exact F25.sub ⟨rfl,rfl,rfl,rfl,trivial⟩,M0⟩
   ·have hx:xtF A=UInt8.ofNat (A.toNat*2):=by rw[xtF,if_neg h3]
    refine wsl ?_
    refine sr (v:=(.bool true)) F0 (run_lss rfl (F0.ev 8 rfl) rfl (decide_eq_true (by omega))) rfl rfl rfl fun a1 F1=>?_
    refine sn ?_
    clear F0
    refine wp_seq ?_
    refine cts (F1.ev 9 rfl) ?_
    refine wp_seq ?_
    refine wp_block ?_
    refine wsl ?_
    refine mvS F1 rfl rfl rfl rfl rfl fun a2 F2=>?_
    refine asS F2 rfl rfl rfl rfl rfl fun a3 F3=>?_
    refine sn ?_
    clear F1 F2
    refine wp_seq ?_
    refine wsl ?_
    refine mvS F3 rfl rfl rfl rfl rfl fun a4 F4=>?_
    refine mvS F4 rfl rfl rfl rfl rfl fun a5 F5=>?_
    refine sr (v:=(.int .u8 ((b.toNat/2^i:Nat):Int))) F5 (run_shr (r:=((b.toNat/2^i:Nat):Int)) rfl (F5.ev 11 rfl) (F5.ev 12 rfl) (by omega) (by first | decide | (simp[IntKind.bits];omega)) (shr_nat _ _)) rfl rfl rfl fun a6 F6=>?_
    refine sr (v:=(.int .u8 ((b.toNat/2^i%2:Nat):Int))) F6 (run_and (r:=((b.toNat/2^i%2:Nat):Int)) rfl (F6.ev 13 rfl) rfl (and1 _ hd)) rfl rfl rfl fun a7 F7=>?_
    refine sr (v:=(.bool true)) F7 (run_eqi rfl (F7.ev 14 rfl) rfl (beq_iff_eq.2 (by omega))) rfl rfl rfl fun a8 F8=>?_
    refine sn ?_
    clear F3 F4 F5 F6 F7
    refine wp_cond_true (F8.ev 15 rfl) ?_
    refine wp_region_lit ?_
    refine mvS F8 rfl rfl rfl rfl rfl fun a9 F9=>?_
    refine mvS F9 rfl rfl rfl rfl rfl fun a10 F10=>?_
    refine sr (v:=(.int .u8 ((Q^^^A).toNat:Int))) F10 (run_xor8 rfl (F10.ev 16 rfl) (F10.ev 17 rfl)) rfl rfl rfl fun a11 F11=>?_
    refine asS F11 rfl rfl rfl rfl rfl fun a12 F12=>?_
    refine sn ?_
    clear F8 F9 F10 F11
    refine wsl ?_
    refine mvS F12 rfl rfl rfl rfl rfl fun a13 F13=>?_
    refine sr (v:=(.int .u8 ((A.toNat/128*128:Nat):Int))) F13 (run_and (r:=((A.toNat/128*128:Nat):Int)) rfl (F13.ev 19 rfl) rfl (and128 _ hAl)) rfl rfl rfl fun a14 F14=>?_
    refine sr (v:=(.bool false)) F14 (run_nei rfl (F14.ev 20 rfl) rfl (bne_eq_false_iff_eq.2 (by omega))) rfl rfl rfl fun a15 F15=>?_
    refine asS F15 rfl rfl rfl rfl rfl fun a16 F16=>?_
    refine sn ?_
    clear F12 F13 F14 F15
    refine wsl ?_
    refine mvS F16 rfl rfl rfl rfl rfl fun a17 F17=>?_
    refine sr (v:=(.int .u8 ((UInt8.ofNat (A.toNat*2)).toNat:Int))) F17 (run_shl (r:=((UInt8.ofNat (A.toNat*2)).toNat:Int)) rfl (F17.ev 22 rfl) rfl (by omega) (by first | decide | (simp[IntKind.bits];omega)) (by rw[hsh,IntKind.wrap_u8];simp)) rfl rfl rfl fun a18 F18=>?_
    refine asS F18 rfl rfl rfl rfl rfl fun a19 F19=>?_
    refine sn ?_
    clear F16 F17 F18
    refine wsl ?_
    refine mvS F19 rfl rfl rfl rfl rfl fun a20 F20=>?_
    refine sn ?_
    clear F19
    refine wp_cond_false (F20.ev 24 rfl) ?_
    refine wp_skip ?_
    refine bkEnd ?_
    refine nx ?_
    refine wp_region_lit ?_
    refine sr F20 (run_add (r:=((i+1:Nat):Int)) rfl (F20.ev 8 rfl) rfl (by rw[IntKind.wrap_i64];omega)) rfl rfl rfl fun a21 F21=>?_
    refine mvS F21 rfl rfl rfl rfl rfl fun a22 F22=>?_
    refine sn ?_
    clear F20 F21
    exact⟨_,by omega,i+1,by omega,rfl,by rw[hA1,hx,hP];exact F22.sub ⟨rfl,rfl,rfl,rfl,trivial⟩,M0⟩
  ·have hP:mulP a b (i+1)=Q:=by rw[mulP,hA,hQ,if_neg h2]
   by_cases h3:128<=A.toNat
   ·have hx:xtF A=UInt8.ofNat (A.toNat*2)^^^29:=by rw[xtF,if_pos h3]
    refine wsl ?_
    refine sr (v:=(.bool true)) F0 (run_lss rfl (F0.ev 8 rfl) rfl (decide_eq_true (by omega))) rfl rfl rfl fun a1 F1=>?_
    refine sn ?_
    clear F0
    refine wp_seq ?_
    refine cts (F1.ev 9 rfl) ?_
    refine wp_seq ?_
    refine wp_block ?_
    refine wsl ?_
    refine mvS F1 rfl rfl rfl rfl rfl fun a2 F2=>?_
    refine asS F2 rfl rfl rfl rfl rfl fun a3 F3=>?_
    refine sn ?_
    clear F1 F2
    refine wp_seq ?_
    refine wsl ?_
    refine mvS F3 rfl rfl rfl rfl rfl fun a4 F4=>?_
    refine mvS F4 rfl rfl rfl rfl rfl fun a5 F5=>?_
    refine sr (v:=(.int .u8 ((b.toNat/2^i:Nat):Int))) F5 (run_shr (r:=((b.toNat/2^i:Nat):Int)) rfl (F5.ev 11 rfl) (F5.ev 12 rfl) (by omega) (by first | decide | (simp[IntKind.bits];omega)) (shr_nat _ _)) rfl rfl rfl fun a6 F6=>?_
    refine sr (v:=(.int .u8 ((b.toNat/2^i%2:Nat):Int))) F6 (run_and (r:=((b.toNat/2^i%2:Nat):Int)) rfl (F6.ev 13 rfl) rfl (and1 _ hd)) rfl rfl rfl fun a7 F7=>?_
    refine sr (v:=(.bool false)) F7 (run_eqi rfl (F7.ev 14 rfl) rfl (beq_eq_false_iff_ne.2 (by omega))) rfl rfl rfl fun a8 F8=>?_
    refine sn ?_
    clear F3 F4 F5 F6 F7
    refine cfs (F8.ev 15 rfl) ?_
    refine wsl ?_
    refine mvS F8 rfl rfl rfl rfl rfl fun a9 F9=>?_
    refine sr (v:=(.int .u8 ((A.toNat/128*128:Nat):Int))) F9 (run_and (r:=((A.toNat/128*128:Nat):Int)) rfl (F9.ev 19 rfl) rfl (and128 _ hAl)) rfl rfl rfl fun a10 F10=>?_
    refine sr (v:=(.bool true)) F10 (run_nei rfl (F10.ev 20 rfl) rfl (bne_iff_ne.2 (by omega))) rfl rfl rfl fun a11 F11=>?_
    refine asS F11 rfl rfl rfl rfl rfl fun a12 F12=>?_
    refine sn ?_
    clear F8 F9 F10 F11
    refine wsl ?_
    refine mvS F12 rfl rfl rfl rfl rfl fun a13 F13=>?_
    refine sr (v:=(.int .u8 ((UInt8.ofNat (A.toNat*2)).toNat:Int))) F13 (run_shl (r:=((UInt8.ofNat (A.toNat*2)).toNat:Int)) rfl (F13.ev 22 rfl) rfl (by omega) (by first | decide | (simp[IntKind.bits];omega)) (by rw[hsh,IntKind.wrap_u8];simp)) rfl rfl rfl fun a14 F14=>?_
    refine asS F14 rfl rfl rfl rfl rfl fun a15 F15=>?_
    refine sn ?_
    clear F12 F13 F14
    refine wsl ?_
    refine mvS F15 rfl rfl rfl rfl rfl fun a16 F16=>?_
    refine sn ?_
    clear F15
    refine wp_cond_true (F16.ev 24 rfl) ?_
    refine wp_region_lit ?_
    refine mvS F16 rfl rfl rfl rfl rfl fun a17 F17=>?_
    refine sr (v:=(.int .u8 (((UInt8.ofNat (A.toNat*2))^^^29).toNat:Int))) F17 (run_xor8 rfl (F17.ev 25 rfl) rfl) rfl rfl rfl fun a18 F18=>?_
    refine asS F18 rfl rfl rfl rfl rfl fun a19 F19=>?_
    refine sqEnd ?_
    clear F16 F17 F18
    refine bkEnd ?_
    refine nx ?_
    refine wp_region_lit ?_
    refine sr F19 (run_add (r:=((i+1:Nat):Int)) rfl (F19.ev 8 rfl) rfl (by rw[IntKind.wrap_i64];omega)) rfl rfl rfl fun a20 F20=>?_
    refine mvS F20 rfl rfl rfl rfl rfl fun a21 F21=>?_
    refine sn ?_
    clear F19 F20
    exact⟨_,by omega,i+1,by omega,rfl,by rw[hA1,hx,hP];exact F21.sub ⟨rfl,rfl,rfl,rfl,trivial⟩,M0⟩
   ·have hx:xtF A=UInt8.ofNat (A.toNat*2):=by rw[xtF,if_neg h3]
    refine wsl ?_
    refine sr (v:=(.bool true)) F0 (run_lss rfl (F0.ev 8 rfl) rfl (decide_eq_true (by omega))) rfl rfl rfl fun a1 F1=>?_
    refine sn ?_
    clear F0
    refine wp_seq ?_
    refine cts (F1.ev 9 rfl) ?_
    refine wp_seq ?_
    refine wp_block ?_
    refine wsl ?_
    refine mvS F1 rfl rfl rfl rfl rfl fun a2 F2=>?_
    refine asS F2 rfl rfl rfl rfl rfl fun a3 F3=>?_
    refine sn ?_
    clear F1 F2
    refine wp_seq ?_
    refine wsl ?_
    refine mvS F3 rfl rfl rfl rfl rfl fun a4 F4=>?_
    refine mvS F4 rfl rfl rfl rfl rfl fun a5 F5=>?_
    refine sr (v:=(.int .u8 ((b.toNat/2^i:Nat):Int))) F5 (run_shr (r:=((b.toNat/2^i:Nat):Int)) rfl (F5.ev 11 rfl) (F5.ev 12 rfl) (by omega) (by first | decide | (simp[IntKind.bits];omega)) (shr_nat _ _)) rfl rfl rfl fun a6 F6=>?_
    refine sr (v:=(.int .u8 ((b.toNat/2^i%2:Nat):Int))) F6 (run_and (r:=((b.toNat/2^i%2:Nat):Int)) rfl (F6.ev 13 rfl) rfl (and1 _ hd)) rfl rfl rfl fun a7 F7=>?_
    refine sr (v:=(.bool false)) F7 (run_eqi rfl (F7.ev 14 rfl) rfl (beq_eq_false_iff_ne.2 (by omega))) rfl rfl rfl fun a8 F8=>?_
    refine sn ?_
    clear F3 F4 F5 F6 F7
    refine cfs (F8.ev 15 rfl) ?_
    refine wsl ?_
    refine mvS F8 rfl rfl rfl rfl rfl fun a9 F9=>?_
    refine sr (v:=(.int .u8 ((A.toNat/128*128:Nat):Int))) F9 (run_and (r:=((A.toNat/128*128:Nat):Int)) rfl (F9.ev 19 rfl) rfl (and128 _ hAl)) rfl rfl rfl fun a10 F10=>?_
    refine sr (v:=(.bool false)) F10 (run_nei rfl (F10.ev 20 rfl) rfl (bne_eq_false_iff_eq.2 (by omega))) rfl rfl rfl fun a11 F11=>?_
    refine asS F11 rfl rfl rfl rfl rfl fun a12 F12=>?_
    refine sn ?_
    clear F8 F9 F10 F11
    refine wsl ?_
    refine mvS F12 rfl rfl rfl rfl rfl fun a13 F13=>?_
    refine sr (v:=(.int .u8 ((UInt8.ofNat (A.toNat*2)).toNat:Int))) F13 (run_shl (r:=((UInt8.ofNat (A.toNat*2)).toNat:Int)) rfl (F13.ev 22 rfl) rfl (by omega) (by first | decide | (simp[IntKind.bits];omega)) (by rw[hsh,IntKind.wrap_u8];simp)) rfl rfl rfl fun a14 F14=>?_
    refine asS F14 rfl rfl rfl rfl rfl fun a15 F15=>?_
    refine sn ?_
    clear F12 F13 F14
    refine wsl ?_
    refine mvS F15 rfl rfl rfl rfl rfl fun a16 F16=>?_
    refine sn ?_
    clear F15
    refine wp_cond_false (F16.ev 24 rfl) ?_
    refine wp_skip ?_
    refine bkEnd ?_
    refine nx ?_
    refine wp_region_lit ?_
    refine sr F16 (run_add (r:=((i+1:Nat):Int)) rfl (F16.ev 8 rfl) rfl (by rw[IntKind.wrap_i64];omega)) rfl rfl rfl fun a17 F17=>?_
    refine mvS F17 rfl rfl rfl rfl rfl fun a18 F18=>?_
    refine sn ?_
    clear F16 F17
    exact⟨_,by omega,i+1,by omega,rfl,by rw[hA1,hx,hP];exact F18.sub ⟨rfl,rfl,rfl,rfl,trivial⟩,M0⟩
 ·have hie:i=8:=by omega
  have hres:mulS a b=Q:=by rw[←hQ,hie];rfl
  refine wsl ?_
  refine sr (v:=(.bool false)) F0 (run_lss rfl (F0.ev 8 rfl) rfl (decide_eq_false (by omega))) rfl rfl rfl fun a1 F1=>?_
  refine sn ?_
  clear F0
  refine wp_seq ?_
  refine wp_cond_false (F1.ev 9 rfl) ?_
  refine wp_exit ?_
  refine nxExit ?_
  refine nxExit ?_
  refine bkHere ?_
  refine nx ?_
  refine wsl ?_
  refine mvS F1 rfl rfl rfl rfl rfl fun a2 F2=>?_
  refine asS F2 rfl rfl rfl rfl rfl fun a3 F3=>?_
  refine sn ?_
  clear F1 F2
  refine wp_ret ?_
  exact ret1 F3 rfl rfl ⟨by rw[hres],M0.below⟩
theorem finv_any (a:UInt8)(w:World):Calls Tryz.prog 192 #[.int .u8 (a.toNat:Int)] w fun e w'=>e = .returned (.int .u8 ((invS a).toNat:Int))/\Below w.heap.size w w':=by
 refine walk_enter Tryz.func192 rfl rfl rfl fun a0 F0=>?_
 have M0:=Mem.new w
 refine wsl ?_
 refine sr (v:=(.int .u8 0)) F0 (run_as rfl rfl) rfl rfl rfl fun a1 F1=>?_
 refine sn ?_
 clear F0
 refine wsl ?_
 refine sr (v:=(.int .u8 1)) F1 (run_as rfl rfl) rfl rfl rfl fun a2 F2=>?_
 refine sn ?_
 clear F1
 refine wp_seq ?_
 refine wsl ?_
 refine sr (v:=(.int .i64 0)) F2 (run_mv rfl rfl) rfl rfl rfl fun a3 F3=>?_
 refine sn ?_
 clear F2
 refine wp_block ?_
 refine wkLoop (fun m a0 w2=>∃ i:Nat,i<=7/\m=7-i/\Fr a0 14 [(0,.int .u8 ((invT a i).1.toNat:Int)),(3,.int .u8 ((invT a i).2.toNat:Int)),(4,.int .i64 (i:Int))]/\Mem w [] w2) 7 ⟨0,Nat.zero_le _,rfl,F3.sub ⟨rfl,rfl,rfl,trivial⟩,M0⟩ ?_
 rintro m a0 w1 ⟨i,hi,rfl,F0,M0⟩
 have hst:invT a (i+1)=(mulS (invT a i).1 (invT a i).1,mulS (invT a i).2 (mulS (invT a i).1 (invT a i).1)):=rfl
 obtain⟨A,hA⟩:∃ A,(invT a i).1=A:=⟨_,rfl⟩
 obtain⟨Q,hQ⟩:∃ Q,(invT a i).2=Q:=⟨_,rfl⟩
 rw[hA,hQ] at F0 hst
 by_cases h1:i<7
 ·skip
  refine wsl ?_
  refine sr (v:=(.bool true)) F0 (run_lss rfl (F0.ev 4 rfl) rfl (decide_eq_true (by omega))) rfl rfl rfl fun a1 F1=>?_
  refine sn ?_
  clear F0
  refine wp_seq ?_
  refine cts (F1.ev 5 rfl) ?_
  refine wp_seq ?_
  refine wp_block ?_
  refine wsl ?_
  refine mvS F1 rfl rfl rfl rfl rfl fun a2 F2=>?_
  refine mvS F2 rfl rfl rfl rfl rfl fun a3 F3=>?_
  refine sqC (v:=(.int .u8 ((mulS A A).toNat:Int))) F3 M0 (wantedS rfl) (run_call rfl Tryz.func191 (by kernel_rfl) rfl (mapE2 (F3.ev 6 rfl) (F3.ev 7 rfl))) rfl (by decide) (fmul_any A A w1) fun a4 w2 hb2 F4 M1=>?_
  refine asS F4 rfl rfl rfl rfl rfl fun a5 F5=>?_
  refine sn ?_
  clear F1 F2 F3 F4 M0
  refine wp_region_lit ?_
  refine mvS F5 rfl rfl rfl rfl rfl fun a6 F6=>?_
  refine mvS F6 rfl rfl rfl rfl rfl fun a7 F7=>?_
  refine sqC (v:=(.int .u8 ((mulS Q (mulS A A)).toNat:Int))) F7 M1 (wantedS rfl) (run_call rfl Tryz.func191 (by kernel_rfl) rfl (mapE2 (F7.ev 9 rfl) (F7.ev 10 rfl))) rfl (by decide) (fmul_any Q (mulS A A) w2) fun a8 w3 hb3 F8 M2=>?_
  refine asS F8 rfl rfl rfl rfl rfl fun a9 F9=>?_
  refine sqEnd ?_
  clear F5 F6 F7 F8 M1
  refine bkEnd ?_
  refine nx ?_
  refine wp_region_lit ?_
  refine sr F9 (run_add (r:=((i+1:Nat):Int)) rfl (F9.ev 4 rfl) rfl (by rw[IntKind.wrap_i64];omega)) rfl rfl rfl fun a10 F10=>?_
  refine mvS F10 rfl rfl rfl rfl rfl fun a11 F11=>?_
  refine sn ?_
  clear F9 F10
  exact⟨_,by omega,i+1,by omega,rfl,by rw[hst];exact F11.sub ⟨rfl,rfl,rfl,trivial⟩,M2⟩
 ·have hie:i=7:=by omega
  have hres:invS a=Q:=by rw[←hQ,hie];rfl
  refine wsl ?_
  refine sr (v:=(.bool false)) F0 (run_lss rfl (F0.ev 4 rfl) rfl (decide_eq_false (by omega))) rfl rfl rfl fun a1 F1=>?_
  refine sn ?_
  clear F0
  refine wp_seq ?_
  refine wp_cond_false (F1.ev 5 rfl) ?_
  refine wp_exit ?_
  refine nxExit ?_
  refine nxExit ?_
  refine bkHere ?_
  refine nx ?_
  refine wsl ?_
  refine mvS F1 rfl rfl rfl rfl rfl fun a2 F2=>?_
  refine asS F2 rfl rfl rfl rfl rfl fun a3 F3=>?_
  refine sn ?_
  clear F1 F2
  refine wp_ret ?_
  exact ret1 F3 rfl rfl ⟨by rw[hres],M0.below⟩
theorem feval_any (l:List UInt8)(v:Value)(x:UInt8)(w:World)(hV:Sl w v 1 l.length (l.map cb))(_hl:l.length<2^40):Calls Tryz.prog 140 #[v,.int .u8 (x.toNat:Int)] w fun e w'=>e = .returned (.int .u8 ((evalS l x).toNat:Int))/\Below w.heap.size w w':=by
 refine walk_enter Tryz.func140 rfl rfl rfl fun a0 F0=>?_
 have M0:=Mem.new w
 refine wsl ?_
 refine sr (v:=(.int .u8 0)) F0 (run_as rfl rfl) rfl rfl rfl fun a1 F1=>?_
 refine sn ?_
 clear F0
 refine wsl ?_
 refine sr (v:=(.int .u8 0)) F1 (run_as rfl rfl) rfl rfl rfl fun a2 F2=>?_
 refine sn ?_
 clear F1
 refine wp_seq ?_
 refine wsl ?_
 refine mvS F2 rfl rfl rfl rfl rfl fun a3 F3=>?_
 refine sr F3 (run_lenS rfl (F3.ev 7 rfl) (hV.below M0.below) rfl Tryz.underlying75) rfl rfl rfl fun a4 F4=>?_
 refine sr (v:=(.int .i64 0)) F4 (run_mv rfl rfl) rfl rfl rfl fun a5 F5=>?_
 refine sn ?_
 clear F2 F3 F4
 refine wp_block ?_
 refine wkLoop (fun m a0 w2=>∃ i:Nat,i<=l.length/\m=l.length-i/\Fr a0 26 [(0,v),(1,.int .u8 (x.toNat:Int)),(5,.int .u8 ((evalT l x i).toNat:Int)),(8,.int .i64 (l.length:Int)),(9,.int .i64 (i:Int))]/\Mem w [] w2) l.length ⟨0,Nat.zero_le _,rfl,F5.sub ⟨rfl,rfl,rfl,rfl,rfl,trivial⟩,M0⟩ ?_
 rintro m a0 w1 ⟨i,hi,rfl,F0,M0⟩
 have hst:evalT l x (i+1)=mulS (evalT l x i) x^^^l.getD (l.length-1-i) 0:=rfl
 obtain⟨Q,hQ⟩:∃ Q,evalT l x i=Q:=⟨_,rfl⟩
 rw[hQ] at F0 hst
 by_cases h1:i<l.length
 ·obtain⟨q,hq⟩:∃ q,l[l.length-1-i]?=some q:=⟨_,List.getElem?_eq_getElem (by omega)⟩
  rw[List.getD_eq_getElem?_getD,hq,Option.getD_some] at hst
  refine wsl ?_
  refine sr (v:=(.bool true)) F0 (run_lss rfl (F0.ev 9 rfl) (F0.ev 8 rfl) (decide_eq_true (by omega))) rfl rfl rfl fun a1 F1=>?_
  refine sn ?_
  clear F0
  refine wp_seq ?_
  refine cts (F1.ev 10 rfl) ?_
  refine wp_seq ?_
  refine wp_block ?_
  refine wsl ?_
  refine mvS F1 rfl rfl rfl rfl rfl fun a2 F2=>?_
  refine asS F2 rfl rfl rfl rfl rfl fun a3 F3=>?_
  refine sn ?_
  clear F1 F2
  obtain⟨KL,hKL⟩:∃ KL,KL = [kval (.int .u8 (Q.toNat:Int)),kval (.int .u8 (x.toNat:Int)),kval (.int .u8 ((mulS Q x).toNat:Int)),kval v,kval v,kval (.int .i64 (l.length:Int)),kval (.int .i64 ((l.length-1:Nat):Int)),kval (.int .i64 (i:Int)),kval (.int .i64 ((l.length-1-i:Nat):Int)),kval (slPtr v ((l.length-1-i)*1)),kval (.int .u8 (q.toNat:Int)),kval (.int .u8 (((mulS Q x)^^^q).toNat:Int))]:=⟨_,rfl⟩
  have K0:=getK hKL 0
  have K1:=getK hKL 1
  have K2:=getK hKL 2
  have K3:=getK hKL 3
  have K4:=getK hKL 4
  have K5:=getK hKL 5
  have K6:=getK hKL 6
  have K7:=getK hKL 7
  have K8:=getK hKL 8
  have K9:=getK hKL 9
  have K10:=getK hKL 10
  have K11:=getK hKL 11
  have HKL:KL.length<=12:=by rw[hKL];exact Nat.le_refl _
  clear hKL
  refine wp_region_kdTail2 26 12 (by kernel_rfl) (by kernel_rfl) (by kernel_rfl) (by kernel_rfl) F3.size KL HKL ?_ ?_
  ·refine⟨?_,?_,?_,?_,?_,?_,?_,?_,?_,?_,?_,?_,trivial⟩
   ·exact asksHY rfl fun a W hS hh hd=>giv_run (run_mv rfl (eval_tmp (hh 5 _ rfl (F3.at 5 rfl)))) K0
   ·exact asksHY rfl fun a W hS hh hd=>giv_run (run_mv rfl (eval_tmp (hh 1 _ rfl (F3.at 1 rfl)))) K1
   ·exact asksHY rfl fun a W hS hh hd=>giv_call (run_call rfl Tryz.func191 (by kernel_rfl) rfl (mapE2 (eval_tmp (hd.vl 0 12 (by kernel_rfl) K0)) (eval_tmp (hd.vl 1 13 (by kernel_rfl) K1)))) (fmul_any Q x W) K2
   ·exact asksHY rfl fun a W hS hh hd=>giv_run (run_mv rfl (eval_tmp (hh 0 _ rfl (F3.at 0 rfl)))) K3
   ·exact asksHY rfl fun a W hS hh hd=>giv_run (run_mv rfl (eval_tmp (hh 0 _ rfl (F3.at 0 rfl)))) K4
   ·exact asksHY rfl fun a W hS hh hd=>giv_run (run_lenS rfl (eval_tmp (hd.vl 4 16 (by kernel_rfl) K4)) (hV.below (M0.grow hS).below) rfl Tryz.underlying75) K5
   ·exact asksHY rfl fun a W hS hh hd=>giv_run (run_sub (r:=((l.length-1:Nat):Int)) rfl (eval_tmp (hd.vl 5 17 (by kernel_rfl) K5)) rfl (by rw[IntKind.wrap_i64];omega)) K6
   ·exact asksHY rfl fun a W hS hh hd=>giv_run (run_mv rfl (eval_tmp (hh 6 _ rfl (F3.at 6 rfl)))) K7
   ·exact asksHY rfl fun a W hS hh hd=>giv_run (run_sub (r:=((l.length-1-i:Nat):Int)) rfl (eval_tmp (hd.vl 6 18 (by kernel_rfl) K6)) (eval_tmp (hd.vl 7 19 (by kernel_rfl) K7)) (by rw[IntKind.wrap_i64];omega)) K8
   ·exact asksHY rfl fun a W hS hh hd=>giv_run (run_atP (i:=(l.length-1-i)) rfl (eval_tmp (hd.vl 3 15 (by kernel_rfl) K3)) (eval_tmp (hd.vl 8 20 (by kernel_rfl) K8)) rfl (hV.below (M0.grow hS).below) (by omega) elU8.un (by kernel_rfl)) K9
   ·exact asksHY rfl fun a W hS hh hd=>giv_run (run_ldP (u:=cb q) rfl (eval_tmp (hd.vl 9 21 (by kernel_rfl) K9)) (hV.below (M0.grow hS).below) (map_atB hq) (by kernel_rfl)) K10
   ·exact asksHY rfl fun a W hS hh hd=>giv_run (run_xor8 rfl (eval_tmp (hd.vl 2 14 (by kernel_rfl) K2)) (eval_tmp (hd.vl 10 22 (by kernel_rfl) K10))) K11
  ·intro a4 w2 hb2 hK
   have e0:=hK.hvl 0 12 rfl (by kernel_rfl) K0
   have e1:=hK.hvl 1 13 rfl (by kernel_rfl) K1
   have e2:=hK.hvl 2 14 rfl (by kernel_rfl) K2
   have e3:=hK.hvl 3 15 rfl (by kernel_rfl) K3
   have e4:=hK.hvl 4 16 rfl (by kernel_rfl) K4
   have e5:=hK.hvl 5 17 rfl (by kernel_rfl) K5
   have e6:=hK.hvl 6 18 rfl (by kernel_rfl) K6
   have e7:=hK.hvl 7 19 rfl (by kernel_rfl) K7
   have e8:=hK.hvl 8 20 rfl (by kernel_rfl) K8
   have e9:=hK.hvl 9 21 rfl (by kernel_rfl) K9
   have e10:=hK.hvl 10 22 rfl (by kernel_rfl) K10
   have e11:=hK.hvl 11 23 rfl (by kernel_rfl) K11
   have F4:Fr a4 26 [(0,v),(1,(.int .u8 (x.toNat:Int))),(5,(.int .u8 (Q.toNat:Int))),(6,(.int .i64 (i:Int))),(8,(.int .i64 (l.length:Int))),(9,(.int .i64 (i:Int))),(10,(.bool true)),(11,(.int .i64 (i:Int))),(23,(.int .u8 (((mulS Q x)^^^q).toNat:Int)))]:=(hK.hfr F3 [_,_,_,_,_,_,_,_,_,_,_,_] ⟨e0,e1,e2,e3,e4,e5,e6,e7,e8,e9,e10,e11,trivial⟩).sub ⟨rfl,rfl,rfl,rfl,rfl,rfl,rfl,rfl,rfl,trivial⟩
   have M1:=M0.grow hb2
   clear hK K0 e0 K1 e1 K2 e2 K3 e3 K4 e4 K5 e5 K6 e6 K7 e7 K8 e8 K9 e9 K10 e10 K11 e11 HKL
   simp only[List.drop_succ_cons,List.drop_zero]
   refine asS F4 rfl rfl rfl rfl rfl fun a5 F5=>?_
   refine sqEnd ?_
   clear F3 F4 M0
   refine bkEnd ?_
   refine nx ?_
   refine wp_region_lit ?_
   refine sr F5 (run_add (r:=((i+1:Nat):Int)) rfl (F5.ev 9 rfl) rfl (by rw[IntKind.wrap_i64];omega)) rfl rfl rfl fun a6 F6=>?_
   refine mvS F6 rfl rfl rfl rfl rfl fun a7 F7=>?_
   refine sn ?_
   clear F5 F6
   exact⟨_,by omega,i+1,by omega,rfl,by rw[hst];exact F7.sub ⟨rfl,rfl,rfl,rfl,rfl,trivial⟩,M1⟩
 ·have hie:i=l.length:=by omega
  have hres:evalS l x=Q:=by rw[←hQ,hie];rfl
  refine wsl ?_
  refine sr (v:=(.bool false)) F0 (run_lss rfl (F0.ev 9 rfl) (F0.ev 8 rfl) (decide_eq_false (by omega))) rfl rfl rfl fun a1 F1=>?_
  refine sn ?_
  clear F0
  refine wp_seq ?_
  refine wp_cond_false (F1.ev 10 rfl) ?_
  refine wp_exit ?_
  refine nxExit ?_
  refine nxExit ?_
  refine bkHere ?_
  refine nx ?_
  refine wsl ?_
  refine mvS F1 rfl rfl rfl rfl rfl fun a2 F2=>?_
  refine asS F2 rfl rfl rfl rfl rfl fun a3 F3=>?_
  refine sn ?_
  clear F1 F2
  refine wp_ret ?_
  exact ret1 F3 rfl rfl ⟨by rw[hres],M0.below⟩
section
variable {D:List Deferred}
section
variable {a:Act}{o:Oper}{w w0:World}{n s:Nat}{L:List (Nat×Value)}{v:Value}{ops:Array Oper}{rest:List Oper}{Q:Exit->Act->World->Prop}{M:List (Nat×(Obj->Prop))}{x y z:Operand}{g m i:Nat}
theorem run_idxA {k:IntKind}{p:Int}{t e:TypeId}{cnt:Nat}(ho:o.op = .indexAddr t x y)(hx:a.eval x = .pointer (some ⟨g,0,none⟩))(hy:a.eval y = .int k p)(hp:p=(i:Int))(hi:i<cnt)(hu:Tryz.prog.underlying t=some (.array cnt e))(hz:(sizeOf e).run Tryz.prog w = .ok 1 w):(execOp a.eval o).run Tryz.prog w = .ok (.value (.pointer (some ⟨g,i,none⟩))) w:=by
 subst hp
 obtain⟨h1,h2⟩:=arrLen_of hu
 have ht:Tryz.prog.underlying t=some (.array (Tryz.prog.arrayLen t) (Tryz.prog.elem t)):=by rw[h1,h2];exact hu
 have hz':(sizeOf (Tryz.prog.elem t)).run Tryz.prog w = .ok 1 w:=by rw[h2];exact hz
 have hr:=run_indexAt_array (P:=Tryz.prog) w t ⟨g,0,none⟩ k (i:Int) ht
 unfold execOp
 simp only[ho,hx,hy]
 rw[Sem.run_bind,hr]
 simp[hz',h1,hi,Addr.add]
 intro h;exact h.symm
end
end
section
variable {D:List Deferred}
def boolsF (f:Nat->Bool):Array Value:=((List.range 256).map fun i=>Value.bool (f i)).toArray
theorem boolsF_at {f:Nat->Bool}{n:Nat}{b:Bool}(h:n<256)(hb:f n=b):(boolsF f)[n]?=some (.bool b):=by
 subst hb
 simp[boolsF,h]
section
variable {a:Act}{o:Oper}{w w0:World}{n s:Nat}{L:List (Nat×Value)}{v:Value}{ops:Array Oper}{rest:List Oper}{Q:Exit->Act->World->Prop}{M:List (Nat×(Obj->Prop))}{x y z:Operand}{g i:Nat}
theorem sqSetBool {j:Nat}{f:Nat->Bool}{b:Bool}{t:TypeId}(hF:FrD D a n L)(hM:Mem w0 M w)(hgd:o.guard=none)(ho:o.op = .store 4 x y)(hd:o.dst=none)(hx:a.eval x = .pointer (some ⟨g,i,none⟩))(hy:a.eval y = .bool b)
  (e:M[j]?=some (g,isB t (boolsF f))) (hi:i<256) (h:∀ a2 w2,w.grownBy w2 (some g)->FrD D a2 n L->Mem w0 (M.set j (g,isB t (boolsF (fun q=>if q=i then b else f q)))) w2->wpList Tryz.prog ops Q rest a2 w2):wpList Tryz.prog ops Q (o::rest) a w:=by
 have hB:=hM.at j e
 have hc:w.cell? ⟨g,i,none⟩=some (.bool (f i)):=by
  rw[hB.cell]
  exact boolsF_at hi rfl
 have hf:=hB.frozen i
 have hg:=grown_setCell w g i (.bool b)
 refine sqN hF (wantedS hgd) (w2:=w.setCell ⟨g,i,none⟩ (.bool b)) ?_ hd fun a2 hF2=>h a2 _ hg hF2 (hM.upd j e hg ⟨_,?_,rfl⟩)
 ·unfold execOp
  simp only[ho,hx,hy]
  simp[go_sem,hc,hf]
 ·unfold Blk at hB
  have hset:(boolsF f).setIfInBounds i (.bool b)=boolsF (fun q=>if q=i then b else f q):=by
   apply Array.ext_getElem?
   intro q
   simp only[boolsF,Array.getElem?_setIfInBounds,List.getElem?_toArray,List.size_toArray,List.getElem?_map,List.length_map,List.length_range]
   by_cases hq:i=q
   ·subst hq;simp[hi]
   ·rw[if_neg hq]
    by_cases hq2:q<256
    ·have hqi:¬ q=i:=fun h=>hq h.symm
     simp[hq2,hqi]
    ·simp[hq2]
  simp[World.setCell,Array.getElem?_modify,hB,←hset]
end
end
end Go.Proofs.YtdjholkjkbihmaaGreatDoor
