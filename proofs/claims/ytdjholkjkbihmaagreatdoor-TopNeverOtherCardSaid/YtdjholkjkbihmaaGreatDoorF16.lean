/- Laws and walks of TopNeverOther. -/
import Derived.Lib.ItoaLen
import Derived.Test.YtdjholkjkbihmaaGreatDoorF15
namespace Go.Proofs.YtdjholkjkbihmaaGreatDoor
open Go.RowKit
set_option maxRecDepth 100000
set_option maxHeartbeats 4000000
abbrev ftL (l:List Fit):List Value:=l.flatMap fitC
theorem fitC_len (f:Fit):(fitC f).length=4:=rfl
theorem fits_get {l:List Fit}{i:Nat}(h:i<l.length)(j:Nat){u:Value}(hu:(fitC (l.getD i noFit))[j]?=some u):(ftL l)[i*4+j]?=some u:=flat_at fitC_len (fits_at h) j hu
theorem fit_nat {f:Fit}(h:FitOk f):((f.i.toNat:Nat):Int)=f.i:=by have:=h.i0;omega
theorem f3_no1 {a b c:Fit}(h:(!oneF a b || !oneF a c)=true):f3 a b c=none:=by
 unfold f3
 rw[if_neg]
 rintro⟨h1,h2,_⟩
 rw[h1,h2] at h;cases h
theorem f3_no2 {a b c:Fit}(h:sumS (joinB a b c)≠a.sum):f3 a b c=none:=by
 unfold f3
 rw[if_neg]
 rintro⟨_,_,h1⟩
 exact h h1
theorem f3_yes {a b c:Fit}(h:(!oneF a b || !oneF a c)=false)(h2:sumS (joinB a b c)=a.sum):f3 a b c=some (joinB a b c):=by
 unfold f3
 rw[if_pos]
 simp only[Bool.or_eq_false_iff,Bool.not_eq_false'] at h
 exact⟨h.1,h.2,h2⟩
theorem oneF_sz {a b:Fit}(h:oneF a b=true):a.sz=b.sz:=by
 unfold oneF at h
 rw[Bool.and_eq_true] at h
 exact of_decide_eq_true h.1
theorem joinB_len {a b c:Fit}(ha:FitOk a):(joinB a b c).length<=65538:=by
 unfold joinB
 rw[List.length_take,lin3_len]
 have:=ha.d
 have:=rowsP_le ha.z0 ha.z1
 omega
theorem pjoinF {V:Value}{a b c:Fit}{w:World}(hV:Sl w V 2 3 [i6 a.i,sv a.d,i6 b.i,sv b.d,i6 c.i,sv c.d])(ha:FitOk a)(hb:FitOk b)(hc:FitOk c)(h1:oneF a b=true)(h2:oneF a c=true)(hab:a.i<b.i)(hbc:b.i<c.i):RV 168 #[V,i6 a.sz] w (.tuple #[sv (joinB a b c),i6 0]):=by
 have e1:=ha.i0;have e2:=ha.i1;have e3:=hb.i0;have e4:=hb.i1;have e5:=hc.i0;have e6:=hc.i1
 rw[←fit_nat ha,←fit_nat hb,←fit_nat hc] at hV
 have h:=pjoin hV (n:=a.sz) (by omega) (by omega) (by omega) (by omega) (by omega) (by omega) ha.z0 ha.z1 ha.d (by rw[oneF_sz h1];exact hb.d) (by rw[oneF_sz h2];exact hc.d)
 exact h
theorem sjoined {u:Value}{l:List Fit}{w:World}(hV:Sl w u 4 l.length (ftL l))(hF:FitsOk l)(HS:SumAt w):RV 112 #[u] w (jnV (J1 l)):=by
 refine enter Tryz.func112 ?_
 have hl:=hF.n
 refine r2 .as .as (r1 .as (se (rg (p1 .mv (pp (PR.lr) (p1 .mv (en (bl (lo (A:=Nat) (fun i=>i<=l.length/\J1 l=J1 (l.drop i)) (fun i=>l.length-i) (fun i=>[(0,u),(4,.func (.func 167) #[] #[]),(14,u),(15,i6 (l.length:Int)),(16,i6 (i:Int))]) (fun i=>[]) (fun i=>[]) 0 ⟨Nat.zero_le _,rfl⟩ su (fun i hiI=>?_))))))))))
 refine r1 .lss (se (sd (fun hi=>?_) (fun hi=>?_)))
 ·have hi:i<l.length:=by omega
  have hfa:=hF.at hi
  generalize ha:l.getD i noFit=a at hfa
  refine sk (nN (se (bl (rg (p1 .mv (pp (PR.ix (i:=i)) (pp (PR.lq (ys:=fitC a) (fun q u hq=>fits_get hi q (by rw[ha];exact hq))) (aa Tryz.zeroValue213 (fun g0=>p1 .as (sw 0 ?_))))))))))
  refine en (rg (p1 .mv (pp (PR.ad ((i+1:Nat):Int)) (p1 .as (en (bl (lo (A:=Nat) (fun j=>(i<j/\j<=l.length)/\J1 l=(J2 a (l.drop j)).or (J1 (l.drop (i+1)))) (fun j=>l.length-j) (fun j=>[(0,u),(4,.func (.func 167) #[] #[]),(6,pt g0),(7,i6 (j:Int)),(14,u),(15,i6 (l.length:Int)),(16,i6 (i:Int))]) (fun j=>[(g0,isB 213 #[i6 a.sz,sv a.sum,i6 a.i,sv a.d])]) (fun j=>[]) (i+1) ⟨by omega,by rw[hiI.2,J1_step hi,ha]⟩ su (fun j hjI=>?_))))))))
  refine se (rg (p2 .mv .mv (pp (PR.lr) (p1 .lss (en (sd (fun hj=>?_) (fun hj=>?_)))))))
  ·have hj:j<l.length:=by omega
   have hfb:=hF.at hj
   have hab:=hF.lt (i:=i) hjI.1.1 hj
   rw[ha] at hab
   generalize hb:l.getD j noFit=b at hfb hab
   refine sk (nN (se (bl (rg (p1 .mv (pp (PR.ad ((j+1:Nat):Int)) (p1 .as (en (bl (lo (A:=Nat) (fun k=>(j<k/\k<=l.length)/\J1 l=((J3 a b (l.drop k)).or (J2 a (l.drop (j+1)))).or (J1 (l.drop (i+1)))) (fun k=>l.length-k) (fun k=>[(0,u),(4,.func (.func 167) #[] #[]),(6,pt g0),(7,i6 (j:Int)),(8,i6 (k:Int)),(14,u),(15,i6 (l.length:Int)),(16,i6 (i:Int))]) (fun k=>[(g0,isB 213 #[i6 a.sz,sv a.sum,i6 a.i,sv a.d])]) (fun k=>[]) (j+1) ⟨by omega,by rw[hjI.2,J2_step a hj,hb]⟩ su (fun k hkI=>?_)))))))))))
   refine se (rg (p2 .mv .mv (pp (PR.lr) (p1 .lss (en (sd (fun hk=>?_) (fun hk=>?_)))))))
   ·have hk:k<l.length:=by omega
    have hfc:=hF.at hk
    have hbc:=hF.lt (i:=j) hkI.1.1 hk
    rw[hb] at hbc
    generalize hc:l.getD k noFit=c at hfc hbc
    refine sk (nN (se (bl (dr [_,_,_,_,_,_,_,_,.any,.any,.any,.any] [⟨8,9,10,213,#[i6 0,.string ⟨#[]⟩,i6 0,.string ⟨#[]⟩],.val (.agg #[i6 b.sz,sv b.sum,i6 b.i,sv b.d])⟩,⟨9,10,11,213,#[i6 0,.string ⟨#[]⟩,i6 0,.string ⟨#[]⟩],.val (.agg #[i6 c.sz,sv c.sum,i6 c.i,sv c.d])⟩] [] [] [] trivial (fun Bs=>⟨kv (oP (PR.mv ez)),kv (oP (PR.mv ez)),kv (oP (PR.ix (i:=j))),kv (oP (PR.lq (ys:=fitC b) (fun q u hq=>fits_get hj q (by rw[hb];exact hq)))),kv (oP (PR.mv ez)),kv (oP (PR.mv ez)),kv (oP (PR.ix (i:=k))),kv (oP (PR.lq (ys:=fitC c) (fun q u hq=>fits_get hk q (by rw[hc];exact hq)))),kn 0 Tryz.zeroValue213 (V:=.agg #[i6 0,.string ⟨#[]⟩,i6 0,.string ⟨#[]⟩]),kn 1 Tryz.zeroValue213 (V:=.agg #[i6 0,.string ⟨#[]⟩,i6 0,.string ⟨#[]⟩]),kp 0,kp 1,trivial⟩) (fun g1 g2=>?_)))))
    refine se (rg (p3 .mv .lw .lw (clF (fun _ _ h=>jone a b _) ?_)))
    refine p2 .not .mv (gFf (hp:=PR.mv) ?_)
    refine gFf (hp:=PR.lw) ?_
    refine gFf (hp:=PR.lw) ?_
    refine gcN (fun _ _ _ _=>jone a c _) ?_
    refine gFf (hp:=PR.not) ?_
    refine p1 .por (en (cs (fun hno=>?_) (fun hno=>?_)))
    ·have hn:=hkI.2
     rw[J3_step a b hk,hc,f3_no1 hno,Option.none_or] at hn
     exact xt (nX (bH (nN (rg0 (p1 .mv (pp (PR.ad ((k+1:Nat):Int)) (p1 .as (en0 (nN (bk (k+1) ⟨by omega,hn⟩ (by omega) su))))))))))
    ·have ho:oneF a b=true/\oneF a c=true:=by simpa using hno
     refine sk (nN (rg (p1 .fa (pp (PR.ls [i6 a.i,sv a.d]) (p1 .fa (pp (PR.ls [i6 b.i,sv b.d]) (p1 .fa (pp (PR.ls [i6 c.i,sv c.d]) (bs #[i6 a.i,sv a.d,i6 b.i,sv b.d,i6 c.i,sv c.d] (fun g3=>?_))))))))))
     refine p2 .fa .ld (cl (fun _ _ h=>pjoinF (blkSl (h.m.at 0 rfl) rfl) hfa hfb hfc ho.1 ho.2 hab hbc) (p5 .mv .ext .ext .as .as (en (se (r2 .mv .nei (cf (hb:=rfl) (sk (nN ?_))))))))
     have HS1:∀ w2 v,Below w.heap.size w w2->Sl w2 v 1 1 (txs [joinB a b c])->RV 95 #[v] w2 (.agg (cells8 (sumS (joinB a b c)))):=fun w2 v h1 h2=>by
      have q:=HS w2 v [joinB a b c] h1 h2 (by have:=joinB_len (a:=a) (b:=b) (c:=c) hfa;simp only[List.flatten_cons,List.flatten_nil,List.append_nil];omega) (by show 1<2^60;decide)
      rw[List.flatten_cons,List.flatten_nil,List.append_nil] at q
      exact q
     have hDl:=sumS_len (joinB a b c)
     generalize hD:sumS (joinB a b c)=D at *
     have hDs:(cells8 D).size=32:=by simp[cells8,hDl]
     have hD1:=cells8_one D
     refine rg (p1 .mv (bs #[sv (joinB a b c)] (fun g4=>?_)))
     refine cl (fun _ _ h=>HS1 _ _ h.m.below (blkSl (h.m.at 0 rfl) rfl)) (aa Tryz.zeroValue65 (fun g5=>sw 0 ?_))
     refine en (dr [_,_,_,_,_] [] [] [] [79] trivial (fun Bs=>⟨kv (oP (PR.sA)),kv (oP (PR.bB (l:=D))),kv (oP (PR.fa ez)),kv (oP (PR.ld ed (mk' 5))),kv (oP (PR.eqs ed ed)),trivial⟩) ?_)
     refine sd (fun hs=>?_) (fun hs=>?_)
     ·rw[show J1 l=some (joinB a b c) by rw[hkI.2,J3_step a b hk,hc,f3_yes hno (hD.trans hs)];rfl]
      exact r3 .mv .as .as (rt (bR (nR (nR (bR (bR (nR (nR (bR (bR (nR (nR (bR (nR qv))))))))))))))
     ·have hn:=hkI.2
      rw[J3_step a b hk,hc,f3_no2 (by rw[hD];exact hs),Option.none_or] at hn
      exact sk (bN (nN (rg0 (p1 .mv (pp (PR.ad ((k+1:Nat):Int)) (p1 .as (en0 (nN (bk (k+1) ⟨by omega,hn⟩ (by omega) su)))))))))
   ·have hk:k=l.length:=by omega
    have hn:=hkI.2
    rw[hk,List.drop_length] at hn
    rw[show(J3 a b []).or (J2 a (l.drop (j+1)))=J2 a (l.drop (j+1)) from rfl] at hn
    exact xt (nX (nX (bH (bN (nN (rg0 (p1 .mv (pp (PR.ad ((j+1:Nat):Int)) (p1 .as (en0 (nN (bk (j+1) ⟨by omega,hn⟩ (by omega) su))))))))))))
  ·have hj:j=l.length:=by omega
   have hn:=hjI.2
   rw[hj,List.drop_length] at hn
   rw[show(J2 a []).or (J1 (l.drop (i+1)))=J1 (l.drop (i+1)) from rfl] at hn
   exact xt (nX (nX (bH (bN (nN (rg0 (pp (PR.ad ((i+1:Nat):Int)) (p1 .mv (en0 (nN (bk (i+1) ⟨by omega,hn⟩ (by omega) su)))))))))))
 ·have hi:i=l.length:=by omega
  rw[show J1 l=none by rw[hiI.2,hi,List.drop_length];rfl]
  exact xt (nX (nX (bH (nN (r2 .as .as (rt qv))))))
section
attribute [local irreducible] sumS
theorem texts_le :∀ (f:Nat) (b:List UInt8) (l:List (List UInt8)),b.length<=f->textsS b = .ok l->∀ s∈l,s.length<=b.length
 | f,[],l,_,h=>by
  rw[textsS_nil] at h
  injection h with h;subst h;simp
 | 0,c::r,l,hf,_=>by simp at hf
 | f+1,c::r,l,hf,h=>by
  rw[textsS_step (by simp)] at h
  cases hl:lenP 0 (c::r) with
  | error e=>rw[hl] at h;cases h
  | ok p=>
   obtain⟨n,x⟩:=p
   rw[hl] at h
   simp only at h
   obtain⟨_,h2,_⟩:=lenP_drop hl
   split at h
   ·cases h
   ·cases ht:textsS (x.drop n) with
    | error e=>rw[ht] at h;cases h
    | ok l2=>
     rw[ht] at h
     injection h with h
     subst h
     intro s hs
     rcases List.mem_cons.1 hs with rfl | hs
     ·rw[List.length_take];omega
     ·have:=texts_le f (x.drop n) l2 (by rw[List.length_drop];omega) ht s hs
      rw[List.length_drop] at this;omega
theorem txL_le (b:List UInt8)(k:Nat):((txL b).getD k []).length<=b.length:=by
 unfold txL
 cases h:textsS b with
 | error e=>simp
 | ok l=>
  simp only
  rw[List.getD_eq_getElem?_getD]
  cases hk:l[k]? with
  | none=>simp
  | some s=>exact texts_le _ b l (Nat.le_refl _) h s (List.mem_of_getElem? hk)
theorem fitS_ok {nm b:List UInt8}{i:Nat}{f:Fit}(h:fitS nm i b=some f)(hi:i<5):FitOk f/\f.i=((i+1:Nat):Int):=by
 unfold fitS at h
 split at h
 ·unfold fitL at h
  split at h
  ·rename_i h1
   split at h
   ·rename_i h2
    injection h with h
    subst h
    exact⟨⟨h1.2.1,h1.2.2.1,by show(1:Int)<=((i+1:Nat):Int);omega,by show((i+1:Nat):Int)<=5;omega,h2.2.2,h2.1⟩,rfl⟩
   ·cases h
  ·cases h
 ·cases h
def fitsN (nm:List UInt8)(dd:Nat->List UInt8)(ee:Nat->Int):Nat->List Fit
 | 0=>[]
 | i+1=>fitsN nm dd ee i++(if ee i=0 then(fitS nm i (dd i)).toList else [])
section
variable {nm:List UInt8}{dd:Nat->List UInt8}{ee:Nat->Int}{i:Nat}
theorem fitsN_no (h:ee i≠0):fitsN nm dd ee (i+1)=fitsN nm dd ee i:=by rw[fitsN,if_neg h,List.append_nil]
theorem fitsN_none (h:ee i=0)(h2:(fitS nm i (dd i)).isSome=false):fitsN nm dd ee (i+1)=fitsN nm dd ee i:=by
 rw[fitsN,if_pos h]
 cases hf:fitS nm i (dd i) with
 | none=>simp
 | some f=>rw[hf] at h2;cases h2
theorem fitsN_some (h:ee i=0)(h2:(fitS nm i (dd i)).isSome=true):fitsN nm dd ee (i+1)=fitsN nm dd ee i ++ [(fitS nm i (dd i)).getD noFit]:=by
 rw[fitsN,if_pos h]
 cases hf:fitS nm i (dd i) with
 | none=>rw[hf] at h2;cases h2
 | some f=>simp
end
theorem fitsN_mem {nm:List UInt8}{dd:Nat->List UInt8}{ee:Nat->Int}:∀ {n:Nat},n<=5->(∀ f∈fitsN nm dd ee n,FitOk f/\f.i<=(n:Int))/\(fitsN nm dd ee n).Pairwise (fun a b=>a.i<b.i)/\(fitsN nm dd ee n).length<=n
 | 0,_=>⟨by simp[fitsN],.nil,Nat.le_refl _⟩
 | n+1,hn=>by
  obtain⟨h1,h2,h3⟩:=fitsN_mem (nm:=nm) (dd:=dd) (ee:=ee) (n:=n) (by omega)
  have up:∀ f∈fitsN nm dd ee n,FitOk f/\f.i<=((n+1:Nat):Int):=fun f hf=>⟨(h1 f hf).1,by have:=(h1 f hf).2;omega⟩
  by_cases he:ee n=0
  ·cases hs:fitS nm n (dd n) with
   | none=>rw[fitsN_none he (by rw[hs];rfl)];exact⟨up,h2,by omega⟩
   | some f=>
    obtain⟨q1,q2⟩:=fitS_ok hs (by omega)
    rw[fitsN_some he (by rw[hs];rfl),hs]
    refine⟨fun g hg=>?_,List.pairwise_append.2 ⟨h2,List.pairwise_singleton _ _,fun a ha b hb=>?_⟩,by rw[List.length_append];simp;omega⟩
    ·rcases List.mem_append.1 hg with hg | hg
     ·exact up g hg
     ·rw[List.mem_singleton.1 hg];exact⟨q1,by show f.i<=_;omega⟩
    ·rw[List.mem_singleton.1 hb]
     have:=(h1 a ha).2
     show a.i<f.i;omega
  ·rw[fitsN_no he];exact⟨up,h2,by omega⟩
theorem fitsN_ok (nm:List UInt8)(dd:Nat->List UInt8)(ee:Nat->Int):FitsOk (fitsN nm dd ee 5):=by
 obtain⟨h1,h2,h3⟩:=fitsN_mem (nm:=nm) (dd:=dd) (ee:=ee) (n:=5) (Nat.le_refl _)
 exact⟨fun f hf=>(h1 f hf).1,h2,h3⟩
def rdS (nm:List UInt8)(dd:Nat->List UInt8)(ee:Nat->Int)(kk:Nat->Bool):List UInt8×Int:=match J1 (fitsN nm dd ee 5) with
 | some d=>(d,0)
 | none=>([],whyS [(ee 0,kk 0),(ee 1,kk 1),(ee 2,kk 2),(ee 3,kk 3),(ee 4,kk 4)] 0)
theorem rdS_yes {nm:List UInt8}{dd:Nat->List UInt8}{ee:Nat->Int}{kk:Nat->Bool}(h:(J1 (fitsN nm dd ee 5)).isSome=true):rdS nm dd ee kk=((J1 (fitsN nm dd ee 5)).getD [],0):=by
 unfold rdS
 cases hj:J1 (fitsN nm dd ee 5) with
 | none=>rw[hj] at h;cases h
 | some d=>rfl
theorem rdS_no {nm:List UInt8}{dd:Nat->List UInt8}{ee:Nat->Int}{kk:Nat->Bool}(h:(J1 (fitsN nm dd ee 5)).isSome=false):rdS nm dd ee kk=([],whyS [(ee 0,kk 0),(ee 1,kk 1),(ee 2,kk 2),(ee 3,kk 3),(ee 4,kk 4)] 0):=by
 unfold rdS
 cases hj:J1 (fitsN nm dd ee 5) with
 | none=>rfl
 | some d=>rw[hj] at h;cases h
theorem fitV_eq (o:Option Fit):fitV o = .tuple #[.agg (fitC (o.getD noFit)).toArray,.bool o.isSome]:=by cases o <;> rfl
theorem jnV_eq (o:Option (List UInt8)):jnV o = .tuple #[sv (o.getD []),.bool o.isSome]:=by cases o <;> rfl
abbrev tolL (dd:Nat->List UInt8)(ee:Nat->Int)(kk:Nat->Bool):List Value:=[tx (dd 0),i6 (ee 0),.bool (kk 0),tx (dd 1),i6 (ee 1),.bool (kk 1),tx (dd 2),i6 (ee 2),.bool (kk 2),tx (dd 3),i6 (ee 3),.bool (kk 3),tx (dd 4),i6 (ee 4),.bool (kk 4)]
theorem tol_at (dd:Nat->List UInt8)(ee:Nat->Int)(kk:Nat->Bool){i:Nat}(h:i<5):((tolL dd ee kk).toArray.toList.drop (i*3)).take 3 = [tx (dd i),i6 (ee i),.bool (kk i)]:=by
 obtain rfl | rfl | rfl | rfl | rfl:i=0\/i=1\/i=2\/i=3\/i=4:=by omega
 all_goals rfl
theorem ftL_snoc (l:List Fit)(f:Fit):ftL (l ++ [f])=ftL l++fitC f:=by simp[ftL]
theorem sread {left left2:Int}{u0 v0 u1 v1 u2 v2 u3 v3 u4 v4:Value}{z0 z1 z2 z3 z4:Shf}{c0 c1 c2 c3 c4:Bool}{w0:World}{nm:List UInt8}{dd:Nat->List UInt8}{ee:Nat->Int}{kk:Nat->Bool}(hE:Env w0)(hS:StoIn w0 u0 v0 u1 v1 u2 v2 u3 v3 u4 v4 z0 z1 z2 z3 z4)(hn:1<=nm.length/\nm.length<=100)(hdd:∀ i,(dd i).length<=2^40)
  (hG:∀ w,Below w0.heap.size w0 w->RT 110 #[.agg #[u0,v0,u1,v1,u2,v2,u3,v3,u4,v4,i6 left],sv nm] w (stT z0 z1 z2 z3 z4 fun a b c d e f g h i j=>.ret (.tuple #[.agg #[a,cond c0 (tkV z0 b) b,c,cond c1 (tkV z1 d) d,e,cond c2 (tkV z2 f) f,g,cond c3 (tkV z3 h) h,i,cond c4 (tkV z4 j) j,i6 left2],.agg (tolL dd ee kk).toArray]))):RT 47 #[.agg #[u0,v0,u1,v1,u2,v2,u3,v3,u4,v4,i6 left],sv nm] w0 (stT z0 z1 z2 z3 z4 fun a b c d e f g h i j=>.ret (.tuple #[.agg #[a,cond c0 (tkV z0 b) b,c,cond c1 (tkV z1 d) d,e,cond c2 (tkV z2 f) f,g,cond c3 (tkV z3 h) h,i,cond c4 (tkV z4 j) j,i6 left2],.string ⟨(rdS nm dd ee kk).1.toArray⟩,i6 (rdS nm dd ee kk).2])):=by
 refine enter Tryz.func47 ?_
 obtain⟨h0,h1,h2,h3,h4,h5,h6,h7,h8,h9⟩:=hS.one
 refine rg (ba (fun g0=>?_))
 refine aa Tryz.zeroValue31 (fun g1=>?_)
 refine p2 .as .as (en (se (rg (p1 .mv (cl (fun _ _ h=>spmay nm _) (p1 .not (en (cf (hb:=(by rw[decide_eq_true hn];rfl)) (sk (nN (rg (p2 .lw .mv (ce (fun _ _ h=>hG _ h.m.below) (fun a0 b0 a1 b1 a2 b2 a3 b3 a4 b4=>?_))))))))))))))
 refine os 0 (fun oa0 ca0=>?_)
 refine os 1 (fun ob0 cb0=>?_)
 refine os 2 (fun oa1 ca1=>?_)
 refine os 3 (fun ob1 cb1=>?_)
 refine os 4 (fun oa2 ca2=>?_)
 refine os 5 (fun ob2 cb2=>?_)
 refine os 6 (fun oa3 ca3=>?_)
 refine os 7 (fun ob3 cb3=>?_)
 refine os 8 (fun oa4 ca4=>?_)
 refine os 9 (fun ob4 cb4=>?_)
 have oc0:=cond_one (b:=c0) (tkV_one (s:=z0) ob0) ob0
 have oc1:=cond_one (b:=c1) (tkV_one (s:=z1) ob1) ob1
 have oc2:=cond_one (b:=c2) (tkV_one (s:=z2) ob2) ob2
 have oc3:=cond_one (b:=c3) (tkV_one (s:=z3) ob3) ob3
 have oc4:=cond_one (b:=c4) (tkV_one (s:=z4) ob4) ob4
 refine p3 .mv .ext .ext (aa Tryz.zeroValue208 (fun g2=>sw 2 ?_))
 refine sw 0 ?_
 refine en (r1 .as (se (nr 213 4 ?_)))
 refine r2 .lw .mv (bl (lo2 (fun i l=>i<=5) (fun i l=>5-i) (fun i l=>[(1,sv nm),(2,pt g0),(4,pt g1),(5,.string ⟨#[]⟩),(6,i6 0),(7,pt g2),(8,l),(26,.agg #[sv (dd 0),i6 (ee 0),.bool (kk 0),sv (dd 1),i6 (ee 1),.bool (kk 1),sv (dd 2),i6 (ee 2),.bool (kk 2),sv (dd 3),i6 (ee 3),.bool (kk 3),sv (dd 4),i6 (ee 4),.bool (kk 4)]),(27,i6 (i:Int))]) (fun i l=>[(g2,isB 208 #[sv (dd 0),i6 (ee 0),.bool (kk 0),sv (dd 1),i6 (ee 1),.bool (kk 1),sv (dd 2),i6 (ee 2),.bool (kk 2),sv (dd 3),i6 (ee 3),.bool (kk 3),sv (dd 4),i6 (ee 4),.bool (kk 4)]),(g1,isB 31 #[nv,nv,nv,nv,nv,nv,nv,nv,nv,nv,i6 0]),(g0,isB 31 #[a0,(cond c0 (tkV z0 b0) b0),a1,(cond c1 (tkV z1 b1) b1),a2,(cond c2 (tkV z2 b2) b2),a3,(cond c3 (tkV z3 b3) b3),a4,(cond c4 (tkV z4 b4) b4),i6 left2])]) (fun i l=>[⟨l,213,4,(fitsN nm dd ee i).length,ftL (fitsN nm dd ee i)⟩,⟨a0,73,4,z0.objs.length,(obs z0.objs)⟩,⟨b0,3,1,z0.fates.length,(nts z0.fates)⟩,⟨a1,73,4,z1.objs.length,(obs z1.objs)⟩,⟨b1,3,1,z1.fates.length,(nts z1.fates)⟩,⟨a2,73,4,z2.objs.length,(obs z2.objs)⟩,⟨b2,3,1,z2.fates.length,(nts z2.fates)⟩,⟨a3,73,4,z3.objs.length,(obs z3.objs)⟩,⟨b3,3,1,z3.fates.length,(nts z3.fates)⟩,⟨a4,73,4,z4.objs.length,(obs z4.objs)⟩,⟨b4,3,1,z4.fates.length,(nts z4.fates)⟩]) 0 (nv) (Nat.zero_le _) su (fun i l hi=>?_)))
 refine r1 .lss (se (sd (fun hlt=>?_) (fun hlt=>?_)))
 ·skip
  refine sk (nN (se (bl ?_)))
  have hi5:i<5:=by omega
  have hle:=(fitsN_mem (nm:=nm) (dd:=dd) (ee:=ee) (n:=i) (by omega)).2.2
  refine rg (p1 .mv (pp (PR.xl i [tx (dd i),i6 (ee i),.bool (kk i)] (hl:=tol_at dd ee kk hi5)) (aa Tryz.zeroValue207 (fun g3=>p1 .as (sw 0 ?_)))))
  refine en (se (r3 .fa .ld .nei (sd (fun he=>?_) (fun he=>?_))))
  ·have hst:=fitsN_no (nm:=nm) (dd:=dd) he
   refine xt (nX (bH (nN (rg0 (pp (PR.ad ((i+1:Nat):Int)) (p1 .mv (en0 (nN (rc 0 (fitsN nm dd ee (i+1)).length (ftL (fitsN nm dd ee (i+1))) (hn:=by rw[hst]) (hx:=by rw[hst]) (h:=?_))))))))))
   exact bk2 (i+1) l (by omega) (by omega) su
  ·have he0:ee i=0:=by omega
   refine sk (nN (rg (p4 .mv .mv .fa .ld (cl (fun _ _ h=>fitV_eq (fitS nm i (dd i))▸spfit (by have:=hdd i;omega) (hE.gl.below h.m.below) (hE.sum.below h.m.below) (by omega) (fun k=>by have:=txL_le (dd i) k;have:=hdd i;omega)) (p3 .mv .ext .ext (aa Tryz.zeroValue213 (fun g4=>sw 0 ?_)))))))
   refine p1 .as (en (r1 .mv (cs (fun hb=>?_) (fun hb=>?_))))
   ·have hst:=fitsN_some he0 hb
    refine rg0 (p2 .mv .lw (bs #[i6 (((fitS nm i (dd i)).getD noFit).sz),sv (((fitS nm i (dd i)).getD noFit).sum),i6 (((fitS nm i (dd i)).getD noFit).i),sv (((fitS nm i (dd i)).getD noFit).d)] (fun g5=>?_)))
    refine ap 0 (fun v0=>?_)
    refine p1 .as (en0 (bN (nN (rg0 (pp (PR.ad ((i+1:Nat):Int)) (p1 .mv (en0 (nN (rc 0 (fitsN nm dd ee (i+1)).length (ftL (fitsN nm dd ee (i+1))) (hn:=by rw[hst,List.length_append];rfl) (hx:=by rw[hst,ftL_snoc];rfl) (h:=?_))))))))))
    exact bk2 (i+1) v0 (by omega) (by omega) su
   ·have hst:=fitsN_none he0 hb
    refine sk (bN (nN (rg0 (pp (PR.ad ((i+1:Nat):Int)) (p1 .mv (en0 (nN (rc 0 (fitsN nm dd ee (i+1)).length (ftL (fitsN nm dd ee (i+1))) (hn:=by rw[hst]) (hx:=by rw[hst]) (h:=?_)))))))))
    exact bk2 (i+1) l (by omega) (by omega) su
 ·have hi6:i=5:=by omega
  subst hi6
  refine xt (nX (nX (bH (nN (se (rg (p1 .mv (cl (fun _ _ h=>jnV_eq (J1 (fitsN nm dd ee 5))▸sjoined (h.s 0) (fitsN_ok nm dd ee) (hE.sum.below h.m.below)) (p5 .mv .ext .ext .as .as (en (r1 .mv (cs (fun hj=>?_) (fun hj=>?_)))))))))))))
  ·rw[rdS_yes hj]
   refine rg (p2 .lw .mv (sw 1 ?_))
   exact p2 .as .as (en (rt (nR (et [1,2,3,4,5,6,7,8,9,10]))))
  ·rw[rdS_no hj]
   refine sk (nN (dr [_,_,_,.any,_,_] [] [⟨3,_,_,_,0,.val (.agg #[a0,(cond c0 (tkV z0 b0) b0),a1,(cond c1 (tkV z1 b1) b1),a2,(cond c2 (tkV z2 b2) b2),a3,(cond c3 (tkV z3 b3) b3),a4,(cond c4 (tkV z4 b4) b4),i6 left2])⟩] [1] [5,6] ⟨rfl,trivial⟩ (fun Bs=>⟨kv (oP (PR.lw ez (mk' 2))),kv (oP (PR.lw ez (mk' 0))),kv (oC (fun _ _ _=>swhy) (.cons ed .nil)),ks 0,kv (oP (PR.as EV.k)),kv (oP (PR.as ed)),trivial⟩) ?_))
   exact rt (et [1,2,3,4,5,6,7,8,9,10])
end
def partS (nm:List UInt8)(size num:Int)(sm da:List UInt8):List UInt8:=rowS [hibs,nm,Lib.itoa size,Lib.itoa num,sm,sumS da,da]
theorem sumS_len32 (d:List UInt8):(sumS d).length=32:=sumS_len d
theorem spart {nm sm da:List UInt8}{size num:Int}{w:World}(hE:Env w)(h0:0<=size/\size<=65536)(h01:0<=num/\num<=5)(hnm:nm.length<=100)(hsm:sm.length=32)(hda:da.length<=65536):RV 99 #[sv nm,i6 size,i6 num,.agg (cells8 sm),sv da] w (sv (partS nm size num sm da)):=by
 refine enter Tryz.func99 ?_
 have h1:=Lib.itoa_length_le size (by omega) (by omega)
 have h2:=Lib.itoa_length_le num (by omega) (by omega)
 refine rg (ba (fun g0=>?_))
 refine p1 .as (en ?_)
 rw[show partS nm size num sm da=rowS [hibs,nm,Lib.itoa size,Lib.itoa num,sm,sumS da,da] from rfl]
 generalize hD:sumS da=D at *
 have hDl:D.length=32:=by rw[←hD];exact sumS_len da
 refine rg (p1 .mv (bs #[sv da] (fun g1=>?_)))
 refine cl (fun _ _ h=>by have hq:=hE.sum _ _ [da] h.m.below (blkSl (m:=1) (k:=1) (h.m.at 0 rfl) rfl) (by simp;omega) (by simp);rwa[List.flatten_singleton,hD] at hq) (aa Tryz.zeroValue65 (fun g2=>sw 0 (h1:=cells8_one _) (hV:=by rw[cells8_size,hDl]) ?_))
 refine en (dr [_,_,_,_,_,_,_,_,_,_,.tel [9] (.row 9 1 7 (txs [hibs,nm,Lib.itoa size,Lib.itoa num,sm,D,da]) fun v=>.ret v),_,_] [] [] [] [10] trivial (fun Bs=>⟨kv (oP (PR.mv ez)),kv (oP (PR.mv ez)),kv (oC (fun _ _ h=>ndec (n:=size) (hE.gl.below h.low) (by omega))),kv (oP (PR.mv ez)),kv (oC (fun _ _ h=>ndec (n:=num) (hE.gl.below h.low) (by omega))),kv (oP (PR.sA ez)),kv (oP (PR.bB (l:=sm) ed (mk' 2) hsm)),kv (oP (PR.sA ez)),kv (oP (PR.bB (l:=D) ed (mk' 0) hDl)),kv (oP (PR.mv ez)),kv (oS (txs [hibs,nm,Lib.itoa size,Lib.itoa num,sm,D,da]).toArray (fun _ _ h=>h.size) (.cons EV.k (.cons ed (.cons ed (.cons ed (.cons ed (.cons ed (.cons ed .nil)))))))),kv (oO1 (s:=25) (fun _ _ h=>h) fun v=>oC (xs:=[.tmp 25]) (vs:=[v]) (fun _ _ h=>nrowK (l:=[hibs,nm,Lib.itoa size,Lib.itoa num,sm,D,da]) (SL.qr (e:=9) (List.mem_singleton.2 rfl) _ _ h) (by simp;omega) (by simp)) (.cons EV.qq .nil)),kv (oP (PR.as ed)),trivial⟩) ?_)
 exact rt (q1 rfl)
def fullS (d:List UInt8)(r:Nat):List UInt8:=d++List.replicate (3*r-d.length) 0
def prt (F:List UInt8)(r i:Nat):List UInt8:=lineS 1 2 3 (F.take r) ((F.drop r).take (2*r-r)) (F.drop (2*r)) (UInt8.ofNat i)
def cutC (F:List UInt8)(r k:Nat):List Value:=(List.range k).flatMap fun i=>[i6 ((i+1:Nat):Int),sv (prt F r (i+1))]
theorem cutC_succ (F:List UInt8)(r k:Nat):cutC F r (k+1)=cutC F r k ++ [i6 ((k+1:Nat):Int),sv (prt F r (k+1))]:=by
 unfold cutC
 rw[List.range_succ,List.flatMap_append];simp
theorem pcut {d:List UInt8}{r:Nat}{w:World}(hd:d.length<=65536)(hr:rowsP (d.length:Int)=(r:Int)):RT 98 #[sv d] w (.row 196 2 5 (cutC (fullS d r) r 5) fun v=>.ret v):=by
 refine enterR Tryz.func98 ?_
 have hb:=rowsP_le (n:=(d.length:Int)) (by omega) (by omega)
 have hFl:(fullS d r).length=3*r:=by unfold fullS;rw[List.length_append,List.length_replicate];omega
 refine r1 .as (rg ?_)
 refine p2 .mv .ln (cl (fun _ _ h=>hr▸prows (d.length:Int) _ (by omega)) (p1 .as (en (rg (p2 .mv .mv (pp (PR.ml ((3*r:Nat):Int)) (p2 .mv .ln (pp (PR.sb ((3*r-d.length:Nat):Int)) (cl (fun _ _ h=>str_rep 0 (3*r-d.length) _ (by omega)) (pp (PR.cat (s:=d) (s2:=List.replicate (3*r-d.length) 0) ev ev (by rw[List.length_replicate];omega)) (p1 .as (en (dr [_,_,_,_,_,_,_,_,_,_,_,_,_,.any,.any] [⟨13,5,14,274,#[.string ⟨#[]⟩,.string ⟨#[]⟩,.string ⟨#[]⟩],.val (.agg #[sv ((fullS d r).take r),sv (((fullS d r).drop r).take (2*r-r)),sv ((fullS d r).drop (2*r))])⟩] [] [] [] trivial (fun Bs=>⟨kv (oP (PR.mv ez)),kv (oP (PR.mv ez)),kv (oP (PR.st (p:=(r:Int)) (i:=r) rfl ed ed rfl (by show _<=(fullS d r).length;omega))),kv (oP (PR.mv ez)),kv (oP (PR.mv ez)),kv (oP (PR.mv ez)),kv (oP (PR.ml ((2*r:Nat):Int))),kv (oP (PR.sm (p:=(r:Int)) (q:=((2*r:Nat):Int)) (i:=r) (j:=2*r) rfl rfl ed ed ed rfl (by omega) (by show _<=(fullS d r).length;omega))),kv (oP (PR.mv ez)),kv (oP (PR.mv ez)),kv (oP (PR.ml ((2*r:Nat):Int))),kv (oP (PR.sd (p:=((2*r:Nat):Int)) (i:=2*r) rfl ed ed rfl (by show _<=(fullS d r).length;omega))),kv (oP (PR.bd #[sv ((fullS d r).take r),sv (((fullS d r).drop r).take (2*r-r)),sv ((fullS d r).drop (2*r))])),kn 0 Tryz.zeroValue274 (V:=.agg #[.string ⟨#[]⟩,.string ⟨#[]⟩,.string ⟨#[]⟩]),kp 0,trivial⟩) (fun g0=>?_))))))))))))))
 refine rg (mk0 (hc:=by decide) (hc2:=by decide) (fun v0=>?_))
 refine os 0 (fun o0 _=>?_)
 refine a1 Tryz.zeroValue193 (fun g1=>?_)
 refine s1 0 (cs:=#[v0]) ?_
 refine en (se (rg (pp (PR.bd #[cb 1,cb 2,cb 3]) (p1 .lw (cm (plines (x0:=1) (x1:=2) (x2:=3) (f0:=((fullS d r).take r)) (f1:=(((fullS d r).drop r).take (2*r-r))) (f2:=((fullS d r).drop (2*r))) (a:=1) (b:=5)) (fun q _=>?_))))))
 refine en (bl (kR ([(q.d,isB 3 #[i6 ((5:Nat):Int)]),(q.c,isB 3 #[i6 ((1:Nat):Int)]),(q.b,isB 274 #[sv ((fullS d r).take r),sv (((fullS d r).drop r).take (2*r-r)),sv ((fullS d r).drop (2*r))]),(q.a,isB 238 #[cb 1,cb 2,cb 3])] ++ [(g1,isB 193 #[v0])]) [⟨v0,196,2,1-1,cutC (fullS d r) r (1-1)⟩] ?_))
 refine rf [(q.d,isB 3 #[i6 ((5:Nat):Int)]),(q.c,isB 3 #[i6 ((1:Nat):Int)]),(q.b,isB 274 #[sv ((fullS d r).take r),sv (((fullS d r).drop r).take (2*r-r)),sv ((fullS d r).drop (2*r))]),(q.a,isB 238 #[cb 1,cb 2,cb 3])] [(g1,isB 193 #[v0])] (Y:=Value) (fun _=>True) (fun y=>[(g1,isB 193 #[y])]) (fun y=>[⟨y,196,2,5,cutC (fullS d r) r (5)⟩]) (hc:=fun l dd rc hr0 hp0 hY w hw=>(plines1 (X:=Value) (l:=l) (g4:=q.a) (g5:=q.b) (g6:=q.c) (g7:=q.d) (a:=1) (b:=5) (x0:=1) (x1:=2) (x2:=3) (f0:=((fullS d r).take r)) (f1:=(((fullS d r).drop r).take (2*r-r))) (f2:=((fullS d r).drop (2*r))) (fun _ y=>Lp l rc::Df dd :: [(g1,isB 193 #[y])]) (fun i y=>[⟨y,196,2,i-1,cutC (fullS d r) r (i-1)⟩]) v0 (by decide) (by decide) (by decide) (by simp;omega) (by simp;omega) (by simp;omega) (fun i y h1 h3=>?_) _ _ rfl rfl w hw).mono fun e w' ⟨h1,y,h2⟩=>⟨h1,y,trivial,h2.sub (List.sublist_append_right [_,_,_,_] _) (List.Sublist.refl _)⟩) (h:=fun dd y hJ=>?_)
 ·skip
  obtain⟨i,rfl⟩:∃ j,i=j+1:=⟨i-1,by omega⟩
  intro w2 hw2
  refine hY _ _ _ _ _ 4 rfl ?_ w2 hw2
  refine wRi ?_
  refine rgI ?_
  refine p1 .as (en (rgI0 ?_))
  refine p1 .as (en0 (nN (bgI 4 rfl hr0 ?_)))
  refine blI ?_
  refine rgI0 ?_ (hQ:=fun _ _ h=>h)
  refine p3 .ld .mv .mv (pp (PR.bd #[i6 ((i+1:Nat):Int),sv (prt (fullS d r) r (i+1))]) (bs #[i6 ((i+1:Nat):Int),sv (prt (fullS d r) r (i+1))] (fun gN=>?_)))
  refine ap 0 (fun v2=>?_)
  refine os 0 (fun o2 _=>?_)
  refine s1 7 (cs:=#[v2]) ?_
  refine en0 (bN (Go.Proofs.YtdjholkjkbihmaaGreatDoor.rc 0 (i+1+1-1) (cutC (fullS d r) r (i+1+1-1)) (hn:=by omega) (hx:=by rw[show i+1+1-1=i+1 by omega,cutC_succ];rfl) (h:=?_)))
  exact roI 5 rfl hr0 hp0 (fun w h=>⟨v2,trivial,rfl,h.sub (List.sublist_cons_self _ _) (.refl _)⟩)
 ·skip
  exact bN (nN (r2 .ld .as (rt (mo 0 (et [0])))))
section
attribute [local irreducible] sumS
def partD (nm d:List UInt8)(r i:Nat):List UInt8:=partS nm (d.length:Int) ((i+1:Nat):Int) (sumS d) (prt (fullS d r) r (i+1))
def pArr (P:Nat->List UInt8)(i:Nat):Array Value:=((List.range i).map (fun j=>tx (P j))++List.replicate (5-i) (tx [])).toArray
theorem pArr_size (P:Nat->List UInt8){i:Nat}(h:i<=5):(pArr P i).size=5:=by
 unfold pArr;simp;omega
theorem pArr_step (P:Nat->List UInt8){i:Nat}(h:i<5):splQ (pArr P i) (i*1) [tx (P i)]=pArr P (i+1):=by
 obtain rfl | rfl | rfl | rfl | rfl:i=0\/i=1\/i=2\/i=3\/i=4:=by omega
 all_goals rfl
theorem pArr_at (P:Nat->List UInt8){i:Nat}(h:i<5):(pArr P 5)[i*1]?=some (tx (P i)):=by
 unfold pArr
 rw[Nat.mul_one]
 simp[h]
theorem prt_len {F:List UInt8}{r:Nat}(h:F.length=3*r)(i:Nat):(prt F r i).length=r:=by
 unfold prt;rw[lineS_len,List.length_take];omega
theorem cut_at (F:List UInt8)(r:Nat){i:Nat}(h:i<5)(j:Nat){u:Value}(hu:[Value.int .i64 ((i+1:Nat):Int),sv (prt F r (i+1))][j]?=some u):(cutC F r 5)[i*2+j]?=some u:=by
 obtain rfl | rfl | rfl | rfl | rfl:i=0\/i=1\/i=2\/i=3\/i=4:=by omega
 all_goals
  match j,hu with
  | 0,hu=>exact hu
  | 1,hu=>exact hu
  | j+2,hu=>simp at hu
theorem write1 {g gp:Nat}{P:Nat->List UInt8}{Mx:MT}(hm:(g,isB 48 #[.slice (some ⟨gp,0,none⟩) 5 5])∈Mx)(hp:(gp,isB 9 (pArr P 5))∈Mx):TellW 101 [pt g] Mx P:=by
 intro W hW i hi
 have hB:Blk W g 48 #[.slice (some ⟨gp,0,none⟩) 5 5]:=blk_of (hW _ hm)
 have hC:Blk W gp 9 (pArr P 5):=blk_of (hW _ hp)
 refine enter Tryz.func101 ?_
 exact r1 .as (rg (pp (PR.ld (cs:=#[.slice (some ⟨gp,0,none⟩) 5 5]) (hm:=MB.w0 hB)) (p1 .mv (pp (PR.ib (m:=1) i) (pp (PR.lc (pArr_at P hi) ev (MB.w0 hC)) (p1 .as (en (rt (q1 rfl)))))))))
theorem swrite {w0:World}{u0 v0 u1 v1 u2 v2 u3 v3 u4 v4:Value}{Z:Nat->Shf}{nm d:List UInt8}{r:Nat}(hE:Env w0)(hS:StoIn w0 u0 v0 u1 v1 u2 v2 u3 v3 u4 v4 (Z 0) (Z 1) (Z 2) (Z 3) (Z 4))(hr:rowsP (d.length:Int)=(r:Int))(hp:∀ i,i<5->PutOk (Z i) nm (partD nm d r i))(hn:1<=nm.length/\nm.length<=100)(hl:d.length<=65536):RT 43 #[.agg #[u0,v0,u1,v1,u2,v2,u3,v3,u4,v4,i6 (-1)],sv nm,sv d] w0 (stZ (pZ Z nm (partD nm d r)) fun a b c d e f g h i j=>.ret (.tuple #[.agg #[a,b,c,d,e,f,g,h,i,j,i6 (-1)],i6 0])):=by
 refine enter Tryz.func43 ?_
 obtain⟨h0,h1,h2,h3,h4,h5,h6,h7,h8,h9⟩:=hS.one
 have hb:=rowsP_le (n:=(d.length:Int)) (by omega) (by omega)
 refine rg (ba (fun g0=>?_))
 refine aa Tryz.zeroValue31 (fun g1=>p1 .as (en (se (rg (p2 .mv .mv (cl (fun _ _ h=>spmayput hn hl) (p1 .as (en (r2 .mv .nei (cf (sk (nN ?_))))))))))))
 have hFl:(fullS d r).length=3*r:=by unfold fullS;rw[List.length_append,List.length_replicate];omega
 refine rg (mS 5 (fun gp=>?_))
 refine kM 0 (pArr (partD nm d r) 0) ?_
 refine a1 Tryz.zeroValue48 (fun g2=>?_)
 refine s1 0 (cs:=#[.slice (some ⟨gp,0,none⟩) 5 5]) ?_
 refine en ?_
 obtain⟨D,hD⟩:∃ D,sumS d=D:=⟨_,rfl⟩
 have hDl:D.length=32:=by rw[←hD];exact sumS_len32 d
 have hDs:(cells8 D).size=32:=by rw[cells8_size,hDl]
 refine rg (p1 .mv (bs #[sv d] (fun g3=>?_)))
 refine cl (fun _ _ h=>by have hq:=hE.sum _ _ [d] h.m.below (blkSl (m:=1) (k:=1) (h.m.at 0 rfl) rfl) (by simp;omega) (by simp);rwa[List.flatten_singleton,hD] at hq) (aa Tryz.zeroValue65 (fun g4=>sw 0 (h1:=cells8_one _) (hV:=by rw[cells8_size,hDl]) ?_))
 refine en (se (rg (p1 .mv (ce (fun _ _ h=>pcut (d:=d) (r:=r) hl hr) (fun v=>?_)))))
 refine os 0 (fun ov cv=>?_)
 refine pp (PR.lr) (p1 .mv (en (bl (lo (A:=Nat) (fun i=>i<=5) (fun i=>5-i) (fun i=>[(1,sv nm),(2,sv d),(3,pt g0),(6,pt g1),(7,i6 0),(9,pt g2),(10,pt g4),(26,v),(27,i6 ((5:Nat):Int)),(28,i6 (i:Int))]) (fun i=>[(g4,isB 65 (cells8 D)),(g2,isB 48 #[.slice (some ⟨gp,0,none⟩) 5 5]),(gp,isB 9 (pArr (partD nm d r) i)),(g1,isB 31 #[nv,nv,nv,nv,nv,nv,nv,nv,nv,nv,i6 0]),(g0,isB 31 #[u0,v0,u1,v1,u2,v2,u3,v3,u4,v4,i6 (-1)])]) (fun i=>[⟨v,196,2,5,cutC (fullS d r) r 5⟩]) 0 (Nat.zero_le _) su (fun i hi=>?_)))))
 refine r1 .lss (se (sd (fun hlt=>?_) (fun hlt=>?_)))
 ·have hi:i<5:=by omega
  refine sk (nN (se (bl (rg (pp (PR.ix (i:=i)) (pp (PR.lq (ys:=[i6 ((i+1:Nat):Int),sv (prt (fullS d r) r (i+1))]) (fun q u hq=>cut_at _ _ hi q hq)) (aa Tryz.zeroValue196 (fun g5=>sw 0 ?_))))))))
  refine en ?_
  have hP:∀ w2,Below w0.heap.size w0 w2->RV 99 #[sv nm,i6 (d.length:Int),i6 ((i+1:Nat):Int),.agg (cells8 D),sv (prt (fullS d r) r (i+1))] w2 (sv (partD nm d r i)):=fun w2 hb2=>by
   unfold partD;rw[hD]
   exact spart (hE.below hb2) (by omega) (by omega) hn.2 hDl (by rw[prt_len hFl];omega)
  refine dr0 [_,_,_,_,_,_,_,_,_,_,_,_,_,_,.any] [] [⟨14,_,_,_,i*1,.val (sv (partD nm d r i))⟩] [3] [] ⟨rfl,trivial⟩ (fun Bs=>⟨kv (oP (PR.ld ez (mk' 2))),kv (oP (PR.fa ez)),kv (oP (PR.ld ed (mk' 0))),kv (oP (PR.sb (i:Int))),kv (oP (PR.mv ez)),kv (oP (PR.mv ez)),kv (oP (PR.ln ed)),kv (oP (PR.fa ez)),kv (oP (PR.ld ed (mk' 0))),kv (oP (PR.lw ez (mk' 1))),kv (oP (PR.fa ez)),kv (oP (PR.ld ed (mk' 0))),kv (oC (fun _ _ h=>hP _ h.low) (.cons ed (.cons ed (.cons ed (.cons ed (.cons ed .nil)))))),kv (oP (PR.ib (m:=1) i ed ed)),ks 0 (hz:=by show i*1+1<=(pArr (partD nm d r) i).size;rw[pArr_size _ (by omega)];omega),trivial⟩) ?_
  refine kM 3 (pArr (partD nm d r) (i+1)) ?_ (hc:=pArr_step _ hi)
  exact bN (nN (rg0 (pp (PR.ad ((i+1:Nat):Int)) (p1 .mv (en0 (nN (bk (i+1) (by omega) (by omega) su)))))))
 ·have hi5:i=5:=by omega
  subst hi5
  refine xt (nX (nX (bH (nN (rg (p2 .lw .mv (pp PR.mk (kR [(g4,isB 65 (cells8 D)),(g2,isB 48 #[.slice (some ⟨gp,0,none⟩) 5 5]),(gp,isB 9 (pArr (partD nm d r) 5)),(g1,isB 31 #[nv,nv,nv,nv,nv,nv,nv,nv,nv,nv,i6 0]),(g0,isB 31 #[u0,v0,u1,v1,u2,v2,u3,v3,u4,v4,i6 (-1)])] [] ?_))))))))
  refine cm (putall (Z:=Z) (da:=partD nm d r) (fd:=101) (dcaps:=[pt g2]) hS hp (write1 (gp:=gp) mm mm) (by show _=true;kernel_rfl)) (fun q _=>?_)
  refine osL 10 ?_
  iterate 20 intro
  refine p2 .ext .ext (sw 3 ?_)
  exact p1 .as (en (rt (et [8,9,6,7,4,5,2,3,0,1])))
end
theorem hi_bit (x:Nat)(h:x<256):(128<=x)=(x.testBit 7=true):=by
 have:∀ m:Nat,m<256->(128<=m ↔ m.testBit 7=true):=by decide +kernel
 exact propext (this x h)
theorem dbl_xor (a c:UInt8):UInt8.ofNat ((a^^^c).toNat*2)=UInt8.ofNat (a.toNat*2)^^^UInt8.ofNat (c.toNat*2):=by
 apply UInt8.toNat_inj.1
 rw[UInt8.toNat_ofNat',UInt8.toNat_xor,UInt8.toNat_xor,UInt8.toNat_ofNat',UInt8.toNat_ofNat',←Nat.xor_mod_two_pow]
 congr 1
 have h:=Nat.shiftLeft_xor_distrib (a:=a.toNat) (b:=c.toNat) (i:=1)
 simpa[Nat.shiftLeft_eq] using h
theorem xor_ac (a b c d:UInt8):(a^^^b)^^^(c^^^d)=(a^^^c)^^^(b^^^d):=by
 rw[UInt8.xor_assoc,UInt8.xor_assoc,←UInt8.xor_assoc b,←UInt8.xor_assoc c,UInt8.xor_comm b c]
theorem xtF_xor (a c:UInt8):xtF (a^^^c)=xtF a^^^xtF c:=by
 have e1:(128<=(a^^^c).toNat)=((a.toNat.testBit 7 ^^ c.toNat.testBit 7)=true):=by rw[hi_bit _ (UInt8.toNat_lt _),UInt8.toNat_xor,Nat.testBit_xor]
 have e2:=hi_bit _ a.toNat_lt
 have e3:=hi_bit _ c.toNat_lt
 have ed:=dbl_xor a c
 unfold xtF
 rw[ed]
 simp only[e1,e2,e3]
 generalize UInt8.ofNat (a.toNat*2)=A
 generalize UInt8.ofNat (c.toNat*2)=C
 cases a.toNat.testBit 7 <;> cases c.toNat.testBit 7
 ·rfl
 ·show(A^^^C)^^^29=A^^^(C^^^29)
  rw[UInt8.xor_assoc]
 ·show(A^^^C)^^^29=(A^^^29)^^^C
  rw[UInt8.xor_assoc,UInt8.xor_comm C,←UInt8.xor_assoc]
 ·show A^^^C=(A^^^29)^^^(C^^^29)
  rw[xor_ac,UInt8.xor_self,UInt8.xor_zero]
theorem mulA_xor (a c:UInt8):∀ i,mulA (a^^^c) i=mulA a i^^^mulA c i
 | 0=>rfl
 | i+1=>by rw[mulA,mulA,mulA,mulA_xor a c i,xtF_xor]
theorem mulP_xorL (a c b:UInt8):∀ i,mulP (a^^^c) b i=mulP a b i^^^mulP c b i
 | 0=>by simp[mulP]
 | i+1=>by
  rw[mulP,mulP,mulP,mulP_xorL a c b i,mulA_xor]
  split
  ·exact xor_ac _ _ _ _
  ·rfl
theorem mulS_xorL (a c b:UInt8):mulS (a^^^c) b=mulS a b^^^mulS c b:=mulP_xorL a c b 8
theorem bit_eq (x i:Nat):(x/2^i%2=1)=(x.testBit i=true):=by
 rw[Nat.testBit_eq_decide_div_mod_eq,decide_eq_true_eq]
theorem mulP_xorR (a b c:UInt8):∀ i,mulP a (b^^^c) i=mulP a b i^^^mulP a c i
 | 0=>by simp[mulP]
 | i+1=>by
  rw[mulP,mulP,mulP,mulP_xorR a b c i]
  simp only[bit_eq,UInt8.toNat_xor,Nat.testBit_xor]
  generalize mulP a b i=p
  generalize mulP a c i=q
  generalize mulA a i=r
  cases b.toNat.testBit i <;> cases c.toNat.testBit i <;> simp
  ·rw[UInt8.xor_assoc]
  ·rw[UInt8.xor_assoc,UInt8.xor_comm q,←UInt8.xor_assoc]
  ·rw[xor_ac];simp
theorem mulS_xorR (a b c:UInt8):mulS a (b^^^c)=mulS a b^^^mulS a c:=mulP_xorR a b c 8
def uptoB (a:UInt8):Nat->UInt8
 | 0=>0
 | i+1=>if a.toNat/2^i%2=1 then uptoB a i^^^UInt8.ofNat (2^i) else uptoB a i
theorem all8 {p:UInt8->Prop}(h:∀ n,n<256->p (UInt8.ofNat n))(a:UInt8):p a:=by
 have:=h a.toNat a.toNat_lt
 rwa[UInt8.ofNat_toNat] at this
theorem upto_all (a:UInt8):uptoB a 8=a:=by
 have:∀ n,n<256->uptoB (UInt8.ofNat n) 8=UInt8.ofNat n:=by decide +kernel
 exact all8 (p:=fun a=>uptoB a 8=a) this a
theorem bits_ind {P:UInt8->Prop}(h0:P 0)(hb:∀ i,i<8->P (UInt8.ofNat (2^i)))(hx:∀ a b,P a->P b->P (a^^^b))(a:UInt8):P a:=by
 have key:∀ i,i<=8->P (uptoB a i):=by
  intro i
  induction i with
  | zero=>intro _;exact h0
  | succ i ih=>
   intro hi
   rw[uptoB]
   split
   ·exact hx _ _ (ih (by omega)) (hb i (by omega))
   ·exact ih (by omega)
 have:=key 8 (Nat.le_refl _)
 rwa[upto_all] at this
theorem mulS_zeroL (b:UInt8):mulS 0 b=0:=by
 have h:=mulS_xorL 0 0 b
 rw[UInt8.xor_self] at h
 rw[h,UInt8.xor_self]
theorem mulS_zeroR (a:UInt8):mulS a 0=0:=by
 have h:=mulS_xorR a 0 0
 rw[UInt8.xor_self] at h
 rw[h,UInt8.xor_self]
theorem mulS_comm (a b:UInt8):mulS a b=mulS b a:=by
 refine bits_ind (P:=fun a=>mulS a b=mulS b a) (by rw[mulS_zeroL,mulS_zeroR]) (fun i hi=>?_) (fun x y h1 h2=>by show mulS (x^^^y) b=mulS b (x^^^y);rw[mulS_xorL,mulS_xorR,h1,h2]) a
 refine bits_ind (P:=fun b=>mulS (UInt8.ofNat (2^i)) b=mulS b (UInt8.ofNat (2^i))) (by rw[mulS_zeroL,mulS_zeroR]) (fun j hj=>?_) (fun x y h1 h2=>by show mulS _ (x^^^y)=mulS (x^^^y) _;rw[mulS_xorL,mulS_xorR,h1,h2]) b
 have:∀ i,i<8->∀ j,j<8->mulS (UInt8.ofNat (2^i)) (UInt8.ofNat (2^j))=mulS (UInt8.ofNat (2^j)) (UInt8.ofNat (2^i)):=by decide +kernel
 exact this i hi j hj
theorem mulS_assoc (a b c:UInt8):mulS (mulS a b) c=mulS a (mulS b c):=by
 refine bits_ind (P:=fun a=>mulS (mulS a b) c=mulS a (mulS b c)) (by rw[mulS_zeroL,mulS_zeroL,mulS_zeroL]) (fun i hi=>?_) (fun x y h1 h2=>by show mulS (mulS (x^^^y) b) c=mulS (x^^^y) (mulS b c);rw[mulS_xorL,mulS_xorL,mulS_xorL,h1,h2]) a
 refine bits_ind (P:=fun b=>mulS (mulS (UInt8.ofNat (2^i)) b) c=mulS (UInt8.ofNat (2^i)) (mulS b c)) (by rw[mulS_zeroR,mulS_zeroL,mulS_zeroR]) (fun j hj=>?_) (fun x y h1 h2=>by show mulS (mulS _ (x^^^y)) c=mulS _ (mulS (x^^^y) c);rw[mulS_xorR,mulS_xorL,mulS_xorL,mulS_xorR,h1,h2]) b
 refine bits_ind (P:=fun c=>mulS (mulS (UInt8.ofNat (2^i)) (UInt8.ofNat (2^j))) c=mulS (UInt8.ofNat (2^i)) (mulS (UInt8.ofNat (2^j)) c)) (by rw[mulS_zeroR,mulS_zeroR,mulS_zeroR]) (fun k hk=>?_) (fun x y h1 h2=>by show mulS _ (x^^^y)=mulS _ (mulS _ (x^^^y));rw[mulS_xorR,mulS_xorR,mulS_xorR,h1,h2]) c
 have:∀ i,i<8->∀ j,j<8->∀ k,k<8->mulS (mulS (UInt8.ofNat (2^i)) (UInt8.ofNat (2^j))) (UInt8.ofNat (2^k))=mulS (UInt8.ofNat (2^i)) (mulS (UInt8.ofNat (2^j)) (UInt8.ofNat (2^k))):=by decide +kernel
 exact this i hi j hj k hk
theorem mulS_one (a:UInt8):mulS a 1=a:=by
 have:∀ n,n<256->mulS (UInt8.ofNat n) 1=UInt8.ofNat n:=by decide +kernel
 exact all8 (p:=fun a=>mulS a 1=a) this a
theorem mulS_oneL (a:UInt8):mulS 1 a=a:=by rw[mulS_comm,mulS_one]
theorem mulS_inv (a:UInt8)(h:a≠0):mulS a (invS a)=1:=by
 have:∀ n,n<256->n≠0->mulS (UInt8.ofNat n) (invS (UInt8.ofNat n))=1:=by decide +kernel
 have h2:=this a.toNat a.toNat_lt (fun e=>h (UInt8.toNat_inj.1 (by simpa using e)))
 rwa[UInt8.ofNat_toNat] at h2
section
attribute [local irreducible] sumS
theorem map_bt (l:List UInt8):(List.range l.length).map (bt l)=l:=by
 refine List.ext_getElem (by simp) (fun i h1 h2=>?_)
 simp[bt,h2]
theorem line0 {a b c:List UInt8}:lineW 1 0 0 a b c=a:=by
 unfold lineW
 rw[show pxS 1 0 0 a b c=bt a from funext fun i=>by simp[pxS,mulS_oneL,mulS_zeroL]]
 exact map_bt a
theorem line1 {a b c:List UInt8}(h:b.length=a.length):lineW 0 1 0 a b c=b:=by
 unfold lineW
 rw[show pxS 0 1 0 a b c=bt b from funext fun i=>by simp[pxS,mulS_oneL,mulS_zeroL],←h]
 exact map_bt b
theorem line2 {a b c:List UInt8}(h:c.length=a.length):lineW 0 0 1 a b c=c:=by
 unfold lineW
 rw[show pxS 0 0 1 a b c=bt c from funext fun i=>by simp[pxS,mulS_oneL,mulS_zeroL],←h]
 exact map_bt c
theorem node1 {a b c:List UInt8}:lineS 1 2 3 a b c 1=a:=by
 unfold lineS
 rw[show wtS 1 2 3 1 0=1 by decide +kernel,show wtS 1 2 3 1 1=0 by decide +kernel,show wtS 1 2 3 1 2=0 by decide +kernel];exact line0
theorem node2 {a b c:List UInt8}(h:b.length=a.length):lineS 1 2 3 a b c 2=b:=by
 unfold lineS
 rw[show wtS 1 2 3 2 0=0 by decide +kernel,show wtS 1 2 3 2 1=1 by decide +kernel,show wtS 1 2 3 2 2=0 by decide +kernel];exact line1 h
theorem node3 {a b c:List UInt8}(h:c.length=a.length):lineS 1 2 3 a b c 3=c:=by
 unfold lineS
 rw[show wtS 1 2 3 3 0=0 by decide +kernel,show wtS 1 2 3 3 1=0 by decide +kernel,show wtS 1 2 3 3 2=1 by decide +kernel];exact line2 h
theorem fullS_len {d:List UInt8}{r:Nat}(h:d.length<=3*r):(fullS d r).length=3*r:=by simp[fullS];omega
theorem rows3 {n r:Nat}(h:rowsP (n:Int)=(r:Int)):n<=3*r:=by
 unfold rowsP at h
 rw[if_neg (by omega)] at h
 omega
theorem join_hon {d s1 s2 s3:List UInt8}{r:Nat}(hr:d.length<=3*r):joinB ⟨(d.length:Int),s1,((0+1:Nat):Int),prt (fullS d r) r (0+1)⟩ ⟨(d.length:Int),s2,((1+1:Nat):Int),prt (fullS d r) r (1+1)⟩ ⟨(d.length:Int),s3,((2+1:Nat):Int),prt (fullS d r) r (2+1)⟩=d:=by
 have hF:=fullS_len hr
 obtain⟨F,eF⟩:∃ F,fullS d r=F:=⟨_,rfl⟩
 have hd:F.take d.length=d:=by rw[←eF,fullS,List.take_left]
 rw[eF] at hF ⊢
 have e0:prt F r (0+1)=F.take r:=node1
 have e1:prt F r (1+1)=(F.drop r).take (2*r-r):=node2 (by simp;omega)
 have e2:prt F r (2+1)=F.drop (2*r):=node3 (by simp;omega)
 rw[e0,e1,e2]
 have e3:lin3 1 2 3 (F.take r) ((F.drop r).take (2*r-r)) (F.drop (2*r))=F:=by
  unfold lin3
  rw[node1,node2 (by simp;omega),node3 (by simp;omega),show 2*r-r=r by omega,show 2*r=r+r by omega,←List.drop_drop,List.append_assoc,List.take_append_drop,List.take_append_drop]
 show(lin3 1 2 3 _ _ _).take ((d.length:Int)).toNat=d
 rw[e3,Int.toNat_natCast,hd]
theorem fit_part {nm d:List UInt8}{r i:Nat}(hnm:nm.length<=100)(hd:d.length<=65536)(hr:rowsP (d.length:Int)=(r:Int))(hi:i<5):fitS nm i (partD nm d r i)=some ⟨(d.length:Int),sumS d,((i+1:Nat):Int),prt (fullS d r) r (i+1)⟩:=by
 have h3:=rows3 hr
 have hl:(prt (fullS d r) r (i+1)).length=r:=prt_len (fullS_len h3) _
 have hr2:r<=21846:=by
  have:=(rowsP_le (n:=(d.length:Int)) (by omega) (by omega)).1
  omega
 obtain⟨p,ep⟩:∃ p,prt (fullS d r) r (i+1)=p:=⟨_,rfl⟩
 rw[ep] at hl ⊢
 have i0:=itoa_len 8 (d.length:Int) (by omega) (by decide) (by show _<((100000000:Nat):Int);omega)
 have i1:=itoa_len 8 ((i+1:Nat):Int) (by omega) (by decide) (by show _<((100000000:Nat):Int);omega)
 have s0:=sumS_len32 d
 have s1:=sumS_len32 p
 have hi0:=intS_itoa (d.length:Int) (by omega) (by omega)
 obtain⟨S,eS⟩:∃ S,sumS d=S:=⟨_,rfl⟩
 obtain⟨T,eT⟩:∃ T,sumS p=T:=⟨_,rfl⟩
 rw[eS] at s0 ⊢
 rw[eT] at s1
 have hx:textsS (partD nm d r i) = .ok [hibs,nm,Lib.itoa (d.length:Int),Lib.itoa ((i+1:Nat):Int),S,T,p]:=by
  unfold partD partS
  rw[ep,eS,eT]
  refine textsS_row _ (fun s hs=>?_)
  simp only[List.mem_cons,List.not_mem_nil,or_false] at hs
  rcases hs with rfl | rfl | rfl | rfl | rfl | rfl | rfl
  ·decide
  all_goals omega
 have e1:txL (partD nm d r i) = [hibs,nm,Lib.itoa (d.length:Int),Lib.itoa ((i+1:Nat):Int),S,T,p]:=by unfold txL;rw[hx]
 have e2:txE (partD nm d r i)=0:=by unfold txE;rw[hx]
 unfold fitS
 rw[e1,e2,if_pos ⟨rfl,rfl,rfl,rfl⟩]
 unfold fitL
 simp only[List.getD_cons_succ,List.getD_cons_zero,hi0,Option.isSome_some,Option.getD_some,true_and]
 rw[if_pos (by simp;omega),if_pos ⟨s0,eT.symm,by rw[hl,hr]⟩]
theorem fits_hon {nm:List UInt8}{dd:Nat->List UInt8}{ee:Nat->Int}{F:Nat->Fit}(h:∀ i,i<5->ee i=0/\fitS nm i (dd i)=some (F i)):∀ n,n<=5->fitsN nm dd ee n=(List.range n).map F
 | 0,_=>rfl
 | n+1,hn=>by
  obtain⟨h1,h2⟩:=h n (by omega)
  rw[fitsN_some h1 (by rw[h2];rfl),fits_hon h n (by omega),h2,List.range_succ,List.map_append];rfl
theorem part_len {nm d:List UInt8}{r i:Nat}(hnm:nm.length<=100)(hd:d.length<=65536)(hr:rowsP (d.length:Int)=(r:Int))(hi:i<5):(partD nm d r i).length<=30000:=by
 have h1:(prt (fullS d r) r (i+1)).length=r:=prt_len (fullS_len (rows3 hr)) _
 have hr2:r<=21846:=by
  have:=(rowsP_le (n:=(d.length:Int)) (by omega) (by omega)).1
  omega
 have i0:=itoa_len 8 (d.length:Int) (by omega) (by decide) (by show _<((100000000:Nat):Int);omega)
 have i1:=itoa_len 8 ((i+1:Nat):Int) (by omega) (by decide) (by show _<((100000000:Nat):Int);omega)
 have s0:=sumS_len32 d
 have s1:=sumS_len32 (prt (fullS d r) r (i+1))
 unfold partD partS
 generalize sumS d=S at *
 generalize sumS (prt (fullS d r) r (i+1))=T at *
 generalize prt (fullS d r) r (i+1)=p at *
 have e:[hibs,nm,Lib.itoa (d.length:Int),Lib.itoa ((i+1:Nat):Int),S,T,p].flatten.length<=25000:=by
  simp only[List.flatten_cons,List.flatten_nil,List.length_append,List.length_nil,List.length_cons]
  omega
 have:=rowS_len10 _ (Nat.lt_of_le_of_lt e (by decide))
 simp only[List.length_cons,List.length_nil] at this
 omega
theorem rd_hon {nm d:List UInt8}{r:Nat}{dd:Nat->List UInt8}{kk:Nat->Bool}(hnm:nm.length<=100)(hd:d.length<=65536)(hr:rowsP (d.length:Int)=(r:Int))(hdd:∀ i,i<5->dd i=partD nm d r i):rdS nm dd (fun _=>0) kk=(d,0):=by
 have hj:J1 (fitsN nm dd (fun _=>0) 5)=some d:=by
  rw[fits_hon (F:=fun i=>⟨(d.length:Int),sumS d,((i+1:Nat):Int),prt (fullS d r) r (i+1)⟩) (fun i hi=>⟨rfl,by rw[hdd i hi];exact fit_part hnm hd hr hi⟩) 5 (Nat.le_refl 5)]
  show(J2 _ _).or _=_
  have:f3 ⟨(d.length:Int),sumS d,((0+1:Nat):Int),prt (fullS d r) r (0+1)⟩ ⟨(d.length:Int),sumS d,((1+1:Nat):Int),prt (fullS d r) r (1+1)⟩ ⟨(d.length:Int),sumS d,((2+1:Nat):Int),prt (fullS d r) r (2+1)⟩=some d:=by
   unfold f3
   rw[join_hon (rows3 hr),if_pos ⟨by simp[oneF],by simp[oneF],rfl⟩]
  show(((f3 _ _ _).or _).or _).or _=_
  rw[this];rfl
 unfold rdS
 rw[hj]
theorem sreadH {w0:World}{u0 v0 u1 v1 u2 v2 u3 v3 u4 v4:Value}{Z:Nat->Shf}{nm d:List UInt8}{r:Nat}(hE:Env w0)(hS:StoIn w0 u0 v0 u1 v1 u2 v2 u3 v3 u4 v4 (Z 0) (Z 1) (Z 2) (Z 3) (Z 4))(hn:1<=nm.length/\nm.length<=100)(hd:d.length<=65536)(hr:rowsP (d.length:Int)=(r:Int))(hB:∀ i,i<5->ShB (Z i))(hf:∀ i,i<5->(Z i).fates = [])(hT:∀ i,i<5->toldS (Z i) nm=(partD nm d r i,0)):RT 47 #[.agg #[u0,v0,u1,v1,u2,v2,u3,v3,u4,v4,i6 (-1)],sv nm] w0 (stZ Z fun a b c d1 e f g h i j=>.ret (.tuple #[.agg #[a,cond true (tkV (Z 0) b) b,c,cond true (tkV (Z 1) d1) d1,e,cond true (tkV (Z 2) f) f,g,cond true (tkV (Z 3) h) h,i,cond true (tkV (Z 4) j) j,i6 (-1)],sv d,i6 0])):=by
 obtain⟨dd,hdd⟩:∃ dd:Nat->List UInt8,dd=fun i=>if i<5 then partD nm d r i else []:=⟨_,rfl⟩
 have hd5:∀ i,i<5->dd i=partD nm d r i:=fun i hi=>by rw[hdd];exact if_pos hi
 have hl:∀ i,(dd i).length<=2^40:=fun i=>by
  by_cases hi:i<5
  ·rw[hd5 i hi]
   have:=part_len (i:=i) hn.2 hd hr hi
   omega
  ·rw[hdd]
   show(if i<5 then partD nm d r i else []).length<=_
   rw[if_neg hi];exact Nat.zero_le _
 have q:=sread (left:=-1) (left2:=-1) (c0:=true) (c1:=true) (c2:=true) (c3:=true) (c4:=true) (dd:=dd) (ee:=fun _=>0) (kk:=fun _=>false) hE hS hn hl (fun w hb=>by
  have g:=getallH (nm:=nm) (dd:=dd) (ee:=fun _=>0) (hS.below hb) hB hf (fun i hi=>by rw[hT i hi,hd5 i hi])
  simp only[tkV_hon (hf 0 (by decide)),tkV_hon (hf 1 (by decide)),tkV_hon (hf 2 (by decide)),tkV_hon (hf 3 (by decide)),tkV_hon (hf 4 (by decide))]
  exact g)
 rw[rd_hon hn.2 hd hr hd5] at q
 exact q
end
section
theorem grown_of {w w2:World}(h:Below w.heap.size w w2):w.grownBy w2 none:=⟨h.os,h.tape,h.output,h.size,fun k hk _=>h.block k hk⟩
section
variable {D:List Deferred}{nt:Nat}{w0:World}{L:LT}{M:MT}{R:List Rw}{l:List Oper}{KL:List Kp}{Bs i:Nat}
def ATs (D:List Deferred)(nt:Nat)(w0:World)(L:LT)(M:MT)(R:List Rw)(l:List Oper)(KL:List Kp)(Bs:Nat):Nat->List Oper->Prop
 | _,[]=>True
 | i,o::r=>OPd Tryz.prog (QZ D nt w0 L M R l KL [] [] [] Bs i) o l (KL.getD i .any) Bs/\ATs D nt w0 L M R l KL Bs (i+1) r
theorem ATs.at :∀ {r:List Oper} {i:Nat},ATs D nt w0 L M R l KL Bs i r->∀ (j:Nat) (o:Oper),r[j]?=some o->OPd Tryz.prog (QZ D nt w0 L M R l KL [] [] [] Bs (i+j)) o l (KL.getD (i+j) .any) Bs
 | [],_,_,j,o,h=>by simp at h
 | a::r,i,h,0,o,ho=>by
  injection ho with ho
  subst ho
  exact h.1
 | a::r,i,h,j+1,o,ho=>by
  rw[show i+(j+1)=i+1+j by omega]
  exact ATs.at h.2 j o (by simpa using ho)
def hdOk (L:LT)(h:List Oper)(KL:List Kp)(lv:List Nat):Bool :=
 Nat.beq KL.length h.length&&disK lv h KL&&(h.all fun o=>o.dst.isSome)&&(L.all fun p=>h.all fun o=>o.dst != some p.1)
theorem dtk {id:Nat}{Q:Exit->Act->World->Prop}(n0:Nat)(KL:List Kp)(lv:List Nat)(ask:∀ Bs,ATs D nt w0 L M R l KL Bs 0 (l.take n0))(k:AftK lv (l.take n0) KL fun L3 R3=>KX D nt w0 (L3++L) M (R3++R) (wpList Tryz.prog l.toArray Q (l.drop n0)))(hk:hdOk L (l.take n0) KL lv=true:=by kernel_rfl)(hB:looseB l nt=true:=by kernel_rfl)(hTB:tailB l n0=true:=by kernel_rfl)(hm:Tryz.prog.follows .mixedOrders=true:=by kernel_rfl):KX D nt w0 L M R ((Code.region id l.toArray true).wp Tryz.prog Q):=fun a0 w hs=>by
 simp only[hdOk,Bool.and_eq_true] at hk
 obtain⟨⟨⟨k1,k2⟩,k3⟩,k4⟩:=hk
 have hlen:KL.length=(l.take n0).length:=Nat.eq_of_beq_eq_true k1
 have hKn:∀ i,¬ i<n0->KL.getD i .any = .any:=fun i hi=>by
  rw[List.getD_eq_getElem?_getD,List.getElem?_eq_none (by rw[hlen,List.length_take];omega)];rfl
 have hno:∀ s v,lz L s=some v->∀ i o,l[i]?=some o->i<n0->o.dst≠some s:=fun s v h i o ho hi=>by
  obtain⟨p,hp,rfl⟩:=lz_mem h
  have:=List.all_eq_true.1 (List.all_eq_true.1 k4 p hp) o (List.mem_of_getElem? (i:=i) (by rw[List.getElem?_take_of_lt hi];exact ho))
  simpa using this
 refine wp_region_looseTail2 nt n0 hm hB hTB hs.f.size (Below w.heap.size w) (fun i v W=>(KL.getD i .any).sat w.heap.size v W) grows (Below.refl _ _).drew (fun _ W W' h1 h2=>h1.trans (h2.mono h1.size)) (fun _ j v W W' _ hS hR hT=>Kp.keep (grown_of hR) hT fun _ _ _ _ _ h=>by cases h) (fun i o ho hn v W hT=>?_) (fun i o hi ho a W hS h1 h2 _=>?_) (fun a W hS hK=>?_)
 ·by_cases hi:i<n0
  ·have:=List.all_eq_true.1 k3 o (List.mem_of_getElem? (i:=i) (by rw[List.getElem?_take_of_lt hi];exact ho))
   rw[hn] at this;cases this
  ·rw[hKn i hi];trivial
 ·have hq:=(ask w.heap.size).at i o (by rw[List.getElem?_take_of_lt hi];exact ho)
  rw[Nat.zero_add] at hq
  have hold:∀ s v,lz L s=some v->a.tmps[s]?=some v:=fun s v h=>h1 s v (by
   unfold noDst
   rw[List.all_eq_true]
   intro o2 ho2
   obtain⟨j,hj⟩:=List.mem_iff_getElem?.1 ho2
   have hj2:j<n0:=by have:=(List.getElem?_eq_some_iff.1 hj).1;rw[List.length_take] at this;omega
   rw[List.getElem?_take_of_lt hj2] at hj
   have:=hno s v h j o2 hj hj2
   simpa using this) (hs.f.has s v (by rw[←lz_eq];exact h))
  refine hq a W ⟨fun s v h _=>hold s v h,fun j s h3 _=>?_,fun j s v _ _ h=>hold s v h,fun k g S hk _=>(hs.m.grow hS).ob k hk,fun b hb=>by simp at hb,fun x hx=>Sl.own ((hs.r x hx).grow hS),hs.m.below.trans (hS.mono hs.m.below.size),hS.size⟩
  simp only[depB,Bool.and_eq_true] at h3
  obtain⟨h3,h5⟩:=h3
  cases hj:l[j]? with
  | none=>rw[hj] at h5;cases h5
  | some oj=>
   rw[hj] at h5
   exact h2 j h3 oj s hj (by simpa using h5)
 ·obtain⟨L3,R3,d1,d2,d3,d4⟩:=AftK.get (a:=a) (W:=W) (B:=w.heap.size) k k2 (fun i o s ho hd _ hi=>by
   have hi2:i<n0:=by rw[hlen,List.length_take] at hi;omega
   rw[List.getElem?_take_of_lt hi2] at ho
   exact hK.new i o s ho (by simpa using hi2) hd)
  refine d1 a W ⟨⟨by rw[hK.size];exact hs.f.size,by rw[hK.defers];exact hs.f.defers,fun s v h=>?_⟩,hs.m.grow hS,fun x hx=>?_,?_⟩
  ·rw[←lz_eq] at h
   rcases lz_app h with h | ⟨_,h⟩
   ·exact d2 s v h
   ·rw[hK.old s fun i o ho hi=>hno s v h i o ho (by simpa using hi)]
    exact hs.f.has s v (by rw[←lz_eq];exact h)
  ·rcases List.mem_append.1 hx with hx | hx
   ·refine⟨ownsRow_mono (d3.1 x hx).1 hs.m.below.size,fun y hy hq=>?_⟩
    have h3:=own_base (d3.1 x hx).1 hq
    have:=hs.m.lt hy
    omega
   ·exact(hs.r x hx).grow hS
  ·refine List.pairwise_append.2 ⟨d3.2,hs.nd,fun x hx y hy=>?_⟩
   exact fun g h1 h2=>by
    have h3:=own_base (d3.1 x hx).1 h1
    have h4:=own_lt_size (hs.r y hy).owns h2
    omega
theorem ha {o:Oper}{r:List Oper}(h:OPd Tryz.prog (QZ D nt w0 L M R l KL [] [] [] Bs i) o l (KL.getD i .any) Bs)(h2:ATs D nt w0 L M R l KL Bs (i+1) r):ATs D nt w0 L M R l KL Bs i (o::r):=⟨h,h2⟩
end
end
theorem pureM {f:FuncId}{vs:Array Value}{w:World}{v:Value}(M:MT)(hM:∀ x∈M,∃ ob,w.heap[x.1]?=some ob/\x.2 ob ∧ ∀ o2,x.2 o2->o2=ob)(hn:M.Pairwise fun x y=>x.1≠y.1)(h:∀ w0 M1,(∀ w',Mem w0 (M++M1) w'->Below w.heap.size w w')->RM f vs w0 (M++M1) [] (A:=Unit) (fun _=>True) (fun _=>v) (fun _=>M++M1) (fun _=>[])):RV f vs w v:=by
 let M1:MT:=((List.range w.heap.size).filter fun k=>M.all fun x=>!(Nat.beq x.1 k)).map fun k=>(k,fun o=>w.heap[k]?=some o)
 have k1:∀ {k:Nat},k<w.heap.size->(∃ x∈M,x.1=k)\/(k,fun o=>w.heap[k]?=some o)∈M1:=fun {k} hk=>by
  by_cases hx:∃ x∈M,x.1=k
  ·exact .inl hx
  ·refine .inr (List.mem_map.2 ⟨k,List.mem_filter.2 ⟨List.mem_range.2 hk,List.all_eq_true.2 fun x h2=>?_⟩,rfl⟩)
   cases hq:Nat.beq x.1 k with
   | false=>rfl
   | true=>exact absurd ⟨x,h2,Nat.eq_of_beq_eq_true hq⟩ hx
 have k2:∀ x∈M1,x.1<w.heap.size/\(∀ y∈M,y.1≠x.1)/\x.2=fun o=>w.heap[x.1]?=some o:=fun x hx=>by
  obtain⟨k,hk,rfl⟩:=List.mem_map.1 hx
  obtain⟨h2,h3⟩:=List.mem_filter.1 hk
  refine⟨List.mem_range.1 h2,fun y hy e=>?_,rfl⟩
  have h4:=List.all_eq_true.1 h3 y hy
  simp only at e
  rw[e,Nat.beq_refl] at h4
  cases h4
 have hm:MR { w with heap:=#[] } (M++M1) [] w:=by
  refine⟨⟨⟨rfl,rfl,rfl,Nat.zero_le _,fun k hk=>absurd hk (Nat.not_lt_zero _)⟩,fun x hx=>⟨Nat.zero_le _,?_⟩,List.pairwise_append.2 ⟨hn,?_,fun x hx y hy e=>(k2 y hy).2.1 x hx e⟩⟩,by simp,.nil⟩
  ·rcases List.mem_append.1 hx with hx | hx
   ·obtain⟨ob,h1,h2,_⟩:=hM x hx
    exact⟨ob,h1,h2⟩
   ·obtain⟨h1,_,h2⟩:=k2 x hx
    exact⟨w.heap[x.1],Array.getElem?_eq_getElem h1,by rw[h2];exact Array.getElem?_eq_getElem h1⟩
  ·exact List.pairwise_map.2 ((List.nodup_range.filter _).imp fun h e=>h e)
 have kB:∀ w',Mem { w with heap:=#[] } (M++M1) w'->Below w.heap.size w w':=fun w' h3=>by
  have k3:∀ k,k<w.heap.size->w'.heap[k]?=w.heap[k]?:=fun k hk=>by
   rcases k1 hk with⟨x,hx,rfl⟩ | hx
   ·obtain⟨ob,h4,h5⟩:=(h3.has x (List.mem_append_left _ hx)).2
    obtain⟨o2,h6,_,h7⟩:=hM x hx
    rw[h4,h6,h7 _ h5]
   ·obtain⟨ob,h4,h5⟩:=(h3.has _ (List.mem_append_right _ hx)).2
    rw[h4]
    exact h5.symm
  refine⟨h3.below.os,h3.below.tape,h3.below.output,?_,k3⟩
  rcases Nat.lt_or_ge w'.heap.size w.heap.size with h4 | h4
  ·have:=k3 _ h4
   rw[Array.getElem?_eq_none (Nat.le_refl _),Array.getElem?_eq_getElem h4] at this
   cases this
  ·exact h4
 exact(h _ M1 kB w hm).mono fun e w' ⟨_,_,h2,h3⟩=>⟨h2,kB w' h3.m⟩
theorem isB_one {w:World}{g:Nat}{t:TypeId}{cs:Array Value}(h:Blk w g t cs):∃ ob,w.heap[g]?=some ob/\isB t cs ob ∧ ∀ o2,isB t cs o2->o2=ob:=⟨_,h,rfl,fun _ h2=>h2⟩
theorem blk_ne {w:World}{g g2:Nat}{t t2:TypeId}{cs cs2:Array Value}(h:Blk w g t cs)(h2:Blk w g2 t2 cs2)(hn:t≠t2):g≠g2:=fun e=>by
 subst e
 have h3:=Option.some.inj (h.symm.trans h2)
 injection h3 with h4 h5
 exact hn h5
section
def Tele.map (g:Value->Value):Tele->Tele
 | .ret v=>.ret (g v)
 | .row e m n xs k=>.row e m n xs fun v=>(k v).map g
 | .ex p k=>.ex p fun s=>(k s).map g
theorem Tele.sat_map {B:Nat}{w:World}{g:Value->Value}:∀ {T:Tele} {A:List Value} {u:Value},T.sat B w A u->(T.map g).sat B w A (g u)
 | .ret _,_,_,h=>congrArg g h
 | .row _ _ _ _ _,_,_,⟨v,h1,h2,h3⟩=>⟨v,h1,h2,Tele.sat_map h3⟩
 | .ex _ _,_,_,⟨s,h1,h2⟩=>⟨s,h1,Tele.sat_map h2⟩
theorem Tele.inE_map {es:List TypeId}{g:Value->Value}:∀ {T:Tele},T.inE es->(T.map g).inE es
 | .ret _,h=>h
 | .row _ _ _ _ _,⟨h1,h2⟩=>⟨h1,fun v=>Tele.inE_map (h2 v)⟩
 | .ex _ _,h=>fun s=>Tele.inE_map (h s)
def Tele.each (P:Value->Prop):Tele->Prop
 | .ret v=>P v
 | .row _ _ _ _ k=>∀ v,(k v).each P
 | .ex _ k=>∀ s,(k s).each P
theorem Tele.sat_each {B:Nat}{w:World}{P:Value->Prop}:∀ {T:Tele} {A:List Value} {u:Value},T.each P->T.sat B w A u->P u
 | .ret _,_,_,h,h2=>by cases (show _=_ from h2);exact h
 | .row _ _ _ _ _,_,_,h,⟨v,_,_,h3⟩=>Tele.sat_each (h v) h3
 | .ex _ _,_,_,h,⟨s,_,h2⟩=>Tele.sat_each (h s) h2
def tupX (i:Nat):Value->Value
 | .tuple vs=>vs.getD i undef
 | v=>v
def isTup (i:Nat)(u:Value):Prop:=∃ vs,u = .tuple vs/\i<vs.size
section
variable {D:List Deferred}{nt:Nat}{w0:World}{L:LT}{M:MT}{R:List Rw}{l:List Oper}{KL:List Kp}{AL:List NewZ}{BL:List OldQ}{js:List Nat}{Bs i j s d:Nat}{ty:TypeId}{ps:String}{af:Array Edge}
theorem isTup.get {q:Nat}{u:Value}(h:isTup q u):∃ vs,u = .tuple vs/\vs[q]?=some (tupX q u):=by
 obtain⟨vs,rfl,h2⟩:=h
 exact⟨vs,rfl,by simp[tupX,Array.getD,h2]⟩
theorem oXg {es:List TypeId}{T T2:Tele}(q:Nat)(hj:dIdx l s 0=some j:=by rfl)(hK:KL.getD j .any = .tel es T:=by rfl)(hT:T.each (isTup q):=by(repeat refine fun _=>?_);exact⟨_,rfl,Nat.le_of_ble_eq_true rfl⟩)(h2:T.map (tupX q)=T2:=by rfl)(hb:depB l i j s=true:=by kernel_rfl)(hA:(AL.all fun d=>!(Nat.beq d.iA j))=true:=by kernel_rfl):OPd Tryz.prog (QZ D nt w0 L M R l KL AL BL js Bs i) ⟨some d,.extract (.tmp s) q,ty,ps,af,none⟩ l (.tel es T2) Bs:=fun a W hg=>by
 subst h2
 obtain⟨v,h1,h2⟩:=hg.dep j s hb hA
 rw[hK] at h2
 obtain⟨hE,h3⟩:=h2
 obtain⟨vs,rfl,h4⟩:=(Tele.sat_each hT h3).get
 exact .inl ⟨wanted_yes rfl,givz_run (run_ext rfl (eval_tmp h1) h4) ⟨Tele.inE_map hE,Tele.sat_map h3⟩⟩
theorem oXv {es:List TypeId}{T:Tele}{c:Value}(q:Nat)(hj:dIdx l s 0=some j:=by rfl)(hK:KL.getD j .any = .tel es T:=by rfl)(hT:T.each (isTup q):=by(repeat refine fun _=>?_);exact⟨_,rfl,Nat.le_of_ble_eq_true rfl⟩)(h2:T.each (fun u=>tupX q u=c):=by(repeat refine fun _=>?_);rfl)(hb:depB l i j s=true:=by kernel_rfl)(hA:(AL.all fun d=>!(Nat.beq d.iA j))=true:=by kernel_rfl):OPd Tryz.prog (QZ D nt w0 L M R l KL AL BL js Bs i) ⟨some d,.extract (.tmp s) q,ty,ps,af,none⟩ l (.val c) Bs:=fun a W hg=>by
 obtain⟨v,h1,h3⟩:=hg.dep j s hb hA
 rw[hK] at h3
 have h5:tupX q v=c:=Tele.sat_each (P:=fun u=>tupX q u=c) h2 h3.2
 obtain⟨vs,rfl,h4⟩:=(Tele.sat_each hT h3.2).get
 exact .inl ⟨wanted_yes rfl,givz_run (run_ext rfl (eval_tmp h1) h4) h5⟩
end
end
end Go.Proofs.YtdjholkjkbihmaaGreatDoor
