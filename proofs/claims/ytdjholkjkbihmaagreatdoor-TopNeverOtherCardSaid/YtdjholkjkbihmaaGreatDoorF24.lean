/- Laws and walks of TopNeverOther. -/
import Derived.Test.YtdjholkjkbihmaaGreatDoorF23
namespace Go.Proofs.YtdjholkjkbihmaaGreatDoor
open Go.RowKit
set_option maxRecDepth 100000
set_option maxHeartbeats 4000000
section
section
variable {D:List Deferred}{nt:Nat}{w0:World}{L:LT}{M:MT}{R:List Rw}{G:Kn}{x y z:Operand}{v:Value}{ops:Array Oper}{rest:List Oper}{Q:Exit->Act->World->Prop}{t ty tyo e:TypeId}{ps:String}{af:Array Edge}{k k2:IntKind}{p q:Int}{n m g o d c:Nat}{l:List UInt8}{zs:List Int}{f:List UInt8->Option Nat}
theorem PR.m4 (i:Nat)(e:M[i]?=some (g,isMap4 f m):=by rfl)(hx:EV (St D nt w0 L M R) x (.map (some g)):=by exact ev)(hy:EV (St D nt w0 L M R) y (.agg (cells8 l)):=by exact ev)(hl:l.length=4:=by assumption):PR Tryz.prog (St D nt w0 L M R) (.lookup 263 x y true) (.tuple #[i6 (((f l).getD 0:Nat):Int),.bool (f l).isSome]):=fun a w _ ho hs=>run_inMap4 ho (hx a w hs) (hy a w hs) (hs.m.ob i e) hl
theorem m4p (i:Nat)(h:KX D nt w0 L (M.set i (g,isMap4 (putF f l n) (m+1))) R (wpList Tryz.prog ops Q rest))(hx:EV (St D nt w0 L M R) x (.map (some g)):=by exact ev)(hy:EV (St D nt w0 L M R) y (.agg (cells8 l)):=by exact ev)(hz:EV (St D nt w0 L M R) z (i6 (n:Int)):=by exact ev)(e:M[i]?=some (g,isMap4 f m):=by rfl)(hl:l.length=4:=by assumption)(hn:n<=maxLen:=by unfold maxLen;omega)(hm:m<maxLen:=by unfold maxLen;omega):KX D nt w0 L M R (wpList Tryz.prog ops Q (⟨none,.mapUpdate 263 x y z,tyo,ps,af,none⟩::rest)):=fun a w hs=>
 sqMap4Put (i:=i) hs.f hs.m rfl rfl rfl (hx a w hs) (hy a w hs) (hz a w hs) e hl hn hm fun a2 w2 hg hF hM=>h a2 w2 ⟨hF,hM,fun q hq=>(hs.r q hq).upd i e hg,hs.nd⟩
theorem m4n {r:Option Operand}(h:∀ g,KX D nt w0 ((d,.map (some g))::L) ((g,isMap4 (fun _=>none) 0)::M) R (wpList Tryz.prog ops Q rest))(hr:r=none:=by rfl)(hb:Nat.blt d nt=true:=by rfl):KX D nt w0 L M R (wpList Tryz.prog ops Q (⟨some d,.makeMap 263 r,tyo,ps,af,none⟩::rest)):=fun a w hs=>
 sqMakeMap4 hs.f hs.m rfl rfl (fun q hq=>by rw[hr] at hq;cases hq) rfl (Nat.le_of_ble_eq_true hb) fun g a2 w2 hg hB hF hM=>h g a2 w2 ⟨hF,hM,fun x hx=>(hs.r x hx).add hB hg,hs.nd⟩
theorem mI (m:Nat)(h:∀ g,KX D nt w0 ((d,.slice (some ⟨g,0,none⟩) m m)::L) ((g,isB 3 (cellsI (List.replicate m 0)))::M) R (wpList Tryz.prog ops Q rest))(hx:EV (St D nt w0 L M R) x (.int k p):=by exact ev)(hy:EV (St D nt w0 L M R) y (.int k2 q):=by exact ev)(hp:p=(m:Int):=by rfl)(hq:q=(m:Int):=by rfl)(hm:m<=35184372088832:=by omega)(hb:Nat.blt d nt=true:=by rfl):KX D nt w0 L M R (wpList Tryz.prog ops Q (⟨some d,.makeSlice 26 x y,tyo,ps,af,none⟩::rest)):=fun a w hs=>
 sqMakeI hs.f hs.m rfl rfl (hx a w hs) (hy a w hs) hp hq hm rfl (Nat.le_of_ble_eq_true hb) fun g a2 w2 hg hB hF hM=>h g a2 w2 ⟨hF,hM,fun x hx=>(hs.r x hx).add hB hg,hs.nd⟩
theorem cellsI_get {u:Int}(h:zs[o]?=some u):(cellsI zs)[o]?=some (i6 u):=by simp[cellsI,h]
theorem cellsI_set {u:Int}(h:o<zs.length):spl (cellsI zs) o [i6 u]=cellsI (zs.set o u):=by
 unfold spl cellsI
 apply Array.ext'
 show(zs.map fun z=>Value.int .i64 z).take o ++ [i6 u]++(zs.map fun z=>Value.int .i64 z).drop (o+1)=(zs.set o u).map fun z=>Value.int .i64 z
 rw[List.map_set,List.set_eq_take_append_cons_drop,if_pos (by simpa using h)]
 simp
theorem cellsI_size :(cellsI zs).size=zs.length:=by simp[cellsI]
theorem sI (i:Nat){u:Int}(h:KX D nt w0 L (M.set i (g,isB t (cellsI (zs.set o u)))) R (wpList Tryz.prog ops Q rest))(ho:o<zs.length)(e:M[i]?=some (g,isB t (cellsI zs)):=by rfl)(hx:EV (St D nt w0 L M R) x (px g o):=by exact ev)(hy:EV (St D nt w0 L M R) y (i6 u):=by exact ev)(hs:szT ty=some 1:=by rfl):KX D nt w0 L M R (wpList Tryz.prog ops Q (⟨none,.store ty x y,tyo,ps,af,none⟩::rest)) :=
 s1 i h e hx hy hs rfl (by rw[cellsI_size];omega) (cellsI_set ho)
theorem PR.yA (kk:Nat){m2:Nat}(h:M[kk]?=some (g,isY l):=by rfl)(hx:EV (St D nt w0 L M R) x (.slice (some ⟨g,0,none⟩) n c):=by exact ev)(hu:und ty=some (.array m2 e):=by rfl)(hm:m2<=n:=by omega):PR Tryz.prog (St D nt w0 L M R) (.sliceToArrayPointer ty x) (pt g):=fun a w _ ho hs=>by
 rw[run_arrAt ho (hx a w hs) (und_ok hu) hm]
theorem PR.yL (kk:Nat)(h:M[kk]?=some (g,isY l):=by rfl)(hx:EV (St D nt w0 L M R) x (pt g):=by exact ev)(hl:l.length=4:=by assumption):PR Tryz.prog (St D nt w0 L M R) (.load 342 x) (.agg (cells8 l)):=fun a w _ ho hs=>run_ld4 ho (hx a w hs) (hs.m.ob kk h) hl
end
section
variable {D:List Deferred}{nt:Nat}{w0:World}{L:LT}{M:MT}{R:List Rw}{l:List Oper}{K:LT->Prop}{os:List Oper}{op:Op}{ty:TypeId}{ps:String}{af:Array Edge}{d j sj:Nat}{oj:Oper}{b want:Bool}
theorem YDo (k:DQ D nt w0 M R l K (⟨some d,op,ty,ps,af,none⟩::os) L)(hj:l[j]?=some oj:=by rfl)(hd:oj.dst=some sj:=by rfl)(he:lz L sj=some (.bool b):=by rfl)(hb:(b==want)=true:=by rfl):DQ D nt w0 M R l K (⟨some d,op,ty,ps,af,some (j,want)⟩::os) L:=by
 obtain⟨v,h1,h2,h3⟩:=k
 refine⟨v,fun a W hs=>?_,rfl,h3⟩
 have hw:=St.wanted hs (ops:=l.toArray) (o:=⟨some d,op,ty,ps,af,some (j,want)⟩) rfl (by simpa using hj) hd he
 rcases h1 a W hs with⟨_,h⟩ | ⟨h,_⟩
 ·exact .inl ⟨by rw[hw];revert hb;cases b <;> cases want <;> simp[isW],h⟩
 ·rw[wanted_yes rfl] at h;cases h
theorem YSk (k:DQ D nt w0 M R l K os ((d,undef)::L))(hj:l[j]?=some oj:=by rfl)(hd:oj.dst=some sj:=by rfl)(he:lz L sj=some (.bool b):=by rfl)(hb:(b==want)=false:=by rfl):DQ D nt w0 M R l K (⟨some d,op,ty,ps,af,some (j,want)⟩::os) L:=⟨undef,fun a W hs=>by
 have hw:=St.wanted hs (ops:=l.toArray) (o:=⟨some d,op,ty,ps,af,some (j,want)⟩) rfl (by simpa using hj) hd he
 exact .inr ⟨by rw[hw];revert hb;cases b <;> cases want <;> simp[isW],rfl⟩,rfl,k⟩
end
end
theorem tokS_run {x:List UInt8}(out rest:List UInt8)(most:Int)(hx:x ≠ [])(hm:(out.length:Int)+x.length<=most) :
  tokS out (UInt8.ofNat (min x.length 128-1)::x.take 128++rest) most=(0,out++x.take 128,(x.take 128).length+1):=by
 have h0:0<x.length:=List.length_pos_iff.2 hx
 have hc:(UInt8.ofNat (min x.length 128-1)).toNat=min x.length 128-1:=by
  rw[UInt8.toNat_ofNat'];omega
 have ht:(x.take 128).length=min x.length 128:=by rw[List.length_take];omega
 unfold tokS
 rw[List.cons_append,List.getD_cons_zero,hc,if_pos (by omega),if_neg (by rw[List.length_cons,List.length_append,ht];omega),if_neg (by omega),List.drop_succ_cons,List.drop_zero]
 rw[show min x.length 128-1+1=(x.take 128).length by rw[ht];omega,List.take_left',show min x.length 128-1+2=(x.take 128).length+1 by rw[ht];omega]
 rfl
theorem unpT_run :∀ (k:Nat) (x out rest:List UInt8) (most:Int),x.length<=k->(out.length:Int)+x.length<=most->unpT out (runS x++rest) most=unpT (out++x) rest most
 | 0,x,out,rest,most,hk,_=>by
  obtain rfl:x = []:=List.length_eq_zero_iff.1 (by omega)
  rw[runS_nil,List.nil_append,List.append_nil]
 | k+1,x,out,rest,most,hk,hm=>by
  by_cases hx:x = []
  ·subst hx;rw[runS_nil,List.nil_append,List.append_nil]
  ·have h0:0<x.length:=List.length_pos_iff.2 hx
   rw[runS_cons hx,List.append_assoc,unpT_step _ _ (by simp),tokS_run out _ most hx hm,if_neg (by simp)]
   rw[show(UInt8.ofNat (min x.length 128-1)::List.take 128 x++(runS (List.drop 128 x)++rest)).drop ((x.take 128).length+1)=runS (x.drop 128)++rest by
    rw[List.cons_append,List.drop_succ_cons,List.drop_left'];rfl]
   rw[unpT_run k (x.drop 128) (out++x.take 128) rest most (by rw[List.length_drop];omega) (by rw[List.length_append,List.length_take,List.length_drop];omega)]
   rw[List.append_assoc,List.take_append_drop]
theorem tokS_copy {n far:Nat}(out rest:List UInt8)(most:Int)(h4:4<=n)(hn:n<=131)(hf:0<far)(hf2:far<=65535)(hfo:far<=out.length)(hm:(out.length:Int)+n<=most):tokS out (copyT n far++rest) most=(0,copyS out far n,3):=by
 have h1:(UInt8.ofNat (n+124)).toNat=n+124:=by rw[UInt8.toNat_ofNat'];omega
 have h2:(UInt8.ofNat (far%256)).toNat=far%256:=by rw[UInt8.toNat_ofNat'];omega
 have h3:(UInt8.ofNat (far/256)).toNat=far/256:=by rw[UInt8.toNat_ofNat'];omega
 have e:far%256+256*(far/256)=far:=by omega
 unfold tokS copyT
 simp only[List.cons_append,List.nil_append,List.getD_cons_zero,List.getD_cons_succ,h1,h2,h3,e,List.length_cons]
 rw[if_neg (by omega),if_neg (by omega),if_neg (by omega),if_neg (by omega),show n+124-124=n by omega]
theorem copyS_front {s:List UInt8}{at' far:Nat}(pre:List UInt8)(hf:0<far)(hfa:far<=at'):∀ n,n<=sameS s at' far->copyS (pre++s.take at') far n=pre++s.take (at'+n)
 | 0,_=>rfl
 | n+1,h=>by
  have hl:=sameS_le s at' far
  unfold mostS at hl
  rw[copyS,copyS_front pre hf hfa n (by omega)]
  have hlen:(pre++s.take (at'+n)).length=pre.length+(at'+n):=by rw[List.length_append,List.length_take];omega
  have hg:=sameS_get (s:=s) (at':=at') (far:=far) (i:=n) (by omega)
  have hlt:at'+n<s.length:=by omega
  have hb:(pre++s.take (at'+n)).getD ((pre++s.take (at'+n)).length-far) 0=s[at'+n]:=by
   rw[hlen,List.getD_eq_getElem?_getD,List.getElem?_append_right (by omega),List.getElem?_take_of_lt (by omega),show pre.length+(at'+n)-far-pre.length=at'-far+n by omega,←hg,List.getElem?_eq_getElem hlt]
   rfl
  rw[hb,List.append_assoc,←List.take_succ_eq_append_getElem hlt]
  rfl
theorem bestS_spec {s:List UInt8}{at':Nat}(h:4<=(bestS s at').1):0<(bestS s at').2/\(bestS s at').2<=at'/\(bestS s at').2<=65535/\(bestS s at').1=sameS s at' (bestS s at').2/\(bestS s at').1<=mostS s at':=by
 have h1:=bestTo_spec s at' (min at' 65535)
 have h2:=bestTo_le s at' (min at' 65535)
 unfold bestS at h ⊢
 rcases h1 with h1 | h1
 ·omega
 ·exact⟨h1.1,by omega,by omega,h1.2.2,h2⟩
theorem unpT_pack (s pre rest:List UInt8)(most:Int)(hm:(pre.length:Int)+s.length<=most):∀ (k alone at':Nat),s.length-at'<=k->alone<=at'->at'<=s.length->unpT (pre++s.take alone) (packT s alone at'++rest) most=unpT (pre++s) rest most:=by
 have hend:∀ alone,alone<=s.length->unpT (pre++s.take alone) (runS (s.drop alone)++rest) most=unpT (pre++s) rest most:=by
  intro alone ha
  rw[unpT_run _ _ _ _ _ (Nat.le_refl _) (by rw[List.length_append,List.length_take,List.length_drop];omega),List.append_assoc,List.take_append_drop]
 intro k
 induction k with
 | zero=>
  intro alone at' h1 h2 h3
  rw[packT_end alone (by omega)]
  exact hend alone (by omega)
 | succ k ih=>
  intro alone at' h1 h2 h3
  rcases Nat.lt_or_ge at' s.length with h | h
  ·rw[packT_step alone h]
   by_cases h4:(bestS s at').1<4
   ·rw[if_pos h4]
    exact ih alone (at'+1) (by omega) (by omega) (by omega)
   ·rw[if_neg h4]
    obtain⟨g1,g2,g3,g4,g5⟩:=bestS_spec (s:=s) (at':=at') (by omega)
    generalize hn:(bestS s at').1=n at *
    generalize hf:(bestS s at').2=far at *
    have hms:n<=131/\at'+n<=s.length:=by unfold mostS at g5;omega
    have ht:s.take alone++(s.drop alone).take (at'-alone)=s.take at':=by
     conv=>rhs;rw[show at'=alone+(at'-alone) by omega]
     rw[List.take_add]
    have hta:(s.take at').length=at':=by rw[List.length_take];omega
    rw[List.append_assoc,List.append_assoc,unpT_run _ _ _ _ _ (Nat.le_refl _) (by rw[List.length_append,List.length_take,List.length_take,List.length_drop];omega),List.append_assoc,ht]
    rw[unpT_step _ _ (by simp[copyT]),tokS_copy _ _ most (by omega) hms.1 g1 g3 (by rw[List.length_append,hta];omega) (by rw[List.length_append,hta];omega),if_neg (by simp)]
    rw[show(copyT n far++(packT s (at'+n) (at'+n)++rest)).drop 3=packT s (at'+n) (at'+n)++rest from rfl]
    show unpT (copyS (pre++s.take at') far n) _ _=_
    rw[copyS_front pre g1 g2 n (by omega)]
    exact ih (at'+n) (at'+n) (by omega) (Nat.le_refl _) hms.2
  ·rw[packT_end alone h]
   exact hend alone (by omega)
theorem unp_pack (s:List UInt8)(most:Int)(hm:(s.length:Int)<=most):unpT [] (packS s) most=(s,0):=by
 have h:=unpT_pack s [] [] most (by simpa using hm) s.length 0 0 (by omega) (by omega) (by omega)
 simpa[packS,unpT_nil] using h
theorem runS_len :∀ (k:Nat) (x:List UInt8),x.length<=k->(runS x).length=x.length+(x.length+127)/128
 | 0,x,hk=>by
  obtain rfl:x = []:=List.length_eq_zero_iff.1 (by omega)
  rfl
 | k+1,x,hk=>by
  by_cases hx:x = []
  ·subst hx;rfl
  ·have h0:0<x.length:=List.length_pos_iff.2 hx
   rw[runS_cons hx,List.length_append,List.length_cons,List.length_take,runS_len k (x.drop 128) (by rw[List.length_drop];omega),List.length_drop]
   omega
theorem packT_len (s:List UInt8):∀ (k alone at':Nat),s.length-at'<=k->alone<=at'->at'<=s.length->(packT s alone at').length<=s.length-alone+(s.length-alone+127)/128:=by
 intro k
 induction k with
 | zero=>
  intro alone at' h1 h2 h3
  rw[packT_end alone (by omega),runS_len _ _ (Nat.le_refl _),List.length_drop]
  omega
 | succ k ih=>
  intro alone at' h1 h2 h3
  rcases Nat.lt_or_ge at' s.length with h | h
  ·rw[packT_step alone h]
   by_cases h4:(bestS s at').1<4
   ·rw[if_pos h4]
    exact ih alone (at'+1) (by omega) (by omega) (by omega)
   ·rw[if_neg h4]
    obtain⟨g1,g2,g3,g4,g5⟩:=bestS_spec (s:=s) (at':=at') (by omega)
    generalize hn:(bestS s at').1=n at *
    have hms:n<=131/\at'+n<=s.length:=by unfold mostS at g5;omega
    have:=ih (at'+n) (at'+n) (by omega) (Nat.le_refl _) hms.2
    rw[List.length_append,List.length_append,runS_len _ _ (Nat.le_refl _),List.length_take,List.length_drop,show(copyT n (bestS s at').2).length=3 from rfl]
    omega
  ·rw[packT_end alone h,runS_len _ _ (Nat.le_refl _),List.length_drop]
   omega
theorem pack_len (s:List UInt8):(packS s).length<=s.length+(s.length+127)/128:=by
 have h:=packT_len s s.length 0 0 (by omega) (by omega) (by omega)
 rw[Nat.sub_zero] at h
 exact h
def fourS (s:List UInt8)(p:Nat):List UInt8:=(s.drop p).take 4
theorem fourS_len {s:List UInt8}{p:Nat}(h:p+4<=s.length):(fourS s p).length=4:=by unfold fourS;rw[List.length_take,List.length_drop];omega
theorem fourS_at {s:List UInt8}{p:Nat}(h:(fourS s p).length=4):p+4<=s.length:=by unfold fourS at h;rw[List.length_take,List.length_drop] at h;omega
theorem fourS_get (s:List UInt8)(p i:Nat)(h:i<4):(fourS s p)[i]?=s[p+i]?:=by unfold fourS;rw[List.getElem?_take_of_lt h,List.getElem?_drop]
def lastS (s K:List UInt8):Nat->Option Nat
 | 0=>none
 | q+1=>if fourS s q=K then some q else lastS s K q
def encZ :Option Nat->Int
 | none=>-1
 | some j=>j
theorem lastS_some {s K:List UInt8}:∀ {q j:Nat},lastS s K q=some j->j<q/\fourS s j=K ∧ ∀ i,j<i->i<q->fourS s i≠K
 | 0,j,h=>by simp[lastS] at h
 | q+1,j,h=>by
  unfold lastS at h
  split at h
  ·rename_i e
   injection h with h
   subst h
   exact⟨by omega,e,fun i h1 h2=>by omega⟩
  ·rename_i e
   obtain⟨h1,h2,h3⟩:=lastS_some h
   refine⟨by omega,h2,fun i h4 h5=>?_⟩
   rcases Nat.lt_or_ge i q with h6 | h6
   ·exact h3 i h4 h6
   ·obtain rfl:i=q:=by omega
    exact e
theorem lastS_none {s K:List UInt8}:∀ {q:Nat},lastS s K q=none->∀ i,i<q->fourS s i≠K
 | 0,_,i,hi=>by omega
 | q+1,h,i,hi=>by
  unfold lastS at h
  split at h
  ·cases h
  ·rename_i e
   rcases Nat.lt_or_ge i q with h6 | h6
   ·exact lastS_none h i h6
   ·obtain rfl:i=q:=by omega
    exact e
theorem same_ge4 {s:List UInt8}{p i:Nat}(hi:i<p)(hp:p+4<=s.length)(h:fourS s i=fourS s p):4<=sameS s p (p-i):=by
 refine sameS_ge (by unfold mostS;omega) fun j hj=>?_
 rw[←fourS_get s p j hj,←h,fourS_get s i j hj,show p-(p-i)+j=i+j by omega]
theorem same_lt4 {s:List UInt8}{p i:Nat}(hi:i<p)(h:fourS s i≠fourS s p):sameS s p (p-i)<4:=by
 rcases Nat.lt_or_ge (sameS s p (p-i)) 4 with h4 | h4
 ·exact h4
 ·exfalso
  apply h
  have hl:=sameS_le s p (p-i)
  unfold mostS at hl
  apply List.ext_getElem?
  intro j
  rcases Nat.lt_or_ge j 4 with hj | hj
  ·have:=sameS_get (s:=s) (at':=p) (far:=p-i) (i:=j) (by omega)
   rw[fourS_get s i j hj,fourS_get s p j hj,this,show p-(p-i)+j=i+j by omega]
  ·rw[List.getElem?_eq_none (by unfold fourS;rw[List.length_take];omega),List.getElem?_eq_none (by unfold fourS;rw[List.length_take];omega)]
theorem same_le_of {s:List UInt8}{p i x:Nat}(hi:i<p)(h:s[i+x]?≠s[p+x]?):sameS s p (p-i)<=x:=by
 rcases Nat.lt_or_ge x (sameS s p (p-i)) with h4 | h4
 ·exfalso
  have:=sameS_get (s:=s) (at':=p) (far:=p-i) (i:=x) h4
  rw[show p-(p-i)+x=i+x by omega] at this
  exact h this.symm
 ·exact h4
theorem best4_to {s:List UInt8}{p q j:Nat}(hj:j<q)(hq:q<=p)(h:∀ i,j<i->i<q->fourS s i≠fourS s p):best4 s p (p-j-1)=best4 s p (p-q):=by
 have:=best4_skip s p (p-q) (q-j-1) fun d h1 h2=>.inr ?_
 ·rwa[show p-q+(q-j-1)=p-j-1 by omega] at this
 ·have:=same_lt4 (s:=s) (p:=p) (i:=p-d) (by omega) (h _ (by omega) (by omega))
  rwa[show p-(p-d)=d by omega] at this
theorem best4_one (s:List UInt8)(p j:Nat)(hj:j<p):best4 s p (p-j)=if(best4 s p (p-j-1)).1<sameS s p (p-j)/\4<=sameS s p (p-j) then(sameS s p (p-j),p-j) else best4 s p (p-j-1):=by
 have e:p-j=p-j-1+1:=by omega
 conv=>lhs;rw[e]
 rw[best4,show p-j-1+1=p-j by omega]
theorem best4_end1 {s:List UInt8}{p q:Nat}(hq:q<=p)(h:∀ i,i<q->fourS s i≠fourS s p)(hd:p-q<=65535):best4 s p (min p 65535)=best4 s p (p-q):=by
 have:=best4_skip s p (p-q) (min p 65535-(p-q)) fun d h1 h2=>.inr ?_
 ·rwa[show p-q+(min p 65535-(p-q))=min p 65535 by omega] at this
 ·have:=same_lt4 (s:=s) (p:=p) (i:=p-d) (by omega) (h _ (by omega))
  rwa[show p-(p-d)=d by omega] at this
theorem best4_end2 {s:List UInt8}{p q j:Nat}(hj:j<q)(hq:q<=p)(hd:p-q<=65535)(hf:65535<p-j)(h:∀ i,j<i->i<q->fourS s i≠fourS s p):best4 s p (min p 65535)=best4 s p (p-q):=by
 have:=best4_skip s p (p-q) (65535-(p-q)) fun d h1 h2=>.inr ?_
 ·rwa[show p-q+(65535-(p-q))=min p 65535 by omega] at this
 ·have:=same_lt4 (s:=s) (p:=p) (i:=p-d) (by omega) (h _ (by omega) (by omega))
  rwa[show p-(p-d)=d by omega] at this
theorem best4_end3 {s:List UInt8}{p q:Nat}(hq:q<=p)(hd:p-q<=65535)(hm:mostS s p<=(best4 s p (p-q)).1):best4 s p (min p 65535)=best4 s p (p-q):=by
 have:=best4_skip s p (p-q) (min p 65535-(p-q)) fun d _ _=>.inl (Nat.le_trans (sameS_le s p d) hm)
 rwa[show p-q+(min p 65535-(p-q))=min p 65535 by omega] at this
theorem best4_few {s:List UInt8}{p:Nat}(h:s.length-p<4):∀ k,best4 s p k=(0,0)
 | 0=>rfl
 | k+1=>by
  have hl:=sameS_le s p (k+1)
  unfold mostS at hl
  rw[best4,if_neg (by omega),best4_few h k]
theorem lastS_far {s K:List UInt8}(hK:K.length=4):∀ {q n:Nat},s.length<q+4->lastS s K (q+n)=lastS s K q
 | q,0,_=>rfl
 | q,n+1,h=>by
  show lastS s K (q+n+1)=_
  rw[lastS,if_neg ?_,lastS_far hK h]
  intro e
  have:=fourS_at (s:=s) (p:=q+n) (by rw[e];exact hK)
  omega
def Passed (s:List UInt8)(f:List UInt8->Option Nat)(k:Nat)(zs:List Int)(p:Nat):Prop:=k<=p/\zs.length=s.length/\(∀ K,K.length=4->f K=lastS s K p) ∧ ∀ i,i<p->i+4<=s.length->zs[i]?=some (encZ (lastS s (fourS s i) i))
theorem Passed.far {s:List UInt8}{f:List UInt8->Option Nat}{k i q:Nat}{zs:List Int}(h:Passed s f k zs i)(h4:s.length<i+4)(hq:i<=q):Passed s f k zs q:=by
 obtain⟨h1,h2,h3,h5⟩:=h
 refine⟨by omega,h2,fun K hK=>?_,fun j hj hj4=>h5 j (by omega) hj4⟩
 rw[h3 K hK,show q=i+(q-i) by omega,lastS_far hK h4]
theorem Passed.next {s:List UInt8}{f:List UInt8->Option Nat}{k i:Nat}{zs:List Int}{K:List UInt8}{u:Int}(h:Passed s f k zs i)(hK:fourS s i=K)(hi:i<s.length)(hu:u=encZ (lastS s K i)):Passed s (putF f K i) (k+1) (zs.set i u) (i+1):=by
 obtain⟨h1,h2,h3,h5⟩:=h
 refine⟨by omega,by rw[List.length_set];exact h2,fun K2 hK2=>?_,fun j hj hj4=>?_⟩
 ·unfold putF
  rw[lastS,hK]
  by_cases e:K2=K
  ·rw[if_pos e,if_pos e.symm]
  ·rw[if_neg e,if_neg (fun h=>e h.symm),h3 K2 hK2]
 ·rcases Nat.lt_or_ge j i with h6 | h6
  ·rw[List.getElem?_set_ne (by omega)];exact h5 j h6 hj4
  ·obtain rfl:j=i:=by omega
   rw[List.getElem?_set_self (by omega),hu,hK]
def fourV (s:List UInt8)(p:Nat):Value:=if p+4<=s.length then .tuple #[.agg (cells8 (fourS s p)),.bool true] else .tuple #[.agg (cells8 (List.replicate 4 0)),.bool false]
theorem zfour {s:List UInt8}{p gp gm ga:Nat}{w:World}(hB:Blk w gp 265 #[sv s,.map (some gm),.slice (some ⟨ga,0,none⟩) s.length s.length])(hs:s.length<=2^32)(hp:p<=s.length):RV 217 #[pt gp,i6 (p:Int)] w (fourV s p):=by
 refine enter Tryz.func217 ?_
 refine rg (aa Tryz.zeroValue342 (fun g0=>kM 0 (cells8 (List.replicate 4 0)) ?_))
 refine p1 .as (en (se (rg (p3 .mv .nil .fa (pp (PR.lc (g:=gp) (o:=0) (v:=sv s) (cs:=#[sv s,.map (some gm),.slice (some ⟨ga,0,none⟩) s.length s.length]) rfl ev (fun _ _ h=>hB.below h.m.below hB.lt)) (p2 .ln .mv (pp (PR.sb ((s.length:Int)-(p:Int))) (p1 .lss (en (sd (fun hp4=>?_) (fun hp4=>?_)))))))))))
 ·rw[fourV,if_neg (by omega)]
  refine rg (pp ((PR.bd #[.int .u8 0,.int .u8 0,.int .u8 0,.int .u8 0]).to (v2:=.agg (cells8 (List.replicate 4 0))) rfl) (sw 0 (h1:=cells8_one _) (hV:=by rw[cells8_size];first | rfl | assumption) (hW:=by rw[cells8_size];first | rfl | assumption) ?_))
  exact p1 .as (en (rt (nR qv)))
 ·have hp5:p+4<=s.length:=by omega
  have lF:=fourS_len hp5
  have lF2:(cells8 (fourS s p)).size=4:=by rw[cells8_size,lF]
  rw[fourV,if_pos hp5]
  refine sk (nN (rg (p3 .mv .nil .fa (pp (PR.lc (g:=gp) (o:=0) (v:=sv s) (cs:=#[sv s,.map (some gm),.slice (some ⟨ga,0,none⟩) s.length s.length]) rfl ev (fun _ _ h=>hB.below h.m.below hB.lt)) (p2 .mv .mv (pp (PR.ad ((p+4:Nat):Int)) (pp ((PR.sm (i:=p) (j:=p+4)).to (v2:=sv (fourS s p)) (by rw[Nat.add_sub_cancel_left];rfl)) (yB (fun gy cy hcy=>?_)))))))))
  refine pp (PR.yA 0 (hm:=by rw[lF];decide)) (pp (PR.yL 0 (hl:=lF)) (sw 1 (h1:=cells8_one _) (hV:=by rw[cells8_size];exact lF) (hW:=by rw[cells8_size];first | rfl | assumption) ?_))
  exact p1 .as (en (rt qv))
theorem zfourT {s:List UInt8}{p gp gm ga:Nat}{w:World}(hB:Blk w gp 265 #[sv s,.map (some gm),.slice (some ⟨ga,0,none⟩) s.length s.length])(hs:s.length<=2^32)(hp:p+4<=s.length):RV 217 #[pt gp,i6 (p:Int)] w (.tuple #[.agg (cells8 (fourS s p)),.bool true]):=by
 have h:=zfour hB hs (by omega:p<=s.length)
 rwa[fourV,if_pos hp] at h
theorem zfourF {s:List UInt8}{p gp gm ga:Nat}{w:World}(hB:Blk w gp 265 #[sv s,.map (some gm),.slice (some ⟨ga,0,none⟩) s.length s.length])(hs:s.length<=2^32)(hp:p<=s.length)(h4:¬ p+4<=s.length):RV 217 #[pt gp,i6 (p:Int)] w (.tuple #[.agg (cells8 (List.replicate 4 0)),.bool false]):=by
 have h:=zfour hB hs hp
 rwa[fourV,if_neg h4] at h
theorem Passed.enc {s:List UInt8}{f:List UInt8->Option Nat}{k i:Nat}{zs:List Int}{K:List UInt8}{u:Int}(h:Passed s f k zs i)(lK:K.length=4)(hu:encZ (f K)=u):u=encZ (lastS s K i):=by rw[←h.2.2.1 K lK,hu]
theorem zpass {w0:World}{M0:MT}{R0:List Rw}{s:List UInt8}{f:List UInt8->Option Nat}{k p n gp gm ga:Nat}{zs:List Int}(hs:s.length<=2^32)(hpn:p+n<=s.length)(hpd:Passed s f k zs p):RM 152 #[pt gp,i6 (p:Int),i6 (n:Int)] w0 ((gp,isB 265 #[sv s,.map (some gm),.slice (some ⟨ga,0,none⟩) s.length s.length])::(ga,isB 3 (cellsI zs))::(gm,isMap4 f k)::M0) R0 (A:=((List UInt8->Option Nat)×Nat×List Int)×Value) (fun q=>Passed s q.1.1 q.1.2.1 q.1.2.2 (p+n)) (fun q=>q.2) (fun q=>((gp,isB 265 #[sv s,.map (some gm),.slice (some ⟨ga,0,none⟩) s.length s.length])::(ga,isB 3 (cellsI q.1.2.2))::(gm,isMap4 q.1.1 q.1.2.1)::M0)) (fun _=>R0):=by
 refine enterM Tryz.func152 ?_
 refine r2 .mv .as (bl (lo2 (fun i (y:(List UInt8->Option Nat)×Nat×List Int)=>p<=i/\i<=p+n/\Passed s y.1 y.2.1 y.2.2 i) (fun i _=>p+n-i) (fun i _=>[(0,pt gp),(1,i6 (p:Int)),(2,i6 (n:Int)),(6,i6 (i:Int))]) (fun _ y=>((gp,isB 265 #[sv s,.map (some gm),.slice (some ⟨ga,0,none⟩) s.length s.length])::(ga,isB 3 (cellsI y.2.2))::(gm,isMap4 y.1 y.2.1)::M0)) (fun _ _=>R0) p (f,k,zs) ⟨Nat.le_refl _,by omega,hpd⟩ su (fun i y hi=>?_)))
 obtain⟨hi1,hi2,hP⟩:=hi
 have hzl:=hP.2.1
 have hkl:=hP.1
 refine se (rg (p3 .mv .mv .mv (pp (PR.ad ((p+n:Nat):Int)) (p1 .lss (en (sd (fun hlt=>?_) (fun hlt=>?_)))))))
 ·have hlt:i<p+n:=by omega
  refine sk (nN (se (bl ?_)))
  by_cases h4:i+4<=s.length
  ·skip
   obtain⟨K,hK⟩:∃ K,fourS s i=K:=⟨_,rfl⟩
   have lK:K.length=4:=hK▸fourS_len h4
   have h4T:=@zfourT s i gp gm ga
   rw[hK] at h4T
   refine rg (p2 .mv .mv (cl (fun _ _ h=>h4T (h.m.at 0 rfl) hs h4) (p3 .mv .ext .ext (aa Tryz.zeroValue342 (fun g0=>kM 0 (cells8 (List.replicate 4 0)) ?_)))))
   refine sw 0 (h1:=cells8_one _) (hV:=by rw[cells8_size];exact lK) (hW:=by rw[cells8_size];rfl) ?_
   refine p1 .as ?_
   refine en (se (r2 .mv .not (cf (hb:=rfl) (sk (nN (dqb (Y5 .mv .nil .fa .ld (.lw (hn:=by rw[cells8_size];exact lK)) (YQ (PR.m4 3 (hl:=lK)) (Y5 .mv .ext .ext .as .as (YE (se (r2 .mv .not (sn' (fun hm=>?_) (fun hm=>?_))))))))))))))
   ·have hu:=hP.enc (u:=-1) lK (by rw[Option.isSome_eq_false_iff.1 hm |> Option.isNone_iff_eq_none.1];rfl)
    refine rg0 (p1 .as (en0 (nN (rg (p5 .mv .nil .fa .ld .mv (p1 .mv (pp (PR.ib1 i) (sI (zs:=y.2.2) (o:=i) 2 ?_ (by omega)))))))))
    refine en (dq 6 (Y5 .mv .nil .fa .ld (.lw (hn:=by rw[cells8_size];exact lK)) (Y1 .mv (YE (m4p 3 ?_ (hl:=lK))))))
    exact en0 (bN (nN (rg0 (p1 .mv (pp (PR.ad ((i+1:Nat):Int)) (p1 .as (en0 (nN (bk2 (i+1) (putF y.1 K i,y.2.1+1,y.2.2.set i (-1)) ⟨by omega,by omega,hP.next hK (by omega) hu⟩ (by omega) su)))))))))
   ·obtain⟨j,hj⟩:=Option.isSome_iff_exists.1 hm
    have hu:=hP.enc (u:=(((y.1 K).getD 0:Nat):Int)) lK (by rw[hj];rfl)
    refine sk (nN (rg (p5 .mv .nil .fa .ld .mv (p1 .mv (pp (PR.ib1 i) (sI (zs:=y.2.2) (o:=i) 2 ?_ (by omega)))))))
    refine en (dq 6 (Y5 .mv .nil .fa .ld (.lw (hn:=by rw[cells8_size];exact lK)) (Y1 .mv (YE (m4p 3 ?_ (hl:=lK))))))
    exact en0 (bN (nN (rg0 (p1 .mv (pp (PR.ad ((i+1:Nat):Int)) (p1 .as (en0 (nN (bk2 (i+1) (putF y.1 K i,y.2.1+1,y.2.2.set i (((y.1 K).getD 0:Nat):Int)) ⟨by omega,by omega,hP.next hK (by omega) hu⟩ (by omega) su)))))))))
  ·skip
   refine rg (p2 .mv .mv (cl (fun _ _ h=>zfourF (h.m.at 0 rfl) hs (by omega) h4) (p3 .mv .ext .ext (aa Tryz.zeroValue342 (fun g0=>kM 0 (cells8 (List.replicate 4 0)) ?_)))))
   refine sw 0 (h1:=cells8_one _) (hV:=by rw[cells8_size];rfl) (hW:=by rw[cells8_size];rfl) ?_
   refine p1 .as (en (se (r2 .mv .not (ct (hb:=rfl) (rt (nR (bR (nR (nR (bR (kR ((gp,isB 265 #[sv s,.map (some gm),.slice (some ⟨ga,0,none⟩) s.length s.length])::(ga,isB 3 (cellsI y.2.2))::(gm,isMap4 y.1 y.2.1)::M0) R0 ?_)))))))))))
   exact e0 (fun u w h=>⟨(y,u),hP.far (by omega) (by omega),rfl,h⟩)
 ·obtain rfl:i=p+n:=by omega
  exact xt (nX (nX (bH (e0N (fun u w h=>⟨(y,u),hP,rfl,h⟩)))))
theorem bt_iff {l:List UInt8}{i j:Nat}(hi:i<l.length)(hj:j<l.length):(bt l i).toNat=(bt l j).toNat ↔ l[i]?=l[j]?:=by
 have h:∀ q,q<l.length->l[q]?=some (bt l q):=fun q hq=>by simp[bt,hq]
 rw[h i hi,h j hj,Option.some_inj]
 exact UInt8.toNat_inj
theorem zsame {s:List UInt8}{gp gm ga gmo gbx p j mo:Nat}{t1 t2:TypeId}{w:World}(hB:Blk w gp 265 #[sv s,.map (some gm),.slice (some ⟨ga,0,none⟩) s.length s.length])(hB1:Blk w gmo t1 #[i6 (mo:Int)])(hB2:Blk w gbx t2 #[pt gp])(hs:s.length<=2^32)(hj:j<p)(hp:p<=s.length)(hmo:mo=mostS s p):RV 218 #[i6 (j:Int),i6 (p:Int),pt gmo,pt gbx] w (i6 (sameS s p (p-j):Int)):=by
 refine enter Tryz.func218 ?_
 have hmo2:mo=min 131 (s.length-p):=hmo
 have hpj:p-(p-j)=j:=by omega
 have hmost:∀ i,i<=mo->i<=mostS s p:=fun i h=>hmo▸h
 refine r1 .as (r1 .as (se (bl (lo (A:=Nat) (fun i=>i<=mo ∧ ∀ q,q<i->s[p+q]?=s[p-(p-j)+q]?) (fun i=>mo-i) (fun i=>[(0,i6 (j:Int)),(1,i6 (p:Int)),(2,pt gmo),(3,pt gbx),(7,i6 (i:Int))]) (fun _=>[]) (fun _=>[]) 0 ⟨Nat.zero_le _,fun q hq=>absurd hq (Nat.not_lt_zero _)⟩ su (fun i hi=>?_)))))
 obtain⟨hi,hal⟩:=hi
 refine se ?_
 by_cases e1:i<mo
 ·by_cases e2:(bt s (j+i)).toNat=(bt s (p+i)).toNat
  ·skip
   have hn:=(bt_iff (l:=s) (i:=j+i) (j:=p+i) (by omega) (by omega)).1 e2
   refine dqb (Y1 .mv (YQ (PR.lc (g:=gmo) (o:=0) (v:=i6 (mo:Int)) (cs:=#[i6 (mo:Int)]) rfl ev (fun _ _ h=>hB1.below h.m.below hB1.lt)) (YQ ((PR.lss).to (v2:=.bool true) (by rw[decide_eq_true (by omega)])) (Y1 .mv (YDo ?_)))))
   refine YQ (PR.lc (g:=gbx) (o:=0) (v:=pt gp) (cs:=#[pt gp]) rfl ev (fun _ _ h=>hB2.below h.m.below hB2.lt)) (YDo ?_)
   refine Y1 .nil (YDo ?_)
   refine Y1 .fa (YDo ?_)
   refine YQ (PR.lc (g:=gp) (o:=0) (v:=sv s) (cs:=#[sv s,.map (some gm),.slice (some ⟨ga,0,none⟩) s.length s.length]) rfl ev (fun _ _ h=>hB.below h.m.below hB.lt)) (YDo ?_)
   refine Y1 .mv (YDo ?_)
   refine Y1 .mv (YDo ?_)
   refine YQ (PR.ad ((j+i:Nat):Int)) (YDo ?_)
   refine YQ (PR.sa (i:=j+i)) (YDo ?_)
   refine YQ (PR.lc (g:=gbx) (o:=0) (v:=pt gp) (cs:=#[pt gp]) rfl ev (fun _ _ h=>hB2.below h.m.below hB2.lt)) (YDo ?_)
   refine Y1 .nil (YDo ?_)
   refine Y1 .fa (YDo ?_)
   refine YQ (PR.lc (g:=gp) (o:=0) (v:=sv s) (cs:=#[sv s,.map (some gm),.slice (some ⟨ga,0,none⟩) s.length s.length]) rfl ev (fun _ _ h=>hB.below h.m.below hB.lt)) (YDo ?_)
   refine Y1 .mv (YDo ?_)
   refine Y1 .mv (YDo ?_)
   refine YQ (PR.ad ((p+i:Nat):Int)) (YDo ?_)
   refine YQ (PR.sa (i:=p+i)) (YDo ?_)
   exact YQ ((PR.eqi).to (v2:=.bool true) (by rw[decide_eq_true (by omega)])) (YQ (PR.pand (b:=true) (b2:=true)) (YE (ct (hb:=rfl) (sk (nN (bl (rg0 (p1 .mv (pp (PR.ad ((i+1:Nat):Int)) (p1 .as (en0 (bN (nN (bk (i+1) ⟨by omega,fun q hq=>by rcases Nat.lt_succ_iff_lt_or_eq.1 hq with h | rfl;exact hal q h;rw[hpj];exact hn.symm⟩ (by omega) su))))))))))))))
  ·skip
   have hn:=mt (bt_iff (l:=s) (i:=j+i) (j:=p+i) (by omega) (by omega)).2 e2
   have hres:=sameS_eq (s:=s) (at':=p) (far:=p-j) (n:=i) (by omega) hal (.inr (by rw[hpj];exact fun h=>hn h.symm))
   refine dqb (Y1 .mv (YQ (PR.lc (g:=gmo) (o:=0) (v:=i6 (mo:Int)) (cs:=#[i6 (mo:Int)]) rfl ev (fun _ _ h=>hB1.below h.m.below hB1.lt)) (YQ ((PR.lss).to (v2:=.bool true) (by rw[decide_eq_true (by omega)])) (Y1 .mv (YDo ?_)))))
   refine YQ (PR.lc (g:=gbx) (o:=0) (v:=pt gp) (cs:=#[pt gp]) rfl ev (fun _ _ h=>hB2.below h.m.below hB2.lt)) (YDo ?_)
   refine Y1 .nil (YDo ?_)
   refine Y1 .fa (YDo ?_)
   refine YQ (PR.lc (g:=gp) (o:=0) (v:=sv s) (cs:=#[sv s,.map (some gm),.slice (some ⟨ga,0,none⟩) s.length s.length]) rfl ev (fun _ _ h=>hB.below h.m.below hB.lt)) (YDo ?_)
   refine Y1 .mv (YDo ?_)
   refine Y1 .mv (YDo ?_)
   refine YQ (PR.ad ((j+i:Nat):Int)) (YDo ?_)
   refine YQ (PR.sa (i:=j+i)) (YDo ?_)
   refine YQ (PR.lc (g:=gbx) (o:=0) (v:=pt gp) (cs:=#[pt gp]) rfl ev (fun _ _ h=>hB2.below h.m.below hB2.lt)) (YDo ?_)
   refine Y1 .nil (YDo ?_)
   refine Y1 .fa (YDo ?_)
   refine YQ (PR.lc (g:=gp) (o:=0) (v:=sv s) (cs:=#[sv s,.map (some gm),.slice (some ⟨ga,0,none⟩) s.length s.length]) rfl ev (fun _ _ h=>hB.below h.m.below hB.lt)) (YDo ?_)
   refine Y1 .mv (YDo ?_)
   refine Y1 .mv (YDo ?_)
   refine YQ (PR.ad ((p+i:Nat):Int)) (YDo ?_)
   refine YQ (PR.sa (i:=p+i)) (YDo ?_)
   refine YQ ((PR.eqi).to (v2:=.bool false) (by rw[decide_eq_false (by omega)])) (YQ (PR.pand (b:=true) (b2:=false)) (YE (cf (hb:=rfl) (xt (nX (nX (bH (nN (r2 .mv .as (rt ?_))))))))))
   rw[hres]
   exact q1 rfl
 ·skip
  have hres:=sameS_eq (s:=s) (at':=p) (far:=p-j) (n:=i) (by omega) hal (.inl (by omega))
  refine dqb (Y1 .mv (YQ (PR.lc (g:=gmo) (o:=0) (v:=i6 (mo:Int)) (cs:=#[i6 (mo:Int)]) rfl ev (fun _ _ h=>hB1.below h.m.below hB1.lt)) (YQ ((PR.lss).to (v2:=.bool false) (by rw[decide_eq_false (by omega)])) (Y1 .mv (YSk ?_)))))
  refine YSk ?_
  refine YSk ?_
  refine YSk ?_
  refine YSk ?_
  refine YSk ?_
  refine YSk ?_
  refine YSk ?_
  refine YSk ?_
  refine YSk ?_
  refine YSk ?_
  refine YSk ?_
  refine YSk ?_
  refine YSk ?_
  refine YSk ?_
  refine YSk ?_
  refine YSk ?_
  refine YQ (PR.pand (b:=false) (b2:=false)) (YE (cf (hb:=rfl) (xt (nX (nX (bH (nN (r2 .mv .as (rt ?_)))))))))
  rw[hres]
  exact q1 rfl
theorem zbest {w0:World}{M0:MT}{R0:List Rw}{s:List UInt8}{f:List UInt8->Option Nat}{k p gp gm ga:Nat}{zs:List Int}(hs:s.length<=2^32)(hp:p<=s.length)(hP:Passed s f k zs p):RM 151 #[pt gp,i6 (p:Int)] w0 ((gp,isB 265 #[sv s,.map (some gm),.slice (some ⟨ga,0,none⟩) s.length s.length])::(ga,isB 3 (cellsI zs))::(gm,isMap4 f k)::M0) R0 (A:=Unit) (fun _=>True) (fun _=>.tuple #[i6 ((best4 s p (min p 65535)).1:Int),i6 ((best4 s p (min p 65535)).2:Int)]) (fun _=>((gp,isB 265 #[sv s,.map (some gm),.slice (some ⟨ga,0,none⟩) s.length s.length])::(ga,isB 3 (cellsI zs))::(gm,isMap4 f k)::M0)) (fun _=>R0):=by
 refine enterM Tryz.func151 ?_
 refine rg (b1 (fun g0=>?_))
 refine p2 .as .as (en ?_)
 by_cases h4:p+4<=s.length
 ·skip
  obtain⟨K,hK⟩:∃ K,fourS s p=K:=⟨_,rfl⟩
  have lK:K.length=4:=hK▸fourS_len h4
  have h4T:=@zfourT s p gp gm ga
  rw[hK] at h4T
  have hfK:=hP.2.2.1 K lK
  refine rg (p2 .ld .mv (cl (fun _ _ h=>h4T (h.m.at 1 rfl) hs h4) (p3 .mv .ext .ext (aa Tryz.zeroValue342 (fun g1=>kM 0 (cells8 (List.replicate 4 0)) ?_)))))
  refine sw 0 (h1:=cells8_one _) (hV:=by rw[cells8_size];exact lK) (hW:=by rw[cells8_size];rfl) ?_
  refine p1 .as (en (se (r2 .mv .not (cf (hb:=rfl) (sk (nN ?_))))))
  cases hl:lastS s K p with
  | none=>
   have hno:=lastS_none hl
   have hres:best4 s p (min p 65535)=(0,0):=by rw[best4_end1 (Nat.le_refl p) (fun i hi=>by rw[hK];exact hno i hi) (by omega),Nat.sub_self];rfl
   refine dqb (Y5 .ld .nil .fa .ld (.lw (hn:=by rw[cells8_size];exact lK)) (YQ ((PR.m4 4 (hl:=lK)).to (v2:=.tuple #[i6 0,.bool false]) (by rw[hfK,hl];rfl)) (Y5 .mv .ext .ext .as .as (YE (se (r2 .mv .not (ct (hb:=rfl) (r2 .as .as (rt (nR (kL [(4,i6 0),(5,i6 0)] ?_)))))))))))
   rw[hres]
   exact rm () trivial su
  | some j0=>
   obtain⟨mo,hmo⟩:∃ mo,mo=mostS s p:=⟨_,rfl⟩
   have hmo2:mo=min 131 (s.length-p):=hmo
   refine dqb (Y5 .ld .nil .fa .ld (.lw (hn:=by rw[cells8_size];exact lK)) ?_)
   refine YQ ((PR.m4 4 (hl:=lK)).to (v2:=.tuple #[i6 (j0:Int),.bool true]) (by rw[hfK,hl];rfl)) (Y5 .mv .ext .ext .as .as (YE (se (r2 .mv .not (cf (hb:=rfl) (sk (nN (rg (p5 .ld .nil .fa .ld .ln (p1 .mv (pp (PR.sb ((s.length-p:Nat):Int)) (pp (PR.min (mo:Int) (hr:=by split <;> omega)) (a1 Tryz.zeroValue3 (fun g2=>?_))))))))))))))
   refine s1 0 (cs:=#[i6 (mo:Int)]) ?_
   refine en (rg (pp PR.mk (p1 .as (en (r2 .as .as (se (bl (lo3 (fun q x y=>q<=p/\p-q<=65535/\best4 s p (p-q)=(x,y)) (fun q _ _=>q) (fun q x y=>[(1,i6 (p:Int)),(2,pt g0),(8,i6 (encZ (lastS s K q))),(10,pt g2),(11,.func (.func 218) #[] #[pt g2,pt g0]),(12,i6 (x:Int)),(13,i6 (y:Int))]) (fun _ _ _=>((g2,isB 3 #[i6 (mo:Int)])::(g0,isB 341 #[pt gp])::(gp,isB 265 #[sv s,.map (some gm),.slice (some ⟨ga,0,none⟩) s.length s.length])::(ga,isB 3 (cellsI zs))::(gm,isMap4 f k)::M0)) (fun _ _ _=>R0) p 0 0 ⟨Nat.le_refl _,by omega,by rw[Nat.sub_self];rfl⟩ (by rw[hl];exact su) (fun q x y hi=>?_)))))))))
   obtain⟨hq,hd,hb4⟩:=hi
   have hxm:x<=mo:=by have:=best4_le s p (p-q);rw[hb4,←hmo] at this;exact this
   refine se ?_
   cases hlq:lastS s K q with
   | none=>
    have hno:=lastS_none hlq
    have hres:best4 s p (min p 65535)=(x,y):=by rw[best4_end1 hq (fun i hi=>by rw[hK];exact hno i hi) hd,hb4]
    show KX _ _ _ [(1,_),(2,_),(8,i6 (-1)),(10,_),(11,_),(12,_),(13,_)] _ _ _
    refine rg (p1 .mv (pp ((PR.geq).to (v2:=.bool false) (by rw[decide_eq_false (by omega)])) (p1 .mv (gSk ?_))))
    refine gSk ?_
    refine gSk ?_
    refine gSk ?_
    refine pp (PR.pand (b:=false) (b2:=false)) (p1 .mv (gSk ?_))
    refine gSk ?_
    refine gSk ?_
    refine pp (PR.pand (b:=false) (b2:=false)) (en (cf (hb:=rfl) (xt (nX (nX (bH (nN (r4 .mv .mv .as .as (rt (kL [(4,i6 (x:Int)),(5,i6 (y:Int))] ?_))))))))))
    rw[hres]
    exact rm () trivial su
   | some j=>
    obtain⟨hjq,hjK,hbt⟩:=lastS_some hlq
    have hjp:j<p:=by omega
    show KX _ _ _ [(1,_),(2,_),(8,i6 (j:Int)),(10,_),(11,_),(12,_),(13,_)] _ _ _
    by_cases h1:p-j<=65535
    ·by_cases h2:x<mo
     ·skip
      have hto:=best4_to (s:=s) (p:=p) hjq hq (fun i h3 h4=>by rw[hK];exact hbt i h3 h4)
      have hone:=best4_one s p j hjp
      rw[hto,hb4] at hone
      simp only at hone
      have hzj:zs[j]?=some (encZ (lastS s K j)):=by rw[hP.2.2.2 j hjp (by omega),hjK]
      have hn4:4<=sameS s p (p-j):=same_ge4 hjp (by omega) (by rw[hjK,hK])
      have hnm:sameS s p (p-j)<=mo:=by rw[hmo];exact sameS_le _ _ _
      refine rg (p1 .mv (pp ((PR.geq).to (v2:=.bool true) (by rw[decide_eq_true (by omega)])) (p1 .mv (gDo ?_))))
      refine p1 .mv (gDo ?_)
      refine p1 .mv (gDo ?_)
      refine pp (PR.sb ((p-j:Nat):Int)) (gDo ?_)
      refine pp ((PR.leq).to (v2:=.bool true) (by rw[decide_eq_true (by omega)])) (pp (PR.pand (b:=true) (b2:=true)) (p1 .mv (gDo ?_)))
      refine p1 .mv (gDo ?_)
      refine p1 .ld (gDo ?_)
      refine pp ((PR.lss).to (v2:=.bool true) (by rw[decide_eq_true (by omega)])) (pp (PR.pand (b:=true) (b2:=true)) (en (ct (hb:=rfl) (sk (nN (se ?_))))))
      refine bl (se (dqb (Y5 .ld .nil .fa .ld .mv (Y1 .mv (YQ (PR.ad ((j+x:Nat):Int)) (YQ (PR.sa (i:=j+x)) (Y5 .ld .nil .fa .ld .mv (Y1 .mv (YQ (PR.ad ((p+x:Nat):Int)) (YQ (PR.sa (i:=p+x)) (Y1 .nei (YE (sd (fun h3=>?_) (fun h3=>?_))))))))))))))
      ·have hle:sameS s p (p-j)<=x:=same_le_of hjp (mt (bt_iff (by omega) (by omega)).2 (by omega))
       exact xt (nX (bH (nN (rg0 (p5 .ld .nil .fa .ld .mv (pp (PR.ib1 j) (pp (PR.lc (cellsI_get hzj)) (p1 .as (en0 (nN (bk3 j x y ⟨by omega,by omega,by rw[hone,if_neg (fun h=>by omega)]⟩ (by omega) su)))))))))))
      ·skip
       refine sk (nN (rg (p3 .mv .mv .mv (clF (fun _ _ h=>zsame (h.m.at 2 rfl) (h.m.at 0 rfl) (h.m.at 1 rfl) hs hjp hp hmo) ?_))))
       refine p1 .as (en (r3 .mv .mv .gtr (sd (fun h5=>?_) (fun h5=>?_))))
       ·skip
        exact rg0 (p3 .mv .mv .mv (pp (PR.sb ((p-j:Nat):Int)) (p2 .as .as (en0 (bN (nN (rg0 (p5 .ld .nil .fa .ld .mv (pp (PR.ib1 j) (pp (PR.lc (cellsI_get hzj)) (p1 .as (en0 (nN (bk3 j (sameS s p (p-j)) (p-j) ⟨by omega,by omega,by rw[hone,if_pos ⟨by omega,hn4⟩]⟩ (by omega) su))))))))))))))
       ·have hle:sameS s p (p-j)<=x:=by omega
        exact sk (bN (nN (rg0 (p5 .ld .nil .fa .ld .mv (pp (PR.ib1 j) (pp (PR.lc (cellsI_get hzj)) (p1 .as (en0 (nN (bk3 j x y ⟨by omega,by omega,by rw[hone,if_neg (fun h=>by omega)]⟩ (by omega) su))))))))))
     ·skip
      have hres:best4 s p (min p 65535)=(x,y):=by rw[best4_end3 hq hd (by rw[hb4,←hmo];simp only;omega),hb4]
      refine rg (p1 .mv (pp ((PR.geq).to (v2:=.bool true) (by rw[decide_eq_true (by omega)])) (p1 .mv (gDo ?_))))
      refine p1 .mv (gDo ?_)
      refine p1 .mv (gDo ?_)
      refine pp (PR.sb ((p-j:Nat):Int)) (gDo ?_)
      refine pp ((PR.leq).to (v2:=.bool true) (by rw[decide_eq_true (by omega)])) (pp (PR.pand (b:=true) (b2:=true)) (p1 .mv (gDo ?_)))
      refine p1 .mv (gDo ?_)
      refine p1 .ld (gDo ?_)
      refine pp ((PR.lss).to (v2:=.bool false) (by rw[decide_eq_false (by omega)])) (pp (PR.pand (b:=true) (b2:=false)) (en (cf (hb:=rfl) (xt (nX (nX (bH (nN (r4 .mv .mv .as .as (rt (kL [(4,i6 (x:Int)),(5,i6 (y:Int))] ?_)))))))))))
      rw[hres]
      exact rm () trivial su
    ·skip
     have hres:best4 s p (min p 65535)=(x,y):=by rw[best4_end2 hjq hq hd (by omega) (fun i h3 h4=>by rw[hK];exact hbt i h3 h4),hb4]
     refine rg (p1 .mv (pp ((PR.geq).to (v2:=.bool true) (by rw[decide_eq_true (by omega)])) (p1 .mv (gDo ?_))))
     refine p1 .mv (gDo ?_)
     refine p1 .mv (gDo ?_)
     refine pp (PR.sb ((p-j:Nat):Int)) (gDo ?_)
     refine pp ((PR.leq).to (v2:=.bool false) (by rw[decide_eq_false (by omega)])) (pp (PR.pand (b:=true) (b2:=false)) (p1 .mv (gSk ?_)))
     refine gSk ?_
     refine gSk ?_
     refine pp (PR.pand (b:=false) (b2:=false)) (en (cf (hb:=rfl) (xt (nX (nX (bH (nN (r4 .mv .mv .as .as (rt (kL [(4,i6 (x:Int)),(5,i6 (y:Int))] ?_))))))))))
     rw[hres]
     exact rm () trivial su
 ·skip
  have hres:=best4_few (s:=s) (p:=p) (by omega) (min p 65535)
  refine rg (p2 .ld .mv (cl (fun _ _ h=>zfourF (h.m.at 1 rfl) hs hp h4) (p3 .mv .ext .ext (aa Tryz.zeroValue342 (fun g1=>kM 0 (cells8 (List.replicate 4 0)) ?_)))))
  refine sw 0 (h1:=cells8_one _) (hV:=by rw[cells8_size];rfl) (hW:=by rw[cells8_size];rfl) ?_
  refine p1 .as (en (se (r2 .mv .not (ct (hb:=rfl) (r2 .as .as (rt (nR (kL [(4,i6 0),(5,i6 0)] ?_))))))))
  rw[hres]
  exact rm () trivial su
theorem passed0 (s:List UInt8):Passed s (fun _=>none) 0 (List.replicate s.length 0) 0:=⟨Nat.le_refl _,by simp,fun K _=>rfl,fun i hi=>absurd hi (Nat.not_lt_zero _)⟩
theorem pack_few {s:List UInt8}{p n far:Nat}(a:Nat)(hp:p<s.length)(hB:best4 s p (min p 65535)=(n,far))(h:n<4):packT s a p=packT s a (p+1):=by
 have e:=best4_eq s p (min p 65535)
 have h1:(bestS s p).1<4:=by
  by_cases h4:4<=(bestTo s p (min p 65535)).1
  ·rw[if_pos h4,hB] at e;rw[←e] at h4;exact absurd h (by simpa using h4)
  ·exact Nat.lt_of_not_le h4
 rw[packT_step a hp,if_pos h1]
theorem pack_far {s:List UInt8}{p n far:Nat}(a:Nat)(hp:p<s.length)(hB:best4 s p (min p 65535)=(n,far))(h:¬ n<4):far<=65535/\p+n<=s.length/\n<=131/\packT s a p=runS ((s.drop a).take (p-a))++copyT n far++packT s (p+n) (p+n):=by
 have e:=best4_eq s p (min p 65535)
 have h1:bestS s p=(n,far):=by
  by_cases h4:4<=(bestTo s p (min p 65535)).1
  ·rw[if_pos h4,hB] at e;exact e.symm
  ·rw[if_neg h4,hB] at e;injection e with e1 e2;omega
 have h2:=bestS_spec (s:=s) (at':=p) (by rw[h1];simp only;omega)
 rw[h1] at h2
 have h5:=h2.2.2.2.2
 unfold mostS at h5
 have h6:=packT_step a hp
 rw[h1,if_neg h] at h6
 exact⟨h2.2.2.1,by simp only at h5;omega,by simp only at h5;omega,h6⟩
theorem cvm (n:Nat):IntKind.u8.wrap (n:Int)=((UInt8.ofNat (n%256)).toNat:Int):=by
 rw[←cv8 (Nat.mod_lt _ (by decide))]
 unfold IntKind.wrap;simp[IntKind.bits,IntKind.signed]
theorem shr8 (n:Nat):(n:Int)/2^(8:Int).toNat=((n/256:Nat):Int):=by
 show(n:Int)/256=_
 omega
theorem zpack {s:List UInt8}{w:World}(hs:s.length<=2^32):RV 91 #[sv s] w (sv (packS s)):=by
 refine enter Tryz.func91 ?_
 refine r1 .as (rg (p1 .mv (m4n (fun gm=>?_))))
 refine p2 .mv .ln (mI s.length (fun ga=>?_))
 refine pp (PR.bd #[sv s,.map (some gm),.slice (some ⟨ga,0,none⟩) s.length s.length]) (aa Tryz.zeroValue265 (fun gp=>sw 0 ?_))
 refine en (r1 .as (r1 .as (se (r1 .as (bl (nr 5 1 ?_))))))
 refine lo4 (fun(_:Value) c (ab:Nat×Nat) (y:(List UInt8->Option Nat)×Nat×List Int)=>ab.1<=ab.2/\ab.2<=s.length/\c.length<=2*ab.1/\c++packT s ab.1 ab.2=packS s/\Passed s y.1 y.2.1 y.2.2 ab.2) (fun _ _ ab _=>s.length-ab.2) (fun u _ ab _=>[(0,sv s),(3,pt gp),(4,u),(5,i6 (ab.1:Int)),(6,i6 (ab.2:Int))]) (fun _ _ _ y=>[(gp,isB 265 #[sv s,.map (some gm),.slice (some ⟨ga,0,none⟩) s.length s.length]),(ga,isB 3 (cellsI y.2.2)),(gm,isMap4 y.1 y.2.1)]) (fun u c _ _=>[⟨u,5,1,c.length,c.map cb⟩]) (nv) [] (0,0) ((fun _=>none),0,(List.replicate s.length 0)) ⟨Nat.le_refl _,Nat.zero_le _,Nat.zero_le _,rfl,passed0 s⟩ su (fun u c ab y hi=>?_)
 obtain⟨hab,hps,hcl,hT,hP⟩:=hi
 refine se (r4 .mv .mv .ln .lss (sd (fun hlt=>?_) (fun hlt=>?_)))
 ·have hlt:ab.2<s.length:=by omega
  obtain⟨n,far,hB⟩:∃ n far,best4 s ab.2 (min ab.2 65535)=(n,far):=⟨_,_,rfl⟩
  have hzb:=zbest (w0:=w) (M0:=[]) (R0:=[⟨u,5,1,c.length,c.map cb⟩]) (gp:=gp) (gm:=gm) (ga:=ga) hs hps hP
  rw[hB] at hzb
  dsimp only at hzb
  refine sk (nN (bl (rg (p1 .mv (cm (hzb) (fun _ _=>?_))))))
  refine p5 .mv .ext .ext .as .as (en (se (r2 .mv .lss (sd (fun h4=>?_) (fun h4=>?_)))))
  ·have hst:=pack_few ab.1 hlt hB (by omega)
   rw[hst] at hT
   refine rg (p1 .mv (cm (zpass (n:=1) hs (by omega) hP) (fun q hq=>?_)))
   exact en (rg (p1 .mv (pp (PR.ad ((ab.2+1:Nat):Int)) (p1 .as (en (xt (nX (bH (nN (bk4 u c (ab.1,ab.2+1) q.1 ⟨by omega,by omega,hcl,hT,hq⟩ (by simp only;omega) su))))))))))
  ·obtain⟨hf,hpn,hn131,hst⟩:=pack_far ab.1 hlt hB (by omega)
   rw[hst] at hT
   have hrl:=runS_len _ _ (Nat.le_refl ((s.drop ab.1).take (ab.2-ab.1)).length)
   have htl:((s.drop ab.1).take (ab.2-ab.1)).length=ab.2-ab.1:=by simp;omega
   rw[htl] at hrl
   have hcl2:(c++runS ((s.drop ab.1).take (ab.2-ab.1))).length<=2^40:=by rw[List.length_append,hrl];omega
   refine sk (nN (rg (p4 .mv .mv .mv .mv (pp (PR.sm (i:=ab.1) (j:=ab.2)) (cm (zrun (b:=c) (l:=(s.drop ab.1).take (ab.2-ab.1)) (by simp;omega)) (fun v1 _=>?_))))))
   refine p1 .as (en (rg (p2 .mv .mv (pp (PR.ad ((n+124:Nat):Int)) (pp (PR.cv (r:=((UInt8.ofNat (n+124)).toNat:Int)) (cv8 (by omega))) (p1 .mv (pp (PR.cv (r:=((UInt8.ofNat (far%256)).toNat:Int)) (cvm far)) (p1 .mv (pp (PR.shr ((far/256:Nat):Int) (h:=shr8 far)) (pp (PR.cv (r:=((UInt8.ofNat (far/256)).toNat:Int)) (cv8 (by omega))) (bs #[.int .u8 ((UInt8.ofNat (n+124)).toNat:Int),.int .u8 ((UInt8.ofNat (far%256)).toNat:Int),.int .u8 ((UInt8.ofNat (far/256)).toNat:Int)] (fun g0=>?_))))))))))))
   refine ap 0 (fun v2=>?_) (hl:=rfl) (h1:=rfl)
   refine rc 0 (c++runS ((s.drop ab.1).take (ab.2-ab.1))++copyT n far).length ((c++runS ((s.drop ab.1).take (ab.2-ab.1))++copyT n far).map cb) (hn:=by rw[List.length_append (bs:=copyT n far)];rfl) (hx:=by rw[List.map_append (l₂:=copyT n far)];rfl) (h:=?_)
   refine p1 .as (en (rg (p2 .mv .mv (fr [3,3,3] [0] ?_))))
   refine cm (zpass (n:=n) hs (by omega) hP) (fun q hq=>?_)
   exact en (rg (p2 .mv .mv (pp (PR.ad ((ab.2+n:Nat):Int)) (p1 .as (en (rg0 (p2 .mv .as (en0 (bN (nN (bk4 v2 (c++runS ((s.drop ab.1).take (ab.2-ab.1))++copyT n far) (ab.2+n,ab.2+n) q.1 ⟨Nat.le_refl _,hpn,by rw[List.length_append,List.length_append,hrl];show _+3<=_;simp only;omega,by rw[←hT];simp only[List.append_assoc],hq⟩ (by simp only;omega) su)))))))))))
 ·have hst:=packT_end (s:=s) ab.1 (at':=ab.2) (by omega)
  rw[hst] at hT
  refine xt (nX (nX (bH (nN (rg (p3 .mv .mv .mv (pp (PR.sd (i:=ab.1)) (cm (zrun (b:=c) (l:=s.drop ab.1) (by simp;omega)) (fun v1 _=>?_)))))))))
  refine pp (PR.rs 0 (l:=c++runS (s.drop ab.1)) (hn:=rfl)) (p1 .as (en (rt ?_)))
  rw[←hT]
  exact q1 rfl
section
theorem two_one {a b:UInt8}:∀ u ∈ [cb a,cb b],u.oneCell'=true:=fun u hu=>by
 rcases List.mem_cons.1 hu with rfl | hu
 ·rfl
 ·rw[List.mem_singleton.1 hu];rfl
theorem St.subR {D:List Deferred}{nt:Nat}{w0:World}{L:LT}{M:MT}{R R2:List Rw}{a:Act}{w:World}(h:St D nt w0 L M R a w)(hR:R2.Sublist R):St D nt w0 L M R2 a w:=⟨h.f,h.m,fun x hx=>h.r x (hR.subset hx),h.nd.sublist hR⟩
theorem hex_step {d:List UInt8}{i:Nat}(h:i<d.length):(hexS (d.take i)).map cb ++ [cb (hxd ((bt d i).toNat/16)),cb (hxd ((bt d i).toNat%16))]=(hexS (d.take (i+1))).map cb:=by
 unfold hexS
 rw[List.take_succ_eq_append_getElem h,List.flatMap_append,List.map_append]
 simp[hexB,bt,h]
theorem hhex {d:List UInt8}{w:World}(hd:d.length=32):RV 65 #[.agg (cells8 d)] w (sv (hexS d)):=by
 refine enter Tryz.func65 ?_
 have hd2:(cells8 d).size=32:=by rw[cells8_size,hd]
 refine rg (ba (fun g0=>?_))
 refine p1 .as (en (rg (mk0 (p:=64) (c:=64) (fun v0=>?_))))
 refine p1 .as (en (se (rg (pp (PR.lw (hn:=hd2)) (p1 .mv (en (bl (lo2 (fun(_:Value) i=>i<=32) (fun _ i=>32-i) (fun v i=>[(3,v),(7,.agg (cells8 d)),(8,i6 (i:Int))]) (fun _ _=>[]) (fun v i=>[⟨v,5,1,2*i,(hexS (d.take i)).map cb⟩]) v0 0 (Nat.zero_le _) (by rw[List.take_zero];exact su) (fun v i hi=>?_)))))))))
 refine r1 .lss (se (sd (fun hi=>?_) (fun hi=>?_)))
 ·have hi:i<32:=by omega
  refine sk (nN (se (bl (rg (pp (PR.xby i) (p1 .as (en (dtk 8 [_,_,_,_,_,_,_,.tel [5] (.row 5 1 2 [cb (hxd ((bt d i).toNat/16)),cb (hxd ((bt d i).toNat%16))] fun v=>.ret v)] [11,18] (fun Bs=>ha (oP (PR.mv (EV.hh rfl rfl (by kernel_rfl) (by kernel_rfl)))) (ha (oP (PR.mv ez)) (ha (oP (PR.hi4 ed EV.k)) (ha (oP (PR.sa (s:=signsL) (i:=(bt d i).toNat/16) rfl EV.k ed rfl (by show _<16;have:=(bt d i).toNat_lt;omega))) (ha (oP (PR.mv ez)) (ha (oP (PR.lo4 ed EV.k)) (ha (oP (PR.sa (s:=signsL) (i:=(bt d i).toNat%16) rfl EV.k ed rfl (by show _<16;omega))) (ha (oS (List.toArray [cb (hxd ((bt d i).toNat/16)),cb (hxd ((bt d i).toNat%16))]) (fun _ _ h=>h.size) (.cons ed (.cons ed .nil))) trivial)))))))) (fun u2=>?_)))))))))
  refine apR 1 0 (fun v2=>?_) (h1:=two_one)
  refine os 1 (fun o2 _=>?_)
  refine p1 .as (en0 (bN (nN (rg0 (pp (PR.ad ((i+1:Nat):Int)) (p1 .mv (en0 (nN (kR [] [⟨v2,5,1,2*i+2,(hexS (d.take i)).map cb ++ [cb (hxd ((bt d i).toNat/16)),cb (hxd ((bt d i).toNat%16))]⟩] ?_ (hs:=fun _ _ h=>h.subR (.cons _ (.refl _))))))))))))
  refine rc 0 (2*(i+1)) ((hexS (d.take (i+1))).map cb) (hn:=by omega) (hx:=hex_step (by omega)) (h:=?_)
  exact bk2 v2 (i+1) (by omega) (by omega) su
 ·obtain rfl:i=32:=by omega
  refine rc 0 64 ((hexS d).map cb) (hn:=rfl) (hx:=by rw[List.take_of_length_le (by omega)]) (h:=?_)
  exact xt (nX (nX (bH (nN (rg (p1 .mv (pp (PR.rs 0 (l:=hexS d) (hn:=by rw[hexS_len,hd])) (p1 .as (en (rt (q1 rfl)))))))))))
section
variable {c:UInt8}
theorem hvl_1 (h:48<=c.toNat/\c.toNat<=57):hvl c=c.toNat-48:=by unfold hvl;rw[if_pos h]
theorem isH_1 (h:48<=c.toNat/\c.toNat<=57):isH c=true:=decide_eq_true (.inl h)
theorem hvl_2 (h1:¬ (48<=c.toNat/\c.toNat<=57))(h:97<=c.toNat/\c.toNat<=102):hvl c=c.toNat-87:=by unfold hvl;rw[if_neg h1,if_pos h]
theorem isH_2 (h:97<=c.toNat/\c.toNat<=102):isH c=true:=decide_eq_true (.inr h)
theorem hvl_3 (h1:¬ (48<=c.toNat/\c.toNat<=57))(h:¬ (97<=c.toNat/\c.toNat<=102)):hvl c=0:=by unfold hvl;rw[if_neg h1,if_neg h]
theorem isH_3 (h1:¬ (48<=c.toNat/\c.toNat<=57))(h:¬ (97<=c.toNat/\c.toNat<=102)):isH c=false:=decide_eq_false fun q=>q.elim h1 h
end
theorem hhalf {c:UInt8}{w:World}:RV 120 #[.int .u8 (c.toNat:Int)] w (.tuple #[.int .u8 ((hvl c:Nat):Int),.bool (isH c)]):=by
 refine enter Tryz.func120 ?_
 have hc:=c.toNat_lt
 refine r2 .as .as (se (bl (rg (p3 .mv .geq .mv (gTt (hp:=PR.mv) ?_)))))
 refine gTt (hp:=PR.leq) ?_
 refine p2 .pand .as (en (cs (fun h1=>?_) (fun h1=>?_)))
 ·have h1:48<=c.toNat/\c.toNat<=57:=by simp at h1;omega
  rw[hvl_1 h1,isH_1 h1]
  exact rg (p1 .mv (pp (PR.sub (r:=((c.toNat-48:Nat):Int)) (h:=by rw[w8];omega)) (p2 .as .as (en (rt (bR (nR qv)))))))
 ·have h1:¬ (48<=c.toNat/\c.toNat<=57):=by simp at h1;omega
  refine rg (p3 .mv .geq .mv (gTt (hp:=PR.mv) ?_))
  refine gTt (hp:=PR.leq) ?_
  refine p2 .pand .as (en (cs (fun h2=>?_) (fun h2=>?_)))
  ·have h2:97<=c.toNat/\c.toNat<=102:=by simp at h2;omega
   rw[hvl_2 h1 h2,isH_2 h2]
   exact rg (p1 .mv (pp (PR.sub (r:=((c.toNat-97:Nat):Int)) (h:=by rw[w8];omega)) (pp (PR.add (r:=((c.toNat-87:Nat):Int)) (h:=by rw[w8];omega)) (p2 .as .as (en (rt (bR (nR qv))))))))
  ·have h2:¬ (97<=c.toNat/\c.toNat<=102):=by simp at h2;omega
   rw[hvl_3 h1 h2,isH_3 h1 h2]
   exact sk (bN (nN (r2 .as .as (rt qv))))
theorem of_no {s:List UInt8}(h:¬ (s.length=64 ∧ ∀ i,i<64->isH (bt s i)=true)):ofOk s=false:=by
 cases e:ofOk s with
 | false=>rfl
 | true=>exact absurd ((ofOk_iff s).1 e) h
theorem ofD_no {s:List UInt8}(h:ofOk s=false):ofD s=List.replicate 32 0:=by unfold ofD;rw[h];rfl
theorem shl4 {a:Nat}(h:a<16):IntKind.u8.wrap ((a:Int)*2^(4:Int).toNat)=((16*a:Nat):Int):=by
 show IntKind.u8.wrap ((a:Int)*16)=_
 rw[w8];omega
theorem or4 {s:List UInt8}{i:Nat}(h1:hvl (bt s (2*i))<16)(h2:hvl (bt s (2*i+1))<16):bits .or .u8 ((16*hvl (bt s (2*i)):Nat):Int) ((hvl (bt s (2*i+1)):Nat):Int)=(((two s i).toNat:Nat):Int):=by
 unfold two
 generalize hvl (bt s (2*i))=a at *
 generalize hvl (bt s (2*i+1))=b at *
 have key:∀ a b:Fin 16,bits .or .u8 ((16*a.val:Nat):Int) ((b.val:Nat):Int)=(((UInt8.ofNat (16*a.val+b.val)).toNat:Nat):Int):=by decide +kernel
 exact key ⟨a,h1⟩ ⟨b,h2⟩
theorem hof {s:List UInt8}{w:World}(hs:s.length<=maxLen):RV 59 #[sv s] w (.tuple #[.agg (cells8 (ofD s)),.bool (ofOk s)]):=by
 refine enter Tryz.func59 ?_
 refine rg (aa Tryz.zeroValue65 (fun g0=>p1 .as (en (kM 0 (cells8 (List.replicate 32 0)) ?_))))
 refine rg (aa Tryz.zeroValue65 (fun g1=>en (kM 0 (cells8 (ofTo s 0)) ?_)))
 refine se (r3 .mv .ln .nei (sd (fun hln=>?_) (fun hln=>?_)))
 ·have hno:ofOk s=false:=of_no fun h=>by have:=h.1;omega
  rw[ofD_no hno,hno]
  refine rg (pp (PR.bd (cells8 (List.replicate 32 0))) (sw 1 (h1:=cells8_one _) ?_))
  exact p1 .as (en (rt (nR qv)))
 ·have hs:s.length=64:=by omega
  refine sk (nN (se (r1 .mv (bl (lo (A:=Nat) (fun i=>i<=32 ∧ ∀ j,j<2*i->isH (bt s j)=true) (fun i=>32-i) (fun i=>[(0,sv s),(2,pt g0),(4,pt g1),(14,i6 (i:Int))]) (fun i=>[(g1,isB 65 (cells8 (ofTo s i))),(g0,isB 65 (cells8 (List.replicate 32 0)))]) (fun i=>[]) 0 ⟨by omega,fun j hj=>absurd hj (by omega)⟩ su (fun i hi=>?_))))))
  obtain⟨hi,hJ⟩:=hi
  refine r1 .lss (se (sd (fun hi=>?_) (fun hi=>?_)))
  ·have hi:i<32:=by omega
   have hv1:=hvl_lt (bt s (2*i))
   have hv2:=hvl_lt (bt s (2*i+1))
   have lO:=ofTo_len s i
   refine sk (nN (se (bl (r2 .mv .as (rg (p2 .mv .mv (pp (PR.ml ((2*i:Nat):Int)) (pp (PR.sa (i:=2*i)) (cl (fun _ _ h=>hhalf) ?_)))))))))
   refine p5 .mv .ext .ext .as .as (en (rg (p2 .mv .mv (pp (PR.ml ((2*i:Nat):Int)) (pp (PR.ad ((2*i+1:Nat):Int)) (pp (PR.sa (i:=2*i+1)) (cl (fun _ _ h=>hhalf) (p5 .mv .ext .ext .as .as (en (se (rg (p3 .mv .not .mv (gFf (hp:=PR.mv) ?_)))))))))))))
   refine gFf (hp:=PR.not) ?_
   refine p1 .por (en (cs (fun hb=>?_) (fun hb=>?_)))
   ·have hno:ofOk s=false:=of_no fun h=>by have q1:=h.2 (2*i) (by omega);have q2:=h.2 (2*i+1) (by omega);rw[q1,q2] at hb;cases hb
    rw[ofD_no hno,hno]
    refine rg (pp (PR.bd (cells8 (List.replicate 32 0))) (sw 1 (h1:=cells8_one _) ?_))
    exact p1 .as (en (rt (nR (bR (nR (nR (bR (nR qv))))))))
   ·have hb2:isH (bt s (2*i))=true/\isH (bt s (2*i+1))=true:=by simpa using hb
    refine sk (nN (rg0 (p2 .mv .mv (pp (PR.shl (((16*hvl (bt s (2*i)):Nat)):Int) (h0:=by show(0:Int)<=4/\(4:Int)<=((8:Nat):Int);decide) (h:=shl4 hv1)) (p1 .mv (pp (PR.or (((two s i).toNat:Nat):Int) (h:=or4 hv1 hv2)) (p1 (.ia0 i) (sby 0 ?_))))))))
    refine en0 (bN (nN (rg0 (pp (PR.ad ((i+1:Nat):Int)) (p1 .mv (en0 (nN (kM 0 (cells8 (ofTo s (i+1))) ?_))))))))
    exact bk (i+1) ⟨by omega,fun j hj=>by rcases(show j<2*i\/j=2*i\/j=2*i+1 by omega) with h | rfl | rfl;exact hJ j h;exact hb2.1;exact hb2.2⟩ (by omega) su
  ·obtain rfl:i=32:=by omega
   have hyes:ofOk s=true:=(ofOk_iff s).2 ⟨hs,fun j hj=>hJ j (by omega)⟩
   rw[show ofD s=ofTo s 32 by unfold ofD;rw[if_pos hyes],hyes]
   have lO:(cells8 (ofTo s 32)).size=32:=by rw[cells8_size,ofTo_len]
   generalize ofTo s 32=Dg at *
   refine xt (nX (nX (bH (nN (rg (pp (PR.lw (hn:=lO)) (sw 1 (h1:=cells8_one _) (hV:=lO) ?_)))))))
   exact p1 .as (en (rt qv))
end
end Go.Proofs.YtdjholkjkbihmaaGreatDoor
