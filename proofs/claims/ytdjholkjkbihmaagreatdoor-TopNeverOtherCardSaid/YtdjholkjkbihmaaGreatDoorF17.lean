/- Laws and walks of TopNeverOther. -/
import Derived.Lib.ItoaLen
import Derived.Test.YtdjholkjkbihmaaGreatDoorF16
namespace Go.Proofs.YtdjholkjkbihmaaGreatDoor
open Go.RowKit
set_option maxRecDepth 100000
set_option maxHeartbeats 4000000
section
section
variable {P:Program}{D:List Deferred}{n:Nat}{L:LT}{a:Act}{w:World}
theorem frRound1 {p:Nat}{u:Value}(hF:FrD D a n L)(hp:p<n):Fr { tmps:=(#[p].zip #[u]).foldl (fun t (p,v)=>t.setIfInBounds p v) a.tmps,defers:=[] } n ((p,u)::L):=by
 have h0:Fr { tmps:=a.tmps,defers:=[] } n L:=⟨hF.size,rfl,hF.has⟩
 have h2:=h0.put (v:=u) hp
 simpa[Act.put] using h2
theorem yieldW1 {l p:Nat}{u:Value}{rc:Loop}{assign body:Code}{R:Bool->World->Prop}(hR:IsRec rc a.tmps #[p] assign body)(hl:w.heap[l]?=some (.loop rc))(hF:FrD D a n L)(hp:p<n)
  (h:∀ b,Fr b n ((p,u)::L)->assign.wpIn (Fence.wide.inRound l) 0 P (Exit.then (fun a₁ w₁=>∃ w₂,(Instr.beginRound l).run P w₁ = .ok () w₂/\body.wpIn (Fence.wide.inRound l) 0 P (roundPost P l fun e W'=>∃ b,e = .returned (.bool b)/\R b W') a₁ w₂) (fun _ _ _=>False)) b w):YieldW P l #[u] w R:=by
 refine yieldW_of hl (by rw[hR.params];rfl) ?_
 rw[hR.params,hR.tmps,hR.assign,hR.body]
 exact h _ (frRound1 hF hp)
end
section
variable {D:List Deferred}{nt:Nat}{w0:World}{L:LT}{M:MT}{R:List Rw}{x:Operand}{ops:Array Oper}{rest:List Oper}{Q:Exit->Act->World->Prop}{cc:Code}{tyo:TypeId}{ps:String}{af:Array Edge}{d l:Nat}{ro:Option Nat}
theorem ykT {xs:List Operand}{vs:List Value}{ts:Array TypeId}{A:Type}{I:A->Prop}{B:A->Bool}{MM:A->MT}{RR:A->List Rw}{j sj:Nat}{oj:Oper}(hc:RY l vs w0 M R I B MM RR)(h:∀ x,I x->KX D nt w0 ((d,.bool (B x))::L) (MM x) (RR x) (wY ro ops Q rest))(hj:ops[j]?=some oj:=by rfl)(hd:oj.dst=some sj:=by rfl)(hb2:lz L sj=some (.bool true):=by rfl)(he:EV (St D nt w0 L M R) x (.func (.yield l) #[] #[]):=by exact ev)(hx:EVs (St D nt w0 L M R) xs vs:=by exact evs)(hb:Nat.blt d nt=true:=by rfl):KX D nt w0 L M R (wY ro ops Q (⟨some d,.call { callee:=.value x,args:=xs.toArray,argTypes:=ts },tyo,ps,af,some (j,true)⟩::rest)):=fun a w hs=>
 sqYr hs.f (wantedG hs.f rfl hj hd (by rw[←lz_eq];exact hb2) rfl) (run_callY rfl (he a w hs) (hx.arr hs)) (by intro c e;cases e) (hc w hs.mr) rfl (Nat.le_of_ble_eq_true hb) fun b a2 w2 ⟨x,h1,h2,h3⟩ hF=>by
  subst h2
  exact h x h1 a2 w2 ⟨hF,h3.m,h3.r,h3.nd⟩
abbrev Lq (l:Nat)(rc:Loop):Nat×(Obj->Prop):=(l,isO (.loop (leftR rc .ret)))
theorem rfR2 {p q gf:Nat}{g:Operand}{assign body:Code}{lb:List Value}{Y:Type}(Ma Mb:MT)(J:Y->Prop)(MM:Y->MT)(RR:Y->List Rw)(hM:M=Ma++Mb:=by rfl)
  (hc:∀ l d (rc:Loop),rc.state = .ready->rc.pending=none->(∀ (M':MT) (R':List Rw) (u v:Value) (Rr:Bool->World->Prop) (k:Nat),M'[k]?=some (Lp l rc)->KX [] nt w0 ((q,v)::(p,u)::L) M' R' (wR l assign body Rr)->∀ w,MR w0 M' R' w->YieldW Tryz.prog l #[u,v] w Rr) →
   ∀ w,MR w0 (Ma++Lp l rc::Df d::Mb) R w->Calls Tryz.prog gf (.func (.yield l) #[] #[]::lb).toArray w fun e w'=>(∃ u,e = .returned u) ∧ ∃ y,J y/\MR w0 (Lq l rc::Df d::MM y) (RR y) w')
  (h:∀ d y,J y->KX [mark d] nt w0 L (Df d::MM y) (RR y) (Q .ret))
  (hg:EV (St [] nt w0 L M R) g (.func (.func gf) #[] lb.toArray):=by exact ev) (hp:Nat.blt p nt=true:=by rfl) (hq:Nat.blt q nt=true:=by rfl)
  (eg:(match Tryz.prog.funcs[gf]? with | some fn=>!(fn.name == "runtime.NumGoroutine")&&fn.body.isSome | none=>false)=true:=by kernel_rfl):KX [] nt w0 L M R ((Code.rangeFunc g #[p,q] assign body).wp Tryz.prog Q):=fun a w hs=>by
 subst hM
 refine wkRange (gf:=gf) (lb:=lb.toArray) (hg a w hs) (fun args w2=>?_) hs.m fun rc d l W hrc hd hl hb hMW=>?_
 ·cases hf:Tryz.prog.funcs[gf]? with
  | none=>rw[hf] at eg;cases eg
  | some fn=>
   rw[hf] at eg
   simp only[Bool.and_eq_true,Bool.not_eq_true'] at eg
   exact enters_f hf eg.1 (by cases h:fn.body <;> simp_all) args w2
 ·have h0:MR w0 (Lp l rc::Df d::(Ma++Mb)) R W:=⟨hMW,fun x hx=>by
   have h1:=(hs.r x hx).grow hb
   exact⟨h1.owns,fun y hy=>by
    rcases List.mem_cons.1 hy with rfl | hy
    ·exact fun hg=>absurd (own_lt_size (hs.r x hx).owns hg) (Nat.not_lt.2 hl)
    ·rcases List.mem_cons.1 hy with rfl | hy
     ·exact fun hg=>absurd (own_lt_size (hs.r x hx).owns hg) (Nat.not_lt.2 hd)
     ·exact h1.far y hy⟩,hs.nd⟩
  have h1:MR w0 (Ma++Lp l rc::Df d::Mb) R W:=h0.perm (by
   refine List.perm_middle.trans (.cons _ ?_)
   exact List.perm_middle)
  have h2:=hc l d rc hrc.state hrc.pending (fun M' R' u v Rr k hk hw w2 hm=>yieldW2 hrc (hm.m.obj k hk) hs.f (Nat.le_of_ble_eq_true hp) (Nat.le_of_ble_eq_true hq) fun b hF=>hw b w2 ⟨hF,hm.m,hm.r,hm.nd⟩) W h1
  rw[show(#[.func (.yield l) #[] #[]]++lb.toArray:Array Value)=(.func (.yield l) #[] #[]::lb).toArray by simp]
  refine h2.mono ?_
  rintro e W2 ⟨h2,y,hJ,h3⟩
  refine⟨h2,leftR rc .ret,h3.m.obj 0 rfl,by simp[leftR],?_⟩
  have h4:=(h3.put (i:=0) rfl (.loop { leftR rc .ret with state:=.exhausted })).sub (List.sublist_cons_self _ _) (List.Sublist.refl _)
  exact rt (h d y hJ) _ _ ⟨frMark hs.f,h4.m,h4.r,h4.nd⟩
theorem rfR1 {p gf:Nat}{g:Operand}{assign body:Code}{lb:List Value}{Y:Type}(Ma Mb:MT)(J:Y->Prop)(MM:Y->MT)(RR:Y->List Rw)(hM:M=Ma++Mb:=by rfl)
  (hc:∀ l d (rc:Loop),rc.state = .ready->rc.pending=none->(∀ (M':MT) (R':List Rw) (u:Value) (Rr:Bool->World->Prop) (k:Nat),M'[k]?=some (Lp l rc)->KX [] nt w0 ((p,u)::L) M' R' (wR l assign body Rr)->∀ w,MR w0 M' R' w->YieldW Tryz.prog l #[u] w Rr) →
   ∀ w,MR w0 (Ma++Lp l rc::Df d::Mb) R w->Calls Tryz.prog gf (.func (.yield l) #[] #[]::lb).toArray w fun e w'=>(∃ u,e = .returned u) ∧ ∃ y,J y/\MR w0 (Lq l rc::Df d::MM y) (RR y) w')
  (h:∀ d y,J y->KX [mark d] nt w0 L (Df d::MM y) (RR y) (Q .ret))
  (hg:EV (St [] nt w0 L M R) g (.func (.func gf) #[] lb.toArray):=by exact ev) (hp:Nat.blt p nt=true:=by rfl)
  (eg:(match Tryz.prog.funcs[gf]? with | some fn=>!(fn.name == "runtime.NumGoroutine")&&fn.body.isSome | none=>false)=true:=by kernel_rfl):KX [] nt w0 L M R ((Code.rangeFunc g #[p] assign body).wp Tryz.prog Q):=fun a w hs=>by
 subst hM
 refine wkRange (gf:=gf) (lb:=lb.toArray) (hg a w hs) (fun args w2=>?_) hs.m fun rc d l W hrc hd hl hb hMW=>?_
 ·cases hf:Tryz.prog.funcs[gf]? with
  | none=>rw[hf] at eg;cases eg
  | some fn=>
   rw[hf] at eg
   simp only[Bool.and_eq_true,Bool.not_eq_true'] at eg
   exact enters_f hf eg.1 (by cases h:fn.body <;> simp_all) args w2
 ·have h0:MR w0 (Lp l rc::Df d::(Ma++Mb)) R W:=⟨hMW,fun x hx=>by
   have h1:=(hs.r x hx).grow hb
   exact⟨h1.owns,fun y hy=>by
    rcases List.mem_cons.1 hy with rfl | hy
    ·exact fun hg=>absurd (own_lt_size (hs.r x hx).owns hg) (Nat.not_lt.2 hl)
    ·rcases List.mem_cons.1 hy with rfl | hy
     ·exact fun hg=>absurd (own_lt_size (hs.r x hx).owns hg) (Nat.not_lt.2 hd)
     ·exact h1.far y hy⟩,hs.nd⟩
  have h1:MR w0 (Ma++Lp l rc::Df d::Mb) R W:=h0.perm (by
   refine List.perm_middle.trans (.cons _ ?_)
   exact List.perm_middle)
  have h2:=hc l d rc hrc.state hrc.pending (fun M' R' u Rr k hk hw w2 hm=>yieldW1 hrc (hm.m.obj k hk) hs.f (Nat.le_of_ble_eq_true hp) fun b hF=>hw b w2 ⟨hF,hm.m,hm.r,hm.nd⟩) W h1
  rw[show(#[.func (.yield l) #[] #[]]++lb.toArray:Array Value)=(.func (.yield l) #[] #[]::lb).toArray by simp]
  refine h2.mono ?_
  rintro e W2 ⟨h2,y,hJ,h3⟩
  refine⟨h2,leftR rc .ret,h3.m.obj 0 rfl,by simp[leftR],?_⟩
  have h4:=(h3.put (i:=0) rfl (.loop { leftR rc .ret with state:=.exhausted })).sub (List.sublist_cons_self _ _) (List.Sublist.refl _)
  exact rt (h d y hJ) _ _ ⟨frMark hs.f,h4.m,h4.r,h4.nd⟩
end
end
section
section
variable {P:Program}{l:List Oper}
theorem wpIn_region_inv2 {id lr m:Nat}{Q:Exit->Act->World->Prop}{a0:Act}{w:World}(n:Nat)(hm:P.follows .mixedOrders=true)(hnd:(l.all fun o=>match o.op with | .defer _=>false | _=>true)=true)(hB:looseB l n=true)(Inv:(Nat->Bool)->Act->World->Prop)(h0:Inv (fun _=>false) a0 w.drew)
  (hstep:∀ (L:Nat->Bool) a W i o,Inv L a W->l[i]?=some o->L i=false->(∀ j,Region.waitsFor .any l.toArray i j=true->L j=true) →
   (Region.wanted o (yielded l.toArray a.tmps)=true/\GivesT P (fun _=>True) (fun v W'=>Inv (fun j=>L j||j==i) (a.put o.dst v) W') ((execOp a.eval o).run P W))\/(Region.wanted o (yielded l.toArray a.tmps)=false/\Inv (fun j=>L j||j==i) (a.put o.dst undef) W))
  (hend:∀ L a W,(∀ j,j<l.length->L j=true)->Inv L a W->Q .normal a W):(Code.region id l.toArray true).wpIn (Fence.wide.inRound lr) m P Q a0 w:=by
 refine wpIn_region_any hm ?_
 have main:∀ (f:Nat) (listed:Array Bool) (a:Act) (W:World),listed.size=l.length->openN l.length listed=f->Inv (fun j=>listed.getD j false) a W->wpAnyIn (Fence.wide.inRound lr) m P .any l.toArray Q f listed a W:=by
  intro f
  induction f with
  | zero=>
   intro listed a W hsz hf hI
   have hno:Region.ready .any l.toArray listed = []:=by
    refine Classical.byContradiction fun hc=>?_
    obtain⟨j,hj⟩:=List.exists_mem_of_ne_nil _ hc
    obtain⟨hu,o,ho,_⟩:=mem_ready.1 hj
    have hjl:j<l.length:=by simpa using (Array.getElem?_eq_some_iff.1 ho).1
    have:=openN_set l.length listed j hjl hsz hu
    omega
   refine⟨hno,hend _ a W (fun j hj=>?_) hI⟩
   have hjs:j<listed.size:=by omega
   cases hu:listed.getD j true with
   | true=>
    simp only[Array.getD_eq_getD_getElem?,Array.getElem?_eq_getElem hjs,Option.getD_some] at hu ⊢
    exact hu
   | false=>
    have:=openN_set l.length listed j hj hsz hu
    omega
  | succ f ih=>
   intro listed a W hsz hf hI
   refine⟨fun h=>absurd h (ready_of_open hB hsz (by omega)),fun i hi=>?_⟩
   obtain⟨hu,o,ho,hwait⟩:=mem_ready.1 hi
   have hio:l[i]?=some o:=by simpa using ho
   have hil:=(List.getElem?_eq_some_iff.1 hio).1
   have his:i<listed.size:=by omega
   have hL0:listed.getD i false=false:=by
    simp only[Array.getD_eq_getD_getElem?,Array.getElem?_eq_getElem his,Option.getD_some] at hu ⊢
    exact hu
   have hext:(fun j=>(listed.setIfInBounds i true).getD j false)=fun j=>listed.getD j false||j==i:=by
    funext j
    simp only[Array.getD_eq_getD_getElem?,Array.getElem?_setIfInBounds]
    by_cases hj:i=j
    ·subst hj;simp[his]
    ·rw[if_neg hj,beq_eq_false_iff_ne.2 (fun e=>hj e.symm),Bool.or_false]
   have hlist:∀ j,Region.waitsFor .any l.toArray i j=true->listed.getD j false=true:=by
    intro j hj
    obtain⟨o',ho',e,he,hb,hon⟩:=Region.waitsFor_spec hj
    have e1:o'=o:=Option.some.inj (ho'.symm.trans ho)
    subst e1
    rw[←hon];exact hwait e he hb
   have go:∀ v W',Inv (fun j=>listed.getD j false||j==i) (a.put o.dst v) W'->wpAnyIn (Fence.wide.inRound lr) m P .any l.toArray Q f (listed.setIfInBounds i true) (a.put o.dst v) W':=by
    intro v W' h
    exact ih _ _ _ (by simpa using hsz) (by have:=openN_set l.length listed i hil hsz hu;omega) (by rw[hext];exact h)
   rcases hstep _ a W i o hI hio hL0 hlist with⟨hw,hg⟩ | ⟨hw,hI2⟩
   rotate_left
   ·unfold wpOpIn
    simp only[ho]
    rw[if_neg (by rw[hw];decide)]
    exact⟨fun _ _=>trivial,go _ _ hI2⟩
   have hndo:∀ c,o.op ≠ .defer c:=by
    intro c e
    have:=List.all_eq_true.1 hnd o (List.mem_of_getElem? hio)
    rw[e] at this
    cases this
   unfold wpOpIn
   simp only[ho]
   rw[if_pos hw]
   refine⟨fun _ _=>trivial,?_⟩
   rw[Oper.semAt_eq _ _ _ hndo]
   generalize (execOp a.eval o).run P W=r at hg
   cases r with
   | ok x w'=>
    cases x <;> simp only[GivesT] at hg
    case value u=>exact go _ _ hg.2
    case skip=>exact go _ _ hg.2
    case enter f' args=>
     refine⟨fun hx=>(by cases hx),CallsIn.inRound lr (callsIn_wide.2 (Calls.mono (R:=_) hg ?_))⟩
     rintro e w'' ⟨v,rfl,_,h2⟩
     exact go _ _ h2
   | halt x w'=>simp only[GivesT] at hg
 have h1:openN l.length (Array.replicate l.toArray.size false)=l.toArray.size:=by
  unfold openN
  have:((List.range l.length).filter fun i=>(Array.replicate l.toArray.size false).getD i true==false)=List.range l.length:=by
   apply List.filter_eq_self.2
   intro i hi
   rw[List.mem_range] at hi
   simp[hi]
  rw[this];simp
 refine main _ _ _ _ (by simp) h1 ?_
 have e:(fun j=>(Array.replicate l.toArray.size false).getD j false)=fun _=>false:=by funext j;exact getD_replicate_false _ _
 rw[e]
 exact h0
end
section
variable {D:List Deferred}{nt:Nat}{w0:World}{L:LT}{M:MT}{R:List Rw}{l:List Oper}{Q:Exit->Act->World->Prop}{cc:Code}{id lr:Nat}
def noDfB (l:List Oper):Bool:=l.all fun o=>match o.op with | .defer _=>false | _=>true
theorem drI (KL:List Kp)(AL:List NewZ)(BL:List OldQ)(js lv:List Nat)(hB:BOk M BL js)(ask:∀ Bs,AKs D nt w0 L M R l KL AL BL js Bs 0 l)
  (h:AftB BL js M fun M1 R1=>AftA AL fun L2 N R2=>AftK lv l KL fun L3 R3=>KX D nt w0 (L3++(L2++L)) (N++M1) (R3++(R2++(R1++R))) (wI lr cc Q)) (hj:js.Nodup:=by decide) (hk:rgOk nt L l KL AL BL js lv=true:=by kernel_rfl) (hm:Tryz.prog.follows .mixedOrders=true:=by kernel_rfl) (hd:noDfB l=true:=by kernel_rfl):KX D nt w0 L M R (wI lr (Code.seq (Code.region id l.toArray true) cc) Q):=fun a w hs=>
 wpIn_seq (drY (C:=(Code.region id l.toArray true).wpIn (Fence.wide.inRound lr) 0 Tryz.prog (Exit.then (wI lr cc Q) Q)) (fun k1 _ _ _ h0 hs he=>wpIn_region_inv2 nt hm hd k1 _ h0 hs he) KL AL BL js lv hB ask h (fun _ _=>rfl) hj hk a w hs)
end
end
section
section
variable {D:List Deferred}{nt:Nat}{w0:World}{L:LT}{M:MT}{R:List Rw}{x y:Operand}{v v2:Value}{ops:Array Oper}{rest:List Oper}{Q:Exit->Act->World->Prop}{tyo:TypeId}{ps:String}{af:Array Edge}
theorem spl_set {cur:Array Value}{o:Nat}(h:o<cur.size):(spl cur o [v2]).toList=cur.toList.set o v2:=by
 unfold spl
 rw[List.set_eq_take_append_cons_drop,if_pos (by simpa using h)]
 simp
theorem so (i:Nat){m n o:Nat}{e ty:TypeId}{xs:List Value}(h:KX D nt w0 L M (R.set i ⟨v,e,m,n,xs.set o v2⟩) (wpList Tryz.prog ops Q rest))(hi:R[i]?=some ⟨v,e,m,n,xs⟩:=by rfl)(hx:EV (St D nt w0 L M R) x (slPtr v o):=by exact ev)(hy:EV (St D nt w0 L M R) y v2:=by exact ev)(hs:szT ty=some 1:=by rfl)(h1:v2.oneCell'=true:=by first | rfl | assumption)(ho:o<n*m:=by omega):KX D nt w0 L M R (wpList Tryz.prog ops Q (⟨none,.store ty x y,tyo,ps,af,none⟩::rest)):=fun a w hst=>by
 have hO:w.ownsRow w0.heap.size e m v n xs:=(hst.row i hi).owns
 rcases hO.2 with⟨_,h0⟩ | ⟨g,cap,cur,rfl,hbase,hb,h2,h3,h4,h5⟩
 ·subst h0;omega
 ·have hlt:o<cur.size:=by
   rw[h4]
   exact Nat.lt_of_lt_of_le ho (Nat.mul_le_mul_right _ h2)
  have hc:v2.cells = #[v2]:=cell1 h1
  have hr:=run_stG (w:=w) (g:=g) (o:=o) (t:=e) (v:=v2) (ty:=ty) (n:=1) (cur:=cur) hb hs (by rw[hc];rfl) (by rw[hc];exact allA (by simp[h1])) (by omega)
  rw[hc] at hr
  have hx':a.eval x=px g o:=by rw[hx a w hst];simp[slPtr,Addr.add];exact fun h=>h.symm
  have hcs:(spl cur o [v2]).toList=cur.toList.set o v2:=spl_set hlt
  have hsz:(spl cur o [v2]).size=cur.size:=by rw[←Array.length_toList,hcs,List.length_set,Array.length_toList]
  have hown:(w.setRow g (spl cur o [v2])).ownsRow w0.heap.size e m (.slice (some ⟨g,0,none⟩) n cap) n (xs.set o v2):=by
   refine⟨by rw[List.length_set];exact hO.1,.inr ⟨g,cap,_,rfl,hbase,setRow_heap w g _ _ e _ hb,h2,h3,by rw[hsz];exact h4,?_⟩⟩
   rw[hcs,List.take_set,h5]
  have hm:=hst.mr.turn hi hown (.inl rfl) (grown_setRow w g _)
  refine sqN hst.f (wantedS rfl) (w2:=w.setRow g (spl cur o [v2])) ?_ rfl fun a2 hF=>h a2 _ ⟨hF,hm.m,hm.r,hm.nd⟩
  unfold execOp
  simp only[hx',hy a w hst,Instr.storeAt,Instr.sureAddr,Sem.run_bind,Sem.run_pure,Result.andThen_ok,hr]
end
theorem osl (i:Nat){D:List Deferred}{nt:Nat}{w0:World}{L:LT}{M:MT}{R:List Rw}{X:Act->World->Prop}{v:Value}{e:TypeId}{m n:Nat}{xs:List Value}(h:(∃ ad nn cc,v = .slice ad nn cc)->KX D nt w0 L M R X)(hi:R[i]?=some ⟨v,e,m,n,xs⟩:=by rfl):KX D nt w0 L M R X:=fun a w hs=>by
 obtain⟨b,q,c,h2⟩:=own_slice (hs.row i hi).owns
 exact h ⟨_,_,_,h2⟩ a w hs
end
theorem refs_at {l:List (List UInt8)}{i:Nat}(h:i<l.length)(j:Nat){u:Value}(hu:(refC (l.getD i []))[j]?=some u):(refsC l)[i*5+j]?=some u:=flat_at refC_len (getD_memX h).1 j hu
def rootX (N:Int)(vr vp vc:Value):List Value:=[i6 N,i6 0,vr,vp,i6 3,i6 2,i6 1,i6 1,vc]
theorem rcheckX {vr vp vc:Value}{N:Int}{refs:List (List UInt8)}{packs:List (PkS×Value)}{w:World}(hE:Env w)(hR:RtIn w vr vp refs packs)(hk:RtOk N refs packs)(hcv:CapOk vr)(hVc:Sl w vc 34 0 []):RV 177 #[.agg (rootX N vr vp vc).toArray] w (i6 0):=by
 refine enter Tryz.func177 ?_
 have hVr:=hR.r
 have hVp:=hR.p
 have hor:=hVr.one
 have hop:=hVp.one
 have hoc:=hVc.one
 refine rg (ba (fun g0=>?_))
 refine p1 .as (en (se (rg (p4 .fa .ld .lss .mv (gFf (hp:=PR.fa) ?_)))))
 refine gFf (hp:=PR.ld) ?_
 refine gFf (hp:=PR.gtr) ?_
 refine p2 .por .mv (gFf (hp:=PR.fa) ?_)
 refine gFf (hp:=PR.ld) ?_
 refine gFf (hp:=PR.lss) ?_
 refine p2 .por .mv (gFf (hp:=PR.fa) ?_)
 refine gFf (hp:=PR.ld) ?_
 refine gFf (hp:=PR.gtr) ?_
 refine p1 .por (en (cf (hb:=(by have:=hk.n;simp;omega)) (sk (nN (se (rg (p2 .fa .ld ?_)))))))
 refine pp (PR.lr) (p1 .gtr (en (cf (hb:=(decide_eq_false (by have:=hk.r1;omega))) (sk (nN (se (rg (p2 .fa .ld (pp (PR.lr) (p1 .mv (en (bl (lo (A:=Nat) (fun i=>i<=refs.length) (fun i=>refs.length-i) (fun i=>[(1,pt g0),(2,i6 0),(36,vr),(37,i6 (refs.length:Int)),(38,i6 (i:Int))]) (fun i=>[(g0,isB 46 #[i6 N,i6 0,vr,vp,i6 3,i6 2,i6 1,i6 1,vc])]) (fun i=>[]) 0 (Nat.zero_le _) su (fun i hi=>?_))))))))))))))
 refine r1 .lss (se (sd (fun hlt=>?_) (fun hlt=>?_)))
 ·skip
  refine sk (nN (se (bl ?_)))
  have h1:=hk.r1
  have hi0:i=0:=by omega
  have hlt0:i<refs.length:=by omega
  have hx:=hk.r _ (getD_memX (d:=[]) hlt0).2
  have hA:∀ w2,Below w.heap.size w w2->Sl w2 (slOf 0 i 5 vr) 5 0 []:=fun w2 hb=>by
   subst hi0
   have:=((hVr.below hb).part hcv (Nat.zero_le 0) (Nat.zero_le _)).1
   simpa using this
  refine rg (p1 .mv (pp (PR.ix (i:=i)) (pp (PR.lq (ys:=refC (refs.getD i [])) (fun q u hu=>refs_at hlt0 q hu)) (aa Tryz.zeroValue88 (fun g1=>p1 .as (sw 0 ?_))))))
  refine en (dr [_,_,_,_,_,_,_] [] [] [] [5] trivial (fun Bs=>⟨kv (oP (PR.fa ez)),kv (oP (PR.ld ed (mk' 1))),kv (oP (PR.mv ez)),kv (oP (PR.sT hcv (p:=(i:Int)) (j:=i) rfl ed (SL.zp hVr) ed rfl rfl (by omega))),kv (oP (PR.lw ez (mk' 0))),kv (oC (fun _ _ h=>rchkref (hE.below h.low) (hA _ h.low) hx.1 hx.2) (.cons ed (.cons ed .nil))),kv (oP (PR.as ed)),trivial⟩) ?_)
  exact r2 .mv .nei (cf (sk (bN (nN (rg0 (pp (PR.ad ((i+1:Nat):Int)) (p1 .mv (en0 (nN (bk (i+1) (by omega) (by omega) su))))))))))
 ·skip
  refine xt (nX (nX (bH (nN (se ?_)))))
  refine rg (p2 .fa .ld (cl (fun _ _ h=>rchkpk (hE.below h.m.below) (hR.below h.m.below) hk) (p1 .as (en (r2 .mv .nei (cf (sk (nN (rg (p1 .fa (pp (PR.ls [i6 3,i6 2,i6 1,i6 1]) (aa Tryz.zeroValue43 (fun g1=>sw 0 ?_)))))))))))))
  refine en (se (rg (p5 .fa .ld .fa .ld .fa (p3 .ld .fa .ld (pp (PR.bd #[i6 3,i6 2,i6 1,i6 1]) (p1 .mv (en (bl (lr 5 (kL [(1,pt g0),(2,i6 0),(69,.agg #[i6 3,i6 2,i6 1,i6 1]),(70,i6 0)] (un ?_)))))))))))
  refine r1 .lss (se (ct (sk (nN (se (bl (rg (pp (PR.xc 0) (p1 .as (en (rg (p3 .mv .lss .mv (gFf (hp:=PR.mv) ?_)))))))))))))
  refine gFf (hp:=PR.gtr) ?_
  refine p1 .por (en (cf (sk (bN (nN (rg0 (pp (PR.ad 1) (p1 .mv (en0 (nN (kL [(1,pt g0),(2,i6 0),(69,.agg #[i6 3,i6 2,i6 1,i6 1]),(70,i6 1)] (un ?_))))))))))))
  refine r1 .lss (se (ct (sk (nN (se (bl (rg (pp (PR.xc 1) (p1 .as (en (rg (p3 .mv .lss .mv (gFf (hp:=PR.mv) ?_)))))))))))))
  refine gFf (hp:=PR.gtr) ?_
  refine p1 .por (en (cf (sk (bN (nN (rg0 (pp (PR.ad 2) (p1 .mv (en0 (nN (kL [(1,pt g0),(2,i6 0),(69,.agg #[i6 3,i6 2,i6 1,i6 1]),(70,i6 2)] (un ?_))))))))))))
  refine r1 .lss (se (ct (sk (nN (se (bl (rg (pp (PR.xc 2) (p1 .as (en (rg (p3 .mv .lss .mv (gFf (hp:=PR.mv) ?_)))))))))))))
  refine gFf (hp:=PR.gtr) ?_
  refine p1 .por (en (cf (sk (bN (nN (rg0 (pp (PR.ad 3) (p1 .mv (en0 (nN (kL [(1,pt g0),(2,i6 0),(69,.agg #[i6 3,i6 2,i6 1,i6 1]),(70,i6 3)] (un ?_))))))))))))
  refine r1 .lss (se (ct (sk (nN (se (bl (rg (pp (PR.xc 3) (p1 .as (en (rg (p3 .mv .lss .mv (gFf (hp:=PR.mv) ?_)))))))))))))
  refine gFf (hp:=PR.gtr) ?_
  refine p1 .por (en (cf (sk (bN (nN (rg0 ?_))))))
  refine pp (PR.ad 4) (p1 .mv (en0 (nN (kL [(1,pt g0),(2,i6 0),(69,.agg #[i6 3,i6 2,i6 1,i6 1]),(70,i6 4)] (un (r1 .lss (se (cf (xt (nX (nX (bH (nN (rg (p2 .fa .ld (pp (PR.lr) (mset (fun gm=>?_))))))))))))))))))
  refine p1 .as (en (se (rg ?_)))
  exact p2 .fa .ld (pp (PR.lr) (p1 .mv (en (bl (lr 1 (un (r1 .lss (se (cf (xt (nX (nX (bH (nN (r1 .as (rt (q1 rfl)))))))))))))))))
def refT (nm:List UInt8):List (List UInt8):=[[109],Lib.itoa 1,Lib.itoa 0,nm,Lib.itoa 0]
theorem refT_len {nm:List UInt8}(hn:nm.length<2^40):(refT nm).flatten.length+10*(refT nm).length<=140737488355328:=by
 have h2:=Lib.itoa_length_le 0 (by omega) (by omega)
 have h3:=Lib.itoa_length_le 1 (by omega) (by omega)
 simp only[refT,List.flatten_cons,List.flatten_nil,List.length_append,List.length_nil,List.length_cons];omega
theorem rrefrow {nm:List UInt8}{w:World}(hE:Env w)(hn:nm.length<2^40):RV 180 #[.agg (refC nm).toArray] w (sv (rowS (refT nm))):=by
 refine enter Tryz.func180 ?_
 refine rg (ba (fun g0=>?_))
 refine p1 .as (en (dr [_,_,_,_,_,_,_,_,_,_,_,_,_,.tel [9] (.row 9 1 5 (txs (refT nm)) fun v=>.ret v),_,_] [] [] [] [2] trivial (fun Bs=>⟨kv (oP (PR.fa ez)),kv (oP (PR.ld ed (mk' 0))),kv (oP (PR.fa ez)),kv (oP (PR.ld ed (mk' 0))),kv (oC (fun _ _ h=>rdec (n:=1) (hE.below h.low) (by decide)) (.cons ed .nil)),kv (oP (PR.fa ez)),kv (oP (PR.ld ed (mk' 0))),kv (oC (fun _ _ h=>ndec (n:=0) (hE.gl.below h.low) (by decide)) (.cons ed .nil)),kv (oP (PR.fa ez)),kv (oP (PR.ld ed (mk' 0))),kv (oP (PR.fa ez)),kv (oP (PR.ld ed (mk' 0))),kv (oC (fun _ _ h=>ndec (n:=0) (hE.gl.below h.low) (by decide)) (.cons ed .nil)),kv (oS (txs (refT nm)).toArray (fun _ _ h=>h.size) (.cons ed (.cons ed (.cons ed (.cons ed (.cons ed .nil)))))),kv (oO1 (s:=16) (fun _ _ h=>h) fun v=>oC (xs:=[.tmp 16]) (vs:=[v]) (fun _ _ h=>nrowK (l:=(refT nm)) (SL.qr (e:=9) (List.mem_singleton.2 rfl) _ _ h) (refT_len hn) (by show 5<2^44;decide)) (.cons EV.qq .nil)),kv (oP (PR.as ed)),trivial⟩) ?_))
 exact rt (q1 rfl)
def pkT (p:PkS)(j:Nat):List (List UInt8):=p.nm::(p.pl.take j).flatMap fun x=>[x.nm,Lib.itoa x.at_,Lib.itoa x.len]
theorem pkT_succ {p:PkS}{j:Nat}(h:j<p.pl.length):pkT p (j+1)=pkT p j ++ [(p.pl.getD j noPl).nm,Lib.itoa (p.pl.getD j noPl).at_,Lib.itoa (p.pl.getD j noPl).len]:=by
 unfold pkT
 rw[List.take_succ_eq_append_getElem h,List.flatMap_append,List.getD_eq_getElem?_getD,List.getElem?_eq_getElem h]
 simp
theorem pkT_n (p:PkS):(pkT p p.pl.length).length=1+3*p.pl.length:=by
 unfold pkT
 rw[List.take_length,List.length_cons,List.length_flatMap]
 have:∀ l:List PlS,(l.map fun a=>[a.nm,Lib.itoa a.at_,Lib.itoa a.len].length).sum=3*l.length:=fun l=>by
  induction l with
  | nil=>rfl
  | cons a l ih=>rw[List.map_cons,List.sum_cons,ih,List.length_cons];simp;omega
 rw[this];omega
theorem rpackrow {p:PkS}{pv:Value}{w:World}(hE:Env w)(hV:Sl w pv 3 p.pl.length (plsC p.pl))(hp:PkOk p)(hpl:(pkT p p.pl.length).flatten.length+10*(pkT p p.pl.length).length<=140737488355328):RV 182 #[.agg #[sv p.nm,pv]] w (sv (rowS (pkT p p.pl.length))):=by
 refine enter Tryz.func182 ?_
 have hon:=hV.one
 have hpn:=hp.n
 refine rg (ba (fun g0=>?_))
 refine p1 .as (en (rg (p2 .fa .ld (pp (PR.lr) (pp (PR.ml ((3*p.pl.length:Nat):Int)) (pp (PR.ad ((1+3*p.pl.length:Nat):Int)) (mk0 (c:=1+3*p.pl.length) (fun vm=>?_))))))))
 refine os 0 (fun o0 _=>?_)
 refine p1 .as (en (rg (p3 .mv .fa .ld (bs #[sv p.nm] (fun g1=>?_)))))
 refine ap 0 (fun v0=>?_)
 refine p1 .as (en (rc 0 (1+3*0) (txs (pkT p 0)) (hn:=rfl) (hx:=rfl) (h:=?_)))
 refine os 0 (fun o1 _=>?_)
 refine se (rg (p2 .fa .ld (pp (PR.lr) (p1 .mv (en (bl (lo2 (fun j l=>j<=p.pl.length) (fun j l=>p.pl.length-j) (fun j l=>[(1,pt g0),(2,.string ⟨#[]⟩),(3,l),(18,pv),(19,i6 (p.pl.length:Int)),(20,i6 (j:Int))]) (fun j l=>[(g0,isB 118 #[sv p.nm,pv])]) (fun j l=>[⟨l,9,1,1+3*j,txs (pkT p j)⟩]) 0 v0 (Nat.zero_le _) su (fun j l hj=>?_))))))))
 refine r1 .lss (se (sd (fun hlt=>?_) (fun hlt=>?_)))
 ·skip
  refine sk (nN (se (bl ?_)))
  have hy0:j<p.pl.length:=by omega
  obtain⟨hy1,hym⟩:=getD_memX (d:=noPl) hy0
  have hy:=hp.pl _ hym
  have hya:=hy.a
  have hyb:=hy.b
  refine rg (pp (PR.ix (i:=j)) (pp (PR.lq (ys:=plC (p.pl.getD j noPl)) (fun q u hu=>flat_at plC_len hy1 q hu)) (aa Tryz.zeroValue158 (fun g2=>sw 0 ?_))))
  refine en (dtk 10 [_,_,_,_,_,_,_,_,_,.tel [9] (.row 9 1 3 (txs [(p.pl.getD j noPl).nm,Lib.itoa (p.pl.getD j noPl).at_,Lib.itoa (p.pl.getD j noPl).len]) fun v=>.ret v)] [24,33] (fun Bs=>ha (oP (PR.mv (EV.hh rfl rfl (by kernel_rfl) (by kernel_rfl)))) (ha (oP (PR.fa ez)) (ha (oP (PR.ld ed (mk' 0))) (ha (oP (PR.fa ez)) (ha (oP (PR.ld ed (mk' 0))) (ha (oC (fun _ _ h=>rdec (n:=(p.pl.getD j noPl).at_) (hE.below h.low) (by omega)) (.cons ed .nil)) (ha (oP (PR.fa ez)) (ha (oP (PR.ld ed (mk' 0))) (ha (oC (fun _ _ h=>rdec (n:=(p.pl.getD j noPl).len) (hE.below h.low) (by omega)) (.cons ed .nil)) (ha (oS (txs [(p.pl.getD j noPl).nm,Lib.itoa (p.pl.getD j noPl).at_,Lib.itoa (p.pl.getD j noPl).len]).toArray (fun _ _ h=>h.size) (.cons ed (.cons ed (.cons ed .nil)))) trivial)))))))))) (fun v3=>?_))
  refine apR 1 0 (fun v2=>?_) (h1:=txs_one1 _)
  refine rc 1 (1+3*(j+1)) (txs (pkT p (j+1))) (hn:=by omega) (hx:=by rw[pkT_succ hy0];simp[txs]) (h:=?_)
  exact p1 .as (en0 (bN (nN (rg0 (pp (PR.ad ((j+1:Nat):Int)) (p1 .mv (en0 (nN (bk2 (j+1) v2 (by omega) (by omega) su)))))))))
 ·have hjl:j=p.pl.length:=by omega
  subst hjl
  exact xt (nX (nX (bH (nN (rg (p1 .mv (cl (fun _ _ h=>nrowK (l:=pkT p p.pl.length) (by rw[pkT_n];exact h.s 0) hpl (by rw[pkT_n];omega)) (p1 .as (en (rt (q1 rfl)))))))))))
theorem map_take {α β:Type}(f:α->β)(l:List α){i:Nat}(d:α)(h:i<l.length):(l.take (i+1)).map f=(l.take i).map f ++ [f (l.getD i d)]:=by
 rw[List.take_succ_eq_append_getElem h,List.map_append,List.getD_eq_getElem?_getD,List.getElem?_eq_getElem h]
 rfl
theorem txs_snoc (l:List (List UInt8))(s:List UInt8):txs (l ++ [s])=txs l ++ [tx s]:=by simp[txs]
abbrev refB (x:List UInt8):List UInt8:=rowS (refT x)
abbrev pkB (q:PkS×Value):List UInt8:=rowS (pkT q.1 q.1.pl.length)
theorem rrows {vr:Value}{refs:List (List UInt8)}{w:World}(hE:Env w)(hV:Sl w vr 5 refs.length (refsC refs))(hn:refs.length<2^36)(hr:∀ x∈refs,x.length<2^40)(hb:(refs.map refB).flatten.length+10*(refs.map refB).length<=140737488355328):RV 179 #[vr,.func (.func 180) #[] #[]] w (sv (rowS (refs.map refB))):=by
 refine enter Tryz.func179 ?_
 have hon:=hV.one
 refine r1 .as (rg (p1 .mv (pp (PR.lr) (mk0 (c:=refs.length) (fun vm=>?_)))))
 refine os 0 (fun o0 _=>?_)
 refine p1 .as (en (se (rg (p1 .mv (pp (PR.lr) (p1 .mv (en (bl (lo2 (fun i l=>i<=refs.length) (fun i l=>refs.length-i) (fun i l=>[(0,vr),(1,.func (.func 180) #[] #[]),(4,.string ⟨#[]⟩),(5,l),(11,vr),(12,i6 (refs.length:Int)),(13,i6 (i:Int))]) (fun i l=>[]) (fun i l=>[⟨l,9,1,i,(txs ((refs.take i).map refB))⟩]) 0 vm (Nat.zero_le _) su (fun i l hi=>?_))))))))))
 refine r1 .lss (se (sd (fun hlt=>?_) (fun hlt=>?_)))
 ·skip
  refine sk (nN (se (bl ?_)))
  have hlt0:i<refs.length:=by omega
  obtain⟨hx1,hxm⟩:=getD_memX (d:=[]) hlt0
  have hxo:=hr _ hxm
  refine rg (pp (PR.ix (i:=i)) (pp (PR.lq (ys:=refC (refs.getD i [])) (fun q u hu=>flat_at refC_len hx1 q hu)) (aa Tryz.zeroValue88 (fun g0=>sw 0 ?_))))
  refine en (rg0 (p3 .mv .mv .lw (clF (fun _ _ h=>rrefrow (hE.below h.m.below) hxo) ?_)))
  refine bs #[sv (refB (refs.getD i []))] (fun g1=>?_)
  refine ap 0 (fun v0=>?_)
  refine p1 .as (en0 (bN (nN (rg0 (pp (PR.ad ((i+1:Nat):Int)) (p1 .mv (en0 (nN (rc 0 (i+1) (txs ((refs.take (i+1)).map refB)) (hn:=by omega) (hx:=by rw[map_take refB refs [] hlt0,txs_snoc];rfl) (h:=?_))))))))))
  exact bk2 (i+1) v0 (by omega) (by omega) su
 ·have hil:i=refs.length:=by omega
  subst hil
  exact xt (nX (nX (bH (nN (rg (p1 .mv (cl (fun _ _ h=>nrowK (l:=refs.map refB) (by have:=h.s 0;rw[List.take_length] at this;rw[List.length_map];exact this) hb (by rw[List.length_map];omega)) (p1 .as (en (rt (q1 rfl)))))))))))
theorem rrowp {vp:Value}{packs:List (PkS×Value)}{w:World}(hE:Env w)(hV:Sl w vp 2 packs.length (pksC packs))(hn:packs.length<2^36)(hQ:∀ x∈packs,Sl w x.2 3 x.1.pl.length (plsC x.1.pl)/\PkOk x.1/\(pkT x.1 x.1.pl.length).flatten.length+10*(pkT x.1 x.1.pl.length).length<=140737488355328)(hb:(packs.map pkB).flatten.length+10*(packs.map pkB).length<=140737488355328):RV 181 #[vp,.func (.func 182) #[] #[]] w (sv (rowS (packs.map pkB))):=by
 refine enter Tryz.func181 ?_
 have hon:=hV.one
 refine r1 .as (rg (p1 .mv (pp (PR.lr) (mk0 (c:=packs.length) (fun vm=>?_)))))
 refine os 0 (fun o0 _=>?_)
 refine p1 .as (en (se (rg (p1 .mv (pp (PR.lr) (p1 .mv (en (bl (lo2 (fun i l=>i<=packs.length) (fun i l=>packs.length-i) (fun i l=>[(0,vp),(1,.func (.func 182) #[] #[]),(4,.string ⟨#[]⟩),(5,l),(11,vp),(12,i6 (packs.length:Int)),(13,i6 (i:Int))]) (fun i l=>[]) (fun i l=>[⟨l,9,1,i,(txs ((packs.take i).map pkB))⟩]) 0 vm (Nat.zero_le _) su (fun i l hi=>?_))))))))))
 refine r1 .lss (se (sd (fun hlt=>?_) (fun hlt=>?_)))
 ·skip
  refine sk (nN (se (bl ?_)))
  have hlt0:i<packs.length:=by omega
  obtain⟨hx1,hxm⟩:=getD_memX (d:=noPk) hlt0
  have hq:=hQ _ hxm
  have hqo:=(hq.1).one
  refine rg (pp (PR.ix (i:=i)) (pp (PR.lq (ys:=pkC (packs.getD i noPk)) (fun q u hu=>flat_at pkC_len hx1 q hu)) (aa Tryz.zeroValue118 (fun g0=>sw 0 ?_))))
  refine en (rg0 (p3 .mv .mv .lw (clF (fun _ _ h=>rpackrow (hE.below h.m.below) (hq.1.below h.m.below) hq.2.1 hq.2.2) ?_)))
  refine bs #[sv (pkB (packs.getD i noPk))] (fun g1=>?_)
  refine ap 0 (fun v0=>?_)
  refine p1 .as (en0 (bN (nN (rg0 (pp (PR.ad ((i+1:Nat):Int)) (p1 .mv (en0 (nN (rc 0 (i+1) (txs ((packs.take (i+1)).map pkB)) (hn:=by omega) (hx:=by rw[map_take pkB packs noPk hlt0,txs_snoc];rfl) (h:=?_))))))))))
  exact bk2 (i+1) v0 (by omega) (by omega) su
 ·have hil:i=packs.length:=by omega
  subst hil
  exact xt (nX (nX (bH (nN (rg (p1 .mv (cl (fun _ _ h=>nrowK (l:=packs.map pkB) (by have:=h.s 0;rw[List.take_length] at this;rw[List.length_map];exact this) hb (by rw[List.length_map];omega)) (p1 .as (en (rt (q1 rfl)))))))))))
theorem rrowc {vc:Value}(f:Value)(w:World)(hVc:Sl w vc 34 0 []):RV 183 #[vc,f] w (sv (rowS [])):=by
 refine enter Tryz.func183 ?_
 have hon:=hVc.one
 refine r1 .as (rg (p1 .mv (pp (PR.lr) (mk0 (c:=0) (fun vm=>?_)))))
 refine os 0 (fun o0 _=>?_)
 refine p1 .as (en (se (rg (p1 .mv (pp (PR.lr) (p1 .mv (en (bl ?_))))))))
 exact lr 1 (kL [(0,vc),(1,f),(4,.string ⟨#[]⟩),(5,vm),(11,vc),(12,i6 ((0:Nat):Int)),(13,i6 0)] (un (r1 .lss (se (cf (xt (nX (nX (bH (nN (rg (p1 .mv (cl (fun _ _ h=>nrowK (l:=[]) (h.s 0) (by decide) (by decide)) (p1 .as (en (rt (q1 rfl)))))))))))))))))
abbrev hibr :List UInt8:=[104,105,98,114]
def rtT (N:Int)(refs:List (List UInt8))(packs:List (PkS×Value)):List (List UInt8):=[hibr,Lib.itoa N,Lib.itoa 0,rowS (refs.map refB),rowS (packs.map pkB),Lib.itoa 3,Lib.itoa 2,Lib.itoa 1,Lib.itoa 1,rowS []]
structure RtB (N:Int)(refs:List (List UInt8))(packs:List (PkS×Value)):Prop where
 b:(refs.map refB).flatten.length+10*(refs.map refB).length<=140737488355328
 c:(packs.map pkB).flatten.length+10*(packs.map pkB).length<=140737488355328
 p:∀ x∈packs,(pkT x.1 x.1.pl.length).flatten.length+10*(pkT x.1 x.1.pl.length).length<=140737488355328
 r:(rtT N refs packs).flatten.length+10*(rtT N refs packs).length<=140737488355328
theorem rbytes {vr vp vc:Value}{N:Int}{refs:List (List UInt8)}{packs:List (PkS×Value)}{w:World}(hE:Env w)(hR:RtIn w vr vp refs packs)(hk:RtOk N refs packs)(hB:RtB N refs packs)(hcv:CapOk vr)(hVc:Sl w vc 34 0 []):RV 126 #[.agg (rootX N vr vp vc).toArray] w (.tuple #[sv (rowS (rtT N refs packs)),i6 0]):=by
 refine enter Tryz.func126 ?_
 have hVr:=hR.r
 have hVp:=hR.p
 have hor:=hVr.one
 have hop:=hVp.one
 have hN:=hk.n
 have hoc:=hVc.one
 refine rg (ba (fun g0=>?_))
 refine p2 .as .as (en (se ?_))
 refine rg (p1 .lw (cl (fun _ _ h=>rcheckX (hE.below h.m.below) (hR.below h.m.below) hk hcv (hVc.below h.m.below)) (p1 .as (en (r2 .mv .nei (cf (sk (nN (rg (p1 .fa (pp (PR.ls [i6 3,i6 2,i6 1,i6 1]) (aa Tryz.zeroValue43 (fun g1=>sw 0 ?_)))))))))))))
 refine en (dr [_,_,_,_,_,_,_,_,_,_,_,_,_,_,_,_,_,_,_,_,_,_,_,_,_,_,_,.tel [9] (.row 9 1 10 (txs (rtT N refs packs)) fun v=>.ret v),_,_,_] [] [] [] [2,3] trivial (fun Bs=>⟨kv (oP (PR.fa ez)),kv (oP (PR.ld ed (mk' 1))),kv (oC (fun _ _ h=>rdec (n:=N) (hE.below h.low) (by omega)) (.cons ed .nil)),kv (oP (PR.fa ez)),kv (oP (PR.ld ed (mk' 1))),kv (oC (fun _ _ h=>ndec (n:=0) (hE.gl.below h.low) (by omega)) (.cons ed .nil)),kv (oP (PR.fa ez)),kv (oP (PR.ld ed (mk' 1))),kv (oC (fun _ _ h=>rrows (hE.below h.low) (hVr.below h.low) (by have:=hk.r1;omega) (fun x hx=>(hk.r x hx).1) hB.b) (.cons ed (.cons EV.f .nil))),kv (oP (PR.fa ez)),kv (oP (PR.ld ed (mk' 1))),kv (oC (fun _ _ h=>rrowp (hE.below h.low) (hVp.below h.low) (by have:=hk.p1;omega) (fun x hx=>⟨(hR.q x hx).below h.low,hk.p x hx,hB.p x hx⟩) hB.c) (.cons ed (.cons EV.f .nil))),kv (oP (PR.fa ez)),kv (oP (PR.ld ed (mk' 0))),kv (oC (fun _ _ h=>rdec (n:=3) (hE.below h.low) (by omega)) (.cons ed .nil)),kv (oP (PR.fa ez)),kv (oP (PR.ld ed (mk' 0))),kv (oC (fun _ _ h=>rdec (n:=2) (hE.below h.low) (by omega)) (.cons ed .nil)),kv (oP (PR.fa ez)),kv (oP (PR.ld ed (mk' 0))),kv (oC (fun _ _ h=>rdec (n:=1) (hE.below h.low) (by omega)) (.cons ed .nil)),kv (oP (PR.fa ez)),kv (oP (PR.ld ed (mk' 0))),kv (oC (fun _ _ h=>rdec (n:=1) (hE.below h.low) (by omega)) (.cons ed .nil)),kv (oP (PR.fa ez)),kv (oP (PR.ld ed (mk' 1))),kv (oC (fun _ _ h=>rrowc _ _ (hVc.below h.low)) (.cons ed (.cons EV.f .nil))),kv (oS (txs (rtT N refs packs)).toArray (fun _ _ h=>h.size) (.cons EV.k (.cons ed (.cons ed (.cons ed (.cons ed (.cons ed (.cons ed (.cons ed (.cons ed (.cons ed .nil))))))))))),kv (oO1 (s:=40) (fun _ _ h=>h) fun v=>oC (xs:=[.tmp 40]) (vs:=[v]) (fun _ _ h=>nrowK (l:=(rtT N refs packs)) (SL.qr (e:=9) (List.mem_singleton.2 rfl) _ _ h) hB.r (by show 10<2^44;decide)) (.cons EV.qq .nil)),kv (oP (PR.as ed)),kv (oP (PR.as EV.k)),trivial⟩) ?_)
 exact rt qv
theorem nintS {s:List UInt8}{n:Int}{w:World}(hG:GL w)(h:intS s=some n)(hs:s.length<=2^47):RV 166 #[sv s] w (.tuple #[i6 n,.bool true]):=by
 have q:=nint hG hs
 rw[h] at q
 exact q
theorem PR.eqT {G:Kn}{x y:Operand}{k:IntKind}{p:Int}{t t2:TypeId}(hx:EV G x (.int k p))(hy:EV G y (.int k p)):PR Tryz.prog G (.binOp .eql t x y t2) (.bool true):=by
 have h:=PR.eqi (P:=Tryz.prog) (t:=t) (t2:=t2) hx hy
 rwa[decide_eq_true rfl] at h
theorem rnumb {w0:World}{M0:MT}{R0:List Rw}{ga:Nat}:RM 196 #[pt ga] w0 M0 R0 (A:=Nat) (fun _=>True) (fun q=>.func (.func 240) #[] #[pt q]) (fun q=>(q,isB 323 #[pt ga])::M0) (fun _=>R0):=by
 refine enterM Tryz.func196 ?_
 refine rg (b1 (fun g0=>?_))
 exact p1 .as (en (rg (pp PR.mk (p1 .as (en (rt (kL [(2,.func (.func 240) #[] #[pt g0])] (rm g0 trivial su))))))))
theorem rnum1M {w0:World}{M1:MT}{gq ga:Nat}{s:List UInt8}{n:Int}(hG:∀ w,Mem w0 ((gq,isB 323 #[pt ga])::(ga,isB 4 #[.bool true])::M1) w->GL w)(hn:intS s=some n)(hs:s.length<=2^47):RM 240 #[sv s,pt gq] w0 ((gq,isB 323 #[pt ga])::(ga,isB 4 #[.bool true])::M1) [] (A:=Unit) (fun _=>True) (fun _=>i6 n) (fun _=>(gq,isB 323 #[pt ga])::(ga,isB 4 #[.bool true])::M1) (fun _=>[]):=by
 refine enterM Tryz.func240 ?_
 refine r1 .as (rg (p1 .mv (cl (fun _ _ h=>nintS (hG _ h.m) hn hs) (p5 .mv .ext .ext .as .as (en (dr [_,_,_,_,_,_,_,_,_,_,_,_,_,.any] [] [⟨13,_,_,_,0,.val (.bool true)⟩] [1] [] ⟨rfl,trivial⟩ (fun Bs=>⟨kv (oP (PR.ld ez (mk' 0))),kv (oP (PR.ld ez (mk' 0))),kv (oP (PR.nil ed)),kv (oP (PR.ld ed (MB.ox 0 rfl (by kernel_rfl)))),kv (oP (PR.mv ed)),kv (oT (hp:=PR.mv (EV.u ez))),kv (oP (PR.pand ed ed)),kv (oP (PR.mv ed)),kv (oT (hp:=PR.mv (EV.u ez))),kv (oT (hp:=PR.mv (EV.u ez))),kv (oT (hp:=PR.eqT (EV.b ed) (EV.b ed))),kv (oP (PR.pand ed ed)),kv (oP (PR.nil ed)),ks 0,trivial⟩) ?_))))))
 exact r2 .mv .as (rt (kL [(3,i6 n)] (rm () trivial su)))
theorem rnum1 {w:World}{gq ga:Nat}{s:List UInt8}{n:Int}(hG:GL w)(hq:Blk w gq 323 #[pt ga])(ha:Blk w ga 4 #[.bool true])(hn:intS s=some n)(hs:s.length<=2^47):RV 240 #[sv s,pt gq] w (i6 n) :=
 pureM [(gq,isB 323 #[pt ga]),(ga,isB 4 #[.bool true])] (fun x hx=>by
  simp only[List.mem_cons,List.not_mem_nil,or_false] at hx
  rcases hx with rfl | rfl
  ·exact isB_one hq
  ·exact isB_one ha) (by
  refine .cons (fun y hy=>?_) (.cons (fun y hy=>(by cases hy)) .nil)
  rw[List.mem_singleton.1 hy]
  exact blk_ne hq ha (by decide)) fun w0 M1 hB=>rnum1M (fun w2 hm=>hG.below (hB w2 hm)) hn hs
theorem rnumI {w:World}{gq ga:Nat}(n:Int)(hG:GL w)(hq:Blk w gq 323 #[pt ga])(ha:Blk w ga 4 #[.bool true])(h0:0<=n)(h1:n<9223372036854775808):RV 240 #[sv (Lib.itoa n),pt gq] w (i6 n) :=
 rnum1 hG hq ha (intS_itoa n h0 h1) (by have:=Lib.itoa_length_le n (by omega) (by omega);omega)
theorem rrefof {v:Value}{nm:List UInt8}{w:World}(hE:Env w)(hV:Sl w v 1 5 (txs (refT nm))):RV 198 #[v] w (.tuple #[.agg (refC nm).toArray,.bool true]):=by
 refine enter Tryz.func198 ?_
 have hon:=hV.one
 refine rg ?_
 refine aa Tryz.zeroValue88 (fun g0=>p1 .as (en (se (rg (p1 .mv (pp (PR.lr) (p1 .nei (en (cf (sk (nN (rg (a1 Tryz.zeroValue4 (fun g1=>?_))))))))))))))
 refine s1 0 (cs:=#[.bool true]) ?_
 refine en (rg (cm (rnumb) (fun q _=>?_)))
 refine p1 .as (en (dr [_,_,_,_,_,_,_,_,_,_,_,_,_,_,_,_,_,_,_,_,_,_,.any,.any] [⟨22,6,23,88,#[.string ⟨#[]⟩,i6 0,i6 0,.string ⟨#[]⟩,i6 0],.val (.agg #[tx [109],i6 1,i6 0,tx nm,i6 0])⟩] [] [] [] trivial (fun Bs=>⟨kv (oP (PR.mv ez)),kv (oP (PR.ix (p:=0) (i:=0) (n:=5) (m:=1) rfl ed (SL.zp hV) EV.k rfl rfl (by decide))),kv (oP (PR.lp (v2:=sv ([109]:List UInt8)) (cs:=txs (refT nm)) rfl ed (SL.zp hV))),kv (oP (PR.mv ez)),kv (oP (PR.mv ez)),kv (oP (PR.ix (p:=1) (i:=1) (n:=5) (m:=1) rfl ed (SL.zp hV) EV.k rfl rfl (by decide))),kv (oP (PR.lp (v2:=sv (Lib.itoa 1)) (cs:=txs (refT nm)) rfl ed (SL.zp hV))),kv (oCF (fun a W h=>rnumI 1 (hE.gl.below h.low) ((mk' 0) a W h) ((mk' 1) a W h) (by decide) (by decide)) ed (.cons ed .nil) (by kernel_rfl)),kv (oP (PR.mv ez)),kv (oP (PR.mv ez)),kv (oP (PR.ix (p:=2) (i:=2) (n:=5) (m:=1) rfl ed (SL.zp hV) EV.k rfl rfl (by decide))),kv (oP (PR.lp (v2:=sv (Lib.itoa 0)) (cs:=txs (refT nm)) rfl ed (SL.zp hV))),kv (oCF (fun a W h=>rnumI 0 (hE.gl.below h.low) ((mk' 0) a W h) ((mk' 1) a W h) (by decide) (by decide)) ed (.cons ed .nil) (by kernel_rfl)),kv (oP (PR.mv ez)),kv (oP (PR.ix (p:=3) (i:=3) (n:=5) (m:=1) rfl ed (SL.zp hV) EV.k rfl rfl (by decide))),kv (oP (PR.lp (v2:=sv nm) (cs:=txs (refT nm)) rfl ed (SL.zp hV))),kv (oP (PR.mv ez)),kv (oP (PR.mv ez)),kv (oP (PR.ix (p:=4) (i:=4) (n:=5) (m:=1) rfl ed (SL.zp hV) EV.k rfl rfl (by decide))),kv (oP (PR.lp (v2:=sv (Lib.itoa 0)) (cs:=txs (refT nm)) rfl ed (SL.zp hV))),kv (oCF (fun a W h=>rnumI 0 (hE.gl.below h.low) ((mk' 0) a W h) ((mk' 1) a W h) (by decide) (by decide)) ed (.cons ed .nil) (by kernel_rfl)),kv (oP (PR.bd #[.string ⟨List.toArray [109]⟩,i6 1,i6 0,sv nm,i6 0] (.cons ed (.cons ed (.cons ed (.cons ed (.cons ed .nil))))))),kn 0 Tryz.zeroValue88 (V:=.agg #[.string ⟨#[]⟩,i6 0,i6 0,.string ⟨#[]⟩,i6 0]),kp 0,trivial⟩) (fun g2=>?_)))
 refine dr [_,_,.any,_] [] [⟨2,_,_,_,0,.val (.agg #[tx [109],i6 1,i6 0,tx nm,i6 0])⟩] [3] [3] ⟨rfl,trivial⟩ (fun Bs=>⟨kv (oP (PR.lw ez (mk' 0))),kv (oP (PR.ld ez (mk' 2))),ks 0,kv (oP (PR.as ed)),trivial⟩) ?_
 exact rt qv
theorem PR.rmn {G:Kn}{x y:Operand}{k:IntKind}{p q:Int}{t t2:TypeId}(r:Int)(hx:EV G x (.int k p):=by exact ev)(hy:EV G y (.int k q):=by exact ev)(h0:q≠0:=by decide)(h:p.tmod q=r:=by first | omega | (rw[Int.tmod_eq_emod_of_nonneg (by omega)];omega)):PR Tryz.prog G (.binOp .rem t x y t2) (.int k r):=fun a w _ ho hg=>run_rem ho (hx a w hg) (hy a w hg) h0 h
def plT (x:PlS):List (List UInt8):=[x.nm,Lib.itoa x.at_,Lib.itoa x.len]
theorem pkT_at {p:PkS}{j:Nat}(h:j<p.pl.length)(q:Nat){u:List UInt8}(hu:(plT (p.pl.getD j noPl))[q]?=some u):(txs (pkT p p.pl.length))[(1+3*j+q)*1]?=some (tx u):=by
 have h1:=flat_at (f:=fun x=>txs (plT x)) (m:=3) (fun _=>rfl) (getD_memX (d:=noPl) h).1 q (u:=tx u) (by unfold txs;rw[List.getElem?_map,hu];rfl)
 have h2:txs (pkT p p.pl.length)=tx p.nm::p.pl.flatMap fun x=>txs (plT x):=by unfold pkT txs;rw[List.take_length,List.map_cons,List.map_flatMap];rfl
 rw[h2,show(1+3*j+q)*1=(j*3+q)+1 by omega,List.getElem?_cons_succ]
 exact h1
theorem plC_one (x:PlS):∀ u∈plC x,u.oneCell'=true:=by intro u hu;simp only[plC,List.mem_cons,List.not_mem_nil,or_false] at hu;rcases hu with rfl | rfl | rfl <;> rfl
theorem plsC_succ {l:List PlS}{j:Nat}(h:j<l.length):plsC (l.take (j+1))=plsC (l.take j)++plC (l.getD j noPl):=by
 unfold plsC
 rw[List.take_succ_eq_append_getElem h,List.flatMap_append,List.getD_eq_getElem?_getD,List.getElem?_eq_getElem h]
 simp
theorem rpackof {w0:World}{M0:MT}{R0:List Rw}{v:Value}{p:PkS}(hE:∀ {w},Below w0.heap.size w0 w->GL w)(hp:PkOk p):RM 200 #[v] w0 M0 (⟨v,9,1,1+3*p.pl.length,txs (pkT p p.pl.length)⟩::R0) (A:=Value) (fun _=>True) (fun u=>.tuple #[.agg (pkC (p,u)).toArray,.bool true]) (fun _=>M0) (fun u=>⟨u,158,3,p.pl.length,plsC p.pl⟩::⟨v,9,1,1+3*p.pl.length,txs (pkT p p.pl.length)⟩::R0):=by
 refine enterM Tryz.func200 ?_
 refine os 0 (fun hon _=>?_)
 have hpn:=hp.n
 refine rg (aa Tryz.zeroValue118 (fun g0=>?_))
 refine p1 .as (en (se (rg (p1 .mv (pp (PR.lr) (pp (PR.rmn 1) (p1 .nei (en (cf (sk (nN (rg (a1 Tryz.zeroValue4 (fun g1=>?_))))))))))))))
 refine s1 0 (cs:=#[.bool true]) ?_
 refine en (rg (cm (rnumb) (fun q _=>?_)))
 refine p1 .as (en (rg (p1 .mv (pp (PR.ix (i:=0)) (pp (PR.lp (v2:=sv p.nm) rfl) (pp (PR.bd #[sv p.nm,nv]) (aa Tryz.zeroValue118 (fun g2=>sw 0 ?_))))))))
 refine en (se (nr 158 3 ?_))
 refine rc 0 0 (plsC (p.pl.take 0)) (hn:=rfl) (hx:=rfl) (h:=?_)
 refine r1 .as (bl (lo2 (fun j l=>j<=p.pl.length) (fun j l=>p.pl.length-j) (fun j l=>[(0,v),(2,pt g0),(3,.bool false),(4,pt g1),(5,.func (.func 240) #[] #[pt q]),(6,pt g2),(7,i6 ((1+3*j:Nat):Int))]) (fun j l=>((g2,isB 118 #[sv p.nm,l])::(q,isB 323 #[pt g1])::(g1,isB 4 #[.bool true])::(g0,isB 118 #[.string ⟨#[]⟩,nv])::M0)) (fun j l=>(⟨l,158,3,j,plsC (p.pl.take j)⟩::⟨v,9,1,1+3*p.pl.length,txs (pkT p p.pl.length)⟩::R0)) 0 (nv) (Nat.zero_le _) su (fun j l hj=>?_)))
 refine se (rg (p2 .mv .mv (pp (PR.lr) (p1 .lss (en (sd (fun hlt=>?_) (fun hlt=>?_)))))))
 ·skip
  refine sk (nN (se (bl ?_)))
  have hy0:j<p.pl.length:=by omega
  obtain⟨hy1,hym⟩:=getD_memX (d:=noPl) hy0
  have hy:=hp.pl _ hym
  have hya:=hy.a
  have hyb:=hy.b
  refine dtk 22 [_,_,_,_,_,_,_,_,_,_,_,_,_,_,_,_,_,_,_,_,_,.tel [158] (.row 158 3 1 (plC (p.pl.getD j noPl)) fun v=>.ret v)] [25,45] (fun Bs=>ha (oP (PR.fa ez)) (ha (oP (PR.lc (v:=l) (o:=1) rfl ed (mk' 0))) (ha (oP (PR.mv ez)) (ha (oP (PR.mv ez)) (ha (oP (PR.ix (p:=((1+3*j+0:Nat):Int)) (i:=1+3*j+0) (n:=1+3*p.pl.length) (m:=1) rfl ed (SL.zr (e:=9)) ed rfl rfl (by omega))) (ha (oP (PR.lp (v2:=sv ((p.pl.getD j noPl).nm)) (pkT_at hy0 0 rfl) ed (SL.zr (e:=9)))) (ha (oP (PR.mv ez)) (ha (oP (PR.mv ez)) (ha (oP (PR.mv ez)) (ha (oP (PR.ad ((1+3*j+1:Nat):Int) ed EV.k (by omega))) (ha (oP (PR.ix (p:=((1+3*j+1:Nat):Int)) (i:=1+3*j+1) (n:=1+3*p.pl.length) (m:=1) rfl ed (SL.zr (e:=9)) ed rfl rfl (by omega))) (ha (oP (PR.lp (v2:=sv (Lib.itoa (p.pl.getD j noPl).at_)) (pkT_at hy0 1 rfl) ed (SL.zr (e:=9)))) (ha (oCF (fun a W h=>rnumI (p.pl.getD j noPl).at_ (hE h.low) ((mk' 1) a W h) ((mk' 2) a W h) (by omega) (by omega)) ed (.cons ed .nil) (by kernel_rfl)) (ha (oP (PR.mv ez)) (ha (oP (PR.mv ez)) (ha (oP (PR.mv ez)) (ha (oP (PR.ad ((1+3*j+2:Nat):Int) ed EV.k (by omega))) (ha (oP (PR.ix (p:=((1+3*j+2:Nat):Int)) (i:=1+3*j+2) (n:=1+3*p.pl.length) (m:=1) rfl ed (SL.zr (e:=9)) ed rfl rfl (by omega))) (ha (oP (PR.lp (v2:=sv (Lib.itoa (p.pl.getD j noPl).len)) (pkT_at hy0 2 rfl) ed (SL.zr (e:=9)))) (ha (oCF (fun a W h=>rnumI (p.pl.getD j noPl).len (hE h.low) ((mk' 1) a W h) ((mk' 2) a W h) (by omega) (by omega)) ed (.cons ed .nil) (by kernel_rfl)) (ha (oP (PR.bd (plC (p.pl.getD j noPl)).toArray (.cons ed (.cons ed (.cons ed .nil))))) (ha (oS (plC (p.pl.getD j noPl)).toArray (fun _ _ h=>h.size) (.cons ed .nil)) trivial)))))))))))))))))))))) (fun v3=>?_)
  refine apR 1 0 (fun v2=>?_) (h1:=plC_one _)
  refine os 1 (fun o2 _=>?_)
  refine rc 1 (j+1) (plsC (p.pl.take (j+1))) (hn:=by omega) (hx:=by rw[plsC_succ hy0]) (h:=?_)
  refine p1 .fa (s1 0 (cs:=#[sv p.nm,v2]) ?_)
  exact en0 (bN (nN (rg0 (p1 .mv (pp (PR.ad ((1+3*(j+1):Nat):Int)) (p1 .as (en0 (nN (bk2 (j+1) v2 (by omega) (by omega) su)))))))))
 ·have hjl:j=p.pl.length:=by omega
  subst hjl
  refine rc 0 p.pl.length (plsC p.pl) (hn:=rfl) (hx:=by rw[List.take_length]) (h:=?_)
  refine os 0 (fun ol _=>?_)
  refine xt (nX (nX (bH (nN (dr [_,_,.any,_] [] [⟨2,_,_,_,0,.val (.agg #[sv p.nm,l])⟩] [3] [3] ⟨rfl,trivial⟩ (fun Bs=>⟨kv (oP (PR.lw ez (mk' 0))),kv (oP (PR.ld ez (mk' 2))),ks 0,kv (oP (PR.as ed)),trivial⟩) ?_)))))
  exact rt (kL [(2,pt g0),(3,.bool true)] (rm l trivial su))
theorem ntxR (l:List (List UInt8)){w:World}(h:∀ s∈l,s.length<2^28)(hb:(rowS l).length<2^42):RT 94 #[sv (rowS l)] w (.row 9 1 l.length (txs l) fun v=>.ret (.tuple #[v,i6 0])):=by
 have q:=ntexts (w:=w) hb
 rw[ntT_ok (textsS_row l h)] at q
 exact q
theorem rlistR {w:World}{ga:Nat}{nm:List UInt8}(hE:Env w)(h1:∀ s ∈ [refB nm],s.length<2^28)(h2:(rowS [refB nm]).length<2^42)(h3:∀ s∈refT nm,s.length<2^28)(h4:(refB nm).length<2^42):RT 197 #[pt ga,sv (rowS [refB nm]),.func (.func 198) #[] #[]] w (.row 88 5 1 (refC nm) fun v=>.ret v):=by
 refine enter Tryz.func197 ?_
 refine r1 .as (rg (p1 .mv (ce (fun _ _ h=>ntxR [refB nm] h1 h2) (fun vt=>?_))))
 refine os 0 (fun ovt cvt=>?_)
 refine p5 .mv .ext .ext .as .as (en (se (r2 .mv .nei (cf (sk (nN (rg (p1 .mv (pp (PR.lr) (mk0 (c:=1) (fun vm=>?_)))))))))))
 refine os 0 (fun o0 _=>?_)
 refine p1 .as (en (se (rg (p1 .mv (pp (PR.lr) (p1 .mv (en (bl (lr 2 (kL [(0,pt ga),(1,sv (rowS [refB nm])),(2,.func (.func 198) #[] #[]),(9,vm),(28,vt),(29,i6 ((1:Nat):Int)),(30,i6 0)] (un (r1 .lss ?_))))))))))))
 refine se (ct (sk (nN (se (bl (rg (pp (PR.ix (i:=0) (n:=1)) (pp (PR.lp (v2:=sv (rowS (refT nm))) rfl) (p1 .as (en (rg (p1 .mv (ce (fun _ _ h=>ntxR (refT nm) h3 h4) (fun vu=>?_))))))))))))))
 refine os 0 (fun ovu cvu=>?_)
 refine p5 .mv .ext .ext .as .as (en (se (r2 .mv .nei (cf (sk (nN (rg (p2 .mv .mv (clF (fun _ _ h=>rrefof (hE.below h.m.below) (h.s 0)) ?_)))))))))
 refine p3 .mv .ext .ext (aa Tryz.zeroValue88 (fun g0=>sw 0 ?_))
 refine p1 .as (en (se (r2 .mv .not (cf (sk (nN (rg0 (p2 .mv .lw (bs #[tx [109],i6 1,i6 0,tx nm,i6 0] (fun g1=>?_))))))))))
 refine ap 1 (fun v0=>?_)
 refine p1 .as (en0 (bN (nN ?_)))
 exact rg0 (pp (PR.ad 1) (p1 .mv (en0 (nN (kL [(0,pt ga),(1,sv (rowS [refB nm])),(2,.func (.func 198) #[] #[]),(9,v0),(28,vt),(29,i6 ((1:Nat):Int)),(30,i6 1)] (un (r1 .lss (se (cf (xt (nX (nX (bH (nN (r2 .mv .as (rt (et [1])))))))))))))))))
theorem rlistP {w:World}{ga:Nat}{p:PkS}(hE:Env w)(hp:PkOk p)(h1:∀ s ∈ [pkB (p,.nilFunc)],s.length<2^28)(h2:(rowS [pkB (p,.nilFunc)]).length<2^42)(h3:∀ s∈pkT p p.pl.length,s.length<2^28)(h4:(rowS (pkT p p.pl.length)).length<2^42):RT 199 #[pt ga,sv (rowS [pkB (p,.nilFunc)]),.func (.func 200) #[] #[]] w (.row 158 3 p.pl.length (plsC p.pl) fun x=>.row 118 2 1 [tx p.nm,x] fun v=>.ret v):=by
 refine enter Tryz.func199 ?_
 refine r1 .as (rg (p1 .mv (ce (fun _ _ h=>ntxR [pkB (p,.nilFunc)] h1 h2) (fun vt=>?_))))
 refine os 0 (fun ovt cvt=>?_)
 refine p5 .mv .ext .ext .as .as (en (se (r2 .mv .nei (cf (sk (nN (rg (p1 .mv (pp (PR.lr) (mk0 (c:=1) (fun vm=>?_)))))))))))
 refine os 0 (fun o0 _=>?_)
 refine p1 .as (en (se (rg (p1 .mv (pp (PR.lr) (p1 .mv (en (bl (lr 2 (kL [(0,pt ga),(1,sv (rowS [pkB (p,.nilFunc)])),(2,.func (.func 200) #[] #[]),(9,vm),(28,vt),(29,i6 ((1:Nat):Int)),(30,i6 0)] (un (r1 .lss ?_))))))))))))
 refine se (ct (sk (nN (se (bl (rg (pp (PR.ix (i:=0) (n:=1)) (pp (PR.lp (v2:=sv (rowS (pkT p p.pl.length))) rfl) (p1 .as (en (rg (p1 .mv (ce (fun _ _ h=>ntxR (pkT p p.pl.length) h3 h4) (fun vu=>?_))))))))))))))
 refine os 0 (fun ovu cvu=>?_)
 refine rc 0 (1+3*p.pl.length) (txs (pkT p p.pl.length)) (hn:=pkT_n p) (hx:=rfl) (h:=?_)
 refine p5 .mv .ext .ext .as .as (en (se (r2 .mv .nei (cf (sk (nN (rg (p2 .mv .mv (cmF (rpackof (fun h=>hE.gl.below h) hp) (fun u _=>?_))))))))))
 refine os 0 (fun ou _=>?_)
 refine p3 .mv .ext .ext (aa Tryz.zeroValue118 (fun g0=>sw 0 ?_))
 refine p1 .as (en (se (r2 .mv .not (cf (sk (nN (rg0 (p2 .mv .lw (bs #[sv p.nm,u] (fun g1=>?_))))))))))
 refine ap 2 (fun v0=>?_) (h1:=by show(true&&(u.oneCell'&&true))=true;rw[ou];rfl)
 refine p1 .as (en0 (bN (nN ?_)))
 exact rg0 (pp (PR.ad 1) (p1 .mv (en0 (nN (kL [(0,pt ga),(1,sv (rowS [pkB (p,.nilFunc)])),(2,.func (.func 200) #[] #[]),(9,v0),(28,vt),(29,i6 ((1:Nat):Int)),(30,i6 1)] (un (r1 .lss (se (cf (xt (nX (nX (bH (nN (r2 .mv .as (rt (et [0,2])))))))))))))))))
theorem rlistC {w:World}{ga:Nat}  : RT 201 #[pt ga,sv (rowS ([]:List (List UInt8))),.func (.func 202) #[] #[]] w (.row 161 34 0 [] fun v=>.ret v):=by
 refine enter Tryz.func201 ?_
 refine r1 .as (rg (p1 .mv (ce (fun _ _ h=>ntxR ([]:List (List UInt8)) (fun _ h=>(by cases h)) (by decide)) (fun vt=>?_))))
 refine os 0 (fun ovt cvt=>?_)
 refine p5 .mv .ext .ext .as .as (en (se (r2 .mv .nei (cf (sk (nN (rg (p1 .mv (pp (PR.lr) (mk0 (c:=0) (fun vm=>?_)))))))))))
 refine os 0 (fun o0 _=>?_)
 refine p1 .as (en (se (rg (p1 .mv ?_))))
 exact pp (PR.lr) (p1 .mv (en (bl (lr 1 (kL [(0,pt ga),(1,sv (rowS ([]:List (List UInt8)))),(2,.func (.func 202) #[] #[]),(9,vm),(28,vt),(29,i6 ((0:Nat):Int)),(30,i6 0)] (un (r1 .lss (se (cf (xt (nX (nX (bH (nN (r2 .mv .as (rt (et [0])))))))))))))))))
abbrev noV (p:PkS):List (PkS×Value):=[(p,.nilFunc)]
structure OfOk (N:Int)(nm:List UInt8)(p:PkS):Prop where
 k:RtOk N [nm] (noV p)
 a:∀ s∈rtT N [nm] (noV p),s.length<2^28
 b:(rowS (rtT N [nm] (noV p))).length<2^42
 c:∀ s ∈ [refB nm],s.length<2^28
 d:∀ s∈refT nm,s.length<2^28
 e:∀ s ∈ [pkB (p,.nilFunc)],s.length<2^28
 f:∀ s∈pkT p p.pl.length,s.length<2^28
theorem RtOk.put {N:Int}{nm:List UInt8}{p:PkS}(h:RtOk N [nm] (noV p))(x:Value):RtOk N [nm] [(p,x)]:=⟨h.n,h.r1,by simp,h.r,fun y hy=>by rw[List.mem_singleton.1 hy];exact h.p (p,.nilFunc) (List.mem_singleton.2 rfl)⟩
theorem rowS_l {l:List (List UInt8)}(h:∀ s∈l,s.length<2^28)(i:Nat){s:List UInt8}(e:l[i]?=some s):s.length<2^42:=Nat.lt_trans (h s (List.mem_of_getElem? e)) (by decide)
theorem rof {N:Int}{nm:List UInt8}{p:PkS}{w:World}(hE:Env w)(hk:OfOk N nm p):RT 138 #[sv (rowS (rtT N [nm] (noV p)))] w (.row 88 5 1 (refC nm) fun a=>.row 158 3 p.pl.length (plsC p.pl) fun x=>.row 118 2 1 [tx p.nm,x] fun b=>.row 161 34 0 [] fun c=>.ret (.tuple #[.agg (rootX N a b c).toArray,i6 0])):=by
 refine enter Tryz.func138 ?_
 have hN:=hk.k.n
 refine rg (aa Tryz.zeroValue46 (fun g0=>p1 .as (en (rg (p1 .mv (ce (fun _ _ h=>ntxR (rtT N [nm] (noV p)) hk.a hk.b) (fun vt=>?_)))))))
 refine os 0 (fun ovt cvt=>?_)
 refine p5 .mv .ext .ext .as .as (en (se (r2 .mv .nei (cf (sk (nN (se (rg (p1 .mv (pp (PR.lr (n:=10)) (p2 .nei .mv (gFf (hp:=PR.mv) ?_))))))))))))
 refine gFf (hp:=PR.ix (i:=0) (n:=10)) ?_
 refine gFf (hp:=PR.lp (v2:=sv (hibr:List UInt8)) rfl) ?_
 refine gFf (hp:=PR.nes) ?_
 refine p1 .por (en (cf (sk (nN (rg (a1 Tryz.zeroValue4 (fun g1=>?_)))))))
 refine s1 0 (cs:=#[.bool true]) ?_
 refine en (rg (cm (rnumb) (fun q _=>?_)))
 refine p1 .as (en (dr [_,_,_,_,_,_,_,_,_,_,_,.any,.any] [⟨11,8,12,46,#[i6 0,i6 0,nv,nv,i6 0,i6 0,i6 0,i6 0,nv],.val (.agg #[i6 N,i6 0,nv,nv,i6 0,i6 0,i6 0,i6 0,nv])⟩] [] [] [] trivial (fun Bs=>⟨kv (oP (PR.mv ez)),kv (oP (PR.mv ez)),kv (oP (PR.ix (p:=1) (i:=1) (n:=10) (m:=1) rfl ed (SL.zr (e:=9)) EV.k rfl rfl (by decide))),kv (oP (PR.lp (v2:=sv (Lib.itoa N)) (cs:=txs (rtT N [nm] (noV p))) rfl ed (SL.zr (e:=9)))),kv (oCF (fun a W h=>rnumI N (hE.gl.below h.low) ((mk' 0) a W h) ((mk' 1) a W h) (by omega) (by omega)) ed (.cons ed .nil) (by kernel_rfl)),kv (oP (PR.mv ez)),kv (oP (PR.mv ez)),kv (oP (PR.ix (p:=2) (i:=2) (n:=10) (m:=1) rfl ed (SL.zr (e:=9)) EV.k rfl rfl (by decide))),kv (oP (PR.lp (v2:=sv (Lib.itoa 0)) (cs:=txs (rtT N [nm] (noV p))) rfl ed (SL.zr (e:=9)))),kv (oCF (fun a W h=>rnumI 0 (hE.gl.below h.low) ((mk' 0) a W h) ((mk' 1) a W h) (by omega) (by omega)) ed (.cons ed .nil) (by kernel_rfl)),kv (oP (PR.bd #[i6 N,i6 0,nv,nv,i6 0,i6 0,i6 0,i6 0,nv] (.cons ed (.cons ed .nil)))),kn 0 Tryz.zeroValue46 (V:=.agg #[i6 0,i6 0,nv,nv,i6 0,i6 0,i6 0,i6 0,nv]),kp 0,trivial⟩) (fun g2=>?_)))
 refine kM 0 #[i6 N,i6 0,nv,nv,i6 0,i6 0,i6 0,i6 0,nv] ?_
 refine rg (p1 .mv (pp (PR.ix (i:=3) (n:=10)) (pp (PR.lp (v2:=sv (rowS [refB nm])) rfl) (ce (fun _ _ h=>rlistR (hE.below h.m.below) hk.c (rowS_l hk.a 3 rfl) hk.d (rowS_l hk.c 0 rfl)) (fun va=>?_)))))
 refine os 0 (fun ova cva=>?_)
 refine p1 .fa (s1 0 (cs:=#[i6 N,i6 0,va,nv,i6 0,i6 0,i6 0,i6 0,nv]) ?_)
 refine en (rg (p1 .mv (pp (PR.ix (i:=4) (n:=10)) (pp (PR.lp (v2:=sv (rowS [pkB (p,.nilFunc)])) rfl) (ce (fun _ _ h=>rlistP (hE.below h.m.below) (hk.k.p _ (List.mem_singleton.2 rfl)) hk.e (rowS_l hk.a 4 rfl) hk.f (rowS_l hk.e 0 rfl)) (fun vx vb=>?_))))))
 refine os 0 (fun ovx cvx=>?_)
 refine os 1 (fun ovb cvb=>?_)
 refine p1 .fa (s1 0 (cs:=#[i6 N,i6 0,va,vb,i6 0,i6 0,i6 0,i6 0,nv]) ?_)
 refine en (dr [_,_,_,_,_,_,_,_,_,_,_,_,_,_,_,_,_,_,_,_,_,_,.any] [] [⟨22,_,_,_,4,.val (.agg #[i6 3,i6 2,i6 1,i6 1])⟩] [0] [] ⟨rfl,trivial⟩ (fun Bs=>⟨kv (oP (PR.mv ez)),kv (oP (PR.mv ez)),kv (oP (PR.ix (p:=5) (i:=5) (n:=10) (m:=1) rfl ed (SL.zr (e:=9)) EV.k rfl rfl (by decide))),kv (oP (PR.lp (v2:=sv (Lib.itoa 3)) (cs:=txs (rtT N [nm] (noV p))) rfl ed (SL.zr (e:=9)))),kv (oCF (fun a W h=>rnumI 3 (hE.gl.below h.low) ((mk' 1) a W h) ((mk' 2) a W h) (by omega) (by omega)) ed (.cons ed .nil) (by kernel_rfl)),kv (oP (PR.mv ez)),kv (oP (PR.mv ez)),kv (oP (PR.ix (p:=6) (i:=6) (n:=10) (m:=1) rfl ed (SL.zr (e:=9)) EV.k rfl rfl (by decide))),kv (oP (PR.lp (v2:=sv (Lib.itoa 2)) (cs:=txs (rtT N [nm] (noV p))) rfl ed (SL.zr (e:=9)))),kv (oCF (fun a W h=>rnumI 2 (hE.gl.below h.low) ((mk' 1) a W h) ((mk' 2) a W h) (by omega) (by omega)) ed (.cons ed .nil) (by kernel_rfl)),kv (oP (PR.mv ez)),kv (oP (PR.mv ez)),kv (oP (PR.ix (p:=7) (i:=7) (n:=10) (m:=1) rfl ed (SL.zr (e:=9)) EV.k rfl rfl (by decide))),kv (oP (PR.lp (v2:=sv (Lib.itoa 1)) (cs:=txs (rtT N [nm] (noV p))) rfl ed (SL.zr (e:=9)))),kv (oCF (fun a W h=>rnumI 1 (hE.gl.below h.low) ((mk' 1) a W h) ((mk' 2) a W h) (by omega) (by omega)) ed (.cons ed .nil) (by kernel_rfl)),kv (oP (PR.mv ez)),kv (oP (PR.mv ez)),kv (oP (PR.ix (p:=8) (i:=8) (n:=10) (m:=1) rfl ed (SL.zr (e:=9)) EV.k rfl rfl (by decide))),kv (oP (PR.lp (v2:=sv (Lib.itoa 1)) (cs:=txs (rtT N [nm] (noV p))) rfl ed (SL.zr (e:=9)))),kv (oCF (fun a W h=>rnumI 1 (hE.gl.below h.low) ((mk' 1) a W h) ((mk' 2) a W h) (by omega) (by omega)) ed (.cons ed .nil) (by kernel_rfl)),kv (oP (PR.bd #[i6 3,i6 2,i6 1,i6 1] (.cons ed (.cons ed (.cons ed (.cons ed .nil)))))),kv (oP (PR.fa ez)),ks 0,trivial⟩) ?_)
 refine kM 0 #[i6 N,i6 0,va,vb,i6 3,i6 2,i6 1,i6 1,nv] ?_
 refine rg (p1 .mv (pp (PR.ix (i:=9) (n:=10)) (pp (PR.lp (v2:=sv (rowS ([]:List (List UInt8)))) rfl) (ce (fun _ _ h=>rlistC) (fun vc=>?_)))))
 refine os 0 (fun ovc cvc=>?_)
 refine p1 .fa (s1 0 (cs:=#[i6 N,i6 0,va,vb,i6 3,i6 2,i6 1,i6 1,vc]) ?_)
 refine en (se (rg (p3 .ld .not .mv (gFf (hp:=PR.lw) ?_))))
 refine gcN (fun _ _ _ h=>rcheckX (hE.below h.m.below) ⟨h.s 3,h.s 2,fun y hy=>by rw[List.mem_singleton.1 hy];exact h.s 1⟩ (hk.k.put vx) cva (h.s 0)) ?_
 refine gFf (hp:=PR.nei) ?_
 refine p1 .por (en (cf (sk (nN (rg (p1 .lw (sw 3 ?_)))))))
 exact p1 .as (en (rt (et [3,1,2,0])))
end Go.Proofs.YtdjholkjkbihmaaGreatDoor
