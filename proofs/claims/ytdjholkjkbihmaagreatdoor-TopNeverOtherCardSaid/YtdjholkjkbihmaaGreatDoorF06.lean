/- Laws and walks of TopNeverOther. -/
import Derived.Test.YtdjholkjkbihmaaGreatDoorF05
namespace Go.Proofs.YtdjholkjkbihmaaGreatDoor
open Go.RowKit
set_option maxRecDepth 100000
set_option maxHeartbeats 4000000
section

section
variable {D:List Deferred}{nt:Nat}{w0:World}{L:LT}{M:MT}{R:List Rw}{l:List Oper}{KL:List Kp}{AL:List NewZ}{BL:List OldQ}{js:List Nat}{i j s d:Nat}{a0 a:Act}{w W:World}
theorem BOk.at :∀ {BL:List OldQ} {js:List Nat},BOk M BL js->∀ b∈BL,∃ j∈js,M[j]?=some (b.g,isB b.t b.old)
 | [],[],_,b,hb=>by cases hb
 | c::bs,j::js,h,b,hb=>by
  rcases List.mem_cons.1 hb with rfl | hb
  ·exact⟨j,List.mem_cons_self ..,h.1⟩
  ·obtain⟨q,h1,h2⟩:=BOk.at h.2 b hb
   exact⟨q,List.mem_cons_of_mem _ h1,h2⟩
 | [],_::_,h,_,_=>h.elim
 | _::_,[],h,_,_=>h.elim
theorem BOk.get :∀ {BL:List OldQ} {js:List Nat},BOk M BL js->∀ (x:Nat) (b:OldQ),BL[x]?=some b->∃ j,js[x]?=some j/\M[j]?=some (b.g,isB b.t b.old)
 | [],[],_,x,b,hb=>by simp at hb
 | c::bs,j::js,h,0,b,hb=>by
  simp only[List.getElem?_cons_zero,Option.some.injEq] at hb
  subst hb
  exact⟨j,rfl,h.1⟩
 | c::bs,j::js,h,x+1,b,hb=>BOk.get h.2 x b (by simpa using hb)
 | [],_::_,h,_,_,_=>h.elim
 | _::_,[],h,_,_,_=>h.elim
theorem far_of {k:Nat}{g:Nat}{S:Obj->Prop}(hM:Mem w0 M w)(hB:BOk M BL js)(hk:M[k]?=some (g,S))(hj:(js.all fun j=>!(Nat.beq j k))=true):g∉GQ BL []:=by
 intro h
 simp only[GQ,List.flatMap_nil,List.append_nil,List.mem_map] at h
 obtain⟨b,hb,rfl⟩:=h
 obtain⟨j,h1,h2⟩:=hB.at b hb
 have h3:=List.all_eq_true.1 hj j h1
 exact setAt_ne hM.nd h2 hk (fun e=>by rw[e,Nat.beq_refl] at h3;cases h3) rfl
theorem gq_ge (hM:Mem w0 M w)(hB:BOk M BL js):∀ g∈GQ BL [],w0.heap.size<=g/\g<w.heap.size:=by
 intro g h
 simp only[GQ,List.flatMap_nil,List.append_nil,List.mem_map] at h
 obtain⟨b,hb,rfl⟩:=h
 obtain⟨j,_,h2⟩:=hB.at b hb
 exact⟨hM.ge j h2,hM.lt (List.mem_of_getElem? h2)⟩
theorem row_far {x:Rw}(hs:St D nt w0 L M R a0 w)(hB:BOk M BL js)(hx:x∈R):∀ g∈GQ BL [],x.v.ownBlock≠some g:=by
 intro g h
 simp only[GQ,List.flatMap_nil,List.append_nil,List.mem_map] at h
 obtain⟨b,hb,rfl⟩:=h
 obtain⟨j,_,h2⟩:=hB.at b hb
 exact(hs.r x hx).far _ (List.mem_of_getElem? h2)
theorem low_of (hs:St D nt w0 L M R a0 w)(hB:BOk M BL js)(hK:KeepW (GQ BL []) w W):Below w0.heap.size w0 W :=
 ⟨hK.os.trans hs.m.below.os,hK.tape.trans hs.m.below.tape,hK.output.trans hs.m.below.output,Nat.le_trans hs.m.below.size hK.size,fun k hk=>(hK.block k (Nat.lt_of_lt_of_le hk hs.m.below.size) (fun h=>by have:=(gq_ge hs.m hB k h).1;omega)).trans (hs.m.below.block k hk)⟩
theorem mkQZ {B2:List OldQ}(hs:St D nt w0 L M R a0 w)(hB:BOk M BL js)(hK:KeepW (GQ BL []) w W)(hh:Had l a0 a)(hd:DepZ l a0 w KL [] AL i a W)(ho:∀ b∈B2,behindB l b.iS i=true->Blk W b.g b.t b.old):QZ D nt w0 L M R l KL AL B2 js w.heap.size i a W where
 had s v h h2:=hh s v h2 (hs.f.at s (by rw[←lz_eq];exact h))
 dep j s hb hA:=hd.1 j s hb (fun d hd2 e=>by have:=List.all_eq_true.1 hA d hd2;rw[e,Nat.beq_refl] at this;cases this) (fun K h=>by simp at h)
 prev j s v h1 h2 h3:=hd.2 j s v h1 h2 (hs.f.at s (by rw[←lz_eq];exact h3))
 mem k g S h hj:=by
  obtain⟨ob,h1,h2⟩:=hs.m.ob k h
  exact⟨ob,(hK.block g (lt_of_ob h1) (far_of hs.m hB h hj)).trans h1,h2⟩
 old:=ho
 rows x hx:=Sl.own ((hs.r x hx).keepW hK (row_far hs hB hx))
 low:=low_of hs hB hK
 size:=hK.size
theorem all_ne {n:Nat}{A:List NewZ}{f:NewZ->Nat}(h:(A.all fun d=>!(Nat.beq (f d) n))=true):∀ d∈A,f d≠n:=fun d hd e=>by have:=List.all_eq_true.1 h d hd;rw[e,Nat.beq_refl] at this;cases this
theorem all_neB {n:Nat}(h:(BL.all fun b=>!(Nat.beq b.iS n))=true):∀ b∈BL,b.iS≠n:=fun d hd e=>by have:=List.all_eq_true.1 h d hd;rw[e,Nat.beq_refl] at this;cases this
theorem all_ne2 {n:Nat}(h:(AL.all fun d=>!(Nat.beq d.iA n) && !(Nat.beq d.iS n))=true):∀ d∈AL,d.iA≠n/\d.iS≠n:=fun d hd=>by
 have h1:=List.all_eq_true.1 h d hd
 simp only[Bool.and_eq_true] at h1
 exact⟨fun e=>by rw[e,Nat.beq_refl] at h1;exact absurd h1.1 (by simp),fun e=>by rw[e,Nat.beq_refl] at h1;exact absurd h1.2 (by simp)⟩
theorem uniq_of {A:Type}{f:A->Nat}{n x:Nat}{Z:List A}(h:(Z.zipIdx.all fun p=>!(Nat.beq (f p.1) n)||Nat.beq p.2 x)=true):∀ (y:Nat) (e:A),Z[y]?=some e->f e=n->y=x:=fun y e hy he=>by
 have h1:=List.all_eq_true.1 h (e,y) (List.mem_zipIdx_iff_getElem?.2 (by simpa using hy))
 simp only[he,Nat.beq_refl,Bool.not_true,Bool.false_or] at h1
 exact Nat.eq_of_beq_eq_true h1
theorem AK.ask {o:Oper}(hs:St D nt w0 L M R a0 w)(hB:BOk M BL js)(h:AK D nt w0 L M R l KL AL BL js w.heap.size i o):AskQ Tryz.prog l a0 w KL [] AL BL [] i o:=by
 cases h with
 | v s hs2 hA hB2 h=>exact .val s hs2 (all_ne2 hA) (all_neB hB2) (by simp) fun a W hK hh hd ho=>h a W (mkQZ hs hB hK hh hd ho)
 | n x d hx hi hs2 hS hB2 hu hg ho V hz hc=>exact .new x d hx hi hs2 (all_ne hS) (all_neB hB2) (by simp) (uniq_of (f:=NewZ.iA) hu) fun a W=>⟨wanted_yes hg,by rw[run_allocC ho (hz W),hc]⟩
 | p x d hx hi hs2 hA hB2 hu hw m ty Y hop hg hY hsz hz=>exact .put x d hx hi hs2 (all_ne hA) (all_neB hB2) (fun _ h=>by cases h) (uniq_of (f:=NewZ.iS) hu) hw m ty _ Y hop rfl (fun a W hK hh hd=>hY a W (mkQZ hs hB hK hh hd (fun _ h=>by cases h))) hg (info_size hsz) hz
 | s x b hx hi hs2 hA hu m ty X Y hop hg hX hY hsz hz=>exact .putO x b hx hi hs2 (all_ne2 hA) (uniq_of (f:=OldQ.iS) hu) (fun _ h=>by cases h) m ty X Y hop (fun a W hK hh hd=>hX a W (mkQZ hs hB hK hh hd (fun _ h=>by cases h))) (fun a W hK hh hd=>hY a W (mkQZ hs hB hK hh hd (fun _ h=>by cases h))) hg (info_size hsz) hz
theorem AKs.ask (hs:St D nt w0 L M R a0 w)(hB:BOk M BL js):∀ {r:List Oper} {i:Nat},AKs D nt w0 L M R l KL AL BL js w.heap.size i r->AskAllQ Tryz.prog l a0 w KL [] AL BL [] i r
 | [],_,_=>trivial
 | o::r,i,h=>⟨AK.ask hs hB h.1,AKs.ask hs hB h.2⟩
end
/- behind the region -/
def Sls (a:Act)(L:LT):Prop:=∀ s v,lz L s=some v->a.tmps[s]?=some v
def Own2 (W:World)(B:Nat)(es:List TypeId)(R:List Rw):Prop:=(∀ x∈R,W.ownsRow B x.e x.m x.v x.n x.xs/\es.contains x.e=true)/\R.Pairwise fun x y=>apartB x.v y.v
def esOf :Kp->List TypeId
 | .tel es _=>es
 | _=>[]
def disj (e1 e2:List TypeId):Bool:=e1.all fun x=>!(e2.contains x)
section
variable {a:Act}{W:World}{B:Nat}
theorem ty_apart {e1 e2:List TypeId}{x y:Rw}(h:disj e1 e2=true)(hx:W.ownsRow B x.e x.m x.v x.n x.xs)(hy:W.ownsRow B y.e y.m y.v y.n y.xs)(h1:e1.contains x.e=true)(h2:e2.contains y.e=true):apartB x.v y.v:=by
 have hne:(!(Nat.beq x.e y.e))=true:=by
  have h3:=List.all_eq_true.1 h x.e (by simpa using h1)
  cases hb:Nat.beq x.e y.e with
  | false=>rfl
  | true=>
   rw[Nat.eq_of_beq_eq_true hb,h2] at h3
   cases h3
 exact fun g hg hq=>own_ne_own (W:=W) hy hx hne hg hq
theorem Own2.app {e1 e2:List TypeId}{R1 R2:List Rw}(h1:Own2 W B e1 R1)(h2:Own2 W B e2 R2)(hd:disj e1 e2=true):Own2 W B (e1++e2) (R1++R2):=by
 refine⟨fun x hx=>?_,List.pairwise_append.2 ⟨h1.2,h2.2,fun x hx y hy=>ty_apart hd (h1.1 x hx).1 (h2.1 y hy).1 (h1.1 x hx).2 (h2.1 y hy).2⟩⟩
 rcases List.mem_append.1 hx with h | h
 ·exact⟨(h1.1 x h).1,by have:=(h1.1 x h).2;simp at this ⊢;exact .inl this⟩
 ·exact⟨(h2.1 x h).1,by have:=(h2.1 x h).2;simp at this ⊢;exact .inr this⟩
theorem Own2.nil :Own2 W B [] []:=⟨by simp,.nil⟩
theorem Tele.get {es:List TypeId}:∀ {T:Tele} {A:List Rw} {u:Value} {Y:Value->List Rw->Prop},T.inE es->T.sat B W (A.map (·.v)) u->T.all Y->∃ r,Y u r/\Own2 W B es r ∧ ∀ x∈A,∀ y∈r,apartB x.v y.v
 | .ret v,A,u,Y,_,h,ha=>by
  rw[show u=v from h]
  exact⟨[],ha,⟨by simp,.nil⟩,by simp⟩
 | .row e m n xs k,A,u,Y,hE,h,ha=>by
  obtain⟨v,h1,h2,h3⟩:=h
  obtain⟨r,y1,y2,y3⟩:=Tele.get (T:=k v) (A:=⟨v,e,m,n,xs⟩::A) (Y:=fun u l=>Y u (⟨v,e,m,n,xs⟩::l)) (hE.2 v) h3 (ha v)
  refine⟨_,y1,⟨fun x hx=>?_,List.Pairwise.cons (fun y hy=>y3 _ (by simp) y hy) y2.2⟩,fun x hx y hy=>?_⟩
  ·rcases List.mem_cons.1 hx with rfl | hx
   ·exact⟨h1,hE.1⟩
   ·exact y2.1 x hx
  ·rcases List.mem_cons.1 hy with rfl | hy
   ·exact h2 x.v (List.mem_map_of_mem hx)
   ·exact y3 x (by simp[hx]) y hy
 | .ex p k,A,u,Y,hE,h,ha=>by
  obtain⟨s,h1,h2⟩:=h
  exact Tele.get (T:=k s) (hE s) h2 (ha s h1)
theorem Sls.cons {L:LT}{s:Nat}{v:Value}(h:Sls a L)(h1:a.tmps[s]?=some v):Sls a ((s,v)::L):=by
 intro q u hq
 rw[lz] at hq
 cases hb:Nat.beq s q with
 | true=>
  rw[hb,cond_true,Option.some.injEq] at hq
  rw[←Nat.eq_of_beq_eq_true hb,←hq];exact h1
 | false=>rw[hb,cond_false] at hq;exact h q u hq
def esK (lv:List Nat):List Oper->List Kp->List TypeId
 | o::os,k::ks=>match o.dst with
  | some s=>bif lv.contains s then esOf k++esK lv os ks else esK lv os ks
  | none=>esK lv os ks
 | _,_=>[]
def disK (lv:List Nat):List Oper->List Kp->Bool
 | o::os,k::ks=>match o.dst with
  | some s=>bif lv.contains s then disj (esOf k) (esK lv os ks)&&disK lv os ks else disK lv os ks
  | none=>disK lv os ks
 | _,_=>true
def known :Kp->Bool
 | .val _=>true
 | .tel _ _=>true
 | _=>false
theorem lz_cons {L:LT}{s q:Nat}{v:Value}(h:(lz L q).isSome=true):(lz ((s,v)::L) q).isSome=true:=by
 rw[lz]
 cases Nat.beq s q with
 | true=>rfl
 | false=>exact h
theorem lz_self (L:LT)(s:Nat)(v:Value):(lz ((s,v)::L) s).isSome=true:=by
 rw[lz,Nat.beq_refl];rfl
theorem unk {lv:List Nat}{X:LT->List Rw->Prop}{es:List TypeId}{o:Oper}{os:List Oper}{k:Kp}{ks:List Kp}{s:Nat}(h:∃ L R,X L R/\Sls a L/\Own2 W B es R ∧ ∀ (i:Nat) (o:Oper) (s:Nat),os[i]?=some o->o.dst=some s->lv.contains s=true->known (ks.getD i .any)=true->(lz L s).isSome=true)(_ho:o.dst=some s)(hk:known k=false):∃ L R,X L R/\Sls a L/\Own2 W B es R ∧ ∀ (i:Nat) (o2:Oper) (s:Nat),(o::os)[i]?=some o2->o2.dst=some s->lv.contains s=true->known ((k::ks).getD i .any)=true->(lz L s).isSome=true:=by
 obtain⟨L,R,h1,h2,h3,h4⟩:=h
 refine⟨L,R,h1,h2,h3,fun i o2 s2 q1 q2 q3 q4=>?_⟩
 cases i with
 | zero=>simp only[List.getD_cons_zero] at q4;rw[hk] at q4;cases q4
 | succ i=>exact h4 i o2 s2 (by simpa using q1) q2 q3 (by simpa using q4)
theorem AftK.get {lv:List Nat}:∀ {os:List Oper} {ks:List Kp} {X:LT->List Rw->Prop},AftK lv os ks X->disK lv os ks=true->(∀ (i:Nat) (o:Oper) (s:Nat),os[i]?=some o->o.dst=some s->lv.contains s=true->i<ks.length->∃ v,a.tmps[s]?=some v/\(ks.getD i .any).sat B v W)->∃ L R,X L R/\Sls a L/\Own2 W B (esK lv os ks) R ∧ ∀ (i:Nat) (o:Oper) (s:Nat),os[i]?=some o->o.dst=some s->lv.contains s=true->known (ks.getD i .any)=true->(lz L s).isSome=true
 | [],ks,X,h,_,_=>⟨[],[],(by cases ks <;> exact h),fun _ _ h=>by simp[lz] at h,Own2.nil,fun _ _ _ h=>by simp at h⟩
 | o::os,[],X,h,_,_=>⟨[],[],h,fun _ _ h=>by simp[lz] at h,Own2.nil,fun _ _ _ _ _ _ h=>by simp[known] at h⟩
 | o::os,k::ks,X,h,hd,hv=>by
  have hrest:∀ (i:Nat) (o:Oper) (s:Nat),os[i]?=some o->o.dst=some s->lv.contains s=true->i<ks.length->∃ v,a.tmps[s]?=some v/\(ks.getD i .any).sat B v W:=by
   intro i o2 s h1 h2 h3 h4
   have:=hv (i+1) o2 s (by simpa using h1) h2 h3 (by simpa using h4)
   simpa using this
  unfold AftK at h
  unfold disK at hd
  unfold esK
  cases ho:o.dst with
  | none=>
   rw[ho] at h hd
   obtain⟨L,R,h1,h2,h3,h4⟩:=AftK.get h hd hrest
   refine⟨L,R,h1,h2,h3,fun i o2 s q1 q2 q3 q4=>?_⟩
   cases i with
   | zero=>simp only[List.getElem?_cons_zero,Option.some.injEq] at q1;subst q1;rw[ho] at q2;cases q2
   | succ i=>exact h4 i o2 s (by simpa using q1) q2 q3 (by simpa using q4)
  | some s=>
   rw[ho] at h hd
   dsimp only at h hd ⊢
   cases hl:lv.contains s with
   | false=>
    rw[hl,cond_false] at h hd
    rw[cond_false]
    obtain⟨L,R,h1,h2,h3,h4⟩:=AftK.get h hd hrest
    refine⟨L,R,h1,h2,h3,fun i o2 s2 q1 q2 q3 q4=>?_⟩
    cases i with
    | zero=>simp only[List.getElem?_cons_zero,Option.some.injEq] at q1;subst q1;rw[ho] at q2;injection q2 with q2;subst q2;rw[hl] at q3;cases q3
    | succ i=>exact h4 i o2 s2 (by simpa using q1) q2 q3 (by simpa using q4)
   | true=>
    rw[hl,cond_true] at h hd
    rw[cond_true]
    obtain⟨v,hv1,hv2⟩:=hv 0 o s rfl ho hl (by simp)
    simp only[List.getD_cons_zero] at hv2
    simp only[Bool.and_eq_true] at hd
    cases k with
    | val c=>
     obtain⟨L,R,h1,h2,h3,h4⟩:=AftK.get h hd.2 hrest
     rw[show v=c from hv2] at hv1
     refine⟨_,R,h1,h2.cons hv1,h3,fun i o2 s2 q1 q2 q3 q4=>?_⟩
     cases i with
     | zero=>simp only[List.getElem?_cons_zero,Option.some.injEq] at q1;subst q1;rw[ho] at q2;injection q2 with q2;subst q2;exact lz_self _ _ _
     | succ i=>exact lz_cons (h4 i o2 s2 (by simpa using q1) q2 q3 (by simpa using q4))
    | tel es T=>
     obtain⟨r,h1,h2,_⟩:=Tele.get (A:=[]) hv2.1 hv2.2 h
     obtain⟨L,R,h3,h4,h5,h6⟩:=AftK.get h1 hd.2 hrest
     refine⟨_,_,h3,h4.cons hv1,h2.app h5 hd.1,fun i o2 s2 q1 q2 q3 q4=>?_⟩
     cases i with
     | zero=>simp only[List.getElem?_cons_zero,Option.some.injEq] at q1;subst q1;rw[ho] at q2;injection q2 with q2;subst q2;exact lz_self _ _ _
     | succ i=>exact lz_cons (h6 i o2 s2 (by simpa using q1) q2 q3 (by simpa using q4))
    | any=>exact unk (AftK.get h hd.2 hrest) ho rfl
    | row e m n xs=>exact unk (AftK.get h hd.2 hrest) ho rfl
    | rowO b e m n xs v0=>exact unk (AftK.get h hd.2 hrest) ho rfl
    | rows2 e e2 m2 LL=>exact unk (AftK.get h hd.2 hrest) ho rfl
    | new t cs n=>exact unk (AftK.get h hd.2 hrest) ho rfl
    | st k=>exact unk (AftK.get h hd.2 hrest) ho rfl
    | tup2 p q=>exact unk (AftK.get h hd.2 hrest) ho rfl
    | tup4 p q r s=>exact unk (AftK.get h hd.2 hrest) ho rfl
def esA (AL:List NewZ):List TypeId:=AL.flatMap fun d=>esOf d.k
def disA :List NewZ->Bool
 | []=>true
 | d::ds=>disj (esOf d.k) (esA ds)&&disA ds
theorem AftA.get :∀ {AL:List NewZ} {gs:Nat->Nat} {X:LT->MT->List Rw->Prop},AftA AL X->disA AL=true->(∀ (x:Nat) (d:NewZ),AL[x]?=some d->a.tmps[d.slot]?=some (.pointer (some ⟨gs x,0,none⟩))/\B<=gs x/\filledQ cellsF B d.k d.t (gs x) W)->(∀ (x y:Nat) (d e:NewZ),AL[x]?=some d->AL[y]?=some e->x≠y->gs x≠gs y)->(AL.all fun d=>match d.k with | .val _=>true | .tel _ _=>true | _=>false)=true →
  ∃ L N R,X L N R/\Sls a L/\(∀ d∈AL,(lz L d.slot).isSome=true)/\Own2 W B (esA AL) R/\(∀ x∈N,B<=x.1 ∧ ∃ q,∃ d,AL[q]?=some d/\x.1=gs q ∧ ∃ cs,x.2=isB d.t cs/\Blk W x.1 d.t cs)/\N.Pairwise (fun x y=>x.1≠y.1)
 | [],_,X,h,_,_,_,_=>⟨[],[],[],h,fun _ _ h=>by simp[lz] at h,by simp,Own2.nil,by simp,.nil⟩
 | d::ds,gs,X,h,hd,hb,hap,hk=>by
  unfold disA at hd
  simp only[Bool.and_eq_true] at hd
  simp only[List.all_cons,Bool.and_eq_true] at hk
  obtain⟨hb1,hb2,V,hb3,hb4⟩:=hb 0 d rfl
  have hB3:Blk W (gs 0) d.t V.cells:=hb3
  have hb':∀ (x:Nat) (e:NewZ),ds[x]?=some e->a.tmps[e.slot]?=some (px (gs (x+1)) 0)/\B<=gs (x+1)/\filledQ cellsF B e.k e.t (gs (x+1)) W:=fun x e he=>hb (x+1) e (by simpa using he)
  have hap':∀ (x y:Nat) (d e:NewZ),ds[x]?=some d->ds[y]?=some e->x≠y->gs (x+1)≠gs (y+1):=fun x y d e h1 h2 hne=>hap (x+1) (y+1) d e (by simpa using h1) (by simpa using h2) (by omega)
  have h:=h (gs 0)
  have fin:∀ {L:LT} {N:MT},(∀ x∈N,B<=x.1 ∧ ∃ q,∃ e,ds[q]?=some e/\x.1=gs (q+1) ∧ ∃ cs,x.2=isB e.t cs/\Blk W x.1 e.t cs)->N.Pairwise (fun x y=>x.1≠y.1)->(∀ x∈((gs 0,isB d.t V.cells)::N),B<=x.1 ∧ ∃ q,∃ e,(d::ds)[q]?=some e/\x.1=gs q ∧ ∃ cs,x.2=isB e.t cs/\Blk W x.1 e.t cs)/\((gs 0,isB d.t V.cells)::N).Pairwise (fun x y=>x.1≠y.1):=by
   intro _ N h1 h2
   refine⟨fun x hx=>?_,List.Pairwise.cons (fun y hy=>?_) h2⟩
   ·rcases List.mem_cons.1 hx with rfl | hx
    ·exact⟨hb2,0,d,rfl,rfl,_,rfl,hB3⟩
    ·obtain⟨q1,q,e,q2,q3,q4⟩:=h1 x hx
     exact⟨q1,q+1,e,by simpa using q2,q3,q4⟩
   ·obtain⟨_,q,e,q2,q3,_⟩:=h1 y hy
    rw[q3]
    exact hap 0 (q+1) d e rfl (by simpa using q2) (by omega)
  have cov:∀ {L:LT} {v:Value},(∀ e∈ds,(lz L e.slot).isSome=true)->∀ e∈d::ds,(lz ((d.slot,v)::L) e.slot).isSome=true:=by
   intro L v hc e he
   rcases List.mem_cons.1 he with rfl | he
   ·exact lz_self _ _ _
   ·exact lz_cons (hc e he)
  cases hkd:d.k with
  | val c=>
   rw[hkd] at h hb4
   rw[show V=c from hb4] at hB3 fin
   obtain⟨L,N,R,h1,h2,hc,h3,h4,h5⟩:=AftA.get (gs:=fun x=>gs (x+1)) h hd.2 hb' hap' hk.2
   obtain⟨f1,f2⟩:=fin (L:=L) h4 h5
   exact⟨_,_,R,h1,h2.cons hb1,cov hc,(by unfold esA at *;rw[List.flatMap_cons,hkd];exact h3),f1,f2⟩
  | tel es T=>
   rw[hkd] at h hb4
   obtain⟨r,r1,r2,_⟩:=Tele.get (A:=[]) hb4.1 hb4.2 h
   obtain⟨L,N,R,h1,h2,hc,h3,h4,h5⟩:=AftA.get (gs:=fun x=>gs (x+1)) r1 hd.2 hb' hap' hk.2
   obtain⟨f1,f2⟩:=fin (L:=L) h4 h5
   refine⟨_,_,_,h1,h2.cons hb1,cov hc,?_,f1,f2⟩
   have h6:=r2.app h3 (by have:=hd.1;rw[hkd] at this;exact this)
   unfold esA at *
   rw[List.flatMap_cons,hkd]
   exact h6
  | any=>rw[hkd] at hk;exact absurd hk.1 (by simp)
  | row e m n xs=>rw[hkd] at hk;exact absurd hk.1 (by simp)
  | rowO b e m n xs v0=>rw[hkd] at hk;exact absurd hk.1 (by simp)
  | rows2 e e2 m2 LL=>rw[hkd] at hk;exact absurd hk.1 (by simp)
  | new t cs n=>rw[hkd] at hk;exact absurd hk.1 (by simp)
  | st k=>rw[hkd] at hk;exact absurd hk.1 (by simp)
  | tup2 p q=>rw[hkd] at hk;exact absurd hk.1 (by simp)
  | tup4 p q r s=>rw[hkd] at hk;exact absurd hk.1 (by simp)
def esB (BL:List OldQ):List TypeId:=BL.flatMap fun d=>esOf d.k
def disB :List OldQ->Bool
 | []=>true
 | d::ds=>disj (esOf d.k) (esB ds)&&disB ds
theorem AftB.get :∀ {BL:List OldQ} {js:List Nat} {M:MT} {X:MT->List Rw->Prop},AftB BL js M X->(∀ (x:Nat) (b:OldQ),BL[x]?=some b->∃ j S,js[x]?=some j/\M[j]?=some (b.g,S))->js.length=BL.length->disB BL=true->(BL.all fun d=>known d.k)=true->(∀ b∈BL,filledQ b.f B b.k b.t b.g W)->(∀ k g S,M[k]?=some (g,S)->k∉js->∃ ob,W.heap[g]?=some ob/\S ob) →
  ∃ M1 R,X M1 R/\Own2 W B (esB BL) R/\M1.map (·.1)=M.map (·.1) ∧ ∀ x∈M1,∃ ob,W.heap[x.1]?=some ob/\x.2 ob
 | [],js,M,X,h,_,hl,_,_,_,hm=>by
  have:js = []:=List.eq_nil_of_length_eq_zero hl
  subst this
  exact⟨M,[],h,Own2.nil,rfl,fun x hx=>by
   obtain⟨k,hk⟩:=List.mem_iff_getElem?.1 hx
   exact hm k x.1 x.2 hk (by simp)⟩
 | b::bs,[],M,X,_,_,hl,_,_,_,_=>by cases hl
 | b::bs,j::js,M,X,h,hB,hl,hd,hk,hf,hm=>by
  unfold disB at hd
  simp only[Bool.and_eq_true] at hd
  simp only[List.all_cons,Bool.and_eq_true] at hk
  obtain⟨V,hV1,hV2⟩:=hf b (by simp)
  have hj:∃ S,M[j]?=some (b.g,S):=by
   obtain⟨q,S,h1,h2⟩:=hB 0 b rfl
   simp only[List.getElem?_cons_zero,Option.some.injEq] at h1
   subst h1
   exact⟨S,h2⟩
  obtain⟨S0,hj0⟩:=hj
  have hids:(M.set j (b.g,isB b.t (b.f V))).map (·.1)=M.map (·.1):=by
   rw[List.map_set]
   apply List.ext_getElem?
   intro q
   rw[List.getElem?_set]
   split
   ·rename_i e
    subst e
    rw[List.length_map,List.getElem?_map,hj0]
    rw[if_pos (List.getElem?_eq_some_iff.1 hj0).1];rfl
   ·rfl
  have hB2:∀ (x:Nat) (c:OldQ),bs[x]?=some c->∃ j2 S,js[x]?=some j2/\(M.set j (b.g,isB b.t (b.f V)))[j2]?=some (c.g,S):=by
   intro x c hc
   obtain⟨q,S,h1,h2⟩:=hB (x+1) c (by simpa using hc)
   have h3:=congrArg (fun l:List Nat=>l[q]?) hids
   simp only[List.getElem?_map,h2,Option.map_some] at h3
   cases h4:(M.set j (b.g,isB b.t (b.f V)))[q]? with
   | none=>rw[h4] at h3;cases h3
   | some y=>
    rw[h4] at h3
    simp only[Option.map_some,Option.some.injEq] at h3
    obtain⟨y1,y2⟩:=y
    simp only at h3
    subst h3
    exact⟨q,y2,by simpa using h1,h4⟩
  have hm2:∀ k g S,(M.set j (b.g,isB b.t (b.f V)))[k]?=some (g,S)->k∉js->∃ ob,W.heap[g]?=some ob/\S ob:=by
   intro k g S h1 h2
   rw[List.getElem?_set] at h1
   by_cases e:j=k
   ·subst e
    rw[if_pos rfl,if_pos (List.getElem?_eq_some_iff.1 hj0).1,Option.some.injEq,Prod.mk.injEq] at h1
    rw[←h1.1,←h1.2]
    exact⟨_,hV1,rfl⟩
   ·rw[if_neg e] at h1
    exact hm k g S h1 (by simp only[List.mem_cons,not_or];exact⟨fun q=>e q.symm,h2⟩)
  have hl2:js.length=bs.length:=by simpa using hl
  cases hkd:b.k with
  | val c=>
   unfold AftB at h
   rw[hkd] at h hV2
   rw[show V=c from hV2] at hB2 hm2 hids
   obtain⟨M1,R,h1,h2,h3,h4⟩:=AftB.get h hB2 hl2 hd.2 hk.2 (fun c hc=>hf c (by simp[hc])) hm2
   exact⟨M1,R,h1,(by unfold esB at *;rw[List.flatMap_cons,hkd];exact h2),h3.trans hids,h4⟩
  | tel es T=>
   unfold AftB at h
   rw[hkd] at h hV2
   obtain⟨r,r1,r2,_⟩:=Tele.get (A:=[]) hV2.1 hV2.2 h
   obtain⟨M1,R,h1,h2,h3,h4⟩:=AftB.get r1 hB2 hl2 hd.2 hk.2 (fun c hc=>hf c (by simp[hc])) hm2
   refine⟨M1,_,h1,?_,h3.trans hids,h4⟩
   have h6:=r2.app h2 (by have:=hd.1;rw[hkd] at this;exact this)
   unfold esB at *
   rw[List.flatMap_cons,hkd]
   exact h6
  | any=>rw[hkd] at hk;exact absurd hk.1 (by simp[known])
  | row e m n xs=>rw[hkd] at hk;exact absurd hk.1 (by simp[known])
  | rowO b e m n xs v0=>rw[hkd] at hk;exact absurd hk.1 (by simp[known])
  | rows2 e e2 m2 LL=>rw[hkd] at hk;exact absurd hk.1 (by simp[known])
  | new t cs n=>rw[hkd] at hk;exact absurd hk.1 (by simp[known])
  | st k=>rw[hkd] at hk;exact absurd hk.1 (by simp[known])
  | tup2 p q=>rw[hkd] at hk;exact absurd hk.1 (by simp[known])
  | tup4 p q r s=>rw[hkd] at hk;exact absurd hk.1 (by simp[known])
theorem lz_mem :∀ {L:LT} {s:Nat} {v:Value},lz L s=some v->∃ p∈L,p.1=s
 | [],_,_,h=>by simp[lz] at h
 | p::L,s,v,h=>by
  rw[lz] at h
  cases hb:Nat.beq p.1 s with
  | true=>exact⟨p,by simp,Nat.eq_of_beq_eq_true hb⟩
  | false=>
   rw[hb,cond_false] at h
   obtain⟨q,q1,q2⟩:=lz_mem h
   exact⟨q,by simp[q1],q2⟩
theorem lz_app :∀ {A B:LT} {s:Nat} {v:Value},lz (A++B) s=some v->lz A s=some v\/(lz A s=none/\lz B s=some v)
 | [],_,_,_,h=>.inr ⟨rfl,h⟩
 | (i,u)::A,B,s,v,h=>by
  rw[List.cons_append,lz] at h
  rw[lz]
  cases hb:Nat.beq i s with
  | true=>rw[hb] at h;exact .inl h
  | false=>rw[hb,cond_false] at h;rw[cond_false];exact lz_app h
end
theorem esK_mem {lv:List Nat}{e:TypeId}:∀ {os:List Oper} {ks:List Kp},(esK lv os ks).contains e=true->∃ k∈ks,(esOf k).contains e=true
 | [],ks,h=>by cases ks <;> simp[esK] at h
 | o::os,[],h=>by simp[esK] at h
 | o::os,k::ks,h=>by
  unfold esK at h
  cases ho:o.dst with
  | none=>rw[ho] at h;obtain⟨q,h1,h2⟩:=esK_mem h;exact⟨q,by simp[h1],h2⟩
  | some s=>
   rw[ho] at h
   dsimp only at h
   cases hl:lv.contains s with
   | false=>rw[hl,cond_false] at h;obtain⟨q,h1,h2⟩:=esK_mem h;exact⟨q,by simp[h1],h2⟩
   | true=>
    rw[hl,cond_true] at h
    have h:e∈esOf k++esK lv os ks:=by simpa using h
    rcases List.mem_append.1 h with h | h
    ·exact⟨k,by simp,by simpa using h⟩
    ·obtain⟨q,h1,h2⟩:=esK_mem (os:=os) (ks:=ks) (e:=e) (lv:=lv) (by simpa using h);exact⟨q,by simp[h1],h2⟩
theorem safe_es {k:Kp}{t e:TypeId}(h:k.safe t=true)(he:(esOf k).contains e=true):(!(Nat.beq t e))=true:=by
 cases hb:Nat.beq t e with
 | false=>rfl
 | true=>
  rw[Nat.eq_of_beq_eq_true hb] at h
  cases k with
  | tel es T=>
   have h:(!(es.contains e))=true:=h
   rw[show es.contains e=true from he] at h
   cases h
  | _=>simp[esOf] at he
theorem fl_mem {A:Type}{f:A->Kp}{Z:List A}{e:TypeId}(h:(Z.flatMap fun d=>esOf (f d)).contains e=true):∃ d∈Z,(esOf (f d)).contains e=true:=by
 have h:e∈Z.flatMap fun d=>esOf (f d):=by simpa using h
 obtain⟨d,h1,h2⟩:=List.mem_flatMap.1 h
 exact⟨d,h1,by simpa using h2⟩
def rgOk (nt:Nat)(L:LT)(l:List Oper)(KL:List Kp)(AL:List NewZ)(BL:List OldQ)(js lv:List Nat):Bool :=
 looseB l nt&&safeQ KL AL BL&&Nat.beq js.length BL.length&&Nat.beq KL.length l.length
  && (AL.all fun d=>Nat.blt d.iS l.length&&(match l[d.iA]? with | some o=>o.dst==some d.slot | none=>false))
  && (BL.all fun b=>Nat.blt b.iS l.length)
  && disK lv l KL&&disA AL&&disB BL&&disj (esK lv l KL) (esA AL++esB BL)&&disj (esA AL) (esB BL)
  && (AL.all fun d=>known d.k)&&(BL.all fun b=>known b.k)
  && (lv.all fun s=>AL.all fun d=>!(Nat.beq d.slot s))
  && (L.all fun p=>(l.zip KL).all fun q=>q.1.dst != some p.1||(lv.contains p.1&&known q.2)||(AL.any fun d=>Nat.beq d.slot p.1))
section
variable {D:List Deferred}{nt:Nat}{w0:World}{L:LT}{M:MT}{R:List Rw}{l:List Oper}{Q:Exit->Act->World->Prop}{X:Act->World->Prop}{id:Nat}{cc:Code}
theorem drY {C:Act->World->Prop}(hR:looseB l nt=true->∀ a0 w,RegionInvQ Tryz.prog l a0 w Q (C a0 w))(KL:List Kp)(AL:List NewZ)(BL:List OldQ)(js lv:List Nat)(hB:BOk M BL js)(ask:∀ Bs,AKs D nt w0 L M R l KL AL BL js Bs 0 l)
  (h:AftB BL js M fun M1 R1=>AftA AL fun L2 N R2=>AftK lv l KL fun L3 R3=>KX D nt w0 (L3++(L2++L)) (N++M1) (R3++(R2++(R1++R))) X) (hX:∀ a w,Q .normal a w=X a w) (hj:js.Nodup) (hk:rgOk nt L l KL AL BL js lv=true):KX D nt w0 L M R C:=by
 intro a0 w hs
 simp only[rgOk,Bool.and_eq_true] at hk
 obtain⟨⟨⟨⟨⟨⟨⟨⟨⟨⟨⟨⟨⟨⟨k1,k2⟩,k3⟩,k4⟩,k5⟩,k6⟩,k7⟩,k8⟩,k9⟩,k10⟩,k11⟩,k12⟩,k13⟩,k14⟩,k15⟩:=hk
 have hlen:KL.length=l.length:=Nat.eq_of_beq_eq_true k4
 refine region_q nt KL [] AL BL [] (hR k1 _ _) k1 hs.f.size ?_ ?_ ?_ (fun _ h=>by cases h) k2 (AKs.ask hs hB (ask _)) ?_
 ·intro d hd
  have h1:=List.all_eq_true.1 k5 d hd
  simp only[Bool.and_eq_true] at h1
  refine⟨Nat.le_of_ble_eq_true h1.1,?_⟩
  cases ho:l[d.iA]? with
  | none=>rw[ho] at h1;exact absurd h1.2 (by simp)
  | some o=>rw[ho] at h1;exact⟨o,rfl,by simpa using h1.2⟩
 ·intro b hb
  obtain⟨j,_,h2⟩:=hB.at b hb
  exact⟨Nat.le_of_ble_eq_true (List.all_eq_true.1 k6 b hb),hs.m.at j h2⟩
 ·intro x y b c hx hy hne
  obtain⟨j1,h1,h2⟩:=hB.get x b hx
  obtain⟨j2,h3,h4⟩:=hB.get y c hy
  refine setAt_ne hs.m.nd h2 h4 fun e=>hne ?_
  subst e
  have e1:=(List.getElem?_eq_some_iff.1 h1);have e2:=(List.getElem?_eq_some_iff.1 h3)
  exact(List.getElem_inj hj).1 (e1.2.trans e2.2.symm)
 ·intro a W gs I
  have hfull:∀ i,i<l.length->decide (i<l.length)=true:=fun i h=>decide_eq_true h
  have hlow:=low_of hs hB I.keep
  have hiS:∀ d∈AL,decide (d.iS<l.length)=true:=fun d hd=>decide_eq_true (by
   have h1:=List.all_eq_true.1 k5 d hd
   simp only[Bool.and_eq_true] at h1
   exact Nat.le_of_ble_eq_true h1.1)
  have hiA:∀ d∈AL,decide (d.iA<l.length)=true:=fun d hd=>decide_eq_true (by
   have h1:=List.all_eq_true.1 k5 d hd
   simp only[Bool.and_eq_true] at h1
   cases ho:l[d.iA]? with
   | none=>rw[ho] at h1;exact absurd h1.2 (by simp)
   | some o=>exact(List.getElem?_eq_some_iff.1 ho).1)
  obtain⟨M1,R1,b1,b2,b3,b4⟩:=AftB.get (W:=W) (B:=w.heap.size) h (fun x b hb=>by
   obtain⟨j,q1,q2⟩:=hB.get x b hb
   exact⟨j,_,q1,q2⟩) (Nat.eq_of_beq_eq_true k3) k9 k13 (fun b hb=>(I.old b hb).2 (decide_eq_true (Nat.le_of_ble_eq_true (List.all_eq_true.1 k6 b hb)))) (fun k g S hk hn=>by
   obtain⟨ob,q1,q2⟩:=hs.m.ob k hk
   refine⟨ob,(I.keep.block g (lt_of_ob q1) (far_of hs.m hB hk ?_)).trans q1,q2⟩
   rw[List.all_eq_true]
   intro j hj2
   cases hb:Nat.beq j k with
   | false=>rfl
   | true=>rw[Nat.eq_of_beq_eq_true hb] at hj2;exact absurd hj2 hn)
  obtain⟨L2,N,R2,c1,c2,c3,c4,c5,c6⟩:=AftA.get (a:=a) (W:=W) (B:=w.heap.size) (gs:=gs) b1 k8 (fun x d hx=>by
   have hd:=List.mem_of_getElem? hx
   obtain⟨q1,q2,_,q4⟩:=I.blk x d hx (hiA d hd)
   exact⟨q1,q2,q4 (hiS d hd)⟩) (fun x y d e hx hy hne=>I.apart x y d e hx hy hne (hiA d (List.mem_of_getElem? hx)) (hiA e (List.mem_of_getElem? hy))) (by
   rw[List.all_eq_true] at k12 ⊢
   intro d hd
   have:=k12 d hd
   revert this
   cases d.k <;> simp[known])
  obtain⟨L3,R3,d1,d2,d3,d4⟩:=AftK.get (a:=a) (W:=W) (B:=w.heap.size) c1 k7 (fun i o s ho hd hlv hi=>I.val i o s ho hd (decide_eq_true (List.getElem?_eq_some_iff.1 ho).1) (fun d hdA e=>by
   -- a new block's slot is not among the live ones
   have h1:=List.all_eq_true.1 k5 d hdA
   simp only[Bool.and_eq_true] at h1
   rw[e,ho] at h1
   have h2:o.dst=some d.slot:=by simpa using h1.2
   rw[hd] at h2
   injection h2 with h2
   have h3:=List.all_eq_true.1 (List.all_eq_true.1 k14 s (by simpa using hlv)) d hdA
   rw[h2,Nat.beq_refl] at h3
   cases h3) (fun K hK=>by simp at hK))
  rw[hX]
  refine d1 a W ⟨⟨I.tsz,I.defers.trans hs.f.defers,?_⟩,?_,?_,?_⟩
  ·intro s v hv
   rw[←lz_eq] at hv
   rcases lz_app hv with hv | ⟨e1,hv⟩
   ·exact d2 s v hv
   ·rcases lz_app hv with hv | ⟨e2,hv⟩
    ·exact c2 s v hv
    ·refine I.had s v ?_ (hs.f.at s (by rw[←lz_eq];exact hv))
     unfold noDst
     rw[List.all_eq_true]
     intro o ho
     obtain⟨i,hi⟩:=List.mem_iff_getElem?.1 ho
     have hil:=(List.getElem?_eq_some_iff.1 hi).1
     -- the elder slot
     have hmem:=lz_mem hv
     obtain⟨p,hp,rfl⟩:=hmem
     have h5:=List.all_eq_true.1 (List.all_eq_true.1 k15 p hp) (o,KL.getD i .any) (by
      rw[List.mem_iff_getElem?]
      refine⟨i,?_⟩
      rw[List.getElem?_zip_eq_some]
      exact⟨hi,by rw[List.getD_eq_getElem?_getD,List.getElem?_eq_getElem (by omega)];rfl⟩)
     simp only[Bool.or_eq_true,Bool.and_eq_true] at h5
     rcases h5 with(h5 | h5) | h5
     ·exact h5
     ·cases ho2:o.dst with
      | none=>rfl
      | some q=>
       by_cases e:q=p.1
       ·have:=d4 i o p.1 hi (by rw[ho2,e]) h5.1 h5.2
        rw[e1] at this
        cases this
       ·simpa using e
     ·rw[List.any_eq_true] at h5
      obtain⟨d,hd,h6⟩:=h5
      have:=c3 d hd
      rw[Nat.eq_of_beq_eq_true h6,e2] at this
      cases this
  ·refine⟨hlow,fun x hx=>?_,?_⟩
   ·rcases List.mem_append.1 hx with hx | hx
    ·obtain⟨q1,_,_,_,_,cs,q2,q3⟩:=c5 x hx
     exact⟨Nat.le_trans hs.m.below.size q1,_,q3,by rw[q2];rfl⟩
    ·refine⟨?_,b4 x hx⟩
     have:x.1∈M1.map (·.1):=List.mem_map_of_mem hx
     rw[b3] at this
     obtain⟨y,hy,e⟩:=List.mem_map.1 this
     rw[←e];exact(hs.m.has y hy).1
   ·refine List.pairwise_append.2 ⟨c6,?_,fun x hx y hy=>?_⟩
    ·have h1:(M.map (·.1)).Pairwise (· ≠ ·):=List.pairwise_map.2 hs.m.nd
     rw[←b3] at h1
     exact List.pairwise_map.1 h1
    ·obtain⟨q1,_⟩:=c5 x hx
     have:y.1∈M1.map (·.1):=List.mem_map_of_mem hy
     rw[b3] at this
     obtain⟨z,hz,e⟩:=List.mem_map.1 this
     rw[←e]
     have:=hs.m.lt hz
     omega
  ·have hnew:∀ {es:List TypeId} {RN:List Rw},Own2 W w.heap.size es RN->(∀ e,es.contains e=true->∀ d∈AL,(!(Nat.beq d.t e))=true)->∀ x∈RN,OwnR w0 (N++M1) W x.e x.m x.v x.n x.xs:=by
    intro es RN hO hE x hx
    obtain⟨h1,h2⟩:=hO.1 x hx
    refine⟨ownsRow_mono h1 hs.m.below.size,fun y hy=>?_⟩
    rcases List.mem_append.1 hy with hy | hy
    ·obtain⟨_,q,d,q1,_,cs,_,q3⟩:=c5 y hy
     exact own_ne_ty h1 q3 (hE _ h2 d (List.mem_of_getElem? q1))
    ·intro hq
     have h3:=own_base h1 hq
     have:y.1∈M1.map (·.1):=List.mem_map_of_mem hy
     rw[b3] at this
     obtain⟨z,hz,e⟩:=List.mem_map.1 this
     have:=hs.m.lt hz
     omega
   have hsf:∀ d∈AL,(∀ k∈KL,k.safe d.t=true)/\(∀ e∈AL,e.k.safe d.t=true) ∧ ∀ b∈BL,b.k.safe d.t=true:=fun d hd=>by
    have h1:=List.all_eq_true.1 k2 d.t (List.mem_append_left _ (List.mem_map_of_mem hd))
    simp only[Bool.and_eq_true,List.all_eq_true] at h1
    exact h1
   intro x hx
   rcases List.mem_append.1 hx with hx | hx
   ·exact hnew d3 (fun e he d hd=>by obtain⟨k,q1,q2⟩:=esK_mem he;exact safe_es ((hsf d hd).1 k q1) q2) x hx
   rcases List.mem_append.1 hx with hx | hx
   ·exact hnew c4 (fun e he d hd=>by obtain⟨c,q1,q2⟩:=fl_mem (f:=NewZ.k) he;exact safe_es ((hsf d hd).2.1 c q1) q2) x hx
   rcases List.mem_append.1 hx with hx | hx
   ·exact hnew b2 (fun e he d hd=>by obtain⟨c,q1,q2⟩:=fl_mem (f:=OldQ.k) he;exact safe_es ((hsf d hd).2.2 c q1) q2) x hx
   ·have h1:=(hs.r x hx).keepW I.keep (row_far hs hB hx)
    refine⟨h1.owns,fun y hy=>?_⟩
    rcases List.mem_append.1 hy with hy | hy
    ·obtain⟨q1,_⟩:=c5 y hy
     intro hq
     have:=own_lt_size (hs.r x hx).owns hq
     omega
    ·have:y.1∈M1.map (·.1):=List.mem_map_of_mem hy
     rw[b3] at this
     obtain⟨z,hz,e⟩:=List.mem_map.1 this
     rw[←e];exact(hs.r x hx).far z hz
  ·have hold:∀ {es:List TypeId} {RN:List Rw},Own2 W w.heap.size es RN->∀ x∈RN,∀ y∈R,apartB x.v y.v:=fun hO x hx y hy=>apart_new (hs.r y hy) (hO.1 x hx).1
   have k10a:disj (esK lv l KL) (esA AL)=true:=by
    rw[disj,List.all_eq_true] at k10 ⊢
    intro x hx
    have:=k10 x hx
    simp at this ⊢
    exact this.1
   have k10b:disj (esK lv l KL) (esB BL)=true:=by
    rw[disj,List.all_eq_true] at k10 ⊢
    intro x hx
    have:=k10 x hx
    simp at this ⊢
    exact this.2
   refine List.pairwise_append.2 ⟨d3.2,List.pairwise_append.2 ⟨c4.2,List.pairwise_append.2 ⟨b2.2,hs.nd,hold b2⟩,fun x hx y hy=>?_⟩,fun x hx y hy=>?_⟩
   ·rcases List.mem_append.1 hy with hy | hy
    ·exact ty_apart k11 (c4.1 x hx).1 (b2.1 y hy).1 (c4.1 x hx).2 (b2.1 y hy).2
    ·exact hold c4 x hx y hy
   ·rcases List.mem_append.1 hy with hy | hy
    ·exact ty_apart k10a (d3.1 x hx).1 (c4.1 y hy).1 (d3.1 x hx).2 (c4.1 y hy).2
    rcases List.mem_append.1 hy with hy | hy
    ·exact ty_apart k10b (d3.1 x hx).1 (b2.1 y hy).1 (d3.1 x hx).2 (b2.1 y hy).2
    ·exact hold d3 x hx y hy
theorem drX (KL:List Kp)(AL:List NewZ)(BL:List OldQ)(js lv:List Nat)(hB:BOk M BL js)(ask:∀ Bs,AKs D nt w0 L M R l KL AL BL js Bs 0 l)
  (h:AftB BL js M fun M1 R1=>AftA AL fun L2 N R2=>AftK lv l KL fun L3 R3=>KX D nt w0 (L3++(L2++L)) (N++M1) (R3++(R2++(R1++R))) X) (hX:∀ a w,Q .normal a w=X a w) (hj:js.Nodup) (hk:rgOk nt L l KL AL BL js lv=true) (hm:Tryz.prog.follows .mixedOrders=true):KX D nt w0 L M R ((Code.region id l.toArray true).wp Tryz.prog Q) :=
 drY (fun k1 _ _ _ h0 hs he=>wp_region_inv2 nt hm k1 _ h0 hs he) KL AL BL js lv hB ask h hX hj hk
theorem dr (KL:List Kp)(AL:List NewZ)(BL:List OldQ)(js lv:List Nat)(hB:BOk M BL js)(ask:∀ Bs,AKs D nt w0 L M R l KL AL BL js Bs 0 l)
  (h:AftB BL js M fun M1 R1=>AftA AL fun L2 N R2=>AftK lv l KL fun L3 R3=>KX D nt w0 (L3++(L2++L)) (N++M1) (R3++(R2++(R1++R))) (cc.wp Tryz.prog Q)) (hj:js.Nodup:=by decide) (hk:rgOk nt L l KL AL BL js lv=true:=by kernel_rfl) (hm:Tryz.prog.follows .mixedOrders=true:=by kernel_rfl):KX D nt w0 L M R ((Code.seq (Code.region id l.toArray true) cc).wp Tryz.prog Q):=fun a w hs=>
 wp_seq (drX KL AL BL js lv hB ask h (fun _ _=>rfl) hj hk hm a w hs)
theorem dr0 (KL:List Kp)(AL:List NewZ)(BL:List OldQ)(js lv:List Nat)(hB:BOk M BL js)(ask:∀ Bs,AKs D nt w0 L M R l KL AL BL js Bs 0 l)
  (h:AftB BL js M fun M1 R1=>AftA AL fun L2 N R2=>AftK lv l KL fun L3 R3=>KX D nt w0 (L3++(L2++L)) (N++M1) (R3++(R2++(R1++R))) (Q .normal)) (hj:js.Nodup:=by decide) (hk:rgOk nt L l KL AL BL js lv=true:=by kernel_rfl) (hm:Tryz.prog.follows .mixedOrders=true:=by kernel_rfl):KX D nt w0 L M R ((Code.region id l.toArray true).wp Tryz.prog Q) :=
 drX KL AL BL js lv hB ask h (fun _ _=>rfl) hj hk hm
end
end
section

def Tele.fits (m:Nat):Tele->Prop
 | .ret v=>v.cells.size=m/\v.cells.all (·.oneCell')=true
 | .row _ _ _ _ k=>∀ v,(∃ p n c,v = .slice p n c)->(k v).fits m
 | .ex _ k=>∀ s,(k s).fits m
section
variable {D:List Deferred}{nt:Nat}{w0:World}{L:LT}{M:MT}{R:List Rw}{l:List Oper}{KL:List Kp}{AL:List NewZ}{BL:List OldQ}{js:List Nat}{Bs i j s d m:Nat}{o:Oper}{k:Kp}{v V:Value}{Y X:Operand}{ty:TypeId}{T:Tele}
theorem Tele.fit {B:Nat}{W:World}:∀ {T:Tele} {A:List Value} {u:Value},T.fits m->T.sat B W A u->u.cells.size=m/\u.cells.all (·.oneCell')=true
 | .ret v,_,u,h,h2=>by rw[show u=v from h2];exact h
 | .row e m n xs k,_,u,h,⟨v,h1,_,h3⟩=>Tele.fit (h v (own_slice h1)) h3
 | .ex p k,_,u,h,⟨s,_,h3⟩=>Tele.fit (h s) h3
theorem fits0 {u:Value}(h:u.cells.size=m)(h2:u.cells.all (·.oneCell')=true):(Tele.ret u).fits m:=⟨h,h2⟩
theorem fits (h:T.fits m:=by repeat (first | exact fits0 rfl (allA rfl) | (rintro _ ⟨_,_,_,rfl⟩) | intro _)):T.fits m:=h
theorem yV (he:EV (QZ D nt w0 L M R l KL AL BL js Bs i) Y v:=by exact ev)(hk:k = .val v:=by rfl)(hm:v.cells.size=m:=by first | rfl | assumption | simp)(h1:v.cells.all (·.oneCell')=true:=by first | exact allA rfl | rfl | assumption | (refine allA ?_;repeat (first | exact oneN | refine oneC (by first | rfl | assumption) ?_)) | exact cells8_one _)(a:Act)(W:World)(h:QZ D nt w0 L M R l KL AL BL js Bs i a W):k.sat Bs (a.eval Y) W/\(a.eval Y).cells.size=m/\(a.eval Y).cells.all (·.oneCell')=true:=by
 rw[he a W h,hk]
 exact⟨rfl,hm,h1⟩
theorem yD {es:List TypeId}{s:Nat}(hj:dIdx l s 0=some j:=by rfl)(hK:KL.getD j .any = .tel es T:=by rfl)(hk:k = .tel es T:=by rfl)(hf:T.fits m:=by exact fits)(hb:depB l i j s=true:=by kernel_rfl)(hA:(AL.all fun d=>!(Nat.beq d.iA j))=true:=by rfl)(a:Act)(W:World)(h:QZ D nt w0 L M R l KL AL BL js Bs i a W):k.sat Bs (a.eval (.tmp s)) W/\(a.eval (.tmp s)).cells.size=m/\(a.eval (.tmp s)).cells.all (·.oneCell')=true:=by
 obtain⟨u,h1,h2⟩:=h.dep j s hb hA
 rw[hK] at h2
 rw[eval_tmp h1,hk]
 exact⟨h2,Tele.fit hf h2.2⟩
theorem kv (h:OPd Tryz.prog (QZ D nt w0 L M R l KL AL BL js Bs i) o l (KL.getD i .any) Bs)(hs:o.dst=some s:=by rfl)(hA:(AL.all fun d=>!(Nat.beq d.iA i) && !(Nat.beq d.iS i))=true:=by rfl)(hB:(BL.all fun b=>!(Nat.beq b.iS i))=true:=by rfl):AK D nt w0 L M R l KL AL BL js Bs i o:=.v s hs hA hB h
theorem kn (x:Nat){dz:NewZ}(hz:∀ w,(zeroValue dz.t).run Tryz.prog w = .ok V w)(hx:AL[x]?=some dz:=by rfl)(ho:o.op = .alloc dz.t:=by rfl)(hc:V.cells=dz.z:=by rfl)(hi:dz.iA=i:=by rfl)(hs:o.dst=some dz.slot:=by rfl)(hS:(AL.all fun d=>!(Nat.beq d.iS i))=true:=by rfl)(hB:(BL.all fun b=>!(Nat.beq b.iS i))=true:=by rfl)(hu:(AL.zipIdx.all fun p=>!(Nat.beq p.1.iA i)||Nat.beq p.2 x)=true:=by rfl)(hg:o.guard=none:=by rfl):AK D nt w0 L M R l KL AL BL js Bs i o:=.n x dz hx hi hs hS hB hu hg ho V hz hc
theorem kp (x:Nat){dz:NewZ}(hx:AL[x]?=some dz:=by rfl)(hop:o.op = .store ty (.tmp dz.slot) Y:=by rfl)(hsz:szT ty=some m:=by rfl)(hz:dz.z.size=m:=by rfl)(hY:∀ a W,QZ D nt w0 L M R l KL AL [] js Bs i a W->dz.k.sat Bs (a.eval Y) W/\(a.eval Y).cells.size=m/\(a.eval Y).cells.all (·.oneCell')=true:=by first | exact yD | exact yV)(hi:dz.iS=i:=by rfl)(hs:o.dst=none:=by rfl)(hA:(AL.all fun d=>!(Nat.beq d.iA i))=true:=by rfl)(hB:(BL.all fun b=>!(Nat.beq b.iS i))=true:=by rfl)(hu:(AL.zipIdx.all fun p=>!(Nat.beq p.1.iS i)||Nat.beq p.2 x)=true:=by rfl)(hw:Region.waitsFor .any l.toArray i dz.iA=true:=by kernel_rfl)(hg:o.guard=none:=by rfl):AK D nt w0 L M R l KL AL BL js Bs i o:=.p x dz hx hi hs hA hB hu hw m ty Y hop hg hY hsz hz
theorem ks (x:Nat){b:OldQ}(hx:BL[x]?=some b:=by rfl)(hop:o.op = .store ty X Y:=by rfl)(hX:EV (QZ D nt w0 L M R l KL AL [] js Bs i) X (px b.g b.o):=by exact ev)(hsz:szT ty=some m:=by rfl)(hz:b.o+m<=b.old.size:=by first | decide | (simp;done) | omega)(hi:b.iS=i:=by rfl)(hs:o.dst=none:=by rfl)(hA:(AL.all fun d=>!(Nat.beq d.iA i) && !(Nat.beq d.iS i))=true:=by rfl)(hu:(BL.zipIdx.all fun p=>!(Nat.beq p.1.iS i)||Nat.beq p.2 x)=true:=by rfl)(hg:o.guard=none:=by rfl)(hY:∀ a W,QZ D nt w0 L M R l KL AL [] js Bs i a W->b.k.sat Bs (a.eval Y) W/\(a.eval Y).cells.size=m/\(a.eval Y).cells.all (·.oneCell')=true:=by first | exact yD | exact yV):AK D nt w0 L M R l KL AL BL js Bs i o:=.s x b hx hi hs hA hu m ty X Y hop hg hX hY hsz hz
end
end
section

structure MR (w0:World)(M:MT)(R:List Rw)(w:World):Prop where
 m:Mem w0 M w
 r:∀ x∈R,OwnR w0 M w x.e x.m x.v x.n x.xs
 nd:R.Pairwise fun x y=>apartB x.v y.v
def RM (f:FuncId)(vs:Array Value)(w0:World)(M:MT)(R:List Rw){A:Type}(I:A->Prop)(V:A->Value)(MM:A->MT)(RR:A->List Rw):Prop :=
 ∀ w,MR w0 M R w->Calls Tryz.prog f vs w fun e w'=>∃ x,I x/\e = .returned (V x)/\MR w0 (MM x) (RR x) w'
section
variable {D:List Deferred}{nt:Nat}{w0:World}{L:LT}{M M2:MT}{R R2:List Rw}{x y z:Operand}{v v2:Value}{ops:Array Oper}{rest:List Oper}{Q:Exit->Act->World->Prop}{X:Act->World->Prop}{cc:Code}{tyo:TypeId}{ps:String}{af:Array Edge}{d:Nat}{G:Kn}
theorem St.mr {a:Act}{w:World}(h:St D nt w0 L M R a w):MR w0 M R w:=⟨h.m,h.r,h.nd⟩
theorem enterM {f:FuncId}{fn:Func}{vs:List Value}{RE:Ending->World->Prop}(hf:Tryz.prog.funcs[f]?=some fn)(h:KX [] nt w0 (numbered vs 0) M R (cc.wp Tryz.prog (bodyPost Tryz.prog fn RE)))(hb:fn.body=some cc:=by rfl)(hn:fn.ntmps=nt:=by rfl)(hv:Nat.ble vs.length nt=true:=by rfl)(w:World)(hw:MR w0 M R w):Calls Tryz.prog f vs.toArray w RE :=
 walk_enter hf hb hn hv fun a hF=>h a w ⟨hF,hw.m,hw.r,hw.nd⟩
theorem cm {f:FuncId}{xs:List Operand}{vs:List Value}{ts:Array TypeId}{A:Type}{I:A->Prop}{V:A->Value}{MM:A->MT}{RR:A->List Rw}(hc:RM f vs.toArray w0 M R I V MM RR)(h:∀ x,I x->KX D nt w0 ((d,V x)::L) (MM x) (RR x) (wpList Tryz.prog ops Q rest))(hx:EVs (St D nt w0 L M R) xs vs:=by exact evs)(hb:Nat.blt d nt=true:=by rfl)(hg:(match Tryz.prog.funcs[f]? with | some fn=>!(fn.name == "runtime.NumGoroutine")&&fn.body.isSome | none=>false)=true:=by kernel_rfl):KX D nt w0 L M R (wpList Tryz.prog ops Q (⟨some d,.call { callee:=.value (.func f),args:=xs.toArray,argTypes:=ts },tyo,ps,af,none⟩::rest)):=fun a w hs=>
 sqT (T:=fun u w2=>∃ x,I x/\u=V x/\MR w0 (MM x) (RR x) w2) hs.f (wantedS rfl) (run_callK rfl hg (hx.arr hs)) rfl (Nat.le_of_ble_eq_true hb) ((hc w hs.mr).mono fun e w' ⟨x,h1,h2,h3⟩=>⟨V x,h2,x,h1,rfl,h3⟩) fun u a2 w2 ⟨x,h1,h2,h3⟩ hF=>by
  subst h2
  exact h x h1 a2 w2 ⟨hF,h3.m,h3.r,h3.nd⟩
theorem run_callG {a:Act}{w:World}{o:Oper}{f:FuncId}{xs:Array Operand}{ts:Array TypeId}{args cap:Array Value}(ho:o.op = .call { callee:=.value x,args:=xs,argTypes:=ts })(he:a.eval x = .func (.func f) #[] cap)(hg:(match Tryz.prog.funcs[f]? with | some fn=>!(fn.name == "runtime.NumGoroutine")&&fn.body.isSome | none=>false)=true)(hx:xs.map a.eval=args):(execOp a.eval o).run Tryz.prog w = .ok (.enter f (args++cap)) w:=by
 cases hf:Tryz.prog.funcs[f]? with
 | none=>rw[hf] at hg;cases hg
 | some fn=>
  rw[hf] at hg
  simp only[Bool.and_eq_true,Bool.not_eq_true'] at hg
  exact run_callF ho he hf hg.1 (by cases h:fn.body <;> simp_all) hx rfl
theorem cmF {f:FuncId}{xs:List Operand}{args:List Value}{ts:Array TypeId}{A:Type}{I:A->Prop}{V:A->Value}{MM:A->MT}{RR:A->List Rw}(hc:RM f args.toArray w0 M R I V MM RR)(h:∀ x,I x->KX D nt w0 ((d,V x)::L) (MM x) (RR x) (wpList Tryz.prog ops Q rest))(he:EV (St D nt w0 L M R) x (.func (.func f) #[] (args.drop xs.length).toArray):=by exact ev)(hx:EVs (St D nt w0 L M R) xs (args.take xs.length):=by exact evs)(hb:Nat.blt d nt=true:=by rfl)(hg:(match Tryz.prog.funcs[f]? with | some fn=>!(fn.name == "runtime.NumGoroutine")&&fn.body.isSome | none=>false)=true:=by kernel_rfl):KX D nt w0 L M R (wpList Tryz.prog ops Q (⟨some d,.call { callee:=.value x,args:=xs.toArray,argTypes:=ts },tyo,ps,af,none⟩::rest)):=fun a w hs=>
 sqT (T:=fun u w2=>∃ x,I x/\u=V x/\MR w0 (MM x) (RR x) w2) hs.f (wantedS rfl) (run_callG rfl (he a w hs) hg (hx.arr hs)) rfl (Nat.le_of_ble_eq_true hb) ((show Calls Tryz.prog f ((args.take xs.length).toArray++(args.drop xs.length).toArray) w fun e w'=>∃ x,I x/\e = .returned (V x)/\MR w0 (MM x) (RR x) w' by rw[List.append_toArray,List.take_append_drop];exact hc w hs.mr).mono fun e w' ⟨x,h1,h2,h3⟩=>⟨V x,h2,x,h1,rfl,h3⟩) fun u a2 w2 ⟨x,h1,h2,h3⟩ hF=>by
  subst h2
  exact h x h1 a2 w2 ⟨hF,h3.m,h3.r,h3.nd⟩
theorem clF {f:FuncId}{xs:List Operand}{args:List Value}{ts:Array TypeId}(hc:∀ a w,St D nt w0 L M R a w->Calls Tryz.prog f args.toArray w fun e w'=>e = .returned v/\Below w.heap.size w w')(h:KX D nt w0 ((d,v)::L) M R (wpList Tryz.prog ops Q rest))(he:EV (St D nt w0 L M R) x (.func (.func f) #[] (args.drop xs.length).toArray):=by exact ev)(hx:EVs (St D nt w0 L M R) xs (args.take xs.length):=by exact evs)(hb:Nat.blt d nt=true:=by rfl)(hg:(match Tryz.prog.funcs[f]? with | some fn=>!(fn.name == "runtime.NumGoroutine")&&fn.body.isSome | none=>false)=true:=by kernel_rfl):KX D nt w0 L M R (wpList Tryz.prog ops Q (⟨some d,.call { callee:=.value x,args:=xs.toArray,argTypes:=ts },tyo,ps,af,none⟩::rest)):=fun a w hs=>
 sqC hs.f hs.m (wantedS rfl) (run_callG rfl (he a w hs) hg (hx.arr hs)) rfl (Nat.le_of_ble_eq_true hb) (by rw[List.append_toArray,List.take_append_drop];exact hc a w hs) fun a2 w2 hB hF _=>h a2 w2 ⟨hF,hs.m.grow hB,fun x hx=>(hs.r x hx).grow hB,hs.nd⟩
theorem PR.mk {f:FuncId}{xs:List Operand}{vs:List Value}(hx:EVs G xs vs:=by repeat (first | exact EVs.nil | (apply EVs.cons;exact ev))):PR Tryz.prog G (.makeFunc (.func f) #[] xs.toArray) (.func (.func f) #[] vs.toArray):=fun a w o ho hg=>by
 have h1:=hx.arr hg
 have h0:Array.map a.eval #[] = #[]:=by simp
 unfold execOp
 simp only[ho,h1,h0]
 rfl
theorem rm {fn:Func}{rs:List ResultVar}{vs:List Value}{A:Type}{I:A->Prop}{V:A->Value}{MM:A->MT}{RR:A->List Rw}(t:A)(hI:I t)(hs:∀ a w,St [] nt w0 L M R a w->St [] nt w0 L (MM t) (RR t) a w)(hr:fn.results=rs.toArray:=by rfl)(hv:RSs [] nt w0 L M R rs vs:=by exact rss)(hV:tupV vs=V t:=by rfl)(h1:rs ≠ []:=by simp)(h5:rs.length<=5:=by decide):KX [] nt w0 L M R (bodyPost Tryz.prog fn (fun e w'=>∃ x,I x/\e = .returned (V x)/\MR w0 (MM x) (RR x) w') .ret) :=
 er (fun a w h=>⟨t,hI,by rw[hV],(hs a w h).mr⟩) hr hv h1 h5
/- values with rows, in drawn regions -/
theorem T1 {e:TypeId}{m n B:Nat}{W:World}{xs A:List Value}{k:Value->Tele}{u v:Value}(h1:W.ownsRow B e m v n xs)(h2:∀ y∈A,apartB y v)(h3:(k v).sat B W (v::A) u):(Tele.row e m n xs k).sat B W A u:=⟨v,h1,h2,h3⟩
theorem T0 {B:Nat}{W:World}{A:List Value}{u:Value}:(Tele.ret u).sat B W A u:=rfl
theorem apT {e e2:TypeId}{m n m2 n2 B:Nat}{W:World}{xs xs2:List Value}{u v:Value}(h:W.ownsRow B e m u n xs)(h2:W.ownsRow B e2 m2 v n2 xs2)(he:(!(Nat.beq e e2))=true:=by rfl):∀ y ∈ [u],apartB y v:=fun y hy=>by
 rw[List.mem_singleton.1 hy]
 exact fun g hg hq=>own_ne_own h2 h he hg hq
theorem oB2 {l:List Oper}{KL:List Kp}{AL:List NewZ}{BL:List OldQ}{js:List Nat}{Bs i j j2 s s2 m n m2 n2:Nat}{e e2 ty t:TypeId}{xs xs2:List Value}(hj:dIdx l s 0=some j:=by rfl)(hj2:dIdx l s2 0=some j2:=by rfl)(hK:KL.getD j .any = .tel [e] (.row e m n xs fun v=>.ret v):=by rfl)(hK2:KL.getD j2 .any = .tel [e2] (.row e2 m2 n2 xs2 fun v=>.ret v):=by rfl)(hb:depB l i j s=true:=by kernel_rfl)(hb2:depB l i j2 s2=true:=by kernel_rfl)(hA:(AL.all fun d=>!(Nat.beq d.iA j))=true:=by kernel_rfl)(hA2:(AL.all fun d=>!(Nat.beq d.iA j2))=true:=by kernel_rfl)(hne:(!(Nat.beq e e2))=true:=by rfl)(hB:∀ p a c q b d,Tryz.prog.built t [(0,.slice p a c),(1,.slice q b d)]=some #[.slice p a c,.slice q b d]:=by intros;kernel_rfl) :
  OPd Tryz.prog (QZ D nt w0 L M R l KL AL BL js Bs i) ⟨some d,.build t #[(0,.tmp s),(1,.tmp s2)],ty,ps,af,none⟩ l (.tel [e,e2] (.row e m n xs fun u=>.row e2 m2 n2 xs2 fun v=>.ret (.agg #[u,v]))) Bs:=fun a W hg=>by
 obtain⟨u,h1,h2⟩:=hg.dep j s hb hA
 obtain⟨v,h3,h4⟩:=hg.dep j2 s2 hb2 hA2
 rw[hK] at h2
 rw[hK2] at h4
 obtain⟨_,u',q1,_,rfl⟩:=h2
 obtain⟨_,v',q2,_,rfl⟩:=h4
 obtain⟨_,_,_,rfl⟩:=own_slice q1
 obtain⟨_,_,_,rfl⟩:=own_slice q2
 refine .inl ⟨wanted_yes rfl,givz_run (run_blt rfl (bltE2 (eval_tmp h1) (eval_tmp h3)) (hB _ _ _ _ _ _)) ⟨⟨by simp,fun _=>⟨by simp,fun _=>trivial⟩⟩,T1 q1 (by simp) (T1 q2 (apT q1 q2 hne) T0)⟩⟩
/- blocks and rows in another order -/
def pk {α:Type}:Nat->List α->List α
 | _,[]=>[]
 | 0,x::l=>x::l
 | n+1,x::l=>match pk n l with
  | []=>[x]
  | y::r=>y::x::r
theorem pk_perm {α:Type}:∀ (n:Nat) (l:List α),(pk n l).Perm l
 | _,[]=>by cases ‹Nat› <;> exact .refl _
 | 0,_::_=>.refl _
 | n+1,x::l=>by
  have ih:=pk_perm n l
  unfold pk
  split
  ·rename_i h
   rw[h] at ih
   exact .cons x ih
  ·rename_i y r h
   rw[h] at ih
   exact(List.Perm.swap x y r).trans (.cons x ih)
def pks {α:Type}:List Nat->List α->List α
 | [],l=>l
 | n::ns,l=>pk n (pks ns l)
theorem pks_perm {α:Type}:∀ (ns:List Nat) (l:List α),(pks ns l).Perm l
 | [],_=>.refl _
 | n::ns,l=>(pk_perm n _).trans (pks_perm ns l)
theorem fr (is js:List Nat)(h:KX D nt w0 L (pks is M) (pks js R) X):KX D nt w0 L M R X:=fun a w hs=>by
 have pM:=pks_perm is M
 have pR:=pks_perm js R
 refine h a w ⟨hs.f,⟨hs.m.below,fun x hx=>hs.m.has x (pM.subset hx),?_⟩,fun x hx=>⟨(hs.r x (pR.subset hx)).owns,fun y hy=>(hs.r x (pR.subset hx)).far y (pM.subset hy)⟩,?_⟩
 ·exact(pM.pairwise_iff (fun h e=>h e.symm)).2 hs.m.nd
 ·exact(pR.pairwise_iff (R:=fun x y:Rw=>apartB x.v y.v) (fun h g h1 h2=>h g h2 h1)).2 hs.nd
end
end
section

inductive EVp (G:Kn):List (Nat×Operand)->LT->Prop
 | nil:EVp G [] []
 | cons {i:Nat} {x:Operand} {v:Value} {xs:List (Nat×Operand)} {vs:LT}:EV G x v->EVp G xs vs->EVp G ((i,x)::xs) ((i,v)::vs)
theorem EVp.arr {G:Kn}{xs:List (Nat×Operand)}{vs:LT}(h:EVp G xs vs){a:Act}{w:World}(hg:G a w):(xs.toArray.map fun((i,x):Nat×Operand)=>(i,a.eval x))=vs.toArray:=by
 have:(xs.map fun((i,x):Nat×Operand)=>(i,a.eval x))=vs:=by
  induction h with
  | nil=>rfl
  | cons h1 _ ih=>simp only[List.map_cons,h1 a w hg,ih]
 simp[this]
theorem evp {G:Kn}{xs:List (Nat×Operand)}{vs:LT}(h:EVp G xs vs:=by repeat (first | exact EVp.nil | (apply EVp.cons;exact ev))):EVp G xs vs:=h
section
variable {D:List Deferred}{nt:Nat}{w0:World}{L:LT}{M:MT}{R:List Rw}{x y z:Operand}{v v2:Value}{ops:Array Oper}{rest:List Oper}{Q:Exit->Act->World->Prop}{X:Act->World->Prop}{tyo t ty e:TypeId}{ps:String}{af:Array Edge}{d:Nat}{G:Kn}
theorem PR.bd (cs:Array Value){parts:List (Nat×Operand)}{vs:LT}(hp:EVp G parts vs:=by exact evp)(hb:Tryz.prog.built t vs=some cs:=by kernel_rfl):PR Tryz.prog G (.build t parts.toArray) (.agg cs):=fun a w _ ho hg=>run_blt ho (hp.arr hg) (by simpa using hb)
theorem bs (cs:Array Value){k:Nat}{parts:List (Nat×Operand)}{vs:LT}(h:∀ g,KX D nt w0 ((d,.slice (some ⟨g,0,none⟩) k k)::L) ((g,isB e cs)::M) R (wpList Tryz.prog ops Q rest))(hu:und t=some (.slice e):=by rfl)(hp:EVp (St D nt w0 L M R) parts vs:=by exact evp)(hr:∀ w,(Instr.buildSlice t k vs.toArray).run Tryz.prog w = .ok (.slice (some ⟨w.heap.size,0,none⟩) k k) (w.alloc (.cells cs e)):=by intro _;kernel_rfl)(hb:Nat.blt d nt=true:=by rfl):KX D nt w0 L M R (wpList Tryz.prog ops Q (⟨some d,.buildSlice t k parts.toArray,tyo,ps,af,none⟩::rest)):=fun a w hs=>
 sq hs.f (wantedS rfl) (v:=.slice (some ⟨w.heap.size,0,none⟩) k k) (w2:=w.alloc (.cells cs e)) (by
  unfold execOp
  simp only[hp.arr hs,hr w,Sem.run_bind,Result.andThen_ok,Sem.run_pure]) rfl (Nat.le_of_ble_eq_true hb) fun a2 hF=>h w.heap.size a2 _ (hs.new (S:=isB e cs) hb ((Below.refl _ _).alloc (Nat.le_refl _) _) (Nat.le_refl _) ⟨_,Blk.new _ _ _,rfl⟩ hF)
theorem kOwn {m n:Nat}{xs:List Value}{op:Op}{c:Nat}(hr:∀ a w,St D nt w0 L M R a w->∃ w2,(execOp a.eval ⟨some d,op,tyo,ps,af,none⟩).run Tryz.prog w = .ok (.value (.slice (some ⟨w.heap.size,0,none⟩) n c)) w2/\Below w.heap.size w w2/\w2.ownsRow w.heap.size e m (.slice (some ⟨w.heap.size,0,none⟩) n c) n xs)(h:∀ v,KX D nt w0 ((d,v)::L) M (⟨v,e,m,n,xs⟩::R) (wpList Tryz.prog ops Q rest))(hb:Nat.blt d nt=true:=by rfl):KX D nt w0 L M R (wpList Tryz.prog ops Q (⟨some d,op,tyo,ps,af,none⟩::rest)):=fun a w hs=>by
 obtain⟨w2,h1,h2,h3⟩:=hr a w hs
 refine sq hs.f (wantedS rfl) h1 rfl (Nat.le_of_ble_eq_true hb) fun a2 hF=>h _ a2 w2 ⟨hF,hs.m.grow h2,fun x hx=>?_,List.Pairwise.cons (fun x hx=>apart_new (hs.r x hx) h3) hs.nd⟩
 rcases List.mem_cons.1 hx with rfl | hx
 ·exact OwnR.ofCall hs.m h3
 ·exact(hs.r x hx).grow h2
theorem o0 {m:Nat}(h:∀ v,KX D nt w0 ((d,v)::L) M (⟨v,e,m,0,[]⟩::R) (wpList Tryz.prog ops Q rest))(hu:und t=some (.slice e):=by rfl)(hz:szT e=some m:=by rfl)(hb:Nat.blt d nt=true:=by rfl):KX D nt w0 L M R (wpList Tryz.prog ops Q (⟨some d,.buildSlice t 0 #[],tyo,ps,af,none⟩::rest)) :=
 kOwn (c:=0) (fun a w _=>⟨_,run_none rfl (und_ok hu) (szT_ok hz w),(Below.refl _ _).alloc (Nat.le_refl _) _,by simp,.inr ⟨w.heap.size,0,#[],rfl,Nat.le_refl _,heap_alloc_new w _,Nat.le_refl _,by unfold maxLen;omega,by simp,by simp⟩⟩) h hb
theorem mk0 {m b c:Nat}{kl kc:IntKind}{p:Int}(h:∀ v,KX D nt w0 ((d,v)::L) M (⟨v,e,m,0,[]⟩::R) (wpList Tryz.prog ops Q rest))(hE:elT t=some (e,m,b):=by rfl)(hx:EV (St D nt w0 L M R) x (.int kl 0):=by exact ev)(hy:EV (St D nt w0 L M R) y (.int kc p):=by exact ev)(hp:p=(c:Int):=by first | rfl | omega)(hc:b*c<=281474976710656:=by omega)(hc2:c<=maxLen:=by unfold maxLen;omega)(hb:Nat.blt d nt=true:=by rfl):KX D nt w0 L M R (wpList Tryz.prog ops Q (⟨some d,.makeSlice t x y,tyo,ps,af,none⟩::rest)) :=
 kOwn (c:=c) (fun a w hs=>by
  obtain⟨i,z,hi,hz,hsz,hby,hzs⟩:=(elT_ok hE).inf
  subst hp hby
  obtain⟨w2,hr,h1,h2⟩:=run_make_own (P:=Tryz.prog) w w.heap.size t e i z m (elT_ok hE).un hi hz hsz kl kc c hc hc2 (Nat.le_refl _)
  refine⟨w2,?_,⟨h2.os,h2.tape,h2.output,h2.size,fun b hb=>h2.block b hb (by simp)⟩,h1⟩
  unfold execOp
  simp only[hx a w hs,hy a w hs,Sem.run_bind,hr,Result.andThen_ok,Sem.run_pure]) h hb
theorem OwnR.keepG {w w2:World}{m n:Nat}{u:Value}{xs:List Value}(h:OwnR w0 M w e m u n xs){o:Option Nat}(hg:w.grownBy w2 o)(hn:∀ g,u.ownBlock=some g->o≠some g):OwnR w0 M w2 e m u n xs:=by
 refine⟨⟨h.owns.1,?_⟩,h.far⟩
 rcases h.owns.2 with h1 | ⟨g,cap,cur,rfl,h2,hh,h3⟩
 ·exact .inl h1
 ·exact .inr ⟨g,cap,cur,rfl,h2,(hg.block g (lt_of_ob hh) (fun e2=>hn g rfl e2.symm)).trans hh,h3⟩
theorem set_at {α:Type}{l:List α}{i:Nat}{x y:α}(h:y∈l.set i x):y=x ∨ ∃ j,j≠i/\l[j]?=some y:=by
 obtain⟨j,hj⟩:=List.mem_iff_getElem?.1 h
 rw[List.getElem?_set] at hj
 split at hj
 ·split at hj
  ·exact .inl (by injection hj with hj;exact hj.symm)
  ·cases hj
 ·rename_i hne
  exact .inr ⟨j,fun e=>hne e.symm,hj⟩
theorem pw_ne {α:Type}{P:α->α->Prop}(hs:∀ a b,P a b->P b a){l:List α}(h:l.Pairwise P){i j:Nat}{x y:α}(hi:l[i]?=some x)(hj:l[j]?=some y)(hn:i≠j):P x y:=by
 obtain⟨h1,rfl⟩:=List.getElem?_eq_some_iff.1 hi
 obtain⟨h2,rfl⟩:=List.getElem?_eq_some_iff.1 hj
 rcases Nat.lt_or_gt_of_ne hn with h3 | h3
 ·exact List.pairwise_iff_getElem.1 h i j h1 h2 h3
 ·exact hs _ _ (List.pairwise_iff_getElem.1 h j i h2 h1 h3)
theorem pw_set {α:Type}{P:α->α->Prop}(hs:∀ a b,P a b->P b a):∀ {l:List α} {i:Nat} {x:α},l.Pairwise P->(∀ j y,j≠i->l[j]?=some y->P x y)->(l.set i x).Pairwise P
 | [],_,_,_,_=>by simp
 | a::l,0,x,h,hx=>by
  rw[List.set_cons_zero]
  refine .cons (fun y hy=>?_) (List.pairwise_cons.1 h).2
  obtain⟨j,hj⟩:=List.mem_iff_getElem?.1 hy
  exact hx (j+1) y (by omega) (by simpa using hj)
 | a::l,i+1,x,h,hx=>by
  rw[List.set_cons_succ]
  refine .cons (fun y hy=>?_) (pw_set hs (List.pairwise_cons.1 h).2 fun j y hn hj=>hx (j+1) y (by omega) (by simpa using hj))
  rcases set_at hy with rfl | ⟨j,_,hj⟩
  ·exact hs _ _ (hx 0 a (by omega) (by simp))
  ·exact(List.pairwise_cons.1 h).1 y (List.mem_of_getElem? hj)
theorem apB_symm (x y:Rw)(h:apartB x.v y.v):apartB y.v x.v:=fun g h1 h2=>h g h2 h1
theorem kAp (i:Nat){m b n0 k c:Nat}{xs news:List Value}{ad:Addr}(hi:R[i]?=some ⟨v,e,m,n0,xs⟩)(hE:elT t=some (e,m,b))(hx:EV (St D nt w0 L M R) x v)(hy:EV (St D nt w0 L M R) y (.slice (some ad) k c))(hl:news.length=k*m)(hnews:∀ a w,St D nt w0 L M R a w->∀ j u,news[j]?=some u->w.cell? (ad.add j)=some u)(h1:∀ u∈news,u.oneCell'=true)(h63:n0+k<=maxLen)(hbytes:(n0+k)*b<=140737488355328)
  (h:∀ v2,KX D nt w0 ((d,v2)::L) M (R.set i ⟨v2,e,m,n0+k,xs++news⟩) (wpList Tryz.prog ops Q rest)) (hb:Nat.blt d nt=true):KX D nt w0 L M R (wpList Tryz.prog ops Q (⟨some d,.call { callee:=.builtin .append,args:=#[x,y],argTypes:=#[t,t] },tyo,ps,af,none⟩::rest)):=fun a w hs=>by
 obtain⟨ti,z,hti,hz,hsz,hby,hzs⟩:=(elT_ok hE).inf
 have hO:=hs.row i hi
 obtain⟨v2,w2,hr,h2,h3,h4⟩:=run_append_own (P:=Tryz.prog) w w0.heap.size t tyo e ti z m b (elT_ok hE).un hti hz hsz hby hzs (elT_ok hE).pos v n0 xs hO.owns ad k c news hl (hnews a w hs) h1 h63 hbytes hs.m.below.size
 have hblk:=append_block (P:=Tryz.prog) (elT_ok hE).un hti hz hsz hby hO.owns hl (hnews a w hs) h1 h63 hbytes hr h4
 have hap:∀ j y,j≠i->R[j]?=some y->apartB v y.v:=fun j y hn hj=>pw_ne apB_symm hs.nd hi hj (fun e=>hn e.symm)
 refine sq hs.f (wantedS rfl) (v:=v2) (w2:=w2) ?_ rfl (Nat.le_of_ble_eq_true hb) fun a2 hF2=>h v2 a2 w2 ⟨hF2,hO.mem hs.m h3,fun q hq=>?_,pw_set apB_symm hs.nd fun j y hn hj=>?_⟩
 ·unfold execOp
  simp only[resolve,invoke,builtin,Sem.run_bind,Sem.run_pure,Result.andThen_ok,List.map_toArray,List.map_cons,List.map_nil,hx a w hs,hy a w hs,hr]
 ·rcases set_at hq with rfl | ⟨j,hn,hj⟩
  ·exact hO.next hs.m h2 hblk
  ·exact(hs.r q (List.mem_of_getElem? hj)).keepG h3 fun g hg hq=>hap j q hn hj g hq hg
 ·intro g hg hq
  rcases hblk with h5 | ⟨g2,h5,h6⟩
  ·exact hap j y hn hj g (h5.symm.trans hg) hq
  ·have h7:=own_lt_size (hs.r y (List.mem_of_getElem? hj)).owns hq
   rw[h5] at hg
   injection hg with hg
   omega
theorem ap (i:Nat){m b n0 k c g:Nat}{e2:TypeId}{xs:List Value}{cs:Array Value}(h:∀ v2,KX D nt w0 ((d,v2)::L) M (R.set i ⟨v2,e,m,n0+k,xs++cs.toList⟩) (wpList Tryz.prog ops Q rest))(hi:R[i]?=some ⟨v,e,m,n0,xs⟩:=by rfl)(hE:elT t=some (e,m,b):=by rfl)(hx:EV (St D nt w0 L M R) x v:=by exact ev)(hy:EV (St D nt w0 L M R) y (.slice (some ⟨g,0,none⟩) k c):=by exact ev)(hm:MB (St D nt w0 L M R) g e2 cs:=by exact mb)(hl:cs.toList.length=k*m:=by rfl)(h1:(cs.toList.all fun u=>u.oneCell')=true:=by rfl)(h63:n0+k<=maxLen:=by unfold maxLen;omega)(hbytes:(n0+k)*b<=140737488355328:=by omega)(hb:Nat.blt d nt=true:=by rfl):KX D nt w0 L M R (wpList Tryz.prog ops Q (⟨some d,.call { callee:=.builtin .append,args:=#[x,y],argTypes:=#[t,t] },tyo,ps,af,none⟩::rest)) :=
 kAp i hi hE hx hy hl (fun a w hs j u hj=>blkNews (hm a w hs) j u hj) (all_one h1) h63 hbytes h hb
theorem Sl.adr {w:World}{m n:Nat}{cs:List Value}(h:Sl w v m n cs):(∃ c,v = .slice none 0 c/\n=0/\cs = []) ∨ ∃ ad c,v = .slice (some ad) n c ∧ ∀ (W:World),Below w.heap.size w W->∀ j u,cs[j]?=some u->W.cell? (ad.add j)=some u:=by
 have hl:=h.1
 rcases h.2 with⟨⟨ad,c,rfl⟩,rfl⟩ | ⟨b,off,c,rfl,hb,hc⟩
 ·have h0:cs = []:=List.eq_nil_of_length_eq_zero (by omega)
  cases ad with
  | none=>exact .inl ⟨c,rfl,rfl,h0⟩
  | some ad=>exact .inr ⟨ad,c,rfl,fun W _ j u hj=>by rw[h0] at hj;simp at hj⟩
 ·exact .inr ⟨_,c,rfl,fun W hW j u hj=>by rw[addr_add];exact(World.cell?_of_block (hW.block _ hb)).trans (hc j u hj)⟩
end
end
end Go.Proofs.YtdjholkjkbihmaaGreatDoor
