/- Laws and walks of TopNeverOther. -/
import Derived.Laws.CopyRow
import Derived.Test.YtdjholkjkbihmaaGreatDoorF02
namespace Go.Proofs.YtdjholkjkbihmaaGreatDoor
open Go.RowKit
set_option maxRecDepth 100000
set_option maxHeartbeats 4000000
section

section
variable {P:Program}{l:List Oper}
theorem wp_region_inv2 {id:Nat}{Q:Exit->Act->World->Prop}{a0:Act}{w:World}(n:Nat)(hm:P.follows .mixedOrders=true)(hB:looseB l n=true)(Inv:(Nat->Bool)->Act->World->Prop)(h0:Inv (fun _=>false) a0 w.drew)
  (hstep:∀ (L:Nat->Bool) a W i o,Inv L a W->l[i]?=some o->L i=false->(∀ j,Region.waitsFor .any l.toArray i j=true->L j=true) →
   (Region.wanted o (yielded l.toArray a.tmps)=true/\GivesT P (fun _=>True) (fun v W'=>Inv (fun j=>L j||j==i) (a.put o.dst v) W') ((execOp a.eval o).run P W))\/(Region.wanted o (yielded l.toArray a.tmps)=false/\Inv (fun j=>L j||j==i) (a.put o.dst undef) W))
  (hend:∀ L a W,(∀ j,j<l.length->L j=true)->Inv L a W->Q .normal a W):(Code.region id l.toArray true).wp P Q a0 w:=by
 refine wp_region_any hm ?_
 have main:∀ (f:Nat) (listed:Array Bool) (a:Act) (W:World),listed.size=l.length->openN l.length listed=f->Inv (fun j=>listed.getD j false) a W->wpAny P .any l.toArray Q f listed a W:=by
  intro f
  induction f with
  | zero=>
   intro listed a W hsz hf hI
   have hno:Region.ready .any l.toArray listed = []:=by
    refine Classical.byContradiction fun hc=>?_
    obtain⟨j,hj⟩:=List.exists_mem_of_ne_nil _ hc
    obtain⟨hu,o,ho,_⟩:=mem_ready.1 hj
    have hjl:j<l.length:=by simpa using (Array.getElem?_eq_some_iff.1 ho).1
    have:=openN_set l.length listed j hjl hsz hu
    omega
   refine⟨hno,hend _ a W (fun j hj=>?_) hI⟩
   have hjs:j<listed.size:=by omega
   cases hu:listed.getD j true with
   | true=>
    simp only[Array.getD_eq_getD_getElem?,Array.getElem?_eq_getElem hjs,Option.getD_some] at hu ⊢
    exact hu
   | false=>
    have:=openN_set l.length listed j hj hsz hu
    omega
  | succ f ih=>
   intro listed a W hsz hf hI
   refine⟨fun h=>absurd h (ready_of_open hB hsz (by omega)),fun i hi=>?_⟩
   obtain⟨hu,o,ho,hwait⟩:=mem_ready.1 hi
   have hio:l[i]?=some o:=by simpa using ho
   have hil:=(List.getElem?_eq_some_iff.1 hio).1
   have his:i<listed.size:=by omega
   have hL0:listed.getD i false=false:=by
    simp only[Array.getD_eq_getD_getElem?,Array.getElem?_eq_getElem his,Option.getD_some] at hu ⊢
    exact hu
   have hext:(fun j=>(listed.setIfInBounds i true).getD j false)=fun j=>listed.getD j false||j==i:=by
    funext j
    simp only[Array.getD_eq_getD_getElem?,Array.getElem?_setIfInBounds]
    by_cases hj:i=j
    ·subst hj;simp[his]
    ·rw[if_neg hj,beq_eq_false_iff_ne.2 (fun e=>hj e.symm),Bool.or_false]
   have hlist:∀ j,Region.waitsFor .any l.toArray i j=true->listed.getD j false=true:=by
    intro j hj
    obtain⟨o',ho',e,he,hb,hon⟩:=Region.waitsFor_spec hj
    have e1:o'=o:=Option.some.inj (ho'.symm.trans ho)
    subst e1
    rw[←hon];exact hwait e he hb
   have go:∀ v W',Inv (fun j=>listed.getD j false||j==i) (a.put o.dst v) W'->wpAny P .any l.toArray Q f (listed.setIfInBounds i true) (a.put o.dst v) W':=by
    intro v W' h
    exact ih _ _ _ (by simpa using hsz) (by have:=openN_set l.length listed i hil hsz hu;omega) (by rw[hext];exact h)
   rcases hstep _ a W i o hI hio hL0 hlist with⟨hw,hg⟩ | ⟨hw,hI2⟩
   rotate_left
   ·unfold wpOp
    simp only[ho]
    rw[if_neg (by rw[hw];decide)]
    exact go _ _ hI2
   unfold wpOp
   simp only[ho]
   rw[if_pos hw]
   left
   unfold Oper.wp
   generalize (execOp a.eval o).run P W=r at hg
   cases r with
   | ok x w'=>
    cases x <;> simp only[GivesT] at hg
    case value u=>exact go _ _ hg.2
    case skip=>exact go _ _ hg.2
    case enter f' args=>
     show Calls P f' args w' _
     refine hg.mono ?_
     rintro e w'' ⟨v,rfl,_,h2⟩
     exact go _ _ h2
   | halt x w'=>simp only[GivesT] at hg
 have h1:openN l.length (Array.replicate l.toArray.size false)=l.toArray.size:=by
  unfold openN
  have:((List.range l.length).filter fun i=>(Array.replicate l.toArray.size false).getD i true==false)=List.range l.length:=by
   apply List.filter_eq_self.2
   intro i hi
   rw[List.mem_range] at hi
   simp[hi]
  rw[this];simp
 refine main _ _ _ _ (by simp) h1 ?_
 have e:(fun j=>(Array.replicate l.toArray.size false).getD j false)=fun _=>false:=by funext j;exact getD_replicate_false _ _
 rw[e]
 exact h0
end
structure OldQ where
 iS:Nat
 g:Nat
 t:TypeId
 old:Array Value
 o:Nat
 k:Kp
abbrev GQ (BL:List OldQ)(RL:List RowZ):List Nat:=BL.map (·.g)++RL.flatMap fun r=>r.v.ownBlock.toList
def RegionInvQ (P:Program)(l:List Oper)(a0:Act)(w:World)(Q:Exit->Act->World->Prop)(C:Prop):Prop :=
 ∀ Inv:(Nat->Bool)->Act->World->Prop,Inv (fun _=>false) a0 w.drew →
  (∀ L a W i o,Inv L a W->l[i]?=some o->L i=false->(∀ j,Region.waitsFor .any l.toArray i j=true->L j=true) →
   (Region.wanted o (yielded l.toArray a.tmps)=true/\GivesT P (fun _=>True) (fun v W'=>Inv (fun j=>L j||j==i) (a.put o.dst v) W') ((execOp a.eval o).run P W))\/(Region.wanted o (yielded l.toArray a.tmps)=false/\Inv (fun j=>L j||j==i) (a.put o.dst undef) W)) →
  (∀ L a W,(∀ j,j<l.length->L j=true)->Inv L a W->Q .normal a W)->C
def splQ (cs:Array Value)(o:Nat)(ys:List Value):Array Value:=(cs.toList.take o++ys++cs.toList.drop (o+ys.length)).toArray
def filledQ (f:Value->Array Value)(B:Nat)(k:Kp)(t:TypeId)(g:Nat)(W:World):Prop:=∃ V,Blk W g t (f V)/\k.sat B V W
abbrev cellsF :Value->Array Value:=fun V=>V.cells
abbrev OldQ.f (b:OldQ):Value->Array Value:=fun V=>splQ b.old b.o V.cells.toList
section
variable {P:Program}{l:List Oper}
theorem run_stQ {P:Program}{w:World}{g o n:Nat}{t ty:TypeId}{v:Value}{cur:Array Value}(hB:Blk w g t cur)(hi:(P.info? ty).map (·.size)=some n)(hV:v.cells.size=n)(h1:v.cells.all (·.oneCell')=true)(ho:o+n<=cur.size):(storeVar ty ⟨g,o,none⟩ v).run P w = .ok () (w.setRow g (splQ cur o v.cells.toList)):=by
 have h:=run_storeCells_at P g o t v.cells.toList 0 cur w hB (by simpa[hV] using ho) (fun u hu=>Array.all_eq_true_iff_forall_mem.1 h1 u (by simpa using hu))
 cases hq:P.info? ty with
 | none=>simp[hq] at hi
 | some i=>
  have hs2:i.size=n:=by simpa[hq] using hi
  rw[Nat.add_zero] at h
  simp[storeVar,sizeOf,typeInfo,hq,hV,hs2,h,splQ]
structure PIQ (l:List Oper)(n:Nat)(a0:Act)(w:World)(KL:List Kp)(kill:List (Option Nat))(AL:List NewZ)(BL:List OldQ)(RL:List RowZ)(L:Nat->Bool)(a:Act)(W:World)(gs:Nat->Nat):Prop where
 tsz:a.tmps.size=n
 defers:a.defers=a0.defers
 had:Had l a0 a
 closed:∀ i j,L i=true->Region.waitsFor .any l.toArray i j=true->L j=true
 keep:KeepW (GQ BL RL) w W
 val:∀ (i:Nat) (o:Oper) (s:Nat),l[i]?=some o->o.dst=some s->L i=true->(∀ d∈AL,d.iA≠i)->(∀ K,kill.getD i none=some K->L K=false)->∃ v,a.tmps[s]?=some v/\(KL.getD i .any).sat w.heap.size v W
 ord:∀ (x:Nat) (d:NewZ),AL[x]?=some d->L d.iS=true->L d.iA=true
 blk:∀ (x:Nat) (d:NewZ),AL[x]?=some d->L d.iA=true->a.tmps[d.slot]?=some (.pointer (some ⟨gs x,0,none⟩))/\w.heap.size<=gs x/\(L d.iS=false->Blk W (gs x) d.t d.z)/\(L d.iS=true->filledQ cellsF w.heap.size d.k d.t (gs x) W)
 apart:∀ (x y:Nat) (d e:NewZ),AL[x]?=some d->AL[y]?=some e->x≠y->L d.iA=true->L e.iA=true->gs x≠gs y
 held:∀ (j s:Nat),dstB l j s=true->L j=false->a.tmps[s]?=a0.tmps[s]?
 rows:∀ r∈RL,L r.iA=false->W.ownsRow r.b r.e r.m r.v r.n r.xs
 old:∀ b∈BL,(L b.iS=false->Blk W b.g b.t b.old)/\(L b.iS=true->filledQ b.f w.heap.size b.k b.t b.g W)
inductive AskQ (P:Program)(l:List Oper)(a0:Act)(w:World)(KL:List Kp)(kill:List (Option Nat))(AL:List NewZ)(BL:List OldQ)(RL:List RowZ)(i:Nat)(o:Oper):Prop
 | val (s:Nat) (hs:o.dst=some s) (hA:∀ d∈AL,d.iA≠i/\d.iS≠i) (hB:∀ b∈BL,b.iS≠i) (hR:∀ r∈RL,r.iA≠i)
   (h:∀ (a:Act) (W:World),KeepW (GQ BL RL) w W->Had l a0 a->DepZ l a0 w KL kill AL i a W->(∀ b∈BL,behindB l b.iS i=true->Blk W b.g b.t b.old)->(Region.wanted o (yielded l.toArray a.tmps)=true/\GivesT P (Below W.heap.size W) (fun v W'=>(KL.getD i .any).sat w.heap.size v W') ((execOp a.eval o).run P W))\/(Region.wanted o (yielded l.toArray a.tmps)=false/\(KL.getD i .any).sat w.heap.size undef W))
 | app (s j sj:Nat) (e:TypeId) (m c:Nat) (xs:List Value) (hs:o.dst=some s) (hA:∀ d∈AL,d.iA≠i/\d.iS≠i) (hB:∀ b∈BL,b.iS≠i) (hR:∀ r∈RL,r.iA≠i) (hj:depB l i j sj=true) (hjn:∀ d∈AL,d.iA≠j) (hkj:kill.getD j none=some i) (hKj:KL.getD j .any = .row e m c xs)
   (hK:((List.range l.length).all fun q=>(KL.getD q .any).safe e||killedB l kill q i||behindB l q i||q==i)=true)
   (hAe:(AL.all fun d=>!(Nat.beq d.t e)&&(d.k.safe e||behindB l d.iS i))=true) (hBe:(BL.all fun b=>!(Nat.beq b.t e)&&(b.k.safe e||behindB l b.iS i))=true)
   (h:∀ (a:Act) (W:World) (u:Value),KeepW (GQ BL RL) w W->Had l a0 a->DepZ l a0 w KL kill AL i a W->a.tmps[sj]?=some u->W.ownsRow w.heap.size e m u c xs->Region.wanted o (yielded l.toArray a.tmps)=true/\GivesT P (fun W'=>W.grownBy W' u.ownBlock) (fun v W'=>(KL.getD i .any).sat w.heap.size v W') ((execOp a.eval o).run P W))
 | appO (s:Nat) (r:RowZ) (hr:r∈RL) (hi:r.iA=i) (hs:o.dst=some s) (hA:∀ d∈AL,d.iA≠i/\d.iS≠i) (hB:∀ b∈BL,b.iS≠i) (h1:RL.length<=1)
   (hK:((List.range l.length).all fun q=>(KL.getD q .any).safe r.e||killedB l kill q i||behindB l q i||q==i)=true) (hAe:(AL.all fun d=>d.k.safe r.e||behindB l d.iS i)=true) (hBe:(BL.all fun b=>b.k.safe r.e||behindB l b.iS i)=true)
   (h:∀ (a:Act) (W:World),KeepW (GQ BL RL) w W->Had l a0 a->DepZ l a0 w KL kill AL i a W->W.ownsRow r.b r.e r.m r.v r.n r.xs->Region.wanted o (yielded l.toArray a.tmps)=true/\GivesT P (fun W'=>W.grownBy W' r.v.ownBlock) (fun v W'=>(KL.getD i .any).sat w.heap.size v W') ((execOp a.eval o).run P W))
 | new (x:Nat) (d:NewZ) (hx:AL[x]?=some d) (hi:d.iA=i) (hs:o.dst=some d.slot) (hS:∀ d∈AL,d.iS≠i) (hB:∀ b∈BL,b.iS≠i) (hR:∀ r∈RL,r.iA≠i) (hA:∀ (y:Nat) (e:NewZ),AL[y]?=some e->e.iA=i->y=x)
   (h:∀ (a:Act) (W:World),Region.wanted o (yielded l.toArray a.tmps)=true/\(execOp a.eval o).run P W = .ok (.value (.pointer (some ⟨W.heap.size,0,none⟩))) (W.alloc (.cells d.z d.t)))
 | put (x:Nat) (d:NewZ) (hx:AL[x]?=some d) (hi:d.iS=i) (hs:o.dst=none) (hA:∀ d∈AL,d.iA≠i) (hB:∀ b∈BL,b.iS≠i) (hR:∀ r∈RL,r.iA≠i) (hS:∀ (y:Nat) (e:NewZ),AL[y]?=some e->e.iS=i->y=x) (hw:Region.waitsFor .any l.toArray i d.iA=true) (m:Nat) (ty:TypeId) (X Y:Operand) (hop:o.op = .store ty X Y) (hX:X = .tmp d.slot)
   (hY:∀ (a:Act) (W:World),KeepW (GQ BL RL) w W->Had l a0 a->DepZ l a0 w KL kill AL i a W->d.k.sat w.heap.size (a.eval Y) W/\(a.eval Y).cells.size=m/\(a.eval Y).cells.all (·.oneCell')=true) (hg:o.guard=none) (hsz:(P.info? ty).map (·.size)=some m) (hz:d.z.size=m)
 | putO (x:Nat) (b:OldQ) (hx:BL[x]?=some b) (hi:b.iS=i) (hs:o.dst=none) (hA:∀ d∈AL,d.iA≠i/\d.iS≠i) (hS:∀ (y:Nat) (e:OldQ),BL[y]?=some e->e.iS=i->y=x) (hR:∀ r∈RL,r.iA≠i) (m:Nat) (ty:TypeId) (X Y:Operand) (hop:o.op = .store ty X Y) (hX:∀ (a:Act) (W:World),KeepW (GQ BL RL) w W->Had l a0 a->DepZ l a0 w KL kill AL i a W->a.eval X = .pointer (some ⟨b.g,b.o,none⟩))
   (hY:∀ (a:Act) (W:World),KeepW (GQ BL RL) w W->Had l a0 a->DepZ l a0 w KL kill AL i a W->b.k.sat w.heap.size (a.eval Y) W/\(a.eval Y).cells.size=m/\(a.eval Y).cells.all (·.oneCell')=true) (hg:o.guard=none) (hsz:(P.info? ty).map (·.size)=some m) (hz:b.o+m<=b.old.size)
def AskAllQ (P:Program)(l:List Oper)(a0:Act)(w:World)(KL:List Kp)(kill:List (Option Nat))(AL:List NewZ)(BL:List OldQ)(RL:List RowZ):Nat->List Oper->Prop
 | _,[]=>True
 | i,o::rest=>AskQ P l a0 w KL kill AL BL RL i o/\AskAllQ P l a0 w KL kill AL BL RL (i+1) rest
theorem AskAllQ.at {a0:Act}{w:World}{KL:List Kp}{kill:List (Option Nat)}{AL:List NewZ}{BL:List OldQ}{RL:List RowZ}:∀ {r:List Oper} {k:Nat},AskAllQ P l a0 w KL kill AL BL RL k r->∀ i o,r[i]?=some o->AskQ P l a0 w KL kill AL BL RL (k+i) o
 | [],_,_,i,o,h=>by simp at h
 | x::r,k,h,0,o,ho=>by
  simp only[List.getElem?_cons_zero,Option.some.injEq] at ho
  subst ho
  exact h.1
 | x::r,k,h,i+1,o,ho=>by
  have:=AskAllQ.at h.2 i o (by simpa using ho)
  rwa[show k+1+i=k+(i+1) by omega] at this
def safeQ (KL:List Kp)(AL:List NewZ)(BL:List OldQ):Bool:=(AL.map (·.t)++BL.map (·.t)).all fun t=>KL.all (·.safe t)&&(AL.all (·.k.safe t)&&BL.all (·.k.safe t))
theorem safeQ_at {KL:List Kp}{AL:List NewZ}{BL:List OldQ}(h:safeQ KL AL BL=true){t:TypeId}(ht:t∈AL.map (·.t)\/t∈BL.map (·.t)):(∀ i,(KL.getD i .any).safe t=true)/\(∀ d∈AL,d.k.safe t=true) ∧ ∀ b∈BL,b.k.safe t=true:=by
 have h1:=List.all_eq_true.1 h t (List.mem_append.2 ht)
 simp only[Bool.and_eq_true,List.all_eq_true] at h1
 obtain⟨h2,h3,h4⟩:=h1
 refine⟨fun i=>?_,h3,h4⟩
 rw[List.getD_eq_getElem?_getD]
 cases hk:KL[i]? with
 | none=>rfl
 | some k=>exact h2 k (List.mem_of_getElem? hk)
theorem filledQ.keep {f:Value->Array Value}{B:Nat}{k:Kp}{t:TypeId}{g:Nat}{W W':World}{ob:Option Nat}(h:filledQ f B k t g W)(hg:W.grownBy W' ob)(h1:some g≠ob)(h2:∀ g cur x,k.uses x->W.heap[g]?=some (.cells cur x (0,0))->some g≠ob):filledQ f B k t g W':=by
 obtain⟨V,h3,h4⟩:=h
 exact⟨V,(hg.block g h3.lt h1).trans h3,Kp.keep hg h4 h2⟩
theorem region_q {C:Prop}{Q:Exit->Act->World->Prop}{a0:Act}{w:World}(n:Nat)(KL:List Kp)(kill:List (Option Nat))(AL:List NewZ)(BL:List OldQ)(RL:List RowZ)(hR:RegionInvQ P l a0 w Q C)(hB:looseB l n=true)(hn:a0.tmps.size=n)
  (hAd:∀ d∈AL,d.iS<l.length ∧ ∃ o,l[d.iA]?=some o/\o.dst=some d.slot) (hBd:∀ b∈BL,b.iS<l.length/\Blk w b.g b.t b.old) (hBn:∀ (x y:Nat) (b c:OldQ),BL[x]?=some b->BL[y]?=some c->x≠y->b.g≠c.g) (hRd:∀ r∈RL,w.ownsRow r.b r.e r.m r.v r.n r.xs ∧ ∀ b∈BL,r.v.ownBlock≠some b.g) (hsafe:safeQ KL AL BL=true) (hop:AskAllQ P l a0 w KL kill AL BL RL 0 l)
  (hend:∀ (a:Act) (W:World) (gs:Nat->Nat),PIQ l n a0 w KL kill AL BL RL (fun j=>decide (j<l.length)) a W gs->Q .normal a W):C:=by
 refine hR (fun L a W=>(∀ j,L j=true->j<l.length) ∧ ∃ gs,PIQ l n a0 w KL kill AL BL RL L a W gs) ⟨fun _ h=>(by cases h),fun _=>0,hn,rfl,fun s v _ h=>h,fun _ _ h=>(by cases h),KeepW.ofBelow (Below.refl _ _).drew,fun i o s _ _ h=>(by cases h),fun x d _ h=>(by cases h),fun x d _ h=>(by cases h),fun x y d e _ _ _ h=>(by cases h),fun _ _ _ _=>rfl,fun r hr _=>ownsRow_keep0 (hRd r hr).1 (below_grownP (Below.refl _ _).drew none) (by simp),fun b hb=>⟨fun _=>(hBd b hb).2,fun h=>(by cases h)⟩⟩ ?_ ?_
 ·rintro L a W i o ⟨hLl,gs,I⟩ hio hLi hwait
  have hil:=(List.getElem?_eq_some_iff.1 hio).1
  have hAt:=AskAllQ.at hop i o hio
  rw[Nat.zero_add] at hAt
  have hLl2:∀ j,(L j||j==i)=true->j<l.length:=by
   intro j h
   by_cases e:j=i
   ·rw[e];exact hil
   ·rw[beq_eq_false_iff_ne.2 e,Bool.or_false] at h
    exact hLl j h
  have hor:∀ j,(L j||j==i)=true->j≠i->L j=true:=by
   intro j h hne
   rw[beq_eq_false_iff_ne.2 hne,Bool.or_false] at h
   exact h
  have hclosed:∀ i' j,(L i'||i'==i)=true->Region.waitsFor .any l.toArray i' j=true->(L j||j==i)=true:=by
   intro i' j h1 h2
   by_cases e1:i'=i
   ·subst e1
    rw[hwait j h2];rfl
   ·rw[I.closed i' j (hor _ h1 e1) h2];rfl
  have hbehind:∀ q,behindB l q i=true->L q=false:=by
   intro q hb
   cases hq:L q with
   | false=>rfl
   | true=>
    unfold behindB at hb
    simp only[Bool.or_eq_true,List.any_eq_true,Bool.and_eq_true] at hb
    rcases hb with hb | ⟨k,_,h1,h2⟩
    ·have:=I.closed q i hq hb;rw[hLi] at this;cases this
    ·have:=I.closed k i (I.closed q k hq h1) h2;rw[hLi] at this;cases this
  have hdep:DepZ l a0 w KL kill AL i a W:=by
   refine⟨?_,fun j s v h1 h2 h3=>by rw[I.held j s h1 (hbehind j h2)];exact h3⟩
   intro j s hb hnew hk
   simp only[depB,Bool.and_eq_true] at hb
   obtain⟨h1,h2⟩:=hb
   cases hj:l[j]? with
   | none=>rw[hj] at h2;cases h2
   | some oj=>
    rw[hj] at h2
    refine I.val j oj s hj (by simpa using h2) (hwait j h1) hnew fun K hK=>?_
    rcases hk K hK with h3 | h3
    ·rw[h3];exact hLi
    ·cases hq:L K with
     | false=>rfl
     | true=>have:=I.closed K i hq h3;rw[hLi] at this;cases this
  have heldK:∀ (v:Value) (j s:Nat),dstB l j s=true->(L j||j==i)=false->(a.put o.dst v).tmps[s]?=a0.tmps[s]?:=by
   intro v j s h1 h2
   simp only[Bool.or_eq_false_iff] at h2
   rw[←I.held j s h1 h2.1]
   have hji:j≠i:=fun e=>by rw[e,beq_self_eq_true] at h2;exact absurd h2.2 (by simp)
   unfold dstB at h1
   cases hj:l[j]? with
   | none=>rw[hj] at h1;cases h1
   | some oj=>
    rw[hj] at h1
    have hd:oj.dst=some s:=by simpa using h1
    cases hs:o.dst with
    | none=>rfl
    | some s2=>exact put_ne fun e=>hji (looseB_dst hB hio hs hj (e▸hd))
  have hkilled:∀ q,killedB l kill q i=true->∃ K,kill.getD q none=some K/\(L K||K==i)=true:=by
   intro q h
   unfold killedB at h
   cases hk:kill.getD q none with
   | none=>rw[hk] at h;cases h
   | some K=>
    rw[hk] at h
    simp only[Bool.or_eq_true,beq_iff_eq] at h
    rcases h with h | h
    ·exact⟨K,rfl,by rw[h,beq_self_eq_true,Bool.or_true]⟩
    ·exact⟨K,rfl,by rw[hwait K h,Bool.true_or]⟩
  have hold:∀ (v:Value) (s':Nat) (v':Value),l.all (fun o=>o.dst != some s')=true->a0.tmps[s']?=some v'->(a.put o.dst v).tmps[s']?=some v':=by
   intro v s' v' h1 h2
   cases hs:o.dst with
   | none=>exact I.had s' v' h1 h2
   | some s=>
    have:s≠s':=by
     rintro rfl
     have:=List.all_eq_true.1 h1 o (List.mem_of_getElem? hio)
     rw[hs] at this
     simp at this
    rw[put_ne this]
    exact I.had s' v' h1 h2
  have hkeep:∀ (j:Nat) (oj:Oper) (s':Nat) (v u:Value),l[j]?=some oj->oj.dst=some s'->j≠i->a.tmps[s']?=some u->(a.put o.dst v).tmps[s']?=some u:=by
   intro j oj s' v u hj hd hne h
   cases hs:o.dst with
   | none=>exact h
   | some s=>
    have:s≠s':=by
     rintro rfl
     exact hne (looseB_dst hB hio hs hj hd)
    rw[put_ne this];exact h
  -- what was known of values stays known
  have vals:∀ (v:Value) (W':World) (ob:Option Nat),W.grownBy W' ob->(∀ j,L j=true->(∃ K,kill.getD j none=some K/\(L K||K==i)=true) ∨ ∀ g cur x,(KL.getD j .any).uses x->W.heap[g]?=some (.cells cur x (0,0))->some g≠ob) →
    ∀ (j:Nat) (oj:Oper) (s:Nat),l[j]?=some oj->oj.dst=some s->(L j||j==i)=true->(∀ d∈AL,d.iA≠j)->(∀ K,kill.getD j none=some K->(L K||K==i)=false)->j≠i->∃ u,(a.put o.dst v).tmps[s]?=some u/\(KL.getD j .any).sat w.heap.size u W':=by
   intro v W' ob hg hs j oj s hj hd hL hnew hK hne
   have hL0:=hor j hL hne
   obtain⟨u,h1,h2⟩:=I.val j oj s hj hd hL0 hnew fun K hk=>by have:=hK K hk;simp only[Bool.or_eq_false_iff] at this;exact this.1
   refine⟨u,hkeep j oj s v u hj hd hne h1,Kp.keep hg h2 ?_⟩
   rcases hs j hL0 with h3 | h3
   ·obtain⟨K,h4,h5⟩:=h3
    rw[hK K h4] at h5
    cases h5
   ·exact h3
  have rblk:∀ r∈RL,∀ g,r.v.ownBlock=some g->g<w.heap.size:=fun r hr g hg=>own_lt_size (hRd r hr).1 hg
  have rowsKeep:∀ (W':World) (ob:Option Nat),W.grownBy W' ob->(∀ r∈RL,r.iA≠i)->(∀ r∈RL,∀ g,r.v.ownBlock=some g->some g≠ob)->∀ r∈RL,(L r.iA||r.iA==i)=false->W'.ownsRow r.b r.e r.m r.v r.n r.xs:=by
   intro W' ob hg _ hne r hr hL
   simp only[Bool.or_eq_false_iff] at hL
   exact ownsRow_keep0 (I.rows r hr hL.1) hg (hne r hr)
  cases hAt with
  | appO s r hr hi hs hA hBi h1 hK hAe hBe h=>
   have hRow:=I.rows r hr (by rw[hi];exact hLi)
   obtain⟨hw,hg⟩:=h a W I.keep I.had hdep hRow
   refine .inl ⟨hw,?_⟩
   have hsn:s<a.tmps.size:=by rw[I.tsz];exact looseB_lt hB hio hs
   have hub:∀ g,r.v.ownBlock=some g->∃ cur,W.heap[g]?=some (.cells cur r.e (0,0)):=by
    intro g hgq
    rcases hRow.2 with⟨h2,_⟩ | ⟨g2,cap,cur,h2,_,hh,_⟩
    ·rw[h2] at hgq;simp[Value.ownBlock] at hgq
    ·rw[h2] at hgq
     have:g2=g:=by simpa[Value.ownBlock] using hgq
     subst this
     exact⟨cur,hh⟩
   have hty:∀ (g:Nat) (cur:Array Value) (x:TypeId),x≠r.e->W.heap[g]?=some (.cells cur x (0,0))->some g≠r.v.ownBlock:=by
    intro g cur x hx hh hq
    obtain⟨cur2,h2⟩:=hub g hq.symm
    rw[hh] at h2
    injection h2 with h2
    injection h2 with _ h3 _
    exact hx h3
   have key:∀ v W',W.grownBy W' r.v.ownBlock->(KL.getD i .any).sat w.heap.size v W'->(∀ j,(L j||j==i)=true->j<l.length) ∧ ∃ gs,PIQ l n a0 w KL kill AL BL RL (fun j=>L j||j==i) (a.put o.dst v) W' gs:=by
    intro v W' hgr hTv
    refine⟨hLl2,gs,by rw[put_size];exact I.tsz,by rw[put_defers];exact I.defers,hold v,hclosed,I.keep.grown hgr (fun k hk=>.inr (List.mem_append_right _ (List.mem_flatMap.2 ⟨r,hr,by simp[hk]⟩))),fun j oj s' hj hd hL hnew hK'=>?_,fun x d hx hL=>?_,fun x d hx hL=>?_,fun x y d e hx hy hne h1 h2=>?_,heldK v,fun r2 hr2 hL=>?_,fun b hb'=>?_⟩
    ·by_cases e1:j=i
     ·subst e1
      have e2:oj=o:=Option.some.inj (hj.symm.trans hio)
      subst e2
      have e3:s'=s:=Option.some.inj (hd.symm.trans hs)
      subst e3
      exact⟨v,by rw[hs,put_same hsn],hTv⟩
     ·refine vals v W' _ hgr (fun q hq=>?_) j oj s' hj hd hL hnew hK' e1
      have h1:=List.all_eq_true.1 hK q (List.mem_range.2 (hLl q hq))
      simp only[Bool.or_eq_true] at h1
      rcases h1 with((h1 | h1) | h1) | h1
      ·exact .inr fun g cur x hx hh=>hty g cur x (fun e0=>Kp.safe_uses h1 (e0▸hx)) hh
      ·exact .inl (hkilled q h1)
      ·rw[hbehind q h1] at hq;cases hq
      ·rw[beq_iff_eq.1 h1,hLi] at hq;cases hq
    ·have hne:=hA d (List.mem_of_getElem? hx)
     have:=I.ord x d hx (hor _ hL hne.2)
     simp[this]
    ·have hne:=hA d (List.mem_of_getElem? hx)
     obtain⟨b1,b2,b3,b4⟩:=I.blk x d hx (hor _ hL hne.1)
     obtain⟨_,oA,hoA,hdA⟩:=hAd d (List.mem_of_getElem? hx)
     have eS:(L d.iS||d.iS==i)=L d.iS:=by rw[beq_eq_false_iff_ne.2 hne.2,Bool.or_false]
     have hde:=List.all_eq_true.1 hAe d (List.mem_of_getElem? hx)
     simp only[Bool.or_eq_true] at hde
     have hfar:some (gs x)≠r.v.ownBlock:=fun q=>by have:=rblk r hr _ q.symm;omega
     refine⟨hkeep _ oA _ v _ hoA hdA hne.1 b1,b2,fun q=>?_,fun q=>?_⟩
     ·have b:=b3 (eS▸q)
      exact(hgr.block _ b.lt hfar).trans b
     ·have q':L d.iS=true:=eS▸q
      refine(b4 q').keep hgr hfar ?_
      rcases hde with h1 | h1
      ·exact fun g cur x hx hh=>hty g cur x (fun e0=>Kp.safe_uses h1 (e0▸hx)) hh
      ·rw[hbehind _ h1] at q';cases q'
    ·exact I.apart x y d e hx hy hne (hor _ h1 (hA d (List.mem_of_getElem? hx)).1) (hor _ h2 (hA e (List.mem_of_getElem? hy)).1)
    ·have e0:r2=r:=by
      match RL,h1,hr,hr2 with
      | [q],_,hr,hr2=>rw[List.mem_singleton.1 hr,List.mem_singleton.1 hr2]
     rw[e0,hi,beq_self_eq_true,Bool.or_true] at hL
     cases hL
    ·have hne:=hBi b hb'
     obtain⟨b3,b4⟩:=I.old b hb'
     have eS:(L b.iS||b.iS==i)=L b.iS:=by rw[beq_eq_false_iff_ne.2 hne,Bool.or_false]
     have hde:=List.all_eq_true.1 hBe b hb'
     simp only[Bool.or_eq_true] at hde
     have hfar:some b.g≠r.v.ownBlock:=fun q=>(hRd r hr).2 b hb' q.symm
     refine⟨fun q=>?_,fun q=>?_⟩
     ·have b:=b3 (eS▸q)
      exact(hgr.block _ b.lt hfar).trans b
     ·have q':L b.iS=true:=eS▸q
      refine(b4 q').keep hgr hfar ?_
      rcases hde with h1 | h1
      ·exact fun g cur x hx hh=>hty g cur x (fun e0=>Kp.safe_uses h1 (e0▸hx)) hh
      ·rw[hbehind _ h1] at q';cases q'
   generalize (execOp a.eval o).run P W=r' at hg
   cases r' with
   | ok x w'=>
    cases x <;> simp only[GivesT] at hg
    case value u=>exact⟨trivial,key _ _ hg.1 hg.2⟩
    case skip=>exact⟨trivial,key _ _ hg.1 hg.2⟩
    case enter f' args=>
     show Calls P f' args w' _
     refine hg.mono ?_
     rintro e w'' ⟨v,rfl,h1,h2⟩
     exact⟨v,rfl,trivial,key _ _ h1 h2⟩
   | halt x w'=>simp only[GivesT] at hg
  | val s hs hA hBi hRi h=>
   have hOld:∀ b∈BL,behindB l b.iS i=true->Blk W b.g b.t b.old:=fun b hb h9=>(I.old b hb).1 (hbehind _ h9)
   have hsn:s<a.tmps.size:=by rw[I.tsz];exact looseB_lt hB hio hs
   have key:∀ v W',Below W.heap.size W W'->(KL.getD i .any).sat w.heap.size v W'->(∀ j,(L j||j==i)=true->j<l.length) ∧ ∃ gs,PIQ l n a0 w KL kill AL BL RL (fun j=>L j||j==i) (a.put o.dst v) W' gs:=by
    intro v W' hb hTv
    have hgr:=below_grownP hb none
    refine⟨hLl2,gs,by rw[put_size];exact I.tsz,by rw[put_defers];exact I.defers,hold v,hclosed,I.keep.grown hgr (fun k hk=>by cases hk),fun j oj s' hj hd hL hnew hK=>?_,fun x d hx hL=>?_,fun x d hx hL=>?_,fun x y d e hx hy hne h1 h2=>?_,heldK v,rowsKeep W' none hgr hRi (fun _ _ _ _=>by simp),fun b hb'=>?_⟩
    ·by_cases e1:j=i
     ·subst e1
      have e2:oj=o:=Option.some.inj (hj.symm.trans hio)
      subst e2
      have e3:s'=s:=Option.some.inj (hd.symm.trans hs)
      subst e3
      exact⟨v,by rw[hs,put_same hsn],hTv⟩
     ·exact vals v W' none hgr (fun j _=>.inr fun g cur x _ _=>by simp) j oj s' hj hd hL hnew hK e1
    ·have hne:=hA d (List.mem_of_getElem? hx)
     have:=I.ord x d hx (hor _ hL hne.2)
     simp[this]
    ·have hne:=hA d (List.mem_of_getElem? hx)
     obtain⟨b1,b2,b3,b4⟩:=I.blk x d hx (hor _ hL hne.1)
     obtain⟨_,oA,hoA,hdA⟩:=hAd d (List.mem_of_getElem? hx)
     have eS:(L d.iS||d.iS==i)=L d.iS:=by rw[beq_eq_false_iff_ne.2 hne.2,Bool.or_false]
     refine⟨hkeep _ oA _ v _ hoA hdA hne.1 b1,b2,fun q=>?_,fun q=>?_⟩
     ·have b:=b3 (eS▸q);exact b.below hb b.lt
     ·exact(b4 (eS▸q)).keep hgr (by simp) fun g cur x _ _=>by simp
    ·exact I.apart x y d e hx hy hne (hor _ h1 (hA d (List.mem_of_getElem? hx)).1) (hor _ h2 (hA e (List.mem_of_getElem? hy)).1)
    ·have hne:=hBi b hb'
     obtain⟨b3,b4⟩:=I.old b hb'
     have eS:(L b.iS||b.iS==i)=L b.iS:=by rw[beq_eq_false_iff_ne.2 hne,Bool.or_false]
     refine⟨fun q=>?_,fun q=>?_⟩
     ·have b:=b3 (eS▸q);exact b.below hb b.lt
     ·exact(b4 (eS▸q)).keep hgr (by simp) fun g cur x _ _=>by simp
   rcases h a W I.keep I.had hdep hOld with⟨hw,hg⟩ | ⟨hw,hu⟩
   rotate_left
   ·exact .inr ⟨hw,key undef W (Below.refl _ _) hu⟩
   refine .inl ⟨hw,?_⟩
   generalize (execOp a.eval o).run P W=r at hg
   cases r with
   | ok x w'=>
    cases x <;> simp only[GivesT] at hg
    case value u=>exact⟨trivial,key _ _ hg.1 hg.2⟩
    case skip=>exact⟨trivial,key _ _ hg.1 hg.2⟩
    case enter f' args=>
     show Calls P f' args w' _
     refine hg.mono ?_
     rintro e w'' ⟨v,rfl,h1,h2⟩
     exact⟨v,rfl,trivial,key _ _ h1 h2⟩
   | halt x w'=>simp only[GivesT] at hg
  | app s jd sj e m c xs hs hA hBi hRi hjd hjn hkj hKj hK hAe hBe h=>
   obtain⟨u,hu1,hu2⟩:=hdep.1 jd sj hjd hjn (fun K hk=>.inl (by rw[hkj] at hk;exact(Option.some.inj hk).symm))
   rw[hKj] at hu2
   have hu2:W.ownsRow w.heap.size e m u c xs:=hu2
   obtain⟨hw,hg⟩:=h a W u I.keep I.had hdep hu1 hu2
   refine .inl ⟨hw,?_⟩
   have hsn:s<a.tmps.size:=by rw[I.tsz];exact looseB_lt hB hio hs
   have hub:∀ g,u.ownBlock=some g->w.heap.size<=g ∧ ∃ cur,W.heap[g]?=some (.cells cur e (0,0)):=by
    intro g hgq
    rcases hu2.2 with⟨rfl,_⟩ | ⟨g2,cap,cur,rfl,h2,hh,_⟩
    ·simp[Value.ownBlock] at hgq
    ·have:g2=g:=by simpa[Value.ownBlock] using hgq
     subst this
     exact⟨h2,cur,hh⟩
   have hty:∀ (g:Nat) (cur:Array Value) (x:TypeId),x≠e->W.heap[g]?=some (.cells cur x (0,0))->some g≠u.ownBlock:=by
    intro g cur x hx hh hq
    obtain⟨_,cur2,h2⟩:=hub g hq.symm
    rw[hh] at h2
    injection h2 with h2
    injection h2 with _ h3 _
    exact hx h3
   have key:∀ v W',W.grownBy W' u.ownBlock->(KL.getD i .any).sat w.heap.size v W'->(∀ j,(L j||j==i)=true->j<l.length) ∧ ∃ gs,PIQ l n a0 w KL kill AL BL RL (fun j=>L j||j==i) (a.put o.dst v) W' gs:=by
    intro v W' hgr hTv
    refine⟨hLl2,gs,by rw[put_size];exact I.tsz,by rw[put_defers];exact I.defers,hold v,hclosed,I.keep.grown hgr (fun k hk=>.inl (hub k hk).1),fun j oj s' hj hd hL hnew hK'=>?_,fun x d hx hL=>?_,fun x d hx hL=>?_,fun x y d e hx hy hne h1 h2=>?_,heldK v,rowsKeep W' _ hgr hRi (fun r hr g h0 h9=>by have h7:=rblk r hr g h0;have h8:=(hub g h9.symm).1;omega),fun b hb'=>?_⟩
    ·by_cases e1:j=i
     ·subst e1
      have e2:oj=o:=Option.some.inj (hj.symm.trans hio)
      subst e2
      have e3:s'=s:=Option.some.inj (hd.symm.trans hs)
      subst e3
      exact⟨v,by rw[hs,put_same hsn],hTv⟩
     ·refine vals v W' _ hgr (fun q hq=>?_) j oj s' hj hd hL hnew hK' e1
      have h1:=List.all_eq_true.1 hK q (List.mem_range.2 (hLl q hq))
      simp only[Bool.or_eq_true] at h1
      rcases h1 with((h1 | h1) | h1) | h1
      ·exact .inr fun g cur x hx hh=>hty g cur x (fun e0=>Kp.safe_uses h1 (e0▸hx)) hh
      ·exact .inl (hkilled q h1)
      ·rw[hbehind q h1] at hq;cases hq
      ·rw[beq_iff_eq.1 h1,hLi] at hq;cases hq
    ·have hne:=hA d (List.mem_of_getElem? hx)
     have:=I.ord x d hx (hor _ hL hne.2)
     simp[this]
    ·have hne:=hA d (List.mem_of_getElem? hx)
     obtain⟨b1,b2,b3,b4⟩:=I.blk x d hx (hor _ hL hne.1)
     obtain⟨_,oA,hoA,hdA⟩:=hAd d (List.mem_of_getElem? hx)
     have eS:(L d.iS||d.iS==i)=L d.iS:=by rw[beq_eq_false_iff_ne.2 hne.2,Bool.or_false]
     have hde:=List.all_eq_true.1 hAe d (List.mem_of_getElem? hx)
     simp only[Bool.and_eq_true,Bool.or_eq_true] at hde
     refine⟨hkeep _ oA _ v _ hoA hdA hne.1 b1,b2,fun q=>?_,fun q=>?_⟩
     ·have b:=b3 (eS▸q)
      exact(hgr.block _ b.lt (hty _ _ _ (beq_no hde.1) b)).trans b
     ·have q':L d.iS=true:=eS▸q
      obtain⟨V,hV1,hV2⟩:=b4 q'
      refine filledQ.keep ⟨V,hV1,hV2⟩ hgr (hty _ _ _ (beq_no hde.1) hV1) ?_
      rcases hde.2 with h1 | h1
      ·exact fun g cur x hx hh=>hty g cur x (fun e0=>Kp.safe_uses h1 (e0▸hx)) hh
      ·rw[hbehind _ h1] at q';cases q'
    ·exact I.apart x y d e hx hy hne (hor _ h1 (hA d (List.mem_of_getElem? hx)).1) (hor _ h2 (hA e (List.mem_of_getElem? hy)).1)
    ·have hne:=hBi b hb'
     obtain⟨b3,b4⟩:=I.old b hb'
     have eS:(L b.iS||b.iS==i)=L b.iS:=by rw[beq_eq_false_iff_ne.2 hne,Bool.or_false]
     have hde:=List.all_eq_true.1 hBe b hb'
     simp only[Bool.and_eq_true,Bool.or_eq_true] at hde
     refine⟨fun q=>?_,fun q=>?_⟩
     ·have b:=b3 (eS▸q)
      exact(hgr.block _ b.lt (hty _ _ _ (beq_no hde.1) b)).trans b
     ·have q':L b.iS=true:=eS▸q
      obtain⟨V,hV1,hV2⟩:=b4 q'
      refine filledQ.keep ⟨V,hV1,hV2⟩ hgr (hty _ _ _ (beq_no hde.1) hV1) ?_
      rcases hde.2 with h1 | h1
      ·exact fun g cur x hx hh=>hty g cur x (fun e0=>Kp.safe_uses h1 (e0▸hx)) hh
      ·rw[hbehind _ h1] at q';cases q'
   generalize (execOp a.eval o).run P W=r at hg
   cases r with
   | ok x w'=>
    cases x <;> simp only[GivesT] at hg
    case value u=>exact⟨trivial,key _ _ hg.1 hg.2⟩
    case skip=>exact⟨trivial,key _ _ hg.1 hg.2⟩
    case enter f' args=>
     show Calls P f' args w' _
     refine hg.mono ?_
     rintro e w'' ⟨v,rfl,h1,h2⟩
     exact⟨v,rfl,trivial,key _ _ h1 h2⟩
   | halt x w'=>simp only[GivesT] at hg
  | new x d hx hi hs hS hBi hRi hA h=>
   obtain⟨hw,hr⟩:=h a W
   refine .inl ⟨hw,?_⟩
   rw[hr]
   have hb:Below W.heap.size W (W.alloc (.cells d.z d.t)):=(Below.refl _ _).alloc (Nat.le_refl _) _
   have hgr:=below_grownP hb none
   have hsn:d.slot<a.tmps.size:=by rw[I.tsz];exact looseB_lt hB hio hs
   refine⟨trivial,hLl2,fun y=>if y=x then W.heap.size else gs y,by rw[put_size];exact I.tsz,by rw[put_defers];exact I.defers,hold _,hclosed,I.keep.grown hgr (fun k hk=>by cases hk),fun j oj s' hj hd hL hnew hK=>?_,fun y e hy hL=>?_,fun y e hy hL=>?_,fun y y2 e e2 hy hy2 hne h1 h2=>?_,heldK _,rowsKeep _ none hgr hRi (fun _ _ _ _=>by simp),fun b hb'=>?_⟩
   ·have e1:j≠i:=fun q=>hnew d (List.mem_of_getElem? hx) (hi.trans q.symm)
    exact vals _ _ none hgr (fun j _=>.inr fun g cur x _ _=>by simp) j oj s' hj hd hL hnew hK e1
   ·have:=I.ord y e hy (hor _ hL (hS e (List.mem_of_getElem? hy)))
    simp[this]
   ·have hSe:=hS e (List.mem_of_getElem? hy)
    have eS:(L e.iS||e.iS==i)=L e.iS:=by rw[beq_eq_false_iff_ne.2 hSe,Bool.or_false]
    by_cases he:y=x
    ·subst he
     have e1:e=d:=Option.some.inj (hy.symm.trans hx)
     subst e1
     have hLS:L e.iS=false:=by
      cases hq:L e.iS with
      | false=>rfl
      | true=>have:=I.ord y e hy hq;rw[hi,hLi] at this;cases this
     rw[if_pos rfl,hs,put_same hsn]
     refine⟨rfl,I.keep.size,fun _=>Blk.new _ _ _,fun q=>?_⟩
     have q:L e.iS=true:=eS▸q
     rw[hLS] at q
     cases q
    ·have hne:e.iA≠i:=fun q=>he (hA y e hy q)
     obtain⟨b1,b2,b3,b4⟩:=I.blk y e hy (hor _ hL hne)
     obtain⟨_,oA,hoA,hdA⟩:=hAd e (List.mem_of_getElem? hy)
     rw[if_neg he]
     refine⟨hkeep _ oA _ _ _ hoA hdA hne b1,b2,fun q=>?_,fun q=>?_⟩
     ·have b:=b3 (eS▸q);exact b.below hb b.lt
     ·exact(b4 (eS▸q)).keep hgr (by simp) fun g cur x _ _=>by simp
   ·have lt:∀ (y:Nat) (e:NewZ),AL[y]?=some e->L e.iA=true->gs y<W.heap.size:=by
     intro y e hy hL
     obtain⟨_,_,b3,b4⟩:=I.blk y e hy hL
     cases hq:L e.iS with
     | false=>exact(b3 hq).lt
     | true=>obtain⟨V,h1,_⟩:=b4 hq;exact h1.lt
    by_cases q1:y=x
    ·have q2:y2≠x:=fun q=>hne (q1.trans q.symm)
     rw[if_pos q1,if_neg q2]
     have:=lt y2 e2 hy2 (hor _ h2 (fun q=>q2 (hA y2 e2 hy2 q)))
     omega
    ·rw[if_neg q1]
     have hl1:=hor _ h1 (fun q=>q1 (hA y e hy q))
     by_cases q2:y2=x
     ·rw[if_pos q2]
      have:=lt y e hy hl1
      omega
     ·rw[if_neg q2]
      exact I.apart y y2 e e2 hy hy2 hne hl1 (hor _ h2 (fun q=>q2 (hA y2 e2 hy2 q)))
   ·have hne:=hBi b hb'
    obtain⟨b3,b4⟩:=I.old b hb'
    have eS:(L b.iS||b.iS==i)=L b.iS:=by rw[beq_eq_false_iff_ne.2 hne,Bool.or_false]
    refine⟨fun q=>?_,fun q=>?_⟩
    ·have b:=b3 (eS▸q);exact b.below hb b.lt
    ·exact(b4 (eS▸q)).keep hgr (by simp) fun g cur x _ _=>by simp
  | put x d hx hi hs hA hBi hRi hS hw m ty X Y hop' hX hY hg hsz hz=>
   have hdm:=List.mem_of_getElem? hx
   have hLA:L d.iA=true:=hwait _ hw
   obtain⟨b1,b2,b3,_⟩:=I.blk x d hx hLA
   have b3:=b3 (by rw[hi];exact hLi)
   obtain⟨y1,y2,y3⟩:=hY a W I.keep I.had hdep
   obtain⟨V,hV⟩:∃ V,a.eval Y=V:=⟨_,rfl⟩
   rw[hV] at y1 y2 y3
   have hrun:(execOp a.eval o).run P W = .ok .skip (W.setRow (gs x) V.cells):=by
    unfold execOp
    simp only[hop',hX,eval_tmp b1,hV]
    have:=run_storeP (P:=P) (ty:=ty) b3 (by rw[y2];exact hsz) (by rw[hz,y2]) y3
    simp[Instr.storeAt,Instr.sureAddr,this]
   refine .inl ⟨by simp[Region.wanted,hg],?_⟩
   rw[hrun]
   have hgr:=grown_setRow W (gs x) V.cells
   have hsf:=safeQ_at hsafe (t:=d.t) (.inl (List.mem_map.2 ⟨d,hdm,rfl⟩))
   have hty:∀ (g:Nat) (cur:Array Value) (q:TypeId),q≠d.t->W.heap[g]?=some (.cells cur q (0,0))->some g≠some (gs x):=by
    intro g cur q hq hh e
    injection e with e
    subst e
    rw[b3] at hh
    injection hh with hh
    injection hh with _ h3 _
    exact hq h3.symm
   have huse:∀ {k:Kp},k.safe d.t=true->∀ g cur q,k.uses q->W.heap[g]?=some (.cells cur q (0,0))->some g≠some (gs x) :=
    fun hk g cur q hq hh=>hty g cur q (fun e0=>Kp.safe_uses hk (e0▸hq)) hh
   refine⟨trivial,hLl2,gs,by rw[put_size];exact I.tsz,by rw[put_defers];exact I.defers,hold _,hclosed,I.keep.grown hgr (fun k hk=>.inl (by injection hk with hk;omega)),fun j oj s' hj hd hL hnew hK=>?_,fun y e hy hL=>?_,fun y e hy hL=>?_,fun y y2 e e2 hy hy2 hne q1 q2=>?_,heldK _,rowsKeep _ _ hgr hRi (fun r hr g h0 h9=>by have h7:=rblk r hr g h0;injection h9 with h9;omega),fun b hb'=>?_⟩
   ·have hji:j≠i:=by
     rintro rfl
     have e1:oj=o:=Option.some.inj (hj.symm.trans hio)
     subst e1
     rw[hs] at hd;cases hd
    exact vals _ _ _ hgr (fun j _=>.inr (huse (hsf.1 j))) j oj s' hj hd hL hnew hK hji
   ·by_cases he:y=x
    ·subst he
     have e1:e=d:=Option.some.inj (hy.symm.trans hx)
     subst e1
     simp[hLA]
    ·have:=I.ord y e hy (hor _ hL (fun q=>he (hS y e hy q)))
     simp[this]
   ·have hLe:=hor _ hL (hA e (List.mem_of_getElem? hy))
    obtain⟨c1,c2,c3,c4⟩:=I.blk y e hy hLe
    rw[hs]
    refine⟨c1,c2,?_⟩
    by_cases he:y=x
    ·subst he
     have e1:e=d:=Option.some.inj (hy.symm.trans hx)
     subst e1
     have hq:(L e.iS||e.iS==i)=true:=by rw[hi,beq_self_eq_true,Bool.or_true]
     exact⟨fun q=>(by rw[hq] at q;cases q),fun _=>⟨V,b3.row _,Kp.keep hgr y1 (huse (hsf.2.1 e hdm))⟩⟩
    ·have hSe:e.iS≠i:=fun q=>he (hS y e hy q)
     have eS:(L e.iS||e.iS==i)=L e.iS:=by rw[beq_eq_false_iff_ne.2 hSe,Bool.or_false]
     have hap:=I.apart y x e d hy hx he hLe hLA
     refine⟨fun q=>(c3 (eS▸q)).rowFar hap _,fun q=>(c4 (eS▸q)).keep hgr (fun e0=>hap (Option.some.inj e0)) (huse (hsf.2.1 e (List.mem_of_getElem? hy)))⟩
   ·exact I.apart y y2 e e2 hy hy2 hne (hor _ q1 (hA e (List.mem_of_getElem? hy))) (hor _ q2 (hA e2 (List.mem_of_getElem? hy2)))
   ·have hne:=hBi b hb'
    obtain⟨c3,c4⟩:=I.old b hb'
    have eS:(L b.iS||b.iS==i)=L b.iS:=by rw[beq_eq_false_iff_ne.2 hne,Bool.or_false]
    have hlt:b.g<w.heap.size:=(hBd b hb').2.lt
    have hap:b.g≠gs x:=by omega
    refine⟨fun q=>(c3 (eS▸q)).rowFar hap _,fun q=>(c4 (eS▸q)).keep hgr (fun e0=>hap (Option.some.inj e0)) (huse (hsf.2.2 b hb'))⟩
  | putO x d hx hi hs hA hS hRi m ty X Y hop' hX hY hg hsz hz=>
   have hdm:=List.mem_of_getElem? hx
   obtain⟨b3,_⟩:=I.old d hdm
   have b3:=b3 (by rw[hi];exact hLi)
   obtain⟨y1,y2,y3⟩:=hY a W I.keep I.had hdep
   have hXe:=hX a W I.keep I.had hdep
   obtain⟨V,hV⟩:∃ V,a.eval Y=V:=⟨_,rfl⟩
   rw[hV] at y1 y2 y3
   have hrun:(execOp a.eval o).run P W = .ok .skip (W.setRow d.g (d.f V)):=by
    unfold execOp
    simp only[hop',hXe,hV]
    have:=run_stQ (P:=P) (ty:=ty) (o:=d.o) b3 hsz y2 y3 hz
    simp[Instr.storeAt,Instr.sureAddr,this]
   refine .inl ⟨by simp[Region.wanted,hg],?_⟩
   rw[hrun]
   have hgr:=grown_setRow W d.g (d.f V)
   have hsf:=safeQ_at hsafe (t:=d.t) (.inr (List.mem_map.2 ⟨d,hdm,rfl⟩))
   have hty:∀ (g:Nat) (cur:Array Value) (q:TypeId),q≠d.t->W.heap[g]?=some (.cells cur q (0,0))->some g≠some d.g:=by
    intro g cur q hq hh e
    injection e with e
    subst e
    rw[b3] at hh
    injection hh with hh
    injection hh with _ h3 _
    exact hq h3.symm
   have huse:∀ {k:Kp},k.safe d.t=true->∀ g cur q,k.uses q->W.heap[g]?=some (.cells cur q (0,0))->some g≠some d.g :=
    fun hk g cur q hq hh=>hty g cur q (fun e0=>Kp.safe_uses hk (e0▸hq)) hh
   refine⟨trivial,hLl2,gs,by rw[put_size];exact I.tsz,by rw[put_defers];exact I.defers,hold _,hclosed,I.keep.grown hgr (fun k hk=>.inr (by injection hk with hk;exact List.mem_append_left _ (List.mem_map.2 ⟨d,hdm,hk⟩))),fun j oj s' hj hd hL hnew hK=>?_,fun y e hy hL=>?_,fun y e hy hL=>?_,fun y y2 e e2 hy hy2 hne q1 q2=>?_,heldK _,rowsKeep _ _ hgr hRi (fun r hr g h0 h9=>(hRd r hr).2 d hdm (h0.trans h9)),fun b hb'=>?_⟩
   ·have hji:j≠i:=by
     rintro rfl
     have e1:oj=o:=Option.some.inj (hj.symm.trans hio)
     subst e1
     rw[hs] at hd;cases hd
    exact vals _ _ _ hgr (fun j _=>.inr (huse (hsf.1 j))) j oj s' hj hd hL hnew hK hji
   ·have hne:=hA e (List.mem_of_getElem? hy)
    have:=I.ord y e hy (hor _ hL hne.2)
    simp[this]
   ·have hne:=hA e (List.mem_of_getElem? hy)
    obtain⟨c1,c2,c3,c4⟩:=I.blk y e hy (hor _ hL hne.1)
    have eS:(L e.iS||e.iS==i)=L e.iS:=by rw[beq_eq_false_iff_ne.2 hne.2,Bool.or_false]
    have hlt:d.g<w.heap.size:=(hBd d hdm).2.lt
    have hap:gs y≠d.g:=by omega
    rw[hs]
    exact⟨c1,c2,fun q=>(c3 (eS▸q)).rowFar hap _,fun q=>(c4 (eS▸q)).keep hgr (fun e0=>hap (Option.some.inj e0)) (huse (hsf.2.1 e (List.mem_of_getElem? hy)))⟩
   ·exact I.apart y y2 e e2 hy hy2 hne (hor _ q1 (hA e (List.mem_of_getElem? hy)).1) (hor _ q2 (hA e2 (List.mem_of_getElem? hy2)).1)
   ·obtain⟨y,hy⟩:=List.mem_iff_getElem?.1 hb'
    obtain⟨c3,c4⟩:=I.old b hb'
    by_cases he:y=x
    ·subst he
     have e1:b=d:=Option.some.inj (hy.symm.trans hx)
     subst e1
     have hq:(L b.iS||b.iS==i)=true:=by rw[hi,beq_self_eq_true,Bool.or_true]
     exact⟨fun q=>(by rw[hq] at q;cases q),fun _=>⟨V,b3.row _,Kp.keep hgr y1 (huse (hsf.2.2 b hdm))⟩⟩
    ·have hSe:b.iS≠i:=fun q=>he (hS y b hy q)
     have eS:(L b.iS||b.iS==i)=L b.iS:=by rw[beq_eq_false_iff_ne.2 hSe,Bool.or_false]
     have hap:=hBn y x b d hy hx he
     exact⟨fun q=>(c3 (eS▸q)).rowFar hap _,fun q=>(c4 (eS▸q)).keep hgr (fun e0=>hap (Option.some.inj e0)) (huse (hsf.2.2 b hb'))⟩
 ·rintro L a W hall ⟨hLl,gs,I⟩
  have hL:L=fun j=>decide (j<l.length):=by
   funext j
   cases hq:L j with
   | true=>exact(decide_eq_true (hLl j hq)).symm
   | false=>
    by_cases hj:j<l.length
    ·rw[hall j hj] at hq;cases hq
    ·exact(decide_eq_false hj).symm
  subst hL
  exact hend a W gs I
end
end
section
abbrev nv :Value:=.slice none 0 0
abbrev pt (g:Nat):Value:=.pointer (some ⟨g,0,none⟩)
abbrev px (g o:Nat):Value:=.pointer (some ⟨g,o,none⟩)
abbrev i6 (n:Int):Value:=.int .i64 n
abbrev sv (l:List UInt8):Value:=.string ⟨l.toArray⟩
abbrev MT :=List (Nat×(Obj->Prop))
abbrev LT :=List (Nat×Value)

def lz :LT->Nat->Option Value
 | [],_=>none
 | (i,v)::r,x=>cond (Nat.beq i x) (some v) (lz r x)
theorem lz_eq :∀ (L:LT) (x:Nat),lz L x=lk L x
 | [],_=>rfl
 | (i,v)::r,x=>by rw[lz,lk,lz_eq r x]
def nth :List Value->Nat->Option Value
 | [],_=>none
 | a::_,0=>some a
 | _::r,n+1=>nth r n
theorem nth_eq :∀ (l:List Value) (i:Nat),nth l i=l[i]?
 | [],_=>rfl
 | _::_,0=>rfl
 | _::r,n+1=>by rw[nth,nth_eq r n,List.getElem?_cons_succ]
theorem nth_arr {cs:Array Value}{i:Nat}{v:Value}(h:nth cs.toList i=some v):cs[i]?=some v:=by
 rw[nth_eq] at h
 rw[←Array.getElem?_toList];exact h
structure Rw where
 v:Value
 e:TypeId
 m:Nat
 n:Nat
 xs:List Value
structure St (D:List Deferred)(nt:Nat)(w0:World)(L:LT)(M:MT)(R:List Rw)(a:Act)(w:World):Prop where
 f:FrD D a nt L
 m:Mem w0 M w
 r:∀ x∈R,OwnR w0 M w x.e x.m x.v x.n x.xs
 nd:R.Pairwise fun x y=>apartB x.v y.v
def KX (D:List Deferred)(nt:Nat)(w0:World)(L:LT)(M:MT)(R:List Rw)(X:Act->World->Prop):Prop:=∀ a w,St D nt w0 L M R a w->X a w
abbrev Kn :=Act->World->Prop
def GC (c:Bool)(G:Kn):Kn:=fun a w=>G a w/\c=true
def EV (G:Kn)(x:Operand)(v:Value):Prop:=∀ a w,G a w->a.eval x=v
def MB (G:Kn)(g:Nat)(t:TypeId)(cs:Array Value):Prop:=∀ a w,G a w->Blk w g t cs
def SL (G:Kn)(v:Value)(m n:Nat)(cs:List Value):Prop:=∀ a w,G a w->Sl w v m n cs
inductive EVs (G:Kn):List Operand->List Value->Prop
 | nil:EVs G [] []
 | cons {x:Operand} {v:Value} {xs:List Operand} {vs:List Value}:EV G x v->EVs G xs vs->EVs G (x::xs) (v::vs)
def PR (P:Program)(G:Kn)(op:Op)(v:Value):Prop:=∀ (a:Act) (w:World) (o:Oper),o.op=op->G a w->(execOp a.eval o).run P w = .ok (.value v) w
def dIdx :List Oper->Nat->Nat->Option Nat
 | [],_,_=>none
 | o::r,s,i=>match o.dst with
  | some d=>cond (Nat.beq d s) (some i) (dIdx r s (i+1))
  | none=>dIdx r s (i+1)
structure QZ (D:List Deferred)(nt:Nat)(w0:World)(L:LT)(M:MT)(R:List Rw)(l:List Oper)(KL:List Kp)(AL:List NewZ)(BL:List OldQ)(js:List Nat)(Bs:Nat)(i:Nat)(a:Act)(W:World):Prop where
 had:∀ s v,lz L s=some v->l.all (fun o=>o.dst != some s)=true->a.tmps[s]?=some v
 dep:∀ j s,depB l i j s=true->AL.all (fun d=>!(Nat.beq d.iA j))=true->∃ v,a.tmps[s]?=some v/\(KL.getD j .any).sat Bs v W
 prev:∀ j s v,dstB l j s=true->behindB l j i=true->lz L s=some v->a.tmps[s]?=some v
 mem:∀ k g S,M[k]?=some (g,S)->js.all (fun j=>!(Nat.beq j k))=true->∃ ob,W.heap[g]?=some ob/\S ob
 old:∀ b∈BL,behindB l b.iS i=true->Blk W b.g b.t b.old
 rows:∀ x∈R,Sl W x.v x.m x.n x.xs
 low:Below w0.heap.size w0 W
 size:Bs<=W.heap.size
def QY (G:Kn)(s:Nat)(v:Value)(Bs:Nat)(rs:List Rw):Kn:=fun a W=>G a W/\a.tmps[s]?=some v ∧ ∀ x∈rs,W.ownsRow Bs x.e x.m x.v x.n x.xs
def OPd (P:Program)(G:Kn)(o:Oper)(l:List Oper)(k:Kp)(Bs:Nat):Prop:=∀ a W,G a W->(Region.wanted o (yielded l.toArray a.tmps)=true/\GivesT P (Below W.heap.size W) (fun v W'=>k.sat Bs v W') ((execOp a.eval o).run P W))\/(Region.wanted o (yielded l.toArray a.tmps)=false/\k.sat Bs undef W)
section
variable {P:Program}{D:List Deferred}{nt:Nat}{w0:World}{L:LT}{M:MT}{R:List Rw}{G:Kn}{x y z:Operand}{v v2:Value}{j:Nat}{c:Bool}
theorem EV.t (h:lz L j=some v):EV (St D nt w0 L M R) (.tmp j) v:=fun _ _ hg=>hg.f.ev j (by rw[←lz_eq];exact h)
theorem EV.k :EV G (.const v) v:=fun _ _ _=>rfl
theorem EV.f {n:FuncId}:EV G (.func n) (.func (.func n) #[] #[]):=fun _ _ _=>rfl
theorem EV.u (h:EV G x v):EV (GC c G) x v:=fun a w hg=>h a w hg.1
theorem EV.b (h:EV G x (cond c v v2)):EV (GC c G) x v:=fun a w hg=>by rw[h a w hg.1,hg.2];rfl
theorem EV.n {c2:Bool}(h:EV G x (cond (c&&c2) v v2)):EV (GC c G) x (cond c2 v v2):=fun a w hg=>by rw[h a w hg.1,hg.2];rfl
section
variable {l:List Oper}{KL:List Kp}{AL:List NewZ}{BL:List OldQ}{js:List Nat}{Bs i s m n kk:Nat}{cs:List Value}
theorem EV.zz (h:lz L s=some v)(hd:(l.all fun o=>o.dst != some s)=true):EV (QZ D nt w0 L M R l KL AL BL js Bs i) (.tmp s) v:=fun _ _ h2=>eval_tmp (h2.had s v h hd)
theorem EV.dd (_hj:dIdx l s 0=some j)(hK:KL.getD j .any = .val v)(hb:depB l i j s=true)(hA:(AL.all fun d=>!(Nat.beq d.iA j))=true):EV (QZ D nt w0 L M R l KL AL BL js Bs i) (.tmp s) v:=fun _ _ h=>by
 obtain⟨u,h1,h2⟩:=h.dep j s hb hA
 rw[hK] at h2
 rw[eval_tmp h1];exact h2
theorem EV.hh (_hj:dIdx l s 0=some j)(h:lz L s=some v)(h1:dstB l j s=true)(h2:behindB l j i=true):EV (QZ D nt w0 L M R l KL AL BL js Bs i) (.tmp s) v:=fun _ _ hq=>eval_tmp (hq.prev j s v h1 h2 h)
theorem EV.qq {rs:List Rw}:EV (QY G s v Bs rs) (.tmp s) v:=fun _ _ h=>eval_tmp h.2.1
theorem EV.yy {rs:List Rw}(h:EV G x v):EV (QY G s v2 Bs rs) x v:=fun a w hq=>h a w hq.1
theorem evz (h:EV (QZ D nt w0 L M R l KL AL BL js Bs i) x v:=by first | exact EV.k | exact EV.dd rfl rfl (by kernel_rfl) (by kernel_rfl) | exact EV.zz rfl (by kernel_rfl) | exact EV.hh rfl rfl (by kernel_rfl) (by kernel_rfl)):EV (QZ D nt w0 L M R l KL AL BL js Bs i) x v:=h
theorem MB.zz {g:Nat}{t:TypeId}{cs:Array Value}(kk:Nat)(h:M[kk]?=some (g,isB t cs))(hj:(js.all fun j=>!(Nat.beq j kk))=true:=by rfl):MB (QZ D nt w0 L M R l KL AL BL js Bs i) g t cs:=fun a w hq=>by
 obtain⟨ob,h1,h2⟩:=hq.mem kk g _ h hj
 rw[show ob=_ from h2] at h1
 exact h1
theorem MB.oo {b:OldQ}(kk:Nat)(h:BL[kk]?=some b)(hb:behindB l b.iS i=true):MB (QZ D nt w0 L M R l KL AL BL js Bs i) b.g b.t b.old:=fun a w hq=>hq.old b (List.mem_of_getElem? h) hb
theorem MB.yy {g:Nat}{t:TypeId}{cs:Array Value}{rs:List Rw}(h:MB G g t cs):MB (QY G s v Bs rs) g t cs:=fun a w hq=>h a w hq.1
theorem mz {g:Nat}{t:TypeId}{cs:Array Value}(h:MB (QZ D nt w0 L M R l KL AL BL js Bs i) g t cs:=by first | exact MB.zz 0 rfl | exact MB.zz 1 rfl | exact MB.zz 2 rfl | exact MB.zz 3 rfl | exact MB.zz 4 rfl | exact MB.zz 5 rfl | exact MB.zz 6 rfl | exact MB.zz 7 rfl | exact MB.zz 8 rfl | exact MB.zz 9 rfl | exact MB.oo 0 rfl (by kernel_rfl) | exact MB.oo 1 rfl (by kernel_rfl) | exact MB.zz 10 rfl | exact MB.zz 11 rfl | exact MB.zz 12 rfl):MB (QZ D nt w0 L M R l KL AL BL js Bs i) g t cs:=h
theorem SL.zp (h:Sl w0 v m n cs):SL (QZ D nt w0 L M R l KL AL BL js Bs i) v m n cs:=fun _ _ hq=>h.below hq.low
theorem SL.zr {e:TypeId}(h:(⟨v,e,m,n,cs⟩:Rw)∈R:=by repeat (first | exact List.mem_cons_self .. | refine List.mem_cons_of_mem _ ?_)):SL (QZ D nt w0 L M R l KL AL BL js Bs i) v m n cs:=fun _ _ hq=>hq.rows _ h
theorem SL.qr {e:TypeId}{rs:List Rw}(h:(⟨v,e,m,n,cs⟩:Rw)∈rs:=by repeat (first | exact List.mem_cons_self .. | refine List.mem_cons_of_mem _ ?_)):SL (QY G s v2 Bs rs) v m n cs:=fun _ _ hq=>Sl.ofOwns (hq.2.2 _ h)
theorem SL.qy {rs:List Rw}(h:SL G v m n cs):SL (QY G s v2 Bs rs) v m n cs:=fun a w hq=>h a w hq.1
end
theorem ev (h:EV G x v:=by first | exact EV.t rfl | exact EV.k | exact EV.f | exact EV.b (EV.t rfl) | exact EV.n (EV.t rfl) | exact EV.u (EV.t rfl) | exact evz | exact EV.qq | exact EV.yy evz | exact EV.yy EV.qq | exact EV.b evz | exact EV.n evz | exact EV.u evz | exact EV.yy (EV.yy evz) | exact EV.yy (EV.yy EV.qq) | exact EV.yy (EV.yy (EV.yy evz))):EV G x v:=h
theorem evs {xs:List Operand}{vs:List Value}(h:EVs G xs vs:=by repeat (first | exact EVs.nil | refine EVs.cons ev ?_)):EVs G xs vs:=h
theorem EVs.arr {xs:List Operand}{vs:List Value}(h:EVs G xs vs){a:Act}{w:World}(hg:G a w):xs.toArray.map a.eval=vs.toArray:=by
 have:xs.map a.eval=vs:=by
  induction h with
  | nil=>rfl
  | cons h1 _ ih=>rw[List.map_cons,h1 a w hg,ih]
 simp[this]
theorem mm {g:Nat}{S:Obj->Prop}(h:(g,S)∈M:=by repeat (first | exact List.mem_cons_self .. | refine List.mem_cons_of_mem _ ?_)):(g,S)∈M:=h
theorem MB.s {g:Nat}{t:TypeId}{cs:Array Value}(h:(g,isB t cs)∈M):MB (St D nt w0 L M R) g t cs:=fun a w hg=>by
 obtain⟨_,ob,h1,h2⟩:=hg.m.has _ h
 rw[show ob=_ from h2] at h1
 exact h1
theorem MB.u {g:Nat}{t:TypeId}{cs:Array Value}(h:MB G g t cs):MB (GC c G) g t cs:=fun a w hg=>h a w hg.1
theorem mb {g:Nat}{t:TypeId}{cs:Array Value}(h:MB G g t cs:=by first | exact MB.s mm | exact MB.u (MB.s mm) | exact mz | exact MB.u mz | exact MB.yy mz | exact MB.yy (MB.yy mz)):MB G g t cs:=h
theorem SL.u {m n:Nat}{cs:List Value}(h:SL G v m n cs):SL (GC c G) v m n cs:=fun a w hg=>h a w hg.1
theorem SL.p {m n:Nat}{cs:List Value}(h:Sl w0 v m n cs):SL (St D nt w0 L M R) v m n cs:=fun _ _ hg=>h.below hg.m.below
theorem SL.r {x:Rw}(i:Nat)(h:R[i]?=some x:=by rfl):SL (St D nt w0 L M R) x.v x.m x.n x.xs:=fun _ _ hg=>Sl.own (hg.r _ (List.mem_of_getElem? h))
theorem St.row {a:Act}{w:World}(h:St D nt w0 L M R a w)(i:Nat){x:Rw}(e:R[i]?=some x):OwnR w0 M w x.e x.m x.v x.n x.xs:=h.r _ (List.mem_of_getElem? e)
theorem St.s {a:Act}{w:World}(h:St D nt w0 L M R a w)(i:Nat){x:Rw}(e:R[i]?=some x:=by rfl):Sl w x.v x.m x.n x.xs:=Sl.own (h.row i e)
theorem St.b {a:Act}{w:World}(h:St D nt w0 L M R a w){m n:Nat}{cs:List Value}(hV:Sl w0 v m n cs):Sl w v m n cs:=hV.below h.m.below
theorem St.put {a:Act}{w:World}{s:Nat}(h:St D nt w0 L M R a w)(hs:Nat.blt s nt=true):St D nt w0 ((s,v)::L) M R (a.put (some s) v) w:=⟨h.f.put (Nat.le_of_ble_eq_true hs),h.m,h.r,h.nd⟩
theorem St.grow {a:Act}{w w2:World}(h:St D nt w0 L M R a w)(hb:Below w.heap.size w w2):St D nt w0 L M R a w2:=⟨h.f,h.m.grow hb,fun x hx=>(h.r x hx).grow hb,h.nd⟩
/- pure operations -/
variable {ty t t2:TypeId}{k k2:IntKind}{p q r:Int}{s s2:List UInt8}{g i:Nat}
theorem PR.mv (hx:EV G x v:=by exact ev):PR P G (.move x) v:=fun a w _ ho hg=>run_mv ho (hx a w hg)
theorem PR.as (hx:EV G x v:=by exact ev):PR P G (.assign x) v:=fun a w _ ho hg=>run_as ho (hx a w hg)
theorem PR.ext {vs:Array Value}{n:Nat}(hx:EV G x (.tuple vs):=by exact ev)(hc:nth vs.toList n=some v:=by rfl):PR P G (.extract x n) v:=fun a w _ ho hg=>run_ext ho (hx a w hg) (nth_arr hc)
theorem PR.nil {ad:Addr}(hx:EV G x (.pointer (some ad)):=by exact ev):PR P G (.nilCheck x) (.pointer (some ad)):=fun a w o ho hg=>by
 unfold execOp
 simp only[ho,hx a w hg]
 rfl
theorem PR.lss (hx:EV G x (.int k p):=by exact ev)(hy:EV G y (.int k q):=by exact ev):PR P G (.binOp .lss t x y t2) (.bool (decide (p<q))):=fun a w _ ho hg=>run_lss ho (hx a w hg) (hy a w hg) rfl
theorem PR.leq (hx:EV G x (.int k p):=by exact ev)(hy:EV G y (.int k q):=by exact ev):PR P G (.binOp .leq t x y t2) (.bool (decide (p<=q))):=fun a w _ ho hg=>run_leq ho (hx a w hg) (hy a w hg) rfl
theorem PR.gtr (hx:EV G x (.int k p):=by exact ev)(hy:EV G y (.int k q):=by exact ev):PR P G (.binOp .gtr t x y t2) (.bool (decide (q<p))):=fun a w _ ho hg=>run_gtr ho (hx a w hg) (hy a w hg) rfl
theorem PR.geq (hx:EV G x (.int k p):=by exact ev)(hy:EV G y (.int k q):=by exact ev):PR P G (.binOp .geq t x y t2) (.bool (decide (q<=p))):=fun a w _ ho hg=>run_geq ho (hx a w hg) (hy a w hg) rfl
theorem PR.eqi (hx:EV G x (.int k p):=by exact ev)(hy:EV G y (.int k q):=by exact ev):PR P G (.binOp .eql t x y t2) (.bool (decide (p=q))):=fun a w _ ho hg=>run_eqi ho (hx a w hg) (hy a w hg) (by by_cases h:p=q <;> simp[h])
theorem PR.nei (hx:EV G x (.int k p):=by exact ev)(hy:EV G y (.int k q):=by exact ev):PR P G (.binOp .neq t x y t2) (.bool (decide (p≠q))):=fun a w _ ho hg=>run_nei ho (hx a w hg) (hy a w hg) (by by_cases h:p=q <;> simp[h])
theorem PR.eqs (hx:EV G x (sv s):=by exact ev)(hy:EV G y (sv s2):=by exact ev):PR P G (.binOp .eql t x y t2) (.bool (decide (s=s2))):=fun a w _ ho hg=>run_eqs ho (hx a w hg) (hy a w hg) (by by_cases h:s=s2 <;> simp[h])
theorem PR.nes (hx:EV G x (sv s):=by exact ev)(hy:EV G y (sv s2):=by exact ev):PR P G (.binOp .neq t x y t2) (.bool (decide (s≠s2))):=fun a w _ ho hg=>run_nes ho (hx a w hg) (hy a w hg) (by by_cases h:s=s2 <;> simp[h])
theorem run_lsst {a:Act}{o:Oper}{w:World}{b:Bool}(ho:o.op = .binOp .lss t x y t2)(hx:a.eval x=sv s)(hy:a.eval y=sv s2)(h:Op.bytesLess s s2=b):(execOp a.eval o).run P w = .ok (.value (.bool b)) w :=
 run_bin ho hx hy (guard_str _ _ _) (by rw[binOp_string_lss,ba_toList,ba_toList,h];rfl)
theorem PR.lst (hx:EV G x (sv s):=by exact ev)(hy:EV G y (sv s2):=by exact ev):PR P G (.binOp .lss t x y t2) (.bool (Op.bytesLess s s2)):=fun a w _ ho hg=>run_lsst ho (hx a w hg) (hy a w hg) rfl
theorem PR.not {b:Bool}(hx:EV G x (.bool b):=by exact ev):PR P G (.unOp .not t x) (.bool (!b)):=fun a w _ ho hg=>run_not ho (hx a w hg)
theorem PR.pand {b b2:Bool}(hx:EV G x (.bool b):=by exact ev)(hy:EV G y (cond b (.bool b2) undef):=by exact ev):PR P G (.pick x y (.const (.bool false))) (.bool (b&&b2)):=fun a w _ ho hg=>by
 have h:=run_pick (P:=P) (W:=w) ho (hx a w hg) (hy a w hg) rfl
 rw[h]
 cases b <;> rfl
theorem PR.por {b b2:Bool}(hx:EV G x (.bool b):=by exact ev)(hz:EV G z (cond (!b) (.bool b2) undef):=by exact ev):PR P G (.pick x (.const (.bool true)) z) (.bool (b||b2)):=fun a w _ ho hg=>by
 have h:=run_pick (P:=P) (W:=w) ho (hx a w hg) rfl (hz a w hg)
 rw[h]
 cases b <;> rfl
theorem PR.add (hx:EV G x (.int k p):=by exact ev)(hy:EV G y (.int k q):=by exact ev)(h:k.wrap (p+q)=r):PR P G (.binOp .add t x y t2) (.int k r):=fun a w _ ho hg=>run_add ho (hx a w hg) (hy a w hg) h
theorem PR.sub (hx:EV G x (.int k p):=by exact ev)(hy:EV G y (.int k q):=by exact ev)(h:k.wrap (p-q)=r):PR P G (.binOp .sub t x y t2) (.int k r):=fun a w _ ho hg=>run_sub ho (hx a w hg) (hy a w hg) h
theorem PR.mul (hx:EV G x (.int k p):=by exact ev)(hy:EV G y (.int k q):=by exact ev)(h:k.wrap (p*q)=r):PR P G (.binOp .mul t x y t2) (.int k r):=fun a w _ ho hg=>run_mul ho (hx a w hg) (hy a w hg) h
theorem PR.cat (hx:EV G x (sv s):=by exact ev)(hy:EV G y (sv s2):=by exact ev)(h:s.length+s2.length<2^62):PR P G (.binOp .add t x y t2) (sv (s++s2)):=fun a w _ ho hg=>run_cat ho (hx a w hg) (hy a w hg) h
theorem PR.blt {parts:Array (Nat×Operand)}{vs:Array (Nat×Value)}{cs:Array Value}(hp:∀ a w,G a w->(parts.map fun(i,x)=>(i,a.eval x))=vs)(hb:P.built t vs.toList=some cs):PR P G (.build t parts) (.agg cs):=fun a w _ ho hg=>run_blt ho (hp a w hg) hb
end
end
end Go.Proofs.YtdjholkjkbihmaaGreatDoor
