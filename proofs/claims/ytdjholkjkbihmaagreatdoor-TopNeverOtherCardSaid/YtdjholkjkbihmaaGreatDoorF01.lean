/- Laws and walks of TopNeverOther. -/
import Derived.Laws.BitsAllLaws
import Derived.Laws.Bits128
import Derived.Laws.Tables
import Derived.Laws.MakeOwn
import Derived.Defers
import Derived.Test.YtdjholkjkbihmaaGreatDoorF00
namespace Go.Proofs.YtdjholkjkbihmaaGreatDoor
open Go.RowKit
set_option maxRecDepth 100000
set_option maxHeartbeats 4000000
section

def lk :List (Nat×Value)->Nat->Option Value
 | [],_=>none
 | p::r,x=>cond (Nat.beq p.1 x) (some p.2) (lk r x)
structure FrD (D:List Deferred)(a:Act)(n:Nat)(L:List (Nat×Value)):Prop where
 size:a.tmps.size=n
 defers:a.defers=D
 has:∀ s v,lk L s=some v->a.tmps[s]?=some v
abbrev Fr (a:Act)(n:Nat)(L:List (Nat×Value)):Prop:=FrD [] a n L
variable {D:List Deferred}
section
variable {P:Program}{a:Act}{o:Oper}{w w0:World}{n s:Nat}{L L2:List (Nat×Value)}{v:Value}
theorem FrD.at (h:FrD D a n L)(s:Nat){v:Value}(e:lk L s=some v):a.tmps[s]?=some v:=h.has s v e
theorem FrD.ev (h:FrD D a n L)(s:Nat){v:Value}(e:lk L s=some v):a.eval (.tmp s)=v:=eval_tmp (h.has s v e)
theorem FrD.put (h:FrD D a n L)(hs:s<n):FrD D (a.put (some s) v) n ((s,v)::L):=by
 refine⟨by simp[Act.put,h.size],by simp[Act.put,h.defers],fun x u hx=>?_⟩
 unfold lk at hx
 simp only[Act.put,Array.getElem?_setIfInBounds]
 cases hb:Nat.beq s x with
 | true=>
  have e:s=x:=Nat.eq_of_beq_eq_true hb
  subst e
  simp only[hb,cond_true] at hx
  rw[if_pos rfl,if_pos (by rw[h.size];exact hs)]
  exact hx
 | false=>
  have e:s≠x:=Nat.ne_of_beq_eq_false hb
  simp only[hb,cond_false] at hx
  rw[if_neg e]
  exact h.has x u hx
def subs (L:List (Nat×Value)):List (Nat×Value)->Prop
 | []=>True
 | p::r=>lk L p.1=some p.2/\subs L r
theorem subs_lk :∀ {L2:List (Nat×Value)},subs L L2->∀ s v,lk L2 s=some v->lk L s=some v
 | [],_,s,v,h=>by simp[lk] at h
 | p::r,hs,s,v,h=>by
  unfold lk at h
  cases hb:Nat.beq p.1 s with
  | true=>
   simp only[hb,cond_true,Option.some.injEq] at h
   rw[←Nat.eq_of_beq_eq_true hb,←h]
   exact hs.1
  | false=>
   simp only[hb,cond_false] at h
   exact subs_lk hs.2 s v h
theorem FrD.sub (h:FrD D a n L)(hs:subs L L2):FrD D a n L2:=⟨h.size,h.defers,fun s v e=>h.has s v (subs_lk hs s v e)⟩
def numbered :List Value->Nat->List (Nat×Value)
 | [],_=>[]
 | v::r,i=>(i,v)::numbered r (i+1)
theorem lk_numbered :∀ (vs:List Value) (i s:Nat) (v:Value),lk (numbered vs i) s=some v->i<=s/\vs[s-i]?=some v
 | [],_,_,_,h=>by simp[numbered,lk] at h
 | u::r,i,s,v,h=>by
  unfold numbered lk at h
  cases hb:Nat.beq i s with
  | true=>
   have e:i=s:=Nat.eq_of_beq_eq_true hb
   subst e
   simp only[hb,cond_true,Option.some.injEq] at h
   subst h
   simp
  | false=>
   have e:i≠s:=Nat.ne_of_beq_eq_false hb
   simp only[hb,cond_false] at h
   obtain⟨h1,h2⟩:=lk_numbered r (i+1) s v h
   refine⟨by omega,?_⟩
   rw[show s-i=(s-(i+1))+1 by omega]
   simpa using h2
theorem walk_enter {f:FuncId}{fn:Func}{c:Code}{vs:List Value}{R:Ending->World->Prop}(hf:P.funcs[f]?=some fn)(hb:fn.body=some c)(hn:fn.ntmps=n)(hv:Nat.ble vs.length n=true)
  (h:∀ a,Fr a n (numbered vs 0)->c.wp P (bodyPost P fn R) a w):Calls P f vs.toArray w R:=by
 refine calls_of_wp hf hb (h _ ⟨?_,rfl,fun s v e=>?_⟩)
 ·have:=Nat.le_of_ble_eq_true hv;subst hn;simp;omega
 ·obtain⟨_,h2⟩:=lk_numbered vs 0 s v e
  have hs:=(List.getElem?_eq_some_iff.1 h2).1
  simp only[Nat.sub_zero] at h2 hs
  rw[Array.getElem?_append,if_pos (by simpa using hs)]
  simpa using h2
def isB (t:TypeId)(cs:Array Value):Obj->Prop:=fun ob=>ob = .cells cs t (0,0)
structure Mem (w0:World)(M:List (Nat×(Obj->Prop)))(w:World):Prop where
 below:Below w0.heap.size w0 w
 has:∀ x∈M,w0.heap.size<=x.1 ∧ ∃ ob,w.heap[x.1]?=some ob/\x.2 ob
 nd:M.Pairwise fun x y=>x.1≠y.1
variable {M:List (Nat×(Obj->Prop))}
theorem Mem.new (w0:World):Mem w0 [] w0:=⟨Below.refl _ _,by simp,.nil⟩
theorem Mem.ob (h:Mem w0 M w)(i:Nat){g:Nat}{S:Obj->Prop}(e:M[i]?=some (g,S)):∃ ob,w.heap[g]?=some ob/\S ob:=(h.has _ (List.mem_of_getElem? e)).2
theorem Mem.at (h:Mem w0 M w)(i:Nat){g:Nat}{t:TypeId}{cs:Array Value}(e:M[i]?=some (g,isB t cs)):Blk w g t cs:=by
 obtain⟨ob,h1,h2⟩:=h.ob i e
 unfold isB at h2
 subst h2
 exact h1
theorem Mem.ge (h:Mem w0 M w)(i:Nat){g:Nat}{S:Obj->Prop}(e:M[i]?=some (g,S)):w0.heap.size<=g:=(h.has _ (List.mem_of_getElem? e)).1
theorem lt_of_ob {w:World}{g:Nat}{ob:Obj}(h:w.heap[g]?=some ob):g<w.heap.size:=(Array.getElem?_eq_some_iff.1 h).1
theorem Mem.lt (h:Mem w0 M w){x:Nat×(Obj->Prop)}(hx:x∈M):x.1<w.heap.size:=by obtain⟨_,ob,h1,_⟩:=h.has x hx;exact lt_of_ob h1
theorem Mem.grow {w2:World}(h:Mem w0 M w)(hb:Below w.heap.size w w2):Mem w0 M w2 :=
 ⟨h.below.trans (hb.mono h.below.size),fun x hx=>⟨(h.has x hx).1,by obtain⟨_,ob,h1,h2⟩:=h.has x hx;exact⟨ob,(hb.block _ (lt_of_ob h1)).trans h1,h2⟩⟩,h.nd⟩
theorem Mem.addS {w2:World}{g:Nat}{S:Obj->Prop}(h:Mem w0 M w)(hb:Below w.heap.size w w2)(hg:w.heap.size<=g)(hB:∃ ob,w2.heap[g]?=some ob/\S ob):Mem w0 ((g,S)::M) w2:=by
 refine⟨(h.grow hb).below,fun x hx=>?_,List.Pairwise.cons (fun y hy=>?_) h.nd⟩
 ·rcases List.mem_cons.1 hx with rfl | hx
  ·exact⟨Nat.le_trans h.below.size hg,hB⟩
  ·exact(h.grow hb).has x hx
 ·have:=h.lt hy
  simp only
  omega
theorem Mem.add {w2:World}{g:Nat}{t:TypeId}{cs:Array Value}(h:Mem w0 M w)(hb:Below w.heap.size w w2)(hg:w.heap.size<=g)(hB:Blk w2 g t cs):Mem w0 ((g,isB t cs)::M) w2:=h.addS hb hg ⟨_,hB,rfl⟩
theorem Mem.alloc (h:Mem w0 M w)(cs:Array Value)(t:TypeId):Mem w0 ((w.heap.size,isB t cs)::M) (w.alloc (.cells cs t)) :=
 h.add ((Below.refl _ _).alloc (Nat.le_refl _) _) (Nat.le_refl _) (Blk.new _ _ _)
theorem Mem.drew (h:Mem w0 M w):Mem w0 M w.drew:=h.grow (Below.refl _ _).drew
theorem Mem.sub {M2:List (Nat×(Obj->Prop))}(h:Mem w0 M w)(hs:M2.Sublist M):Mem w0 M2 w:=⟨h.below,fun x hx=>h.has x (hs.subset hx),h.nd.sublist hs⟩
theorem setAt_ne {M:List (Nat×(Obj->Prop))}(nd:M.Pairwise fun x y=>x.1≠y.1){i j:Nat}{x y:Nat×(Obj->Prop)}(hi:M[i]?=some x)(hj:M[j]?=some y)(hne:i≠j):x.1≠y.1:=by
 obtain⟨h1,rfl⟩:=List.getElem?_eq_some_iff.1 hi
 obtain⟨h2,rfl⟩:=List.getElem?_eq_some_iff.1 hj
 rcases Nat.lt_or_ge i j with h | h
 ·exact List.pairwise_iff_getElem.1 nd i j h1 h2 h
 ·exact fun e=>List.pairwise_iff_getElem.1 nd j i h2 h1 (by omega) e.symm
theorem Mem.upd {w2:World}(h:Mem w0 M w)(i:Nat){g:Nat}{S:Obj->Prop}(e:M[i]?=some (g,S))(hg:w.grownBy w2 (some g)){S2:Obj->Prop}(hS:∃ ob,w2.heap[g]?=some ob/\S2 ob):Mem w0 (M.set i (g,S2)) w2:=by
 refine⟨⟨hg.os.trans h.below.os,hg.tape.trans h.below.tape,hg.output.trans h.below.output,Nat.le_trans h.below.size hg.size,fun k hk=>(hg.block k (Nat.lt_of_lt_of_le hk h.below.size) (fun e2=>by have:=h.ge i e;injection e2 with e2;omega)).trans (h.below.block k hk)⟩,fun x hx=>?_,?_⟩
 ·obtain⟨j,hj⟩:=List.mem_iff_getElem?.1 hx
  rw[List.getElem?_set] at hj
  have hil:=(List.getElem?_eq_some_iff.1 e).1
  by_cases hij:i=j
  ·rw[if_pos hij,if_pos hil] at hj
   injection hj with hj
   subst hj
   exact⟨h.ge i e,hS⟩
  ·rw[if_neg hij] at hj
   obtain⟨h1,ob,h2,h3⟩:=h.has x (List.mem_of_getElem? hj)
   exact⟨h1,ob,(hg.block _ (lt_of_ob h2) (fun e2=>setAt_ne h.nd e hj hij (Option.some.inj e2).symm)).trans h2,h3⟩
 ·rw[List.pairwise_iff_getElem]
  have nd:=List.pairwise_iff_getElem.1 h.nd
  have hil:=(List.getElem?_eq_some_iff.1 e)
  have hfst:∀ k (hk:k<(M.set i (g,S2)).length),((M.set i (g,S2))[k]).1=(M[k]'(by simpa using hk)).1:=by
   intro k hk
   rw[List.getElem_set]
   split
   ·rename_i hik;subst hik;rw[hil.2]
   ·rfl
  intro p q hp hq hpq
  rw[hfst p hp,hfst q hq]
  exact nd p q (by simpa using hp) (by simpa using hq) hpq
theorem grown_setRow (w:World)(g:Nat)(cs:Array Value):w.grownBy (w.setRow g cs) (some g):=by
 refine⟨rfl,rfl,rfl,by simp[World.setRow],fun k _ hne=>?_⟩
 have:g≠k:=fun e=>hne (by rw[e])
 simp[World.setRow,Array.getElem?_modify,this]
theorem Mem.row (h:Mem w0 M w)(i:Nat){g:Nat}{t:TypeId}{cs:Array Value}(e:M[i]?=some (g,isB t cs))(cs2:Array Value):Mem w0 (M.set i (g,isB t cs2)) (w.setRow g cs2) :=
 h.upd i e (grown_setRow w g cs2) ⟨_,(h.at i e).row cs2,rfl⟩
structure OwnR (w0:World)(M:List (Nat×(Obj->Prop)))(w:World)(e:TypeId)(size:Nat)(v:Value)(n:Nat)(xs:List Value):Prop where
 owns:w.ownsRow w0.heap.size e size v n xs
 far:∀ x∈M,v.ownBlock≠some x.1
variable {e:TypeId}{size m:Nat}{xs:List Value}
theorem own_lt_size {base:Nat}{g:Nat}(h:w.ownsRow base e size v m xs)(hg:v.ownBlock=some g):g<w.heap.size:=by
 rcases h.2 with⟨rfl,_⟩ | ⟨g2,cap,cur,rfl,_,hh,_⟩
 ·simp[Value.ownBlock] at hg
 ·have:g2=g:=by simpa[Value.ownBlock] using hg
  subst this
  exact lt_of_ob hh
theorem OwnR.grow {w2:World}(h:OwnR w0 M w e size v m xs)(hb:Below w.heap.size w w2):OwnR w0 M w2 e size v m xs:=by
 refine⟨⟨h.owns.1,?_⟩,h.far⟩
 rcases h.owns.2 with h1 | ⟨g,cap,cur,h1,h2,hh,h3⟩
 ·exact .inl h1
 ·exact .inr ⟨g,cap,cur,h1,h2,(hb.block g (lt_of_ob hh)).trans hh,h3⟩
theorem OwnR.nil (w0 w:World)(M:List (Nat×(Obj->Prop)))(e:TypeId)(size:Nat):OwnR w0 M w e size (.slice none 0 0) 0 []:=⟨⟨by simp,.inl ⟨rfl,rfl⟩⟩,fun _ _=>by simp[Value.ownBlock]⟩
theorem OwnR.mem {w2:World}(h:OwnR w0 M w e size v m xs)(hM:Mem w0 M w)(hg:w.grownBy w2 v.ownBlock):Mem w0 M w2:=by
 have hge:∀ k,v.ownBlock=some k->w0.heap.size<=k:=fun k hk=>own_base h.owns hk
 refine⟨⟨hg.os.trans hM.below.os,hg.tape.trans hM.below.tape,hg.output.trans hM.below.output,Nat.le_trans hM.below.size hg.size,fun k hk=>(hg.block k (Nat.lt_of_lt_of_le hk hM.below.size) (fun e2=>by have:=hge k e2.symm;omega)).trans (hM.below.block k hk)⟩,fun x hx=>?_,hM.nd⟩
 obtain⟨h1,ob,h2,h3⟩:=hM.has x hx
 exact⟨h1,ob,(hg.block _ (lt_of_ob h2) (fun e2=>h.far x hx e2.symm)).trans h2,h3⟩
theorem OwnR.next {w2:World}{v2:Value}{m2:Nat}{xs2:List Value}(h:OwnR w0 M w e size v m xs)(hM:Mem w0 M w)(h2:w2.ownsRow w0.heap.size e size v2 m2 xs2)(hb:v2.ownBlock=v.ownBlock ∨ ∃ g,v2.ownBlock=some g/\w.heap.size<=g):OwnR w0 M w2 e size v2 m2 xs2:=by
 refine⟨h2,fun x hx=>?_⟩
 rcases hb with hb | ⟨g,hb,hg⟩
 ·rw[hb];exact h.far x hx
 ·rw[hb]
  intro e2
  have:=hM.lt hx
  injection e2 with e2
  omega
theorem OwnR.add {w2:World}{g:Nat}{S:Obj->Prop}(h:OwnR w0 M w e size v m xs)(hb:Below w.heap.size w w2)(hg:w.heap.size<=g):OwnR w0 ((g,S)::M) w2 e size v m xs:=by
 refine⟨(h.grow hb).owns,fun x hx=>?_⟩
 rcases List.mem_cons.1 hx with rfl | hx
 ·intro e2
  have:=own_lt_size h.owns e2
  simp only at this
  omega
 ·exact h.far x hx
theorem OwnR.upd {w2:World}(h:OwnR w0 M w e size v m xs)(i:Nat){g:Nat}{S S2:Obj->Prop}(hi:M[i]?=some (g,S))(hg:w.grownBy w2 (some g)):OwnR w0 (M.set i (g,S2)) w2 e size v m xs:=by
 have hne:v.ownBlock≠some g:=h.far _ (List.mem_of_getElem? hi)
 refine⟨⟨h.owns.1,?_⟩,fun x hx=>?_⟩
 ·rcases h.owns.2 with h1 | ⟨g2,cap,cur,rfl,h2,hh,h3⟩
  ·exact .inl h1
  ·exact .inr ⟨g2,cap,cur,rfl,h2,(hg.block g2 (lt_of_ob hh) (by simpa[Value.ownBlock] using hne)).trans hh,h3⟩
 ·obtain⟨j,hj⟩:=List.mem_iff_getElem?.1 hx
  rw[List.getElem?_set] at hj
  split at hj
  ·split at hj
   ·injection hj with hj;subst hj;exact hne
   ·cases hj
  ·exact h.far x (List.mem_of_getElem? hj)
end
section
variable {P:Program}{a:Act}{o:Oper}{w w0:World}{n s:Nat}{L:List (Nat×Value)}{v:Value}{ops:Array Oper}{rest:List Oper}{Q:Exit->Act->World->Prop}{M:List (Nat×(Obj->Prop))}
theorem wantedS (hg:o.guard=none):Region.wanted o (yielded ops a.tmps)=true:=by simp[Region.wanted,hg]
theorem wantedG {j sj:Nat}{want b:Bool}{oj:Oper}(hF:FrD D a n L)(hg:o.guard=some (j,want))(hj:ops[j]?=some oj)(hs:oj.dst=some sj)(he:lk L sj=some (.bool b))(hb:(b==want)=true):Region.wanted o (yielded ops a.tmps)=true:=by
 simp[Region.wanted,hg,yielded,hj,hs,hF.at sj he,hb]
theorem sq {w2:World}(hF:FrD D a n L)(hw:Region.wanted o (yielded ops a.tmps)=true)(hrun:(execOp a.eval o).run P w = .ok (.value v) w2)(hd:o.dst=some s)(hs:s<n)
  (h:∀ a2,FrD D a2 n ((s,v)::L)->wpList P ops Q rest a2 w2):wpList P ops Q (o::rest) a w:=by
 unfold wpList
 rw[if_pos hw]
 left
 unfold Oper.wp
 rw[hrun,Oper.upon_value,hd]
 exact h _ (hF.put hs)
theorem sqN {w2:World}(hF:FrD D a n L)(hw:Region.wanted o (yielded ops a.tmps)=true)(hrun:(execOp a.eval o).run P w = .ok .skip w2)(hd:o.dst=none)
  (h:∀ a2,FrD D a2 n L->wpList P ops Q rest a2 w2):wpList P ops Q (o::rest) a w:=by
 unfold wpList
 rw[if_pos hw]
 left
 unfold Oper.wp
 rw[hrun,Oper.upon_skip,hd]
 exact h _ hF
theorem sqSkip (hF:FrD D a n L)(hw:Region.wanted o (yielded ops a.tmps)=false)(hd:o.dst=some s)(hs:s<n)(h:∀ a2,FrD D a2 n ((s,undef)::L)->wpList P ops Q rest a2 w):wpList P ops Q (o::rest) a w:=by
 unfold wpList
 rw[if_neg (by rw[hw];decide),hd]
 exact h _ (hF.put hs)
theorem sr {w2:World}(hF:FrD D a n L)(hrun:(execOp a.eval o).run P w = .ok (.value v) w2)(hg:o.guard=none)(hd:o.dst=some s)(hs:Nat.blt s n=true)(h:∀ a2,FrD D a2 n ((s,v)::L)->wpList P ops Q rest a2 w2):wpList P ops Q (o::rest) a w :=
 sq hF (wantedS hg) hrun hd (Nat.le_of_ble_eq_true hs) h
theorem mvS {j:Nat}(hF:FrD D a n L)(ho:o.op = .move (.tmp j))(he:lk L j=some v)(hg:o.guard=none)(hd:o.dst=some s)(hs:Nat.blt s n=true)(h:∀ a2,FrD D a2 n ((s,v)::L)->wpList P ops Q rest a2 w):wpList P ops Q (o::rest) a w :=
 sr hF (by simp[execOp,ho,hF.ev j he]) hg hd hs h
theorem asS {j:Nat}(hF:FrD D a n L)(ho:o.op = .assign (.tmp j))(he:lk L j=some v)(hg:o.guard=none)(hd:o.dst=some s)(hs:Nat.blt s n=true)(h:∀ a2,FrD D a2 n ((s,v)::L)->wpList P ops Q rest a2 w):wpList P ops Q (o::rest) a w :=
 sr hF (by simp[execOp,ho,hF.ev j he]) hg hd hs h
theorem wsl {id:Nat}{l:List Oper}{c:Code}(h:wpList P l.toArray (Exit.then (c.wp P Q) Q) l a w):(Code.seq (Code.region id l.toArray false) c).wp P Q a w:=wp_seq (wp_region_lit h)
theorem sqT {f:FuncId}{args:Array Value}{T:Value->World->Prop}(hF:FrD D a n L)(hw:Region.wanted o (yielded ops a.tmps)=true)(hrun:(execOp a.eval o).run P w = .ok (.enter f args) w)(hd:o.dst=some s)(hs:s<n)
  (hc:Calls P f args w fun e w2=>∃ v,e = .returned v/\T v w2) (h:∀ v a2 w2,T v w2->FrD D a2 n ((s,v)::L)->wpList P ops Q rest a2 w2):wpList P ops Q (o::rest) a w:=by
 unfold wpList
 rw[if_pos hw]
 left
 unfold Oper.wp
 rw[hrun,Oper.upon_enter]
 refine hc.mono ?_
 rintro e w2 ⟨v,rfl,hT⟩
 show wpList _ _ _ _ _ _
 rw[hd]
 exact h v _ w2 hT (hF.put hs)
theorem sqC {f:FuncId}{args:Array Value}(hF:FrD D a n L)(hM:Mem w0 M w)(hw:Region.wanted o (yielded ops a.tmps)=true)(hrun:(execOp a.eval o).run P w = .ok (.enter f args) w)(hd:o.dst=some s)(hs:s<n)
  (hc:Calls P f args w fun e w2=>e = .returned v/\Below w.heap.size w w2) (h:∀ a2 w2,Below w.heap.size w w2->FrD D a2 n ((s,v)::L)->Mem w0 M w2->wpList P ops Q rest a2 w2):wpList P ops Q (o::rest) a w :=
 sqT (T:=fun u w2=>u=v/\Below w.heap.size w w2) hF hw hrun hd hs (hc.mono fun _ _ ⟨h1,h2⟩=>⟨v,h1,rfl,h2⟩) fun u a2 w2 hT hF2=>by
  obtain⟨rfl,hb⟩:=hT
  exact h a2 w2 hb hF2 (hM.grow hb)
theorem run_call {f:FuncId}{fn:Func}{xs:Array Operand}{ts:Array TypeId}{args:Array Value}(ho:o.op = .call { callee:=.value (.func f),args:=xs,argTypes:=ts })(hf:P.funcs[f]?=some fn)(hn:(fn.name == "runtime.NumGoroutine")=false)(hb:fn.body.isNone=false)(hx:xs.map a.eval=args) :
  (execOp a.eval o).run P w = .ok (.enter f args) w:=by
 subst hx
 have e:(callFunc f (xs.map a.eval)).run P w = .ok (.enter f (xs.map a.eval)) w:=by
  have h1:fn.name ≠ "runtime.NumGoroutine":=by simpa using hn
  have h2:fn.body≠none:=by intro e;rw[e] at hb;cases hb
  simp[callFunc,hf,h1,h2]
 unfold execOp
 simp only[ho]
 simp only[resolve,Act.eval,Deferred.ofValue,Sem.run_bind,Sem.run_pure,Result.andThen_ok,invoke,Array.append_empty,Array.empty_append]
 exact e
theorem mapE1 {x:Operand}{u:Value}(h:a.eval x=u):#[x].map a.eval = #[u]:=by simp[h]
theorem mapE2 {x x2:Operand}{u u2:Value}(h:a.eval x=u)(h2:a.eval x2=u2):#[x,x2].map a.eval = #[u,u2]:=by simp[h,h2]
theorem run_mv {x:Operand}(ho:o.op = .move x)(hx:a.eval x=v):(execOp a.eval o).run P w = .ok (.value v) w:=by simp[execOp,ho,hx]
theorem run_as {x:Operand}(ho:o.op = .assign x)(hx:a.eval x=v):(execOp a.eval o).run P w = .ok (.value v) w:=by simp[execOp,ho,hx]
theorem sqNew {t:TypeId}{cs:Array Value}(hF:FrD D a n L)(hM:Mem w0 M w)(hw:Region.wanted o (yielded ops a.tmps)=true)(hrun:(execOp a.eval o).run P w = .ok (.value (.pointer (some ⟨w.heap.size,0,none⟩))) (w.alloc (.cells cs t)))(hd:o.dst=some s)(hs:s<n)
  (h:∀ g a2 w2,w.heap.size<=g->Below w.heap.size w w2->FrD D a2 n ((s,.pointer (some ⟨g,0,none⟩))::L)->Mem w0 ((g,isB t cs)::M) w2->wpList P ops Q rest a2 w2):wpList P ops Q (o::rest) a w :=
 sq hF hw hrun hd hs fun a2 hF2=>h w.heap.size a2 _ (Nat.le_refl _) ((Below.refl _ _).alloc (Nat.le_refl _) _) hF2 (hM.alloc cs t)
theorem sqEnd (h:Q .normal a w):wpList P ops Q [] a w:=h
theorem nx {next:Act->World->Prop}(h:next a w):Exit.then next Q .normal a w:=h
theorem sn {next:Act->World->Prop}(h:next a w):wpList P ops (Exit.then next Q) [] a w:=h
theorem cfs {c:Operand}{x:Code}{next:Act->World->Prop}(hc:a.eval c = .bool false)(h:next a w):(Code.cond c x .skip).wp P (Exit.then next Q) a w:=wp_cond_false hc (wp_skip h)
theorem cts {c:Operand}{y:Code}{next:Act->World->Prop}(hc:a.eval c = .bool true)(h:next a w):(Code.cond c .skip y).wp P (Exit.then next Q) a w:=wp_cond_true hc (wp_skip h)
theorem nxRet {next:Act->World->Prop}(h:Q .ret a w):Exit.then next Q .ret a w:=h
theorem nxExit {next:Act->World->Prop}{i:Nat}(h:Q (.exit i) a w):Exit.then next Q (.exit i) a w:=h
theorem bkRet {i:Nat}(h:Q .ret a w):Exit.inBlock i Q .ret a w:=h
theorem bkEnd {i:Nat}(h:Q .normal a w):Exit.inBlock i Q .normal a w:=h
theorem bkHere {i:Nat}(h:Q .normal a w):Exit.inBlock i Q (.exit i) a w:=by show(if i=i then _ else _);rw[if_pos rfl];exact h
theorem bkFar {i j:Nat}(hij:j≠i)(h:Q (.exit j) a w):Exit.inBlock i Q (.exit j) a w:=by show(if j=i then _ else _);rw[if_neg hij];exact h
theorem wkLoop {c:Code}(I:Nat->Act->World->Prop)(m:Nat)(h0:I m a w)(round:∀ m a w,I m a w->c.wp P (Exit.then (fun a2 w2=>∃ m2,m2<m/\I m2 a2 w2) Q) a w):(Code.loop c).wp P Q a w:=by
 intro b k cs
 have key:∀ n a w,I n a w->∃ e a2 w2,Q e a2 w2/\Arrives P (lone (b.at a (.code c :: .inLoop c::k)) cs w) b k cs e a2 w2:=by
  intro n
  induction n using Nat.strongRecOn with
  | _ n ih=>
   intro a w hI
   obtain⟨e,a1,w1,hq,harr⟩:=round n a w hI b (.inLoop c::k) cs
   cases e with
   | normal=>
    obtain⟨m2,hlt,hI1⟩:=hq
    obtain⟨e2,a2,w2,hq2,harr2⟩:=ih m2 hlt a1 w1 hI1
    exact⟨e2,a2,w2,hq2,.of_steps (Steps.trans harr (.one step_inLoop)) harr2⟩
   | exit id=>exact⟨_,a1,w1,hq,.pass (x:=.inLoop c) rfl (fun _ _=>.inl (by simp)) harr⟩
   | goto l=>exact⟨_,a1,w1,hq,.pass (x:=.inLoop c) rfl (fun _ _=>.inl (by simp)) harr⟩
   | ret=>exact⟨_,a1,w1,hq,.pass (x:=.inLoop c) rfl (fun _ _=>.inl (by simp)) harr⟩
   | panic ch=>exact⟨_,a1,w1,hq,.pass (x:=.inLoop c) rfl (fun _ _=>.inl (by simp)) harr⟩
   | outgrown=>exact⟨_,a1,w1,hq,.pass (x:=.inLoop c) rfl (fun _ _=>.inl (by simp)) harr⟩
 obtain⟨e,a2,w2,hq,harr⟩:=key m a w h0
 exact⟨e,a2,w2,hq,.of_steps (.one step_loop) harr⟩
theorem ret1 {fn:Func}{R:Ending->World->Prop}(hF:Fr a n L)(hr:fn.results = #[.tmp s])(hl:lk L s=some v)(h:R (.returned v) w):bodyPost P fn R .ret a w :=
 bodyPost_ret (results_tmp hr a.tmps P w) hF.defers (by rw[Array.getD_eq_getD_getElem?,hF.at s hl];exact h)
theorem ret2 {fn:Func}{R:Ending->World->Prop}{s2:Nat}{v2:Value}(hF:Fr a n L)(hr:fn.results = #[.tmp s,.tmp s2])(hl:lk L s=some v)(hl2:lk L s2=some v2)(h:R (.returned (.tuple #[v,v2])) w):bodyPost P fn R .ret a w :=
 bodyPost_ret (results_tmp2 hr a.tmps P w) hF.defers (by rw[Array.getD_eq_getD_getElem?,hF.at s hl,Array.getD_eq_getD_getElem?,hF.at s2 hl2];exact h)
end
def dsts :List Oper->List Value->List (Nat×Value)
 | o::os,v::vs=>match o.dst with | some s=>(s,v)::dsts os vs | none=>dsts os vs
 | _,_=>[]
theorem lk_dsts {a:Act}:∀ (r:List Oper) (vs:List Value),AllAt a r vs->∀ s v,lk (dsts r vs) s=some v->a.tmps[s]?=some v
 | [],[],_,s,v,h=>by simp[dsts,lk] at h
 | [],_::_,h,_,_,_=>h.elim
 | _::_,[],h,_,_,_=>h.elim
 | o::os,u::vs,hA,s,v,h=>by
  unfold dsts at h
  have h1:=hA.1
  cases ho:o.dst with
  | none=>rw[ho] at h;exact lk_dsts os vs hA.2 s v h
  | some d=>
   rw[ho] at h h1
   simp only at h h1
   unfold lk at h
   cases hb:Nat.beq d s with
   | true=>
    simp only[hb,cond_true,Option.some.injEq] at h
    rw[←Nat.eq_of_beq_eq_true hb,←h];exact h1
   | false=>
    simp only[hb,cond_false] at h
    exact lk_dsts os vs hA.2 s v h
theorem lk_app :∀ (A B:List (Nat×Value)) (s:Nat) (v:Value),lk (A++B) s=some v->lk A s=some v\/((∀ u,(s,u)∉A)/\lk B s=some v)
 | [],B,s,v,h=>.inr ⟨by simp,h⟩
 | p::A,B,s,v,h=>by
  rw[List.cons_append] at h
  unfold lk at h
  rw[show lk (p::A) s=cond (Nat.beq p.1 s) (some p.2) (lk A s) from rfl]
  cases hb:Nat.beq p.1 s with
  | true=>rw[hb] at h;exact .inl h
  | false=>
   rw[hb] at h
   simp only[cond_false] at h ⊢
   rcases lk_app A B s v h with h | ⟨h1,h2⟩
   ·exact .inl h
   ·refine .inr ⟨fun u hu=>?_,h2⟩
    rcases List.mem_cons.1 hu with e | hu
    ·have:=Nat.ne_of_beq_eq_false hb
     exact this (by rw[←e])
    ·exact h1 u hu
theorem mem_dsts {a:Act}:∀ (r:List Oper) (vs:List Value),AllAt a r vs->∀ o∈r,∀ s,o.dst=some s->∃ u,(s,u)∈dsts r vs
 | [],[],_,o,ho,_,_=>by cases ho
 | [],_::_,h,_,_,_,_=>h.elim
 | _::_,[],h,_,_,_,_=>h.elim
 | x::os,u::vs,hA,o,ho,s,hs=>by
  unfold dsts
  rcases List.mem_cons.1 ho with rfl | ho
  ·rw[hs];exact⟨u,List.mem_cons_self ..⟩
  ·obtain⟨u',hu'⟩:=mem_dsts os vs hA.2 o ho s hs
   cases hx:x.dst with
   | none=>exact⟨u',hu'⟩
   | some d=>exact⟨u',List.mem_cons_of_mem _ hu'⟩
theorem Known.fr {l:List Oper}{a0 a:Act}{T:Nat->Value->World->Prop}{W:World}{n:Nat}{L:List (Nat×Value)}(h:Known l a0 T (fun _=>true) a W)(hF:FrD D a0 n L)(vs:List Value)(hA:AllAt a l vs):FrD D a n (dsts l vs++L):=by
 refine⟨h.size.trans hF.size,h.defers.trans hF.defers,fun s v e=>?_⟩
 rcases lk_app _ _ s v e with e | ⟨h1,h2⟩
 ·exact lk_dsts l vs hA s v e
 ·rw[h.old s (fun i o ho _ hd=>?_)]
  ·exact hF.has s v h2
  ·obtain⟨u,hu⟩:=mem_dsts l vs hA o (List.mem_of_getElem? ho) s hd
   exact h1 u hu
theorem Known.hfr {l:List Oper}{n0:Nat}{a0 a:Act}{T:Nat->Value->World->Prop}{W:World}{n:Nat}{L:List (Nat×Value)}(h:Known l a0 T (fun i=>decide (i<n0)) a W)(hF:FrD D a0 n L)(vs:List Value)(hA:AllAt a (l.take n0) vs):FrD D a n (dsts (l.take n0) vs++L):=by
 refine⟨h.size.trans hF.size,h.defers.trans hF.defers,fun s v e=>?_⟩
 rcases lk_app _ _ s v e with e | ⟨h1,h2⟩
 ·exact lk_dsts _ vs hA s v e
 ·rw[h.old s (fun i o ho hi hd=>?_)]
  ·exact hF.has s v h2
  ·obtain⟨u,hu⟩:=mem_dsts (l.take n0) vs hA o (List.mem_of_getElem? (i:=i) (by rw[List.getElem?_take_of_lt (by simpa using hi)];exact ho)) s hd
   exact h1 u hu
end
section
variable {D:List Deferred}
def kbytes (t:TypeId)(l:List UInt8):Kd:=⟨fun v W=>∃ g c,v = .slice (some ⟨g,0,none⟩) l.length c/\Blk W g t (cells8 l),fun _ _ _ hb ⟨g,c,h1,h2⟩=>⟨g,c,h1,h2.below hb h2.lt⟩⟩
theorem Dep.bytes {l:List Oper}{KL:List Kd}{i:Nat}{a:Act}{W:World}{j s:Nat}{t:TypeId}{L:List UInt8}(h:Dep l KL i a W)(hb:depB l i j s=true)(hk:KL.getD j kany=kbytes t L):∃ g c,a.tmps[s]?=some (.slice (some ⟨g,0,none⟩) L.length c)/\Blk W g t (cells8 L):=by
 obtain⟨v,h1,h2⟩:=h.get hb
 unfold kT at h2;rw[hk] at h2
 obtain⟨g,c,rfl,h3⟩:=h2
 exact⟨g,c,h1,h3⟩
theorem giv_run {P:Program}{KL:List Kd}{i:Nat}{o:Oper}{W:World}{a:Act}{c:Value}(h:(execOp a.eval o).run P W = .ok (.value c) W)(hk:KL.getD i kany=kval c):GivesT P (grows i W) (kT KL i) ((execOp a.eval o).run P W):=giv_val h hk rfl
theorem Known.get {l:List Oper}{a0 a:Act}{KL:List Kd}{W:World}{i s:Nat}(h:Known l a0 (kT KL) (fun _=>true) a W)(hb:(match l[i]? with | some oj=>oj.dst==some s | none=>false)=true):∃ v,a.tmps[s]?=some v/\(KL.getD i kany).p v W:=by
 cases hj:l[i]? with
 | none=>rw[hj] at hb;cases hb
 | some oj=>
  rw[hj] at hb
  exact h.new i oj s hj rfl (by simpa using hb)
section
variable {P:Program}{a:Act}{o:Oper}{w:World}{x y z:Operand}{t ty:TypeId}
theorem run_alloc {cs:Array Value}(ho:o.op = .alloc ty)(hz:(zeroValue ty).run P w = .ok (.agg cs) w):(execOp a.eval o).run P w = .ok (.value (.pointer (some ⟨w.heap.size,0,none⟩))) (w.alloc (.cells cs ty)):=by
 unfold execOp
 simp only[ho]
 simp[Instr.alloc,hz,go_sem]
theorem run_lenSl {ts:Array TypeId}{p:Option Addr}{n c:Nat}{e:TypeId}(ho:o.op = .call { callee:=.builtin .len,args:=#[x],argTypes:=ts })(hx:a.eval x = .slice p n c)(hts:ts = #[t])(hu:P.underlying t=some (.slice e)):(execOp a.eval o).run P w = .ok (.value (.int .i64 (n:Int))) w:=by
 subst hts
 have e:(Builtin.len_ #[t] o.type #[.slice p n c]).run P w = .ok (.int .i64 (n:Int)) w:=by simp[hu,go_sem]
 unfold execOp
 simp only[ho]
 simp[resolve,invoke,builtin,hx,e]
end
section
variable {a:Act}{o:Oper}{w:World}
end
theorem run_ldC {P:Program}{a:Act}{o:Oper}{w:World}{x:Operand}{t:TypeId}{q:Addr}{v:Value}(ho:o.op = .load t x)(hx:a.eval x = .pointer (some q))(hc:w.cell? q=some v)(hag:(isAgg t).run P w = .ok false w):(execOp a.eval o).run P w = .ok (.value v) w:=by
 unfold execOp
 simp only[ho,hx]
 simp[go_sem,hag,hc]
end
section

section
variable {P:Program}{l:List Oper}
theorem wp_region_inv {id:Nat}{Q:Exit->Act->World->Prop}{a0:Act}{w:World}(n:Nat)(hm:P.follows .mixedOrders=true)(hB:looseB l n=true)(Inv:(Nat->Bool)->Act->World->Prop)(h0:Inv (fun _=>false) a0 w.drew)
  (hstep:∀ (L:Nat->Bool) a W i o,Inv L a W->l[i]?=some o->L i=false->(∀ j,Region.waitsFor .any l.toArray i j=true->L j=true) →
   Region.wanted o (yielded l.toArray a.tmps)=true/\GivesT P (fun _=>True) (fun v W'=>Inv (fun j=>L j||j==i) (a.put o.dst v) W') ((execOp a.eval o).run P W))
  (hend:∀ L a W,(∀ j,j<l.length->L j=true)->Inv L a W->Q .normal a W):(Code.region id l.toArray true).wp P Q a0 w:=by
 refine wp_region_any hm ?_
 have main:∀ (f:Nat) (listed:Array Bool) (a:Act) (W:World),listed.size=l.length->openN l.length listed=f->Inv (fun j=>listed.getD j false) a W->wpAny P .any l.toArray Q f listed a W:=by
  intro f
  induction f with
  | zero=>
   intro listed a W hsz hf hI
   have hno:Region.ready .any l.toArray listed = []:=by
    refine Classical.byContradiction fun hc=>?_
    obtain⟨j,hj⟩:=List.exists_mem_of_ne_nil _ hc
    obtain⟨hu,o,ho,_⟩:=mem_ready.1 hj
    have hjl:j<l.length:=by simpa using (Array.getElem?_eq_some_iff.1 ho).1
    have:=openN_set l.length listed j hjl hsz hu
    omega
   refine⟨hno,hend _ a W (fun j hj=>?_) hI⟩
   have hjs:j<listed.size:=by omega
   cases hu:listed.getD j true with
   | true=>
    simp only[Array.getD_eq_getD_getElem?,Array.getElem?_eq_getElem hjs,Option.getD_some] at hu ⊢
    exact hu
   | false=>
    have:=openN_set l.length listed j hj hsz hu
    omega
  | succ f ih=>
   intro listed a W hsz hf hI
   refine⟨fun h=>absurd h (ready_of_open hB hsz (by omega)),fun i hi=>?_⟩
   obtain⟨hu,o,ho,hwait⟩:=mem_ready.1 hi
   have hio:l[i]?=some o:=by simpa using ho
   have hil:=(List.getElem?_eq_some_iff.1 hio).1
   have his:i<listed.size:=by omega
   have hL0:listed.getD i false=false:=by
    simp only[Array.getD_eq_getD_getElem?,Array.getElem?_eq_getElem his,Option.getD_some] at hu ⊢
    exact hu
   have hext:(fun j=>(listed.setIfInBounds i true).getD j false)=fun j=>listed.getD j false||j==i:=by
    funext j
    simp only[Array.getD_eq_getD_getElem?,Array.getElem?_setIfInBounds]
    by_cases hj:i=j
    ·subst hj;simp[his]
    ·rw[if_neg hj,beq_eq_false_iff_ne.2 (fun e=>hj e.symm),Bool.or_false]
   have hlist:∀ j,Region.waitsFor .any l.toArray i j=true->listed.getD j false=true:=by
    intro j hj
    obtain⟨o',ho',e,he,hb,hon⟩:=Region.waitsFor_spec hj
    have e1:o'=o:=Option.some.inj (ho'.symm.trans ho)
    subst e1
    rw[←hon];exact hwait e he hb
   have go:∀ v W',Inv (fun j=>listed.getD j false||j==i) (a.put o.dst v) W'->wpAny P .any l.toArray Q f (listed.setIfInBounds i true) (a.put o.dst v) W':=by
    intro v W' h
    exact ih _ _ _ (by simpa using hsz) (by have:=openN_set l.length listed i hil hsz hu;omega) (by rw[hext];exact h)
   obtain⟨hw,hg⟩:=hstep _ a W i o hI hio hL0 hlist
   unfold wpOp
   simp only[ho]
   rw[if_pos hw]
   left
   unfold Oper.wp
   generalize (execOp a.eval o).run P W=r at hg
   cases r with
   | ok x w'=>
    cases x <;> simp only[GivesT] at hg
    case value u=>exact go _ _ hg.2
    case skip=>exact go _ _ hg.2
    case enter f' args=>
     show Calls P f' args w' _
     refine hg.mono ?_
     rintro e w'' ⟨v,rfl,_,h2⟩
     exact go _ _ h2
   | halt x w'=>simp only[GivesT] at hg
 have h1:openN l.length (Array.replicate l.toArray.size false)=l.toArray.size:=by
  unfold openN
  have:((List.range l.length).filter fun i=>(Array.replicate l.toArray.size false).getD i true==false)=List.range l.length:=by
   apply List.filter_eq_self.2
   intro i hi
   rw[List.mem_range] at hi
   simp[hi]
  rw[this];simp
 refine main _ _ _ _ (by simp) h1 ?_
 have e:(fun j=>(Array.replicate l.toArray.size false).getD j false)=fun _=>false:=by funext j;exact getD_replicate_false _ _
 rw[e]
 exact h0
theorem put_same {a:Act}{s:Nat}{v:Value}(h:s<a.tmps.size):(a.put (some s) v).tmps[s]?=some v:=by simp[Act.put,h]
theorem put_ne {a:Act}{s s2:Nat}{v:Value}(h:s≠s2):(a.put (some s) v).tmps[s2]?=a.tmps[s2]?:=by
 simp only[Act.put,Array.getElem?_setIfInBounds]
 rw[if_neg h]
theorem put_size {a:Act}{s:Option Nat}{v:Value}:(a.put s v).tmps.size=a.tmps.size:=by cases s <;> simp[Act.put]
theorem put_defers {a:Act}{s:Option Nat}{v:Value}:(a.put s v).defers=a.defers:=by cases s <;> simp[Act.put]
theorem Mem.far {w0 W W':World}{M:List (Nat×(Obj->Prop))}{g:Nat}(h:Mem w0 M W)(hg:w0.heap.size<=g)(hfar:∀ y∈M,y.1≠g)(hgr:W.grownBy W' (some g)):Mem w0 M W':=by
 refine⟨⟨hgr.os.trans h.below.os,hgr.tape.trans h.below.tape,hgr.output.trans h.below.output,Nat.le_trans h.below.size hgr.size,fun k hk=>(hgr.block k (Nat.lt_of_lt_of_le hk h.below.size) (fun e=>by injection e with e;omega)).trans (h.below.block k hk)⟩,fun x hx=>?_,h.nd⟩
 obtain⟨h1,ob,h2,h3⟩:=h.has x hx
 exact⟨h1,ob,(hgr.block _ (lt_of_ob h2) (fun e=>hfar x hx (by injection e))).trans h2,h3⟩
def holds (a:Act):List (Nat×Value)->Prop
 | []=>True
 | p::r=>a.tmps[p.1]?=some p.2/\holds a r
end
end
section
variable {D:List Deferred}
def Sl (w:World)(v:Value)(m n:Nat)(cs:List Value):Prop :=
 cs.length=n*m/\(((∃ a c,v = .slice a 0 c)/\n=0) ∨ ∃ b o c:Nat,v = .slice (some ⟨b,o,none⟩) n c/\b<w.heap.size ∧ ∀ j u,cs[j]?=some u->w.cell? ⟨b,o+j,none⟩=some u)
section
variable {w w2:World}{v:Value}{m n:Nat}{cs:List Value}
theorem Sl.keep (h:Sl w v m n cs)(hs:w.heap.size<=w2.heap.size)(hk:∀ b,b<w.heap.size->w2.heap[b]?=w.heap[b]?):Sl w2 v m n cs:=by
 refine⟨h.1,?_⟩
 rcases h.2 with h | ⟨b,o,c,h1,h2,h3⟩
 ·exact .inl h
 ·refine .inr ⟨b,o,c,h1,by omega,fun j u hj=>?_⟩
  rw[←h3 j u hj]
  unfold World.cell?
  simp only[hk b h2]
theorem Sl.below (h:Sl w v m n cs)(hb:Below w.heap.size w w2):Sl w2 v m n cs:=h.keep hb.size (fun b hl=>hb.block b hl)
theorem Sl.len (h:Sl w v m n cs):∃ a c,v = .slice a n c:=by
 rcases h.2 with⟨⟨a,c,rfl⟩,rfl⟩ | ⟨b,o,c,h1,_,_⟩
 ·exact⟨_,_,rfl⟩
 ·exact⟨_,_,h1⟩
theorem Strs.sl {l:List (List UInt8)}(h:Strs w v l):Sl w v 1 l.length (l.map tx):=by
 refine⟨by simp,?_⟩
 rcases h with⟨h1,h2⟩ | ⟨b,o,c,h1,h2,h3⟩
 ·exact .inl ⟨h1,by rw[h2];rfl⟩
 ·refine .inr ⟨b,o,c,h1,h2,fun j u hj=>?_⟩
  have hl:j<l.length:=by have:=(List.getElem?_eq_some_iff.1 hj).1;simpa using this
  rw[h3 j hl]
  simp[hl] at hj ⊢
  exact hj
theorem Sl.own {w0:World}{M:List (Nat×(Obj->Prop))}{e:TypeId}(h:OwnR w0 M w e m v n cs):Sl w v m n cs:=by
 refine⟨h.owns.1,?_⟩
 rcases h.owns.2 with⟨rfl,h2⟩ | ⟨g,cap,cur,rfl,_,hh,h1,h2,h3,h4⟩
 ·exact .inl ⟨⟨_,_,rfl⟩,h2⟩
 ·refine .inr ⟨g,0,cap,rfl,lt_of_ob hh,fun j u hj=>?_⟩
  rw[Nat.zero_add,cell_of_row w g j cur e (0,0) hh]
  have hl:j<n*m:=by have:=(List.getElem?_eq_some_iff.1 hj).1;rw[h.owns.1] at this;exact this
  have e1:cur[j]?=(cur.toList.take (n*m))[j]?:=by rw[List.getElem?_take_of_lt hl];simp
  rw[e1,h4];exact hj
end
section
variable {P:Program}{w:World}
theorem append_block {base:Nat}{t ty e:TypeId}{i:TypeInfo}{z:Value}{size bytes:Nat}(ht:P.underlying t=some (.slice e))(hi:P.info? e=some i)(hz:i.zero=some z)
  (hsize:i.size=size) (hby:i.bytes=bytes) {v:Value} {n:Nat} {xs:List Value} (hown:w.ownsRow base e size v n xs)
  {a:Addr} {m c:Nat} {news:List Value} (hl:news.length=m*size) (hnews:∀ j u,news[j]?=some u->w.cell? (a.add j)=some u) (h1:∀ u∈news,u.oneCell'=true)
  (h63:n+m<=maxLen) (hbytes:(n+m)*bytes<=140737488355328) {v2:Value} {w2:World} (hr:(Builtin.append_ #[t,t] ty #[v,.slice (some a) m c]).run P w = .ok v2 w2) (hnil:v2 = .slice none 0 0 ↔ v = .slice none 0 0/\m=0) :
  v2.ownBlock=v.ownBlock ∨ ∃ g,v2.ownBlock=some g/\w.heap.size<=g:=by
 subst hsize hby
 have hsmall:n+m<=9223372036854775807:=by simp only[maxLen] at h63;omega
 rcases hown.2 with⟨rfl,rfl⟩ | ⟨g,cap,cur,rfl,hbg,hg,hnc,hcm,hcs,htake⟩
 ·by_cases hm:m=0
  ·rw[hnil.2 ⟨rfl,hm⟩];exact .inl rfl
  ·have hr2:=run_append_nil (P:=P) w t ty e i z ht hi hz a m c news hl hnews (by omega) (by omega) (by have hb:=hbytes;simp only[Nat.zero_add] at hb;omega)
   rw[hr2] at hr
   injection hr with hv _
   subst hv
   exact .inr ⟨_,rfl,Nat.le_refl _⟩
 ·by_cases hroom:n+m<=cap
  ·have hfit:n*i.size+news.length<=cur.size:=by rw[hl,hcs,←Nat.add_mul];exact Nat.mul_le_mul_right _ hroom
   have hr2:=run_append_room (P:=P) w t ty e i ht hi g n cap cur hg a m c news hl hnews h1 hroom hfit
   rw[hr2] at hr
   injection hr with hv _
   subst hv
   exact .inl rfl
  ·have holds:∀ j u,xs[j]?=some u->w.cell? ((⟨g,0,none⟩:Addr).add j)=some u:=hown.cells (g:=g) rfl
   have hr2:=run_append_grow (P:=P) w t ty e i z ht hi hz ⟨g,0,none⟩ n cap xs hown.1 holds a m c news hl hnews (by omega) (by omega) (growslice_fits (by omega) hbytes)
   rw[hr2] at hr
   injection hr with hv _
   subst hv
   exact .inr ⟨_,rfl,Nat.le_refl _⟩
variable {a:Act}{o:Oper}{w0:World}{n s:Nat}{L:List (Nat×Value)}{v:Value}{ops:Array Oper}{rest:List Oper}{Q:Exit->Act->World->Prop}{M:List (Nat×(Obj->Prop))}{x y:Operand}
structure ElT (P:Program)(t e:TypeId)(size bytes:Nat):Prop where
 un:P.underlying t=some (.slice e)
 inf:∃ i z,P.info? e=some i/\i.zero=some z/\i.size=size/\i.bytes=bytes/\z.cells.size=size
 pos:0<size
theorem sqRow {t:TypeId}{cs:Array Value}{m:Nat}(hF:FrD D a n L)(hM:Mem w0 M w)(hw:Region.wanted o (yielded ops a.tmps)=true)(hrun:(execOp a.eval o).run P w = .ok (.value (.slice (some ⟨w.heap.size,0,none⟩) m m)) (w.alloc (.cells cs t)))(hd:o.dst=some s)(hs:s<n)
  (h:∀ g a2 w2,w.heap.size<=g->Below w.heap.size w w2->FrD D a2 n ((s,.slice (some ⟨g,0,none⟩) m m)::L)->Mem w0 ((g,isB t cs)::M) w2->wpList P ops Q rest a2 w2):wpList P ops Q (o::rest) a w :=
 sq hF hw hrun hd hs fun a2 hF2=>h w.heap.size a2 _ (Nat.le_refl _) ((Below.refl _ _).alloc (Nat.le_refl _) _) hF2 (hM.alloc cs t)
theorem blkNews {w:World}{g:Nat}{t:TypeId}{news:List Value}(h:Blk w g t news.toArray):∀ j u,news[j]?=some u->w.cell? ((⟨g,0,none⟩:Addr).add j)=some u:=by
 intro j u hj
 rw[addr_add,Nat.zero_add,h.cell]
 simpa using hj
theorem all_one {l:List Value}(h:(l.all fun u=>u.oneCell')=true):∀ u∈l,u.oneCell'=true:=fun u hu=>List.all_eq_true.1 h u hu
theorem OwnR.sub {w0 w:World}{M M2:List (Nat×(Obj->Prop))}{e:TypeId}{size m:Nat}{v:Value}{xs:List Value}(h:OwnR w0 M w e size v m xs)(hs:M2.Sublist M):OwnR w0 M2 w e size v m xs:=⟨h.owns,fun x hx=>h.far x (hs.subset hx)⟩
end
end
section

section
variable {P:Program}{l:List Oper}
def AsksH (P:Program)(l:List Oper)(n0:Nat)(a0:Act)(S:World->Prop)(T:Nat->Value->World->Prop)(R:Nat->World->World->Prop)(i:Nat)(o:Oper):Prop :=
 ∀ (a:Act) (W:World),S W->(∀ s v,noDst (l.take n0) s=true->a0.tmps[s]?=some v->a.tmps[s]?=some v)->(∀ j,Region.waitsFor .any l.toArray i j=true->∀ oj s,l[j]?=some oj->oj.dst=some s->∃ v,a.tmps[s]?=some v/\T j v W) →
  (∀ j,Region.waitsFor .any l.toArray i j=true->∀ oj,l[j]?=some oj->oj.dst=none->T j undef W) →
  (Region.wanted o (yielded l.toArray a.tmps)=true/\GivesT P (R i W) (T i) ((execOp a.eval o).run P W))\/(Region.wanted o (yielded l.toArray a.tmps)=false/\T i undef W)
def AskAllH (P:Program)(l:List Oper)(n0:Nat)(a0:Act)(w:World)(KL:List Kd):Nat->List Oper->Prop
 | _,[]=>True
 | i,o::rest=>AsksH P l n0 a0 (Below w.heap.size w) (kT KL) grows i o/\AskAllH P l n0 a0 w KL (i+1) rest
theorem AskAllH.at {n0:Nat}{a0:Act}{w:World}{KL:List Kd}:∀ {r:List Oper} {k:Nat},AskAllH P l n0 a0 w KL k r->∀ i o,r[i]?=some o->AsksH P l n0 a0 (Below w.heap.size w) (kT KL) grows (k+i) o
 | [],_,_,i,o,h=>by simp at h
 | x::r,k,h,0,o,ho=>by
  simp only[List.getElem?_cons_zero,Option.some.injEq] at ho
  subst ho
  exact h.1
 | x::r,k,h,i+1,o,ho=>by
  have:=AskAllH.at h.2 i o (by simpa using ho)
  rwa[show k+1+i=k+(i+1) by omega] at this
section
variable {a0:Act}{w:World}{KL:List Kd}{i n0:Nat}{o:Oper}
theorem asksH_mk (h:∀ (a:Act) (W:World),Below w.heap.size w W->Had (l.take n0) a0 a->Dep l KL i a W->Region.wanted o (yielded l.toArray a.tmps)=true/\GivesT P (grows i W) (kT KL i) ((execOp a.eval o).run P W)):AsksH P l n0 a0 (Below w.heap.size w) (kT KL) grows i o :=
 fun a W hS h1 h2 _=>.inl (h a W hS h1 h2)
theorem asksHY (hg:o.guard=none)(h:∀ (a:Act) (W:World),Below w.heap.size w W->Had (l.take n0) a0 a->Dep l KL i a W->GivesT P (grows i W) (kT KL i) ((execOp a.eval o).run P W)):AsksH P l n0 a0 (Below w.heap.size w) (kT KL) grows i o:=asksH_mk fun a W hS hh hd=>⟨wanted_yes hg,h a W hS hh hd⟩
end
theorem wp_region_looseTail2 {id:Nat}{Q:Exit->Act->World->Prop}{a0:Act}{w:World}(n n0:Nat)(hm:P.follows .mixedOrders=true)(hB:looseB l n=true)(hTB:tailB l n0=true)(hn:a0.tmps.size=n)
  (S:World->Prop) (T:Nat->Value->World->Prop) (R:Nat->World->World->Prop) (hS:S w.drew) (hRS:∀ i W W',S W->R i W W'->S W') (hRT:∀ i j v W W',j≠i->S W->R i W W'->T j v W->T j v W')
  (hdn:∀ i o,l[i]?=some o->o.dst=none->∀ v W,T i v W->T i undef W) (hop:∀ i o,i<n0->l[i]?=some o->AsksH P l n0 a0 S T R i o)
  (hend:∀ a W,S W->Known l a0 T (fun i=>decide (i<n0)) a W->wpList P l.toArray Q (l.drop n0) a W):(Code.region id l.toArray true).wp P Q a0 w:=by
 simp only[tailB,Bool.and_eq_true,decide_eq_true_eq] at hTB
 obtain⟨⟨⟨hlt,hsink⟩,hchain⟩,hseq⟩:=hTB
 refine wp_region_any hm ?_
 have main:∀ (f:Nat) (listed:Array Bool) (a:Act) (W:World),HeadInv .any l.toArray n0 listed->openN n0 listed=f->S W->Known l a0 T (fun j=>listed.getD j false) a W →
   wpAny P .any l.toArray Q (f+(l.length-n0)) listed a W:=by
  intro f
  induction f with
  | zero=>
   intro listed a W inv hf hSW hK
   have hsz:listed.size=l.length:=by simpa using inv.size
   have hall:∀ j,j<n0->listed.getD j false=true:=by
    intro j hj
    have hjs:j<listed.size:=by omega
    cases hu:listed.getD j true with
    | true=>
     simp only[Array.getD_eq_getD_getElem?,Array.getElem?_eq_getElem hjs,Option.getD_some] at hu ⊢
     exact hu
    | false=>
     have:=openN_set' n0 listed j hj (by omega) hu
     omega
   have hlisted:listed=(List.replicate n0 true++List.replicate (l.length-n0) false).toArray:=by
    apply Array.ext
    ·simp;omega
    ·intro i h1 h2
     by_cases hi:i<n0
     ·have:=hall i hi
      simp only[Array.getD_eq_getD_getElem?,Array.getElem?_eq_getElem h1,Option.getD_some] at this
      rw[this]
      simp[hi]
     ·have:=inv.tail i (by omega) (by simpa[hsz] using h1)
      simp only[Array.getD_eq_getD_getElem?,Array.getElem?_eq_getElem h1,Option.getD_some] at this
      rw[this]
      simp[List.getElem_append,hi]
   have hlen:(l.drop n0).length=l.length-n0:=by simp
   rw[Nat.zero_add,←hlen]
   refine wpAny_of_seq (md:=.any) (l.drop n0) n0 listed a W (fun j=>by simp[List.getElem?_drop]) (by rw[hlen,hlisted];exact hseq) (hend a W hSW ?_)
   have hiff:∀ j,j<l.length->(listed.getD j false=true ↔ j<n0):=by
    intro j hj
    constructor
    ·intro h
     rcases Nat.lt_or_ge j n0 with h' | h'
     ·exact h'
     ·have:=getD_both (inv.tail j h' (by simpa using hj))
      rw[this] at h;cases h
    ·exact hall j
   exact⟨hK.size,hK.defers,fun s hs=>hK.old s (fun i o hi hl=>hs i o hi (by have:=(hiff i (List.getElem?_eq_some_iff.1 hi).1).1 hl;simpa using this)),
    fun i o s hi hl hs=>hK.new i o s hi ((hiff i (List.getElem?_eq_some_iff.1 hi).1).2 (by simpa using hl)) hs,fun i o hi hl hs=>hK.mem i o hi ((hiff i (List.getElem?_eq_some_iff.1 hi).1).2 (by simpa using hl)) hs⟩
  | succ f ih=>
   intro listed a W inv hf hSW hK
   have hsz:listed.size=l.length:=by simpa using inv.size
   rw[show f+1+(l.length-n0)=(f+(l.length-n0))+1 by omega]
   obtain⟨i1,hi1,hu1⟩:=openN_lt (n:=n0) (listed:=listed) (by omega)
   have hopen:openN l.length listed≠0:=by
    have:=openN_set' l.length listed i1 (by omega) (by omega) hu1
    omega
   refine⟨fun h=>absurd h (ready_of_open hB hsz hopen),fun i hi=>?_⟩
   have hin:i<n0:=by
    rcases Nat.lt_or_ge i n0 with h | h
    ·exact h
    ·exact absurd hi (tail_waits hsink hchain (by simpa using hlt) inv _ i1 rfl hi1 hu1 i h)
   obtain⟨hu,o,ho,hwait⟩:=mem_ready.1 hi
   have hio:l[i]?=some o:=by simpa using ho
   have hil:=(List.getElem?_eq_some_iff.1 hio).1
   have hstep:∀ v W',R i W W'\/W'=W->T i v W'->wpAny P .any l.toArray Q (f+(l.length-n0)) (listed.setIfInBounds i true) (a.put o.dst v) W':=by
    intro v W' hR hTv
    have hS':S W':=by
     rcases hR with hR | rfl
     ·exact hRS i W W' hSW hR
     ·exact hSW
    refine ih _ _ _ (inv.set hi hin) (by have:=openN_set' n0 listed i hin (by omega) hu;omega) hS' ?_
    refine hK.put hB hn hio hsz hu (fun j u hne hTj=>?_) hTv (fun hd=>hdn i o hio hd v W' hTv)
    rcases hR with hR | rfl
    ·exact hRT i j u W W' hne hSW hR hTj
    ·exact hTj
   have hlist:∀ j,Region.waitsFor .any l.toArray i j=true->listed.getD j false=true:=by
    intro j hj
    obtain⟨o',ho',e,he,hb,hon⟩:=Region.waitsFor_spec hj
    have e1:o'=o:=Option.some.inj (ho'.symm.trans ho)
    subst e1
    rw[←hon];exact hwait e he hb
   have hask:=hop i o hin hio a W hSW (fun s v hs hv=>by
     rw[hK.old s (fun j oj hj hl hd=>by
      have hjn:j<n0:=by
       rcases Nat.lt_or_ge j n0 with h' | h'
       ·exact h'
       ·have:=getD_both (inv.tail j h' (by simpa using (List.getElem?_eq_some_iff.1 hj).1))
        rw[this] at hl;cases hl
      have:=List.all_eq_true.1 hs oj (List.mem_of_getElem? (i:=j) (by rw[List.getElem?_take_of_lt hjn];exact hj))
      rw[hd] at this;simp at this)]
     exact hv)
    (fun j hj oj s hoj hs=>hK.new j oj s hoj (hlist j hj) hs) (fun j hj oj hoj hs=>hK.mem j oj hoj (hlist j hj) hs)
   unfold wpOp
   simp only[ho]
   rcases hask with⟨hw,hg⟩ | ⟨hw,hT⟩
   ·rw[if_pos hw]
    left
    unfold Oper.wp
    generalize (execOp a.eval o).run P W=r at hg
    cases r with
    | ok x w'=>
     cases x <;> simp only[GivesT] at hg
     case value u=>exact hstep _ _ (.inl hg.1) hg.2
     case skip=>exact hstep _ _ (.inl hg.1) hg.2
     case enter f' args=>
      show Calls P f' args w' _
      refine hg.mono ?_
      rintro e w'' ⟨v,rfl,h1,h2⟩
      exact hstep _ _ (.inl h1) h2
    | halt x w'=>simp only[GivesT] at hg
   ·rw[if_neg (by rw[hw];decide)]
    exact hstep _ _ (.inr rfl) hT
 have h0:openN n0 (Array.replicate l.toArray.size false)=n0:=by
  unfold openN
  have:((List.range n0).filter fun i=>(Array.replicate l.toArray.size false).getD i true==false)=List.range n0:=by
   apply List.filter_eq_self.2
   intro i hi
   rw[List.mem_range] at hi
   have:i<l.length:=by omega
   simp[this]
  rw[this];simp
 have e:l.toArray.size=n0+(l.length-n0):=by simp;omega
 have:=main n0 (Array.replicate l.toArray.size false) a0 w.drew (headInv0 n0) h0 hS ⟨rfl,rfl,fun s _=>rfl,fun i o s hi hl=>(by rw[getD_replicate_false] at hl;cases hl),fun i o hi hl=>(by rw[getD_replicate_false] at hl;cases hl)⟩
 rw[e] at this ⊢
 exact this
theorem wp_region_kdTail2 {id:Nat}{Q:Exit->Act->World->Prop}{a0:Act}{w:World}(n n0:Nat)(hm:P.follows .mixedOrders=true)(hB:looseB l n=true)(hTB:tailB l n0=true)(hd:((l.take n0).all fun o=>o.dst.isSome)=true)(hn:a0.tmps.size=n)(KL:List Kd)(hkl:KL.length<=n0)
  (hop:AskAllH P l n0 a0 w KL 0 (l.take n0)) (hend:∀ a W,Below w.heap.size w W->Known l a0 (kT KL) (fun i=>decide (i<n0)) a W->wpList P l.toArray Q (l.drop n0) a W):(Code.region id l.toArray true).wp P Q a0 w:=by
 refine wp_region_looseTail2 n n0 hm hB hTB hn (Below w.heap.size w) (kT KL) grows (Below.refl _ _).drew (fun _ W W' h1 h2=>h1.trans (h2.mono h1.size)) (fun _ j v W W' _ _ hR hT=>(KL.getD j kany).st v W W' hR hT) (fun i o ho hnone=>?_) (fun i o hi ho=>?_) hend
 ·intro v W hT
  by_cases hi:i<n0
  ·have:=List.all_eq_true.1 hd o (List.mem_of_getElem? (i:=i) (by rw[List.getElem?_take_of_lt hi];exact ho))
   rw[hnone] at this;cases this
  ·unfold kT
   have:KL.getD i kany=kany:=by simp[List.getElem?_eq_none (show KL.length<=i by omega)]
   rw[this];trivial
 ·have:=AskAllH.at hop i o (by rw[List.getElem?_take_of_lt hi];exact ho)
  rwa[Nat.zero_add] at this
end
end
section
variable {D:List Deferred}
section
variable {P:Program}{a:Act}{o:Oper}{w w0:World}{t t2:TypeId}{x y z:Operand}{k k2:IntKind}{p q r:Int}{n s:Nat}{L:List (Nat×Value)}{v:Value}{Q:Exit->Act->World->Prop}
theorem run_and (ho:o.op = .binOp .and t x y t2)(hx:a.eval x = .int k p)(hy:a.eval y = .int k q)(h:bits .and k p q=r):(execOp a.eval o).run P w = .ok (.value (.int k r)) w :=
 run_bin ho hx hy (guard_int _) (by simp[binOp,h,go_sem])
theorem run_or (ho:o.op = .binOp .or t x y t2)(hx:a.eval x = .int k p)(hy:a.eval y = .int k q)(h:bits .or k p q=r):(execOp a.eval o).run P w = .ok (.value (.int k r)) w :=
 run_bin ho hx hy (guard_int _) (by simp[binOp,h,go_sem])
theorem run_xor (ho:o.op = .binOp .xor t x y t2)(hx:a.eval x = .int k p)(hy:a.eval y = .int k q)(h:bits .xor k p q=r):(execOp a.eval o).run P w = .ok (.value (.int k r)) w :=
 run_bin ho hx hy (guard_int _) (by simp[binOp,h,go_sem])
theorem run_shl (ho:o.op = .binOp .shl t x y t2)(hx:a.eval x = .int k p)(hy:a.eval y = .int k2 q)(h0:0<=q)(h1:q<=k.bits)(h:k.wrap (p*2^q.toNat)=r):(execOp a.eval o).run P w = .ok (.value (.int k r)) w :=
 run_bin ho hx hy (guard_int _) (by rw[binOp_shl,shift_shl k k2 p q h0 h1,h];rfl)
theorem run_shr (ho:o.op = .binOp .shr t x y t2)(hx:a.eval x = .int k p)(hy:a.eval y = .int k2 q)(h0:0<=q)(h1:q<=k.bits)(h:p/2^q.toNat=r):(execOp a.eval o).run P w = .ok (.value (.int k r)) w :=
 run_bin ho hx hy (guard_int _) (by rw[binOp_shr,shift_shr k k2 p q h0 h1,h];rfl)
theorem run_not {b:Bool}(ho:o.op = .unOp .not t x)(hx:a.eval x = .bool b):(execOp a.eval o).run P w = .ok (.value (.bool (!b))) w:=by
 unfold execOp
 simp only[ho,hx]
 simp[go_sem]
theorem run_none {e:TypeId}{m:Nat}(ho:o.op = .buildSlice t 0 #[])(hu:P.underlying t=some (.slice e))(hz:(sizeOf e).run P w = .ok m w):(execOp a.eval o).run P w = .ok (.value (.slice (some ⟨w.heap.size,0,none⟩) 0 0)) (w.alloc (.cells #[] e)):=by
 unfold execOp
 simp only[ho]
 simp[Instr.buildSlice,run_underlying hu,hz,Instr.fill,go_sem]
end
end
section
variable {D:List Deferred}
section
variable {P:Program}{a:Act}{o:Oper}{w w0:World}{n s:Nat}{L:List (Nat×Value)}{v:Value}{x y z:Operand}{g:Nat}{t ty:TypeId}
theorem run_ldS {cs:List Value}{b off:Nat}(ho:o.op = .load ty x)(hx:a.eval x = .pointer (some ⟨b,off,none⟩))(hag:(isAgg ty).run P w = .ok true w)(hz:(sizeOf ty).run P w = .ok cs.length w)(hc:∀ j u,cs[j]?=some u->w.cell? ⟨b,off+j,none⟩=some u) :
  (execOp a.eval o).run P w = .ok (.value (.agg cs.toArray)) w:=by
 have hl:=run_loadCells_list (P:=P) w ⟨b,off,none⟩ cs (fun j u hj=>by rw[addr_add];exact hc j u hj)
 unfold execOp
 simp only[ho,hx,Instr.loadAt,Instr.sureAddr,Sem.run_bind,Sem.run_pure,Result.andThen_ok,loadVar,hag,hz,if_true,hl]
theorem run_fldG {fs:Array Field}{i m:Nat}{fd:Field}{ad:Addr}(ho:o.op = .fieldAddr t x i)(hx:a.eval x = .pointer (some ad))(hu:P.underlying t=some (.struct fs))(hi:fs[i]?=some fd)(hb:fd.offset=s)(hz:(sizeOf fd.type).run P w = .ok m w)(hm:m≠0):(execOp a.eval o).run P w = .ok (.value (.pointer (some (ad.add s)))) w:=by
 unfold execOp
 simp only[ho,hx]
 simp[Instr.fieldAt,run_underlying hu,hi,fieldPlace,Instr.sureAddr,hb,hz,hm]
theorem run_ldF {cs:Array Value}{i:Nat}{u:Value}(ho:o.op = .load ty x)(hx:a.eval x = .pointer (some ⟨g,i,none⟩))(hB:Blk w g t cs)(hc:cs[i]?=some u)(hag:(isAgg ty).run P w = .ok false w):(execOp a.eval o).run P w = .ok (.value u) w :=
 run_ldC ho hx (by rw[hB.cell];exact hc) hag
theorem run_blt {parts:Array (Nat×Operand)}{vs:Array (Nat×Value)}{cs:Array Value}(ho:o.op = .build t parts)(hp:(parts.map fun(i,x)=>(i,a.eval x))=vs)(hb:P.built t vs.toList=some cs):(execOp a.eval o).run P w = .ok (.value (.agg cs)) w:=by
 have:=run_build (P:=P) w t vs cs hb
 unfold execOp
 simp only[ho,hp,Sem.run_bind,this,Result.andThen_ok,Sem.run_pure]
def slPtr :Value->Nat->Value
 | .slice (some ad) _ _,q=>.pointer (some (ad.add q))
 | _,_=>undef
theorem slPtr_of {m cnt:Nat}{cs:List Value}(h:Sl w v m cnt cs)(hc:0<cnt):∃ b off c,v = .slice (some ⟨b,off,none⟩) cnt c ∧ ∀ q,slPtr v q = .pointer (some ⟨b,off+q,none⟩) ∧ ∀ u,cs[q]?=some u->w.cell? ⟨b,off+q,none⟩=some u:=by
 rcases h.2 with⟨_,h2⟩ | ⟨b,off,c,h1,h2,h3⟩
 ·omega
 ·subst h1
  exact⟨b,off,c,rfl,fun q=>⟨by simp only[slPtr,addr_add],fun u hu=>h3 q u hu⟩⟩
theorem run_atP {e:TypeId}{k:IntKind}{p:Int}{m cnt i:Nat}{cs:List Value}(ho:o.op = .indexAddr t x y)(hx:a.eval x=v)(hy:a.eval y = .int k p)(hp:p=(i:Int))(hs:Sl w v m cnt cs)(hi:i<cnt)(hu:P.underlying t=some (.slice e))(hz:(sizeOf e).run P w = .ok m w):(execOp a.eval o).run P w = .ok (.value (slPtr v (i*m))) w:=by
 obtain⟨b,off,c,rfl,hq⟩:=slPtr_of hs (by omega)
 subst hp
 have he:P.elem t=e:=by simp[Program.elem,hu]
 have ht:P.underlying t=some (.slice (P.elem t)):=by rw[he];exact hu
 have hz2:(sizeOf (P.elem t)).run P w = .ok m w:=by rw[he];exact hz
 have hr:=run_indexAt_slice (P:=P) w t ⟨b,off,none⟩ cnt c k (i:Int) ht
 unfold execOp
 simp only[ho,hx,hy]
 rw[Sem.run_bind,hr,hz2,if_pos (by omega)]
 simp[slPtr]
theorem run_ldP {m cnt q:Nat}{cs:List Value}{u:Value}(ho:o.op = .load ty x)(hx:a.eval x=slPtr v q)(hs:Sl w v m cnt cs)(hu:cs[q]?=some u)(hag:(isAgg ty).run P w = .ok false w):(execOp a.eval o).run P w = .ok (.value u) w:=by
 have hc:0<cnt:=by
  have:=(List.getElem?_eq_some_iff.1 hu).1
  rw[hs.1] at this
  exact Nat.pos_of_ne_zero fun e=>by subst e;simp at this
 obtain⟨b,off,c,rfl,hq⟩:=slPtr_of hs hc
 rw[(hq q).1] at hx
 exact run_ldC ho hx ((hq q).2 u hu) hag
theorem run_ldPS {m cnt q:Nat}{cs ys:List Value}(ho:o.op = .load ty x)(hx:a.eval x=slPtr v q)(hs:Sl w v m cnt cs)(hc:0<cnt)(hy:∀ j u,ys[j]?=some u->cs[q+j]?=some u)(hag:(isAgg ty).run P w = .ok true w)(hz:(sizeOf ty).run P w = .ok ys.length w):(execOp a.eval o).run P w = .ok (.value (.agg ys.toArray)) w:=by
 obtain⟨b,off,c,rfl,hq⟩:=slPtr_of hs hc
 rw[(hq q).1] at hx
 exact run_ldS ho hx hag hz fun j u hj=>by rw[Nat.add_assoc];exact(hq (q+j)).2 u (hy j u hj)
theorem flat_at {α:Type}{f:α->List Value}{m:Nat}(hf:∀ x,(f x).length=m):∀ {l:List α} {i:Nat} {x:α} (_:l[i]?=some x) (j:Nat) {u:Value} (_:(f x)[j]?=some u),(l.flatMap f)[i*m+j]?=some u
 | [],i,x,hx,_,_,_=>by simp at hx
 | y::l,0,x,hx,j,u,hu=>by
  simp only[List.getElem?_cons_zero,Option.some.injEq] at hx
  subst hx
  have hj:j<(f y).length:=(List.getElem?_eq_some_iff.1 hu).1
  rw[List.flatMap_cons,Nat.zero_mul,Nat.zero_add,List.getElem?_append_left hj]
  exact hu
 | y::l,i+1,x,hx,j,u,hu=>by
  rw[List.getElem?_cons_succ] at hx
  have:=flat_at hf hx j hu
  rw[List.flatMap_cons,List.getElem?_append_right (by rw[hf,Nat.add_mul];omega),hf,show(i+1)*m+j-m=i*m+j by rw[Nat.add_mul];omega]
  exact this
theorem run_lenS {ts:Array TypeId}{m cnt:Nat}{cs:List Value}{e:TypeId}{W:World}(ho:o.op = .call { callee:=.builtin .len,args:=#[x],argTypes:=ts })(hx:a.eval x=v)(hs:Sl W v m cnt cs)(hts:ts = #[t])(hu:P.underlying t=some (.slice e)):(execOp a.eval o).run P w = .ok (.value (.int .i64 (cnt:Int))) w:=by
 obtain⟨p,c,rfl⟩:=hs.len
 exact run_lenSl ho hx hts hu
theorem bltE1 {i:Nat}{u:Value}(h:a.eval x=u):(#[(i,x)].map fun((i,x):Nat×Operand)=>(i,a.eval x)) = #[(i,u)]:=by simp[h]
theorem bltE2 {i j:Nat}{u v:Value}(h:a.eval x=u)(h2:a.eval y=v):(#[(i,x),(j,y)].map fun((i,x):Nat×Operand)=>(i,a.eval x)) = #[(i,u),(j,v)]:=by simp[h,h2]
theorem OwnR.ofCall {w1 w2:World}{M:List (Nat×(Obj->Prop))}{e:TypeId}{size m:Nat}{xs:List Value}(hM:Mem w0 M w1)(h:w2.ownsRow w1.heap.size e size v m xs):OwnR w0 M w2 e size v m xs:=by
 refine⟨⟨h.1,?_⟩,fun x hx=>?_⟩
 ·rcases h.2 with h1 | ⟨g,cap,cur,h1,h2,h3⟩
  ·exact .inl h1
  ·exact .inr ⟨g,cap,cur,h1,Nat.le_trans hM.below.size h2,h3⟩
 ·intro e2
  have h1:=own_base h e2
  have h2:=hM.lt hx
  omega
end
end
section

section
variable {P:Program}{a:Act}{o:Oper}{w w0:World}{n s:Nat}{L:List (Nat×Value)}{v:Value}{ops:Array Oper}{rest:List Oper}{Q:Exit->Act->World->Prop}{M:List (Nat×(Obj->Prop))}{x y:Operand}{D:List Deferred}
theorem fr_enter {n:Nat}{vs:List Value}(hv:Nat.ble vs.length n=true):Fr { tmps:=vs.toArray++Array.replicate (n-vs.toArray.size) undef,defers:=[] } n (numbered vs 0):=by
 refine⟨?_,rfl,fun s v e=>?_⟩
 ·have:=Nat.le_of_ble_eq_true hv;simp;omega
 ·obtain⟨_,h2⟩:=lk_numbered vs 0 s v e
  have hs:=(List.getElem?_eq_some_iff.1 h2).1
  simp only[Nat.sub_zero] at h2 hs
  rw[Array.getElem?_append,if_pos (by simpa using hs)]
  simpa using h2
theorem walk_enterD {f:FuncId}{fn:Func}{c:Code}{vs:List Value}{R:Ending->World->Prop}(hf:P.funcs[f]?=some fn)(hb:fn.body=some c)(hn:fn.ntmps=n)(hv:Nat.ble vs.length n=true)
  (h:∀ a,Fr a n (numbered vs 0)->c.wp P (bodyPostD P fn R) a w):Calls P f vs.toArray w R:=by
 subst hn
 exact calls_of_wp_defers hf hb (h _ (fr_enter hv))
theorem walk_enterDd {f:FuncId}{fn:Func}{c:Code}{vs:List Value}{u:FrameMode}{R:Ending->World->Prop}(hf:P.funcs[f]?=some fn)(hb:fn.body=some c)(hn:fn.ntmps=n)(hv:Nat.ble vs.length n=true)
  (h:∀ a,Fr a n (numbered vs 0)->c.wp P (bodyPost P fn R) a w):CallsD P f vs.toArray u w fun e u' w'=>u'=u/\R e w':=by
 subst hn
 exact callsD_of_wp hf hb (h _ (fr_enter hv))
abbrev lateF (G:FuncId)(cap:Array Value):Deferred:={ target:=.fn (.func G) cap,args:=#[] }
theorem sqDefer {G:FuncId}{cap:Array Value}(hF:FrD D a n L)(hg:o.guard=none)(ho:o.op = .defer { callee:=.value x,args:=#[],argTypes:=#[] })(hx:a.eval x = .func (.func G) #[] cap)(hd:o.dst=none)
  (h:∀ a2,FrD (lateF G cap::D) a2 n L->wpList P ops Q rest a2 w):wpList P ops Q (o::rest) a w:=by
 unfold wpList
 rw[if_pos (wantedS hg)]
 left
 unfold Oper.wp
 have hrun:(execOp a.eval o).run P w = .ok (.defer (lateF G cap)) w:=by
  unfold execOp
  simp only[ho,resolve,hx]
  simp[Deferred.ofValue,go_sem]
 rw[hrun,Oper.upon_defer,hd]
 exact h _ ⟨hF.size,by simp[Act.put,hF.defers],hF.has⟩
theorem entersF {f:FuncId}{fn:Func}(hf:P.funcs[f]?=some fn)(hn:(fn.name == "runtime.NumGoroutine")=false)(hb:fn.body.isNone=false)(args:Array Value)(w:World):(callFunc f args).run P w = .ok (.enter f args) w:=by
 have h1:fn.name ≠ "runtime.NumGoroutine":=by simpa using hn
 have h2:fn.body≠none:=by intro e;rw[e] at hb;cases hb
 simp[callFunc,hf,h1,h2]
theorem retD1 {fn:Func}{R:Ending->World->Prop}{G:FuncId}{cap:Array Value}{T:World->Prop}(hF:FrD [lateF G cap] a n L)(he:∀ w,(callFunc G cap).run P w = .ok (.enter G cap) w)
  (hc:CallsD P G cap .returning w fun e u' w'=>u' = .returning/\(∃ v,e = .returned v)/\T w') (h:∀ w',T w'->∃ v,(results fn a.tmps).run P w' = .ok v w'/\R (.returned v) w'):bodyPostD P fn R .ret a w:=by
 show Leaves P fn a.tmps R a.defers .returning w
 rw[hF.defers]
 refine⟨by simp,.func G,cap,G,cap,rfl,by simp[invoke,go_sem,he],fun c cs hu=>?_⟩
 obtain⟨e,u',w',fr,⟨h1,⟨v,h2⟩,h3⟩,h4⟩:=hc c cs hu
 subst h1 h2
 exact⟨_,_,w',fr,h w' h3,h4⟩
theorem run_storeAny {W:World}{g:Nat}{t ty:TypeId}{old cs:Array Value}{V:Value}(hV:V.cells=cs)(hB:Blk W g t old)(hi:(P.info? ty).map (·.size)=some cs.size)(ho:old.size=cs.size)(h1:cs.all (·.oneCell')=true):(storeVar ty ⟨g,0,none⟩ V).run P W = .ok () (W.setRow g cs):=by
 have h:=run_storeVar_row (P:=P) W g t ty old cs hB hi ho h1
 have e:storeVar ty ⟨g,0,none⟩ V=storeVar ty ⟨g,0,none⟩ (.agg cs):=by
  unfold storeVar
  rw[hV]
  rfl
 rw[e];exact h
end
section
variable {P:Program}{l:List Oper}
end
end
end Go.Proofs.YtdjholkjkbihmaaGreatDoor
