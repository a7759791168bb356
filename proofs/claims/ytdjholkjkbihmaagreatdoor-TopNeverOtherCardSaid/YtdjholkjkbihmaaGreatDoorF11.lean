/- Laws and walks of TopNeverOther. -/
import Derived.Shelf.Strings.BuilderK
import Derived.Lib.Overlaps
import Derived.Lib.AppendZerosOnto
import Derived.Laws.AppendOwn
import Derived.Laws.Externs
import Derived.ChangeKeysEq
import Derived.Test.YtdjholkjkbihmaaGreatDoorF10
namespace Go.Proofs.YtdjholkjkbihmaaGreatDoor
open Go.RowKit
set_option maxRecDepth 100000
set_option maxHeartbeats 4000000
section
section
variable {D:List Deferred}{nt:Nat}{w0:World}{L:LT}{M:MT}{R:List Rw}{x y:Operand}{v:Value}{ops:Array Oper}{rest:List Oper}{Q:Exit->Act->World->Prop}{t ty tyo:TypeId}{ps:String}{af:Array Edge}{G:Kn}{k k2:IntKind}{p q:Int}{i n m g d:Nat}{l:List UInt8}{c:UInt8}
theorem made8 (m:Nat):madeCells #[Value.int .u8 0] m=cells8 (List.replicate m 0):=by
 unfold madeCells cells8
 apply Array.ext'
 simp only[List.map_replicate]
 apply List.ext_getElem
 ·simp
 ·intro j h1 h2
  simp[Nat.mod_one,cb]
theorem mY (m:Nat)(h:∀ g,KX D nt w0 ((d,.slice (some ⟨g,0,none⟩) m m)::L) ((g,isB 5 (cells8 (List.replicate m 0)))::M) R (wpList Tryz.prog ops Q rest))(hx:EV (St D nt w0 L M R) x (.int k p):=by exact ev)(hy:EV (St D nt w0 L M R) y (.int k2 q):=by exact ev)(hp:p=(m:Int):=by rfl)(hq:q=(m:Int):=by rfl)(hm:m<=35184372088832:=by omega)(hb:Nat.blt d nt=true:=by rfl):KX D nt w0 L M R (wpList Tryz.prog ops Q (⟨some d,.makeSlice 75 x y,tyo,ps,af,none⟩::rest)):=fun a w hs=>by
 subst hp hq
 have hr:=run_make_row' (P:=Tryz.prog) 75 5 (.int .u8 0) 1 Tryz.underlying75 (by kernel_rfl) rfl k k2 m (by omega) (by omega) w
 rw[made8] at hr
 exact sq hs.f (wantedS rfl) (v:=.slice (some ⟨w.heap.size,0,none⟩) m m) (w2:=w.alloc (.cells (cells8 (List.replicate m 0)) 5)) (by
  unfold execOp
  simp only[hx a w hs,hy a w hs,Sem.run_bind,hr,Result.andThen_ok,Sem.run_pure]) rfl (Nat.le_of_ble_eq_true hb) fun a2 hF=>h w.heap.size a2 _ (hs.new (S:=isB 5 (cells8 (List.replicate m 0))) hb ((Below.refl _ _).alloc (Nat.le_refl _) _) (Nat.le_refl _) ⟨_,Blk.new _ _ _,rfl⟩ hF)
theorem PR.ib (i:Nat){n2:Nat}(hx:EV G x (.slice (some ⟨g,0,none⟩) n n2):=by exact ev)(hy:EV G y (.int k p):=by exact ev)(hp:p=(i:Int):=by rfl)(hu:und t=some (.slice ty):=by rfl)(hz:szT ty=some m:=by rfl)(hi:i<n:=by omega):PR Tryz.prog G (.indexAddr t x y) (px g (i*m)):=fun a w op ho hg=>by
 have hu:=und_ok hu
 have hz:=szT_ok hz w
 have hx:=hx a w hg
 have hy:=hy a w hg
 subst hp
 have he:Tryz.prog.elem t=ty:=by simp[Program.elem,hu]
 have hr:=run_indexAt_slice (P:=Tryz.prog) w t ⟨g,0,none⟩ n n2 k (i:Int) (by rw[he];exact hu)
 unfold execOp
 simp only[ho,hx,hy]
 rw[Sem.run_bind,hr,he,hz,if_pos (by omega)]
 by_cases h0:i*m=0
 ·simp[Addr.add,h0]
 ·simp[Addr.add,h0]
theorem PR.ib1 (i:Nat){n2:Nat}(hx:EV G x (.slice (some ⟨g,0,none⟩) n n2):=by exact ev)(hy:EV G y (.int k p):=by exact ev)(hp:p=(i:Int):=by rfl)(hu:und t=some (.slice ty):=by rfl)(hz:szT ty=some 1:=by rfl)(hi:i<n:=by omega):PR Tryz.prog G (.indexAddr t x y) (px g i):=(PR.ib i hx hy hp hu hz hi).to (by rw[Nat.mul_one])
theorem PR.lb {o:Nat}(hi:o<l.length)(hx:EV G x (px g o):=by exact ev)(hm:MB G g t (cells8 l):=by exact mb)(ha:agT ty=some false:=by rfl):PR Tryz.prog G (.load ty x) (.int .u8 ((bt l o).toNat:Int)):=PR.lc (cells8_get l o hi) hx hm ha
theorem PR.xc {cs:Array Value}(i:Nat)(hx:EV G x (.agg cs):=by exact ev)(hy:EV G y (.int k (i:Int)):=by exact ev)(hc:nth cs.toList i=some v:=by rfl)(hu:und t=some (.array n ty):=by rfl)(ha:agT ty=some false:=by rfl)(hz:szT ty=some 1:=by rfl)(hi:i<n:=by omega):PR Tryz.prog G (.index t x y) v:=fun a w op ho hg=>by
 have h0:(0:Int)<=i/\(i:Int)<n:=by omega
 have h1:(Instr.index t (.agg cs) (.int k (i:Int))).run Tryz.prog w = .ok v w:=by
  simp[Instr.index,asIntOf,run_underlying (und_ok hu),h0,szT_ok hz,part,agT_ok ha,nth_arr hc]
  exact fun h=>absurd h (by omega)
 unfold execOp
 simp only[ho,hx a w hg,hy a w hg,Sem.run_bind,h1,Result.andThen_ok,Sem.run_pure]
theorem PR.lbv {o:Nat}(hi:o<l.length)(hv:bt l o=c)(hx:EV G x (px g o):=by exact ev)(hm:MB G g t (cells8 l):=by exact mb)(ha:agT ty=some false:=by rfl):PR Tryz.prog G (.load ty x) (.int .u8 (c.toNat:Int)):=(PR.lb hi hx hm ha).to (by rw[hv])
theorem spl8 {i:Nat}(h:i<l.length):spl (cells8 l) i [.int .u8 (c.toNat:Int)]=cells8 (l.set i c):=by
 unfold spl cells8
 apply Array.ext'
 show(l.map cb).take i ++ [cb c]++(l.map cb).drop (i+1)=(l.set i c).map cb
 rw[List.map_set,List.set_eq_take_append_cons_drop,if_pos (by simpa using h)]
 simp
end
end
section
theorem MR.perm {w0 w:World}{M M2:MT}{R:List Rw}(h:MR w0 M R w)(hp:M2.Perm M):MR w0 M2 R w:=⟨h.m.perm hp,fun x hx=>⟨(h.r x hx).owns,fun y hy=>(h.r x hx).far y (hp.subset hy)⟩,h.nd⟩
theorem MR.put {w0 w:World}{M:MT}{R:List Rw}{i g:Nat}{S:Obj->Prop}(h:MR w0 M R w)(e:M[i]?=some (g,S))(x:Obj):MR w0 (M.set i (g,isO x)) R (w.putObj g x):=⟨h.m.putO i e x,fun y hy=>(h.r y hy).upd i e (grownBy_putObj' w g x),h.nd⟩
theorem MR.sub {w0 w:World}{M M2:MT}{R R2:List Rw}(h:MR w0 M R w)(hM:M2.Sublist M)(hR:R2.Sublist R):MR w0 M2 R2 w:=⟨h.m.sub hM,fun x hx=>(h.r x (hR.subset hx)).sub hM,h.nd.sublist hR⟩
theorem wlI {P:Program}{ro:Option Nat}{m:Nat}{ops:Array Oper}{post:List Oper}{Q:Exit->Act->World->Prop}(hQ:∀ a w,¬ Q .outgrown a w):∀ {pre:List Oper} {a:Act} {w:World},(∀ o∈pre,∀ c,o.op ≠ .defer c)->wpList P ops (fun e a w=>match e with | .normal=>wpListIn { Fence.wide with round:=ro } m P ops Q post a w | e=>Q e a w) pre a w->wpListIn { Fence.wide with round:=ro } m P ops Q (pre++post) a w
 | [],_,_,_,h=>h
 | o::pre,a,w,hnd,h=>by
  have ih:∀ a w,wpList P ops (fun e a w=>match e with | .normal=>wpListIn { Fence.wide with round:=ro } m P ops Q post a w | e=>Q e a w) pre a w->wpListIn { Fence.wide with round:=ro } m P ops Q (pre++post) a w:=fun a w=>wlI hQ (fun x hx=>hnd x (List.mem_cons_of_mem _ hx))
  show wpListIn { Fence.wide with round:=ro } m P ops Q (o::(pre++post)) a w
  unfold wpList at h
  unfold wpListIn
  by_cases hw:Region.wanted o (yielded ops a.tmps)=true
  ·rw[if_pos hw] at h ⊢
   have h:=h.resolve_right fun x=>by obtain⟨a,w,hq⟩:=x.2;exact hQ a w hq
   refine⟨fun _ _=>trivial,?_⟩
   unfold Oper.wp at h
   rw[Oper.semAt_eq _ _ _ (hnd o (List.mem_cons_self ..))]
   generalize (execOp a.eval o).run P w=r at h ⊢
   cases r with
   | ok nx w'=>
    cases nx with
    | value v=>exact ih _ _ h
    | skip=>exact ih _ _ h
    | defer d=>exact ih _ _ h
    | enter f args=>
     refine⟨fun hx=>(by cases hx),?_⟩
     cases ro with
     | none=>
      refine callsIn_wide.2 (Calls.mono (R:=_) h ?_)
      intro e w2 he
      cases e with
      | returned v=>exact ih _ _ he
      | panicked c=>exact he
      | outgrown=>exact he
     | some l=>
      refine CallsIn.inRound l (callsIn_wide.2 (Calls.mono (R:=_) h ?_))
      intro e w2 he
      cases e with
      | returned v=>exact ih _ _ he
      | panicked c=>exact he
      | outgrown=>exact he
    | row rw_ args=>exact⟨fun hx=>(by cases hx),fun c cs _=>by obtain⟨v,w2,h1,h2⟩:=h c cs;exact⟨v,w2,ih _ _ h1,stepsIn_wide.2 h2⟩⟩
    | _=>exact h.elim
   | halt x w'=>cases x <;> first | exact h | exact h.elim
  ·rw[if_neg hw] at h ⊢
   exact⟨fun _ _=>trivial,ih _ _ h⟩
section
variable {D:List Deferred}{nt:Nat}{w0:World}{L:LT}{M:MT}{R:List Rw}{x y z:Operand}{v v2:Value}{ops:Array Oper}{rest:List Oper}{Q:Exit->Act->World->Prop}{X:Act->World->Prop}{cc c1 c2:Code}{tyo:TypeId}{ps:String}{af:Array Edge}{d id l:Nat}{G:Kn}{ro:Option Nat}
theorem nq1 {A:Prop}(h:(∃ u,Ending.outgrown = .returned u)/\A):False:=by obtain⟨⟨_,h⟩,_⟩:=h;cases h
theorem nq2 {A:Prop}{u:Value}(h:Ending.outgrown = .returned u/\A):False:=by cases h.1
theorem nq3 {A:Value->Prop}(h:∃ u,Ending.outgrown = .returned u/\A u):False:=by obtain⟨_,h,_⟩:=h;cases h
theorem nq4 {Y:Type}{B A:Y->Prop}{V:Y->Value}(h:∃ u,B u/\Ending.outgrown = .returned (V u)/\A u):False:=by obtain⟨_,_,h,_⟩:=h;cases h
theorem nq {Q:Exit->Act->World->Prop}(h:∀ a w,¬ Q .outgrown a w:=by first | exact fun _ _ h=>h | exact fun _ _ h=>nq1 h | exact fun _ _ h=>nq2 h | exact fun _ _ h=>nq3 h | exact fun _ _ h=>nq4 h):∀ a w,¬ Q .outgrown a w:=h
abbrev Fro (ro:Option Nat):Fence:={ Fence.wide with round:=ro }
abbrev wY (ro:Option Nat)(ops:Array Oper)(Q:Exit->Act->World->Prop)(ls:List Oper):Act->World->Prop:=wpListIn (Fro ro) 0 Tryz.prog ops Q ls
def Qy (ro:Option Nat)(ops:Array Oper)(Q:Exit->Act->World->Prop)(post:List Oper):Exit->Act->World->Prop:=fun e a w=>match e with
 | .normal=>wY ro ops Q post a w
 | e=>Q e a w
def noDf (ls:List Oper):Bool:=ls.all fun o=>match o.op with | .defer _=>false | _=>true
theorem noDf_ok {ls:List Oper}(h:noDf ls=true):∀ o∈ls,∀ c,o.op ≠ .defer c:=fun o ho c e=>by
 have:=List.all_eq_true.1 h o ho
 rw[e] at this;cases this
theorem yP (pre post:List Oper){ls:List Oper}(h:KX D nt w0 L M R (wpList Tryz.prog ops (Qy ro ops Q post) pre))(hl:ls=pre++post:=by rfl)(hQ:∀ a w,¬ Q .outgrown a w:=by exact nq)(hd:noDf pre=true:=by kernel_rfl):KX D nt w0 L M R (wY ro ops Q ls):=fun a w hs=>by
 subst hl
 exact wlI hQ (noDf_ok hd) (h a w hs)
theorem yE (h:KX D nt w0 L M R (wpList Tryz.prog ops Q rest))(hQ:∀ a w,¬ Q .outgrown a w:=by exact nq)(hd:noDf rest=true:=by kernel_rfl):KX D nt w0 L M R (wY ro ops Q rest):=yP rest [] (by
 rw[show Qy ro ops Q []=Q from funext fun e=>by cases e <;> rfl]
 exact h) (by simp) hQ hd
theorem rgY {ls:List Oper}(h:KX D nt w0 L M R (wY none ls.toArray (Exit.then (cc.wp Tryz.prog Q) Q) ls)):KX D nt w0 L M R ((Code.seq (Code.region id ls.toArray false) cc).wp Tryz.prog Q):=fun a w hs=>wp_seq ((wpIn_wide (n:=0)).1 (wpIn_region_lit (F:=Fence.wide) (h a w hs)))
def RY (l:Nat)(vs:List Value)(w0:World)(M:MT)(R:List Rw){A:Type}(I:A->Prop)(B:A->Bool)(MM:A->MT)(RR:A->List Rw):Prop :=
 ∀ w,MR w0 M R w->YieldW Tryz.prog l vs.toArray w fun b w'=>∃ x,I x/\b=B x/\MR w0 (MM x) (RR x) w'
theorem sqYr {P:Program}{a:Act}{o:Oper}{w:World}{n s:Nat}{args:Array Value}{RB:Bool->World->Prop}(hF:FrD D a n L)(hw:Region.wanted o (yielded ops a.tmps)=true)(hrun:(execOp a.eval o).run P w=(Instr.yield l args).run P w)(hn:∀ c,o.op ≠ .defer c)(hy:YieldW P l args w RB)(hd:o.dst=some s)(hs:s<n)
  (h:∀ b a2 w2,RB b w2->FrD D a2 n ((s,.bool b)::L)->wpListIn (Fro ro) 0 P ops Q rest a2 w2):wpListIn (Fro ro) 0 P ops Q (o::rest) a w:=by
 obtain⟨fn,tmps,assign,body,h1,h2⟩:=hy
 unfold wpListIn
 rw[if_pos hw]
 refine⟨fun _ _=>trivial,?_⟩
 rw[Oper.semAt_eq _ _ _ hn,hrun,h1,Oper.uponIn_round]
 refine⟨fun hx=>(by cases hx),RoundIn.mono (R:=fun e w'=>∃ b,e = .returned (.bool b)/\RB b w') ⟨trivial,fun c cs hc=>h2.2 c cs (room_wide _)⟩ ?_⟩
 rintro e w2 ⟨b,rfl,hR⟩
 show wpListIn _ _ _ _ _ _ _ _
 rw[hd]
 exact h b _ w2 hR (hF.put hs)
theorem yk {xs:List Operand}{vs:List Value}{ts:Array TypeId}{A:Type}{I:A->Prop}{B:A->Bool}{MM:A->MT}{RR:A->List Rw}(hc:RY l vs w0 M R I B MM RR)(h:∀ x,I x->KX D nt w0 ((d,.bool (B x))::L) (MM x) (RR x) (wY ro ops Q rest))(he:EV (St D nt w0 L M R) x (.func (.yield l) #[] #[]):=by exact ev)(hx:EVs (St D nt w0 L M R) xs vs:=by exact evs)(hb:Nat.blt d nt=true:=by rfl):KX D nt w0 L M R (wY ro ops Q (⟨some d,.call { callee:=.value x,args:=xs.toArray,argTypes:=ts },tyo,ps,af,none⟩::rest)):=fun a w hs=>
 sqYr hs.f (wantedS rfl) (run_callY rfl (he a w hs) (hx.arr hs)) (by intro c e;cases e) (hc w hs.mr) rfl (Nat.le_of_ble_eq_true hb) fun b a2 w2 ⟨x,h1,h2,h3⟩ hF=>by
  subst h2
  exact h x h1 a2 w2 ⟨hF,h3.m,h3.r,h3.nd⟩
/- rounds -/
abbrev rbF (l:Nat)(Rr:Bool->World->Prop):Exit->Act->World->Prop:=roundPost Tryz.prog l fun e W'=>∃ b,e = .returned (.bool b)/\Rr b W'
def wR (l:Nat)(assign body:Code)(Rr:Bool->World->Prop):Act->World->Prop:=assign.wpIn (Fence.wide.inRound l) 0 Tryz.prog (Exit.then (fun a₁ w₁=>∃ w₂,(Instr.beginRound l).run Tryz.prog w₁ = .ok () w₂/\body.wpIn (Fence.wide.inRound l) 0 Tryz.prog (rbF l Rr) a₁ w₂) (fun _ _ _=>False))
abbrev wI (l:Nat)(c:Code)(Q:Exit->Act->World->Prop):Act->World->Prop:=c.wpIn (Fence.wide.inRound l) 0 Tryz.prog Q
theorem rgI {ls:List Oper}(h:KX D nt w0 L M R (wpList Tryz.prog ls.toArray (Exit.then (wI l cc Q) Q) ls))(hQ:∀ a w,¬ Q .outgrown a w:=by exact nq)(hd:noDf ls=true:=by kernel_rfl):KX D nt w0 L M R (wI l (Code.seq (Code.region id ls.toArray false) cc) Q):=fun a w hs=>wpIn_seq (wpIn_region_round hd hQ (h a w hs))
theorem rgI0 {ls:List Oper}(h:KX D nt w0 L M R (wpList Tryz.prog ls.toArray Q ls))(hQ:∀ a w,¬ Q .outgrown a w:=by exact nq)(hd:noDf ls=true:=by kernel_rfl):KX D nt w0 L M R (wI l (Code.region id ls.toArray false) Q):=fun a w hs=>wpIn_region_round hd hQ (h a w hs)
theorem rgYI {ls:List Oper}(h:KX D nt w0 L M R (wY (some l) ls.toArray (Exit.then (wI l cc Q) Q) ls)):KX D nt w0 L M R (wI l (Code.seq (Code.region id ls.toArray false) cc) Q):=fun a w hs=>wpIn_seq (wpIn_region_lit (F:=Fence.wide.inRound l) (h a w hs))
theorem seI (h:KX D nt w0 L M R (wI l c1 (Exit.then (wI l c2 Q) Q))):KX D nt w0 L M R (wI l (Code.seq c1 c2) Q):=fun a w hs=>wpIn_seq (h a w hs)
theorem ctI {b:Bool}(h:KX D nt w0 L M R (wI l c1 Q))(hc:EV (St D nt w0 L M R) x (.bool b):=by exact ev)(hb:b=true:=by exact bT):KX D nt w0 L M R (wI l (Code.cond x c1 c2) Q):=fun a w hs=>wpIn_cond_true (by rw[hc a w hs,hb]) (h a w hs)
theorem cfI {b:Bool}(h:KX D nt w0 L M R (wI l c2 Q))(hc:EV (St D nt w0 L M R) x (.bool b):=by exact ev)(hb:b=false:=by exact bF):KX D nt w0 L M R (wI l (Code.cond x c1 c2) Q):=fun a w hs=>wpIn_cond_false (by rw[hc a w hs,hb]) (h a w hs)
theorem blI {i:Nat}(h:KX D nt w0 L M R (wI l cc (Exit.inBlock i Q))):KX D nt w0 L M R (wI l (Code.block i cc) Q):=fun a w hs=>wpIn_block (h a w hs)
theorem skI (h:KX D nt w0 L M R (Q .normal)):KX D nt w0 L M R (wI l Code.skip Q):=fun a w hs=>wpIn_skip (h a w hs)
theorem xtI {i:Nat}(h:KX D nt w0 L M R (Q (.exit i))):KX D nt w0 L M R (wI l (Code.exit i) Q):=fun a w hs=>wpIn_exit (h a w hs)
theorem rtI (h:KX D nt w0 L M R (Q .ret)):KX D nt w0 L M R (wI l Code.ret Q):=fun a w hs=>wpIn_ret (h a w hs)
theorem bgI {body:Code}{Rr:Bool->World->Prop}{rc:Loop}(k:Nat)(e:M[k]?=some (l,isO (.loop rc)))(hr:rc.state = .ready)(h:KX D nt w0 L (M.set k (l,isO (.loop (busyR rc)))) R (wI l body (rbF l Rr))):KX D nt w0 L M R (fun a₁ w₁=>∃ w₂,(Instr.beginRound l).run Tryz.prog w₁ = .ok () w₂/\body.wpIn (Fence.wide.inRound l) 0 Tryz.prog (rbF l Rr) a₁ w₂):=fun a w hs=>
 ⟨_,run_beginRound (hs.m.obj k e) hr,h a _ ⟨hs.f,(hs.mr.put e _).m,(hs.mr.put e _).r,hs.nd⟩⟩
theorem roI {Rr:Bool->World->Prop}{rc:Loop}(k:Nat)(e:M[k]?=some (l,isO (.loop (busyR rc))))(hr:rc.state = .ready)(hp:rc.pending=none)(h:∀ w,MR w0 (M.set k (l,isO (.loop rc))) R w->Rr true w):KX D nt w0 L M R (rbF l Rr .normal):=fun a w hs=>by
 have hE:=run_endRound (P:=Tryz.prog) none (hs.m.obj k e)
 have er:({ busyR rc with state:=if(none:Option Code).isNone then .ready else .done,pending:=none }:Loop)=rc:=by
  obtain⟨st,pe,_,_,_,_,_,_⟩:=rc
  simp only at hr hp
  subst hr hp
  rfl
 rw[er] at hE
 exact⟨_,_,hE,true,rfl,h _ (hs.mr.put e _)⟩
theorem rrI {Rr:Bool->World->Prop}{rc:Loop}(k:Nat)(e:M[k]?=some (l,isO (.loop (busyR rc))))(h:∀ w,MR w0 (M.set k (l,isO (.loop (leftR rc .ret)))) R w->Rr false w):KX D nt w0 L M R (rbF l Rr .ret):=fun a w hs=>
 ⟨_,_,run_endRound (P:=Tryz.prog) (some .ret) (hs.m.obj k e),false,rfl,h _ (hs.mr.put e _)⟩
/- the statement -/
abbrev Lp (l:Nat)(rc:Loop):Nat×(Obj->Prop):=(l,isO (.loop rc))
abbrev Df (d:Nat):Nat×(Obj->Prop):=(d,isO (.deferred (some [])))
theorem rf {p q gf:Nat}{g:Operand}{assign body:Code}{lb:List Value}{Y:Type}(Ma Mb:MT)(J:Y->Prop)(MM:Y->MT)(RR:Y->List Rw)(hM:M=Ma++Mb:=by rfl)
  (hc:∀ l d (rc:Loop),rc.state = .ready->rc.pending=none->(∀ (M':MT) (R':List Rw) (u v:Value) (Rr:Bool->World->Prop) (k:Nat),M'[k]?=some (Lp l rc)->KX [] nt w0 ((q,v)::(p,u)::L) M' R' (wR l assign body Rr)->∀ w,MR w0 M' R' w->YieldW Tryz.prog l #[u,v] w Rr) →
   ∀ w,MR w0 (Ma++Lp l rc::Df d::Mb) R w->Calls Tryz.prog gf (.func (.yield l) #[] #[]::lb).toArray w fun e w'=>(∃ u,e = .returned u) ∧ ∃ y,J y/\MR w0 (Lp l rc::Df d::MM y) (RR y) w')
  (h:∀ d y,J y->KX [mark d] nt w0 L (Df d::MM y) (RR y) (Q .normal))
  (hg:EV (St [] nt w0 L M R) g (.func (.func gf) #[] lb.toArray):=by exact ev) (hp:Nat.blt p nt=true:=by rfl) (hq:Nat.blt q nt=true:=by rfl)
  (eg:(match Tryz.prog.funcs[gf]? with | some fn=>!(fn.name == "runtime.NumGoroutine")&&fn.body.isSome | none=>false)=true:=by kernel_rfl):KX [] nt w0 L M R ((Code.rangeFunc g #[p,q] assign body).wp Tryz.prog Q):=fun a w hs=>by
 subst hM
 refine wkRange (gf:=gf) (lb:=lb.toArray) (hg a w hs) (fun args w2=>?_) hs.m fun rc d l W hrc hd hl hb hMW=>?_
 ·cases hf:Tryz.prog.funcs[gf]? with
  | none=>rw[hf] at eg;cases eg
  | some fn=>
   rw[hf] at eg
   simp only[Bool.and_eq_true,Bool.not_eq_true'] at eg
   exact enters_f hf eg.1 (by cases h:fn.body <;> simp_all) args w2
 ·have h0:MR w0 (Lp l rc::Df d::(Ma++Mb)) R W:=⟨hMW,fun x hx=>by
   have h1:=(hs.r x hx).grow hb
   exact⟨h1.owns,fun y hy=>by
    rcases List.mem_cons.1 hy with rfl | hy
    ·exact fun hg=>absurd (own_lt_size (hs.r x hx).owns hg) (Nat.not_lt.2 hl)
    ·rcases List.mem_cons.1 hy with rfl | hy
     ·exact fun hg=>absurd (own_lt_size (hs.r x hx).owns hg) (Nat.not_lt.2 hd)
     ·exact h1.far y hy⟩,hs.nd⟩
  have h1:MR w0 (Ma++Lp l rc::Df d::Mb) R W:=h0.perm (by
   refine List.perm_middle.trans (.cons _ ?_)
   exact List.perm_middle)
  have h2:=hc l d rc hrc.state hrc.pending (fun M' R' u v Rr k hk hw w2 hm=>yieldW2 hrc (hm.m.obj k hk) hs.f (Nat.le_of_ble_eq_true hp) (Nat.le_of_ble_eq_true hq) fun b hF=>hw b w2 ⟨hF,hm.m,hm.r,hm.nd⟩) W h1
  rw[show(#[.func (.yield l) #[] #[]]++lb.toArray:Array Value)=(.func (.yield l) #[] #[]::lb).toArray by simp]
  refine h2.mono ?_
  rintro e W2 ⟨h2,y,hJ,h3⟩
  refine⟨h2,rc,h3.m.obj 0 rfl,by rw[hrc.state];simp,?_⟩
  rw[hrc.pending]
  have h4:=(h3.put (i:=0) rfl (.loop { rc with state:=.exhausted })).sub (List.sublist_cons_self _ _) (List.Sublist.refl _)
  have e4:{ rc with state:=.exhausted,pending:=none } = { rc with state:=.exhausted }:=by
   have:=hrc.pending
   cases rc;simp only at this;subst this;rfl
  rw[←e4] at h4
  exact h d y hJ _ _ ⟨frMark hs.f,h4.m,h4.r,h4.nd⟩
/- functions that range -/
theorem mo {fn:Func}{RE:Ending->World->Prop}{e:Nat}(j:Nat)(h:KX [] nt w0 L (M.set j (e,isO (.deferred none))) R (bodyPost Tryz.prog fn RE .ret))(hj:M[j]?=some (Df e):=by rfl):KX [mark e] nt w0 L M R (bodyPostM Fence.wide 0 Tryz.prog fn RE .ret):=fun a w hs=>by
 have h1:=hs.mr.put hj (.deferred none)
 obtain⟨_,v,hv,hR⟩:=h { a with defers:=[] } _ ⟨⟨hs.f.size,rfl,hs.f.has⟩,h1.m,h1.r,h1.nd⟩
 show LeavesInM Fence.wide 0 Tryz.prog fn a.tmps RE a.defers .returning w
 rw[hs.f.defers]
 exact⟨by simp,.inl ⟨_,_,rfl,run_takeDeferred (hs.m.obj j hj),⟨v,hv,hR⟩⟩⟩
theorem enterR {f:FuncId}{fn:Func}{vs:List Value}{RE:Ending->World->Prop}{w:World}(hf:Tryz.prog.funcs[f]?=some fn)(h:KX [] nt w (numbered vs 0) [] [] (cc.wp Tryz.prog (bodyPostM Fence.wide 0 Tryz.prog fn RE)))(hb:fn.body=some cc:=by rfl)(hn:fn.ntmps=nt:=by rfl)(hv:Nat.ble vs.length nt=true:=by rfl):Calls Tryz.prog f vs.toArray w RE :=
 walk_enterM hf hb hn hv fun a hF=>h a w ⟨hF,Mem.new w,by simp,.nil⟩
theorem enterRM {f:FuncId}{fn:Func}{vs:List Value}{RE:Ending->World->Prop}(hf:Tryz.prog.funcs[f]?=some fn)(h:KX [] nt w0 (numbered vs 0) M R (cc.wp Tryz.prog (bodyPostM Fence.wide 0 Tryz.prog fn RE)))(hb:fn.body=some cc:=by rfl)(hn:fn.ntmps=nt:=by rfl)(hv:Nat.ble vs.length nt=true:=by rfl)(w:World)(hw:MR w0 M R w):Calls Tryz.prog f vs.toArray w RE :=
 walk_enterM hf hb hn hv fun a hF=>h a w ⟨hF,hw.m,hw.r,hw.nd⟩
theorem e0 {fn:Func}{RE:Ending->World->Prop}(h:∀ u w,MR w0 M R w->RE (.returned u) w)(hr:fn.results = #[]:=by rfl):KX [] nt w0 L M R (bodyPost Tryz.prog fn RE .ret):=fun a w hs=>by
 have h1:(results fn a.tmps).run Tryz.prog w = .ok (.tuple #[]) w:=by simp[results,hr]
 exact⟨hs.f.defers,_,h1,h _ w hs.mr⟩
theorem e0N {fn:Func}{RE:Ending->World->Prop}(h:∀ u w,MR w0 M R w->RE (.returned u) w)(hr:fn.results = #[]:=by rfl):KX [] nt w0 L M R (bodyPost Tryz.prog fn RE .normal):=e0 h hr
end
end
section
open Go.RowKit Go.Shelf
theorem blays240 :Go.Proofs.Lays.n240 Tryz.prog bren:={ blays166 with }
theorem lextra :Builder.Extra Tryz.prog lren:={
 sizeBuilder:=by kernel_rfl
 liesBuilder:=by kernel_rfl
 t5:=Tryz.underlying5
 a5:=Tryz.isAgg5
 z5:=Tryz.sizeOf5
 v5:=Tryz.zeroValue5
 infoByte:=by kernel_rfl
 cellsByte:=by kernel_rfl
 sizeByte:=by kernel_rfl
 neB5:=by decide }
theorem rep_one (x:UInt8)(c:Nat):Lib.repeatL [x] c=List.replicate c x:=by
 have h:=Lib.repeatL_replicate x 1 c
 simpa using h
theorem str_rep (x:UInt8)(c:Nat)(w:World)(h:c<=140737488355328):RV 156 #[.string ⟨[x].toArray⟩,i6 (c:Int)] w (sv (List.replicate c x)):=by
 have h1:=Any.strings_Repeat lay105 lextra ⟨[x].toArray⟩ c w (by omega) (by show 1*c<=_;omega)
 have e:(ByteArray.mk [x].toArray).data.toList = [x]:=rfl
 rw[e,rep_one] at h1
 exact h1
section
variable {D:List Deferred}{nt:Nat}{w0:World}{L:LT}{M M2:MT}{R R2:List Rw}{x y z:Operand}{v v2:Value}{ops:Array Oper}{rest:List Oper}{Q:Exit->Act->World->Prop}{tyo:TypeId}{ps:String}{af:Array Edge}{d:Nat}{s:List UInt8}
theorem strC (s:List UInt8):Lib.strCells ⟨s.toArray⟩=s.map cb:=by simp[Lib.strCells,cb]
theorem baS (s:List UInt8):(ByteArray.mk s.toArray).size=s.length:=by simp[ByteArray.size]
theorem apS (i:Nat){n0:Nat}{xs:List Value}(h:∀ v2,KX D nt w0 ((d,v2)::L) M (R.set i ⟨v2,5,1,n0+s.length,xs++s.map cb⟩) (wpList Tryz.prog ops Q rest))(hi:R[i]?=some ⟨v,5,1,n0,xs⟩:=by rfl)(hx:EV (St D nt w0 L M R) x v:=by exact ev)(hy:EV (St D nt w0 L M R) y (sv s):=by exact ev)(hl:n0+s.length<=140737488355328:=by omega)(hb:Nat.blt d nt=true:=by rfl):KX D nt w0 L M R (wpList Tryz.prog ops Q (⟨some d,.call { callee:=.builtin .append,args:=#[x,y],argTypes:=#[75,9] },tyo,ps,af,none⟩::rest)):=fun a w hs=>by
 have hO:=hs.row i hi
 obtain⟨ti,hti,hz,hsz,hby⟩:∃ i,Tryz.prog.info? 5 = some i/\i.zero=some (.int .u8 0)/\i.size=1/\i.bytes=1:=by
  have h1:(Tryz.prog.info? 5).map (fun i=>(i.zero,i.size,i.bytes))=some (some (.int .u8 0),1,1):=by kernel_rfl
  obtain⟨i,h2,h3⟩:=Option.map_eq_some_iff.1 h1
  injection h3 with h3 h4
  injection h4 with h4 h5
  exact⟨i,h2,h3,h4,h5⟩
 have h63:n0+(ByteArray.mk s.toArray).size<=maxLen:=by rw[baS];unfold maxLen;omega
 have hbt:n0+(ByteArray.mk s.toArray).size<=140737488355328:=by rw[baS];exact hl
 obtain⟨v2,w2,hr,h2,h3,h4⟩:=Lib.run_append_own_string (P:=Tryz.prog) (w:=w) w0.heap.size 75 9 tyo 5 ti Tryz.underlying75 Tryz.underlying9 hti hz hsz hby v n0 xs hO.owns ⟨s.toArray⟩ h63 hbt hs.m.below.size
 have hblk:=append_blockS (P:=Tryz.prog) Tryz.underlying75 Tryz.underlying9 hti hz hsz hby hO.owns h63 hbt hr h4
 rw[baS,strC] at h2
 have hap:∀ j y,j≠i->R[j]?=some y->apartB v y.v:=fun j y hn hj=>pw_ne apB_symm hs.nd hi hj (fun e=>hn e.symm)
 refine sq hs.f (wantedS rfl) (v:=v2) (w2:=w2) ?_ rfl (Nat.le_of_ble_eq_true hb) fun a2 hF2=>h v2 a2 w2 ⟨hF2,hO.mem hs.m h3,fun q hq=>?_,pw_set apB_symm hs.nd fun j y hn hj=>?_⟩
 ·unfold execOp
  simp only[resolve,invoke,builtin,Sem.run_bind,Sem.run_pure,Result.andThen_ok,List.map_toArray,List.map_cons,List.map_nil,hx a w hs,hy a w hs,hr]
 ·rcases set_at hq with rfl | ⟨j,hn,hj⟩
  ·exact hO.next hs.m h2 hblk
  ·exact(hs.r q (List.mem_of_getElem? hj)).keepG h3 fun g hg hq=>hap j q hn hj g hq hg
 ·intro g hg hq
  rcases hblk with h5 | ⟨g2,h5,h6⟩
  ·exact hap j y hn hj g (h5.symm.trans hg) hq
  ·have h7:=own_lt_size (hs.r y (List.mem_of_getElem? hj)).owns hq
   rw[h5] at hg
   injection hg with hg
   omega
end
end
section
open Go.RowKit Go.Shelf
abbrev tB :TypeId:=140
abbrev slf (g:Nat):Value:=pt g
theorem bchk {w0:World}{M0:MT}{R0:List Rw}{g:Nat}{p v:Value}(hp:p = .pointer none\/p=slf g):RM 121 #[slf g] w0 ((g,isB tB #[p,v])::M0) R0 (A:=Unit) (fun _=>True) (fun _=>.tuple #[]) (fun _=>(g,isB tB #[slf g,v])::M0) (fun _=>R0):=fun w hw=>by
 have hB:Blk w g tB #[p,v]:=hw.m.at 0 rfl
 have hc:w.cell? ⟨g,0,none⟩=some p:=by rw[hB.cell];rfl
 rcases hp with rfl | rfl
 ·refine(Any.Builder_copyCheck_fresh blays240 bextra.toX72 g w hc (by have h:=hB;unfold Blk at h;simp[World.shape?,h];rfl) (by have h:=hB;unfold Blk at h;simp[World.frozen?,h])).mono ?_
  rintro e w' ⟨rfl,rfl⟩
  refine⟨(),trivial,rfl,⟨hw.m.upd 0 rfl (grown_setCell w g 0 _) ⟨_,?_,rfl⟩,fun y hy=>(hw.r y hy).upd 0 rfl (grown_setCell w g 0 _),hw.nd⟩⟩
  have h:=hB
  unfold Blk at h
  simp[World.setCell,Array.getElem?_modify,h]
 ·refine(Any.Builder_copyCheck_used blays240 bextra.toX72 g w hc).mono ?_
  rintro e w' ⟨rfl,rfl⟩
  exact⟨(),trivial,rfl,hw⟩
theorem bws {w0:World}{M0:MT}{R0:List Rw}{g:Nat}{p v:Value}{l s:List UInt8}(hp:p = .pointer none\/p=slf g)(hl:l.length+s.length<=140737488355328):RM 124 #[slf g,sv s] w0 ((g,isB tB #[p,v])::M0) (⟨v,5,1,l.length,l.map cb⟩::R0) (A:=Value) (fun _=>True) (fun _=>.tuple #[i6 (s.length:Int),.nilIface]) (fun v2=>(g,isB tB #[slf g,v2])::M0) (fun v2=>⟨v2,5,1,(l++s).length,(l++s).map cb⟩::R0):=by
 refine enterM Tryz.func124 ?_
 refine r2 .as .as (rg (p1 .mv (cm (bchk hp) (fun _ _=>?_))))
 refine en (rg (p5 .mv .mv .nil .fa .ld (p1 .mv (apS 0 (fun v2=>?_)))))
 refine os 0 (fun o c=>?_)
 refine p2 .nil .fa (s1 0 (cs:=#[slf g,v2]) ?_)
 exact en (r4 .mv .ln .as .as (rt (rm v2 trivial (fun _ _ h=>by rw[List.map_append,List.length_append];exact h))))
theorem bwr {w0:World}{M0:MT}{R0:List Rw}{g gS n:Nat}{tS:TypeId}{p v:Value}{l s:List UInt8}(hp:p = .pointer none\/p=slf g)(hn:s.length=n)(hl:l.length+n<=140737488355328):RM 60 #[slf g,.slice (some ⟨gS,0,none⟩) n n] w0 ((g,isB tB #[p,v])::(gS,isB tS (cells8 s))::M0) (⟨v,5,1,l.length,l.map cb⟩::R0) (A:=Value) (fun _=>True) (fun _=>.tuple #[i6 (n:Int),.nilIface]) (fun v2=>(g,isB tB #[slf g,v2])::(gS,isB tS (cells8 s))::M0) (fun v2=>⟨v2,5,1,(l++s).length,(l++s).map cb⟩::R0):=by
 refine enterM Tryz.func60 ?_
 refine r2 .as .as (rg (p1 .mv (cm (bchk hp) (fun _ _=>?_))))
 refine en (rg (p5 .mv .mv .nil .fa .ld (p1 .mv (ap 0 (cs:=cells8 s) (fun v2=>?_) (hl:=by simp[cells8,hn]) (h1:=by rw[Array.all_toList];exact cells8_one s)))))
 refine os 0 (fun o c=>?_)
 refine p2 .nil .fa (s1 0 (cs:=#[slf g,v2]) ?_)
 exact en (r4 .mv .l0 .as .as (rt (rm v2 trivial (fun _ _ h=>by rw[List.map_append,List.length_append,hn];exact h))))
/- what is told -/
theorem byC (l:List UInt8):Lib.byteCells l=l.map cb:=rfl
def nU (S:Obj->Prop):Prop:=∀ ob,S ob->∀ c fz,ob ≠ .cells c 5 fz
theorem nuB {t:TypeId}{cs:Array Value}(h:Nat.beq t 5 = false):nU (isB t cs):=fun ob h1 c fz h2=>by
 rw[show ob=_ from h1] at h2
 injection h2 with _ h3 _
 rw[h3,Nat.beq_refl] at h
 cases h
theorem nuO {l:Loop}:nU (isO (.loop l)):=fun ob h1 c fz h2=>by rw[show ob=_ from h1] at h2;cases h2
theorem nuD {l:Option (List Deferred)}:nU (isO (.deferred l)):=fun ob h1 c fz h2=>by rw[show ob=_ from h1] at h2;cases h2
inductive NU :MT->Prop
 | nil:NU []
 | cons {g:Nat} {S:Obj->Prop} {M:MT}:nU S->NU M->NU ((g,S)::M)
theorem NU.all {M:MT}(h:NU M):∀ x∈M,nU x.2:=by
 induction h with
 | nil=>intro x hx;cases hx
 | cons h1 _ ih=>intro x hx;rcases List.mem_cons.1 hx with rfl | hx;exact h1;exact ih x hx
theorem nu {M:MT}(h:NU M:=by repeat (first | exact NU.nil | refine NU.cons (nuB rfl) ?_ | refine NU.cons nuO ?_ | refine NU.cons nuD ?_)):NU M:=h
section
variable {D:List Deferred}{nt:Nat}{w0:World}{L:LT}{M:MT}{R:List Rw}{x:Operand}{v p x2:Value}{ops:Array Oper}{rest:List Oper}{Q:Exit->Act->World->Prop}{tyo:TypeId}{ts:Array TypeId}{ps:String}{af:Array Edge}{d g:Nat}{l:List UInt8}
theorem OwnR.others {w w2:World}{e:TypeId}{m n:Nat}{xs:List Value}{M2:MT}{b:Nat}(h:OwnR w0 M w e m v n xs)(hM:∀ y∈M2,y∈M)(hb:(b,isB tB #[p,x2])∈M)(hk:Lib.OthersKept 5 (some b) w w2)(he:Nat.beq e 5 = false):OwnR w0 M2 w2 e m v n xs:=by
 refine⟨⟨h.owns.1,?_⟩,fun y hy=>h.far y (hM y hy)⟩
 rcases h.owns.2 with h1 | ⟨g2,cap,cur,rfl,h2,hh,h3⟩
 ·exact .inl h1
 ·refine .inr ⟨g2,cap,cur,rfl,h2,hk _ _ hh (fun e2=>?_) (fun c fz e2=>?_),h3⟩
  ·exact h.far _ hb (by injection e2 with e2;rw[e2];rfl)
  ·injection e2 with _ e3 _
   rw[e3,Nat.beq_refl] at he
   cases he
theorem bst (h:KX D nt w0 ((d,sv l)::L) M R (wpList Tryz.prog ops Q rest))(hx:EV (St D nt w0 L ((g,isB tB #[p,v])::M) (⟨v,5,1,l.length,l.map cb⟩::R)) x (slf g):=by exact ev)(hp:p = .pointer none\/p=slf g:=by exact .inr rfl)(hM:NU M:=by exact nu)(hR:(R.all fun q=>!(Nat.beq q.e 5))=true:=by rfl)(hb:Nat.blt d nt=true:=by rfl):KX D nt w0 L ((g,isB tB #[p,v])::M) (⟨v,5,1,l.length,l.map cb⟩::R) (wpList Tryz.prog ops Q (⟨some d,.call { callee:=.value (.func 61),args:=#[x],argTypes:=ts },tyo,ps,af,none⟩::rest)):=fun a w hs=>by
 have hB:Blk w g tB #[p,v]:=hs.m.at 0 rfl
 have hO:OwnR w0 ((g,isB tB #[p,v])::M) w 5 1 v l.length (l.map cb):=hs.row 0 rfl
 have hA:Lib.BuilderAt tB 5 w0.heap.size g p (Lib.byteCells l) w:=⟨hs.m.ge 0 rfl,v,hB,by rw[byC,List.length_map];exact hO.owns,hO.far _ (List.mem_cons_self ..)⟩
 have hI:Lib.IsBuilderF tB 5 w0.heap.size g (Lib.byteCells l) w:=by
  rcases hp with rfl | rfl
  ·exact .inl (Lib.BuilderAtF.of hA)
  ·exact .inr (Lib.BuilderAtF.of hA)
 have hc:=Any.Builder_String_any_k blays169 bextra w0.heap.size g l w hI hs.m.below.size
 refine sqT (T:=fun u w2=>u=sv l/\Below w0.heap.size w w2/\Lib.OthersKept 5 (some g) w w2) hs.f (wantedS rfl) (run_callK (args:=#[slf g]) rfl (by kernel_rfl) (by simp only[List.map_toArray,List.map_cons,List.map_nil,hx a w hs])) rfl (Nat.le_of_ble_eq_true hb) (hc.mono fun e w2 ⟨h1,h2⟩=>⟨_,h1,rfl,h2.2⟩) fun u a2 w2 ⟨hu,h2,h3⟩ hF=>h a2 w2 ⟨by rw[←hu];exact hF,⟨hs.m.below.trans h2,fun y hy=>?_,(List.pairwise_cons.1 hs.m.nd).2⟩,fun q hq=>?_,(List.pairwise_cons.1 hs.nd).2⟩
 ·obtain⟨h5,ob,h6,h7⟩:=hs.m.has y (List.mem_cons_of_mem _ hy)
  refine⟨h5,ob,h3 _ _ h6 (fun e=>?_) (fun c fz=>hM.all y hy ob h7 c fz),h7⟩
  injection e with e
  exact(List.pairwise_cons.1 hs.m.nd).1 y hy e.symm
 ·exact(hs.r q (List.mem_cons_of_mem _ hq)).others (fun y hy=>List.mem_cons_of_mem _ hy) (List.mem_cons_self ..) h3 (by have:=List.all_eq_true.1 hR q hq;simpa using this)
end
end
section
section
variable {D:List Deferred}{nt:Nat}{w0:World}{L:LT}{M:MT}{R:List Rw}{X:Act->World->Prop}{l g:Nat}{x:Operand}{G:Kn}{t ty:TypeId}
theorem kR (M2:MT)(R2:List Rw)(h:KX D nt w0 L M2 R2 X)(hs:∀ a w,St D nt w0 L M R a w->St D nt w0 L M2 R2 a w:=by exact su):KX D nt w0 L M R X:=fun a w hst=>h a w (hs a w hst)
theorem fx (is js:List Nat)(M2:MT)(R2:List Rw)(h:KX D nt w0 L M2 R2 X)(hM:pks is M=M2:=by rfl)(hR:pks js R=R2:=by rfl):KX D nt w0 L M R X:=fr is js (by rw[hM,hR];exact h)
theorem wRi {assign body:Code}{Rr:Bool->World->Prop}(h:KX D nt w0 L M R (wI l assign (Exit.then (fun a₁ w₁=>∃ w₂,(Instr.beginRound l).run Tryz.prog w₁ = .ok () w₂/\body.wpIn (Fence.wide.inRound l) 0 Tryz.prog (rbF l Rr) a₁ w₂) (fun _ _ _=>False)))):KX D nt w0 L M R (wR l assign body Rr):=h
theorem gcN {nt d:Nat}{v:Value}{ops:Array Oper}{rest:List Oper}{Q:Exit->Act->World->Prop}{tyo:TypeId}{ps:String}{af:Array Edge}{j:Nat}{f:FuncId}{xs:List Operand}{args:List Value}{ts:Array TypeId}{oj:Oper}{sj:Nat}{b:Bool}(hc:b=false->∀ a w,St D nt w0 L M R a w->Calls Tryz.prog f args.toArray w fun e w'=>e = .returned v/\Below w.heap.size w w')(h:KX D nt w0 ((d,cond (!b) v undef)::L) M R (wpList Tryz.prog ops Q rest))(hj:ops[j]?=some oj:=by rfl)(hd:oj.dst=some sj:=by rfl)(hf:lz L sj=some (.bool b):=by rfl)(he:EV (GC (!b) (St D nt w0 L M R)) x (.func (.func f) #[] (args.drop xs.length).toArray):=by exact ev)(hx:EVs (GC (!b) (St D nt w0 L M R)) xs (args.take xs.length):=by exact evs)(hb:Nat.blt d nt=true:=by rfl)(hg:(match Tryz.prog.funcs[f]? with | some fn=>!(fn.name == "runtime.NumGoroutine")&&fn.body.isSome | none=>false)=true:=by kernel_rfl):KX D nt w0 L M R (wpList Tryz.prog ops Q (⟨some d,.call { callee:=.value x,args:=xs.toArray,argTypes:=ts },tyo,ps,af,some (j,false)⟩::rest)):=fun a w hs=>by
 have h1:=St.wanted hs (ops:=ops) (o:=⟨some d,.call { callee:=.value x,args:=xs.toArray,argTypes:=ts },tyo,ps,af,some (j,false)⟩) rfl hj hd hf
 cases b with
 | false=>exact sqC hs.f hs.m h1 (run_callG rfl (he a w ⟨hs,rfl⟩) hg (hx.arr ⟨hs,rfl⟩)) rfl (Nat.le_of_ble_eq_true hb) (by rw[List.append_toArray,List.take_append_drop];exact hc rfl a w hs) fun a2 w2 hB hF _=>h a2 w2 ⟨hF,hs.m.grow hB,fun x hx=>(hs.r x hx).grow hB,hs.nd⟩
 | true=>exact sqSkip hs.f h1 rfl (Nat.le_of_ble_eq_true hb) fun a2 hF=>h a2 w ⟨hF,hs.m,hs.r,hs.nd⟩
def bls (l:List Bool):Array Value:=(l.map Value.bool).toArray
theorem bls_size (l:List Bool):(bls l).size=l.length:=by simp[bls]
theorem bls_at {l:List Bool}{i:Nat}{b:Bool}(h:l[i]?=some b):(bls l)[i]?=some (.bool b):=by simp[bls,h]
theorem spl_bls {l:List Bool}{i:Nat}{b:Bool}(h:i<l.length):spl (bls l) i [.bool b]=bls (l.set i b):=by
 unfold spl bls
 apply Array.ext'
 show(l.map Value.bool).take i ++ [Value.bool b]++(l.map Value.bool).drop (i+1)=(l.set i b).map Value.bool
 rw[List.map_set,List.set_eq_take_append_cons_drop,if_pos (by simpa using h)]
 simp
end
end
section
section
variable {D:List Deferred}{nt:Nat}{w0:World}{L:LT}{M:MT}{R:List Rw}{x y z:Operand}{v:Value}{ops:Array Oper}{rest:List Oper}{Q:Exit->Act->World->Prop}{X:Act->World->Prop}{t t2 tyo e:TypeId}{ps:String}{af:Array Edge}{d:Nat}{G:Kn}{m n:Nat}
theorem ob (i:Nat){xs:List Value}(h:∀ g cap cur,v = .slice (some ⟨g,0,none⟩) n cap->n<=cap->cap<=maxLen->cur.size=cap*m->cur.toList.take (n*m)=xs->KX D nt w0 L ((g,isB e cur)::M) (R.eraseIdx i) X)(hn:0<n:=by omega)(hi:R[i]?=some ⟨v,e,m,n,xs⟩:=by rfl):KX D nt w0 L M R X:=fun a w hs=>by
 have hO:OwnR w0 M w e m v n xs:=hs.row i hi
 rcases hO.owns.2 with⟨_,h0⟩ | ⟨g,cap,cur,rfl,hg,hh,h1,h2,h3,h4⟩
 ·omega
 ·refine h g cap cur rfl h1 h2 h3 h4 a w ⟨hs.f,⟨hs.m.below,?_,?_⟩,fun q hq=>?_,hs.nd.sublist (List.eraseIdx_sublist _ _)⟩
  ·intro q hq
   rcases List.mem_cons.1 hq with rfl | hq
   ·exact⟨hg,_,hh,rfl⟩
   ·exact hs.m.has q hq
  ·exact .cons (fun q hq e=>hO.far q hq (by rw[←e];rfl)) hs.m.nd
  ·obtain⟨j,hj,hq2⟩:=List.mem_eraseIdx_iff_getElem?.1 hq
   have hq3:=hs.r q (List.mem_of_getElem? hq2)
   refine⟨hq3.owns,fun p hp=>?_⟩
   rcases List.mem_cons.1 hp with rfl | hp
   ·exact fun e=>pw_ne apB_symm hs.nd hi hq2 (fun e=>hj e.symm) g rfl e
   ·exact hq3.far p hp
theorem rb (j:Nat){g cap:Nat}{cur:Array Value}(xs:List Value)(h:KX D nt w0 L (M.eraseIdx j) (⟨.slice (some ⟨g,0,none⟩) n cap,e,m,n,xs⟩::R) X)(hx:cur.toList.take (n*m)=xs)(h1:n<=cap)(h2:cap<=maxLen)(h3:cur.size=cap*m)(hj:M[j]?=some (g,isB e cur):=by rfl):KX D nt w0 L M R X:=fun a w hs=>by
 have hB:=hs.m.at j hj
 refine h a w ⟨hs.f,hs.m.sub (List.eraseIdx_sublist _ _),fun q hq=>?_,.cons (fun q hq=>?_) hs.nd⟩
 ·rcases List.mem_cons.1 hq with rfl | hq
  ·refine⟨⟨?_,.inr ⟨g,cap,cur,rfl,hs.m.ge j hj,hB,h1,h2,h3,hx⟩⟩,fun p hp e=>?_⟩
   ·rw[←hx,List.length_take,Array.length_toList,h3]
    exact Nat.min_eq_left (Nat.mul_le_mul_right _ h1)
   ·obtain⟨k,hk,hp2⟩:=List.mem_eraseIdx_iff_getElem?.1 hp
    have e2:g=p.1:=by simpa[Value.ownBlock] using e
    have:=pw_ne (P:=fun x y:Nat×(Obj->Prop)=>x.1≠y.1) (fun _ _ h e=>h e.symm) hs.m.nd hj hp2 (fun e=>hk e.symm)
    exact this e2
  ·exact(hs.r q hq).sub (List.eraseIdx_sublist _ _)
 ·exact fun b hb hb2=>(hs.r q hq).far _ (List.mem_of_getElem? hj) (by rw[hb2,←hb];rfl)
theorem PR.cap {ad:Option Addr}{c:Nat}(hx:EV G x (.slice ad n c):=by exact ev)(hu:und t=some (.slice e):=by rfl):PR Tryz.prog G (.call { callee:=.builtin .cap,args:=#[x],argTypes:=#[t] }) (i6 (c:Int)):=fun a w o ho hg=>by
 have hu:=und_ok hu
 unfold execOp
 simp only[ho,hx a w hg,resolve,invoke,builtin,Sem.run_bind,Sem.run_pure,Result.andThen_ok,List.map_toArray,List.map_cons,List.map_nil]
 simp[go_sem,Builtin.cap_,run_underlying hu]
theorem run_copyB {w:World}{g1 g2 o1 o2 k l c1 c2 m:Nat}{src cur:Array Value}{t1 t2 ty e0 e1 e2:TypeId}(hu:Tryz.prog.underlying t1=some (.slice e0))(hz:(Tryz.prog.info? e0).map (·.size)=some m)(h2:Blk w g2 e2 cur)(ys:List Value)(hcs:∀ j v,ys[j]?=some v->w.cell? ((⟨g1,o1,none⟩:Addr).add j)=some v)(hl:ys.length=Nat.min l k*m)(hfit:o2+ys.length<=cur.size)(h1:∀ u∈ys,u.oneCell'=true):(Builtin.copy_ #[t1,t2] ty #[.slice (some ⟨g2,o2,none⟩) k c2,.slice (some ⟨g1,o1,none⟩) l c1]).run Tryz.prog w = .ok (goInt (Nat.min l k)) (w.setRow g2 (spl cur o2 ys)):=by
 have hld:=run_loadCells_list (P:=Tryz.prog) w ⟨g1,o1,none⟩ ys hcs
 have hst:=run_storeCells_at Tryz.prog g2 o2 e2 ys 0 cur w h2 (by simpa using hfit) h1
 cases hq:Tryz.prog.info? e0 with
 | none=>simp[hq] at hz
 | some i=>
  have hi:i.size=m:=by simpa[hq] using hz
  simp[Builtin.copy_,run_underlying hu,Builtin.lenOf,Builtin.firstCells,sizeOf,typeInfo,hq,hi,←hl,hld,hst,spl]
end
end
section
structure QT (D:List Deferred)(nt:Nat)(w0:World)(L:LT)(M:MT)(R:List Rw)(l:List Oper)(vs:List Value)(n0 i:Nat)(a:Act)(W:World):Prop where
 had:∀ s v,lz L s=some v->noDst (l.take n0) s=true->a.tmps[s]?=some v
 dep:∀ j s v,depB l i j s=true->nth vs j=some v->a.tmps[s]?=some v
 m:Mem w0 M W
 rows:∀ x∈R,Sl W x.v x.m x.n x.xs
section
variable {D:List Deferred}{nt:Nat}{w0:World}{L:LT}{M:MT}{R:List Rw}{l:List Oper}{vs:List Value}{n0 i j s g m n:Nat}{v:Value}{t:TypeId}{cs:Array Value}{x:Operand}
theorem EV.ht (h:lz L s=some v)(hd:noDst (l.take n0) s=true):EV (QT D nt w0 L M R l vs n0 i) (.tmp s) v:=fun _ _ hq=>eval_tmp (hq.had s v h hd)
theorem EV.hd (j:Nat)(h:nth vs j=some v)(hb:depB l i j s=true):EV (QT D nt w0 L M R l vs n0 i) (.tmp s) v:=fun _ _ hq=>eval_tmp (hq.dep j s v hb h)
theorem EV.hi (_hj:dIdx l s 0=some j)(h:nth vs j=some v)(hb:depB l i j s=true):EV (QT D nt w0 L M R l vs n0 i) (.tmp s) v:=EV.hd j h hb
theorem tv (h:EV (QT D nt w0 L M R l vs n0 i) x v:=by first | exact EV.k | exact EV.hi rfl rfl (by kernel_rfl) | exact EV.ht rfl (by kernel_rfl)):EV (QT D nt w0 L M R l vs n0 i) x v:=h
theorem MB.ht (kk:Nat)(h:M[kk]?=some (g,isB t cs):=by rfl):MB (QT D nt w0 L M R l vs n0 i) g t cs:=fun _ _ hq=>hq.m.at kk h
theorem SL.hp {xs:List Value}(h:Sl w0 v m n xs):SL (QT D nt w0 L M R l vs n0 i) v m n xs:=fun _ _ hq=>h.below hq.m.below
theorem SL.hr {e:TypeId}{xs:List Value}(h:(⟨v,e,m,n,xs⟩:Rw)∈R:=by repeat (first | exact List.mem_cons_self .. | refine List.mem_cons_of_mem _ ?_)):SL (QT D nt w0 L M R l vs n0 i) v m n xs:=fun _ _ hq=>hq.rows _ h
inductive AT (D:List Deferred)(nt:Nat)(w0:World)(L:LT)(M:MT)(R:List Rw)(l:List Oper)(vs:List Value)(n0:Nat):Nat->List Oper->List Value->Prop
 | nil {i:Nat}:AT D nt w0 L M R l vs n0 i [] []
 | cons {i:Nat} {o:Oper} {os:List Oper} {v:Value} {us:List Value}:o.guard=none->o.dst.isSome=true->PR Tryz.prog (QT D nt w0 L M R l vs n0 i) o.op v->AT D nt w0 L M R l vs n0 (i+1) os us->AT D nt w0 L M R l vs n0 i (o::os) (v::us)
theorem ac {o:Oper}{os:List Oper}{us:List Value}(hp:PR Tryz.prog (QT D nt w0 L M R l vs n0 i) o.op v)(h:AT D nt w0 L M R l vs n0 (i+1) os us)(hg:o.guard=none:=by rfl)(hs:o.dst.isSome=true:=by rfl):AT D nt w0 L M R l vs n0 i (o::os) (v::us):=.cons hg hs hp h
theorem AT.get {i:Nat}{os:List Oper}{us:List Value}(h:AT D nt w0 L M R l vs n0 i os us):os.length=us.length ∧ ∀ j o,os[j]?=some o->∃ u,us[j]?=some u/\o.guard=none/\o.dst.isSome=true/\PR Tryz.prog (QT D nt w0 L M R l vs n0 (i+j)) o.op u:=by
 induction h with
 | nil=>exact⟨rfl,fun j o h=>by simp at h⟩
 | @cons i o os v us h1 h2 h3 _ ih=>
  refine⟨by simp[ih.1],fun j o' hj=>?_⟩
  cases j with
  | zero=>injection hj with hj;subst hj;exact⟨v,rfl,h1,h2,h3⟩
  | succ j=>
   obtain⟨u,q1,q2⟩:=ih.2 j o' (by simpa using hj)
   exact⟨u,by simpa using q1,by rw[show i+(j+1)=i+1+j by omega];exact q2⟩
def slT :List Oper->List Value->LT->LT
 | o::os,v::vs,L=>slT os vs ((o.dst.getD 0,v)::L)
 | _,_,L=>L
theorem lz_slT :∀ {os:List Oper} {us:List Value} {L:LT} {s:Nat} {v:Value},(os.all fun o:Oper=>o.dst.isSome)=true->os.length=us.length->lz (slT os us L) s=some v->(∃ (j:Nat) (o:Oper),os[j]?=some o/\o.dst=some s/\us[j]?=some v)\/(noDst os s=true/\lz L s=some v)
 | [],[],_,_,_,_,_,h=>.inr ⟨rfl,h⟩
 | [],_::_,_,_,_,_,hl,_=>by simp at hl
 | _::_,[],_,_,_,_,hl,_=>by simp at hl
 | o::os,u::us,L,s,v,hd,hl,h=>by
  rw[List.all_cons,Bool.and_eq_true] at hd
  rcases lz_slT hd.2 (by simpa using hl) (show lz (slT os us ((o.dst.getD 0,u)::L)) s=some v from h) with⟨j,o2,h1,h2,h3⟩ | ⟨h1,h2⟩
  ·exact .inl ⟨j+1,o2,by simpa using h1,h2,by simpa using h3⟩
  ·obtain⟨d,hdd⟩:=Option.isSome_iff_exists.1 hd.1
   rw[hdd,Option.getD_some,lz] at h2
   by_cases e:d=s
   ·subst e
    rw[Nat.beq_refl] at h2
    exact .inl ⟨0,o,rfl,hdd,by simpa using h2⟩
   ·rw[show Nat.beq d s=false from Bool.eq_false_iff.2 fun h=>e (Nat.eq_of_beq_eq_true h)] at h2
    refine .inr ⟨?_,h2⟩
    unfold noDst
    rw[List.all_cons,Bool.and_eq_true]
    exact⟨by rw[hdd];simpa using e,h1⟩
theorem dt {id:Nat}{Q:Exit->Act->World->Prop}(n0:Nat)(vs:List Value)(ask:AT D nt w0 L M R l vs n0 0 (l.take n0) vs)(k:KX D nt w0 (slT (l.take n0) vs L) M R (wpList Tryz.prog l.toArray Q (l.drop n0)))(hB:looseB l nt=true:=by kernel_rfl)(hTB:tailB l n0=true:=by kernel_rfl):KX D nt w0 L M R ((Code.region id l.toArray true).wp Tryz.prog Q):=fun a0 w hs=>by
 obtain⟨hl,hg⟩:=ask.get
 have hall:((l.take n0).all fun o=>o.dst.isSome)=true:=List.all_eq_true.2 fun o ho=>by
  obtain⟨j,hj⟩:=List.mem_iff_getElem?.1 ho
  obtain⟨_,_,_,h,_⟩:=hg j o hj
  exact h
 refine wp_region_looseTail2 nt n0 (by kernel_rfl) hB hTB hs.f.size (Below w.heap.size w) (fun i v _=>∀ u,i<n0->vs[i]?=some u->v=u) (fun _ W W'=>W'=W) (Below.refl _ _).drew (fun _ W W' h1 h2=>h2▸h1) (fun _ j v W W' _ _ _ hT=>hT) (fun i o ho hn v W hT u hi hu=>?_) (fun i o hi ho a W hS h1 h2 _=>?_) (fun a W hS hK=>?_)
 ·obtain⟨_,_,_,h,_⟩:=hg i o (by rw[List.getElem?_take_of_lt hi];exact ho)
  rw[hn] at h;cases h
 ·obtain⟨u,q1,q2,q3,q4⟩:=hg i o (by rw[List.getElem?_take_of_lt hi];exact ho)
  rw[Nat.zero_add] at q4
  have hq:QT D nt w0 L M R l vs n0 i a W:=⟨fun s v h3 h4=>h1 s v h4 (hs.f.has s v (by rw[←lz_eq];exact h3)),fun j s v h3 h4=>by
   simp only[depB,Bool.and_eq_true] at h3
   obtain⟨h3,h5⟩:=h3
   cases hj:l[j]? with
   | none=>rw[hj] at h5;cases h5
   | some oj=>
    rw[hj] at h5
    obtain⟨v2,h6,h7⟩:=h2 j h3 oj s hj (by simpa using h5)
    rw[nth_eq] at h4
    have hjn:j<n0:=by have:=(List.getElem?_eq_some_iff.1 h4).1;rw[←hl,List.length_take] at this;omega
    rw[h6,h7 v hjn h4],hs.m.grow hS,fun x hx=>Sl.own ((hs.r x hx).grow hS)⟩
  refine .inl ⟨wanted_yes q2,?_⟩
  rw[q4 a W o rfl hq]
  exact⟨rfl,fun u2 _ hu=>by rw[q1] at hu;exact Option.some.inj hu⟩
 ·refine k a W ⟨⟨by rw[hK.size];exact hs.f.size,by rw[hK.defers];exact hs.f.defers,fun s v h=>?_⟩,hs.m.grow hS,fun x hx=>(hs.r x hx).grow hS,hs.nd⟩
  rw[←lz_eq] at h
  rcases lz_slT hall hl h with⟨j,o,h1,h2,h3⟩ | ⟨h1,h2⟩
  ·have hj:j<n0:=by have:=(List.getElem?_eq_some_iff.1 h1).1;rw[List.length_take] at this;omega
   rw[List.getElem?_take_of_lt hj] at h1
   obtain⟨v2,h4,h5⟩:=hK.new j o s h1 (by simpa using hj) h2
   rw[h4,h5 v hj h3]
  ·rw[hK.old s fun i o ho hi=>?_]
   ·exact hs.f.has s v (by rw[←lz_eq];exact h2)
   ·have:=List.all_eq_true.1 h1 o (List.mem_of_getElem? (i:=i) (by rw[List.getElem?_take_of_lt (by simpa using hi)];exact ho))
    simpa using this
theorem dts {id:Nat}{Q:Exit->Act->World->Prop}{cc:Code}(n0:Nat)(vs:List Value)(ask:AT D nt w0 L M R l vs n0 0 (l.take n0) vs)(k:KX D nt w0 (slT (l.take n0) vs L) M R (wpList Tryz.prog l.toArray (Exit.then (cc.wp Tryz.prog Q) Q) (l.drop n0)))(hB:looseB l nt=true:=by kernel_rfl)(hTB:tailB l n0=true:=by kernel_rfl):KX D nt w0 L M R ((Code.seq (Code.region id l.toArray true) cc).wp Tryz.prog Q):=fun a w hs=>wp_seq (dt n0 vs ask k hB hTB a w hs)
end
section
variable {D:List Deferred}{nt:Nat}{w0:World}{L:LT}{M:MT}{R:List Rw}{G:Kn}{x y z:Operand}{t t2 tyo e e2:TypeId}{g o i j n c m d:Nat}{k:IntKind}{p:Int}{ops:Array Oper}{rest:List Oper}{Q:Exit->Act->World->Prop}{ps:String}{af:Array Edge}{cs:Array Value}
theorem PR.bF (i:Nat)(hx:EV G x (.slice (some ⟨g,o,none⟩) n c):=by exact ev)(hy:EV G y (.int k p):=by exact ev)(hp:p=(i:Int):=by rfl)(hu:und t=some (.slice e):=by rfl)(hz:szT e=some m:=by rfl)(hi:i<=n:=by omega)(hc:i≠c:=by omega):PR Tryz.prog G (.slice t x (some y) none none) (.slice (some ⟨g,o+i*m,none⟩) (n-i) (c-i)):=fun a w op ho hg=>by
 have h1:=und_ok hu
 have he:Tryz.prog.elem t=e:=by simp[Program.elem,h1]
 have ht:Tryz.prog.underlying t=some (.slice (Tryz.prog.elem t)):=by rw[he];exact h1
 have hr:=run_slice_l (P:=Tryz.prog) w t (some ⟨g,o,none⟩) n c ht k (i:Int) (by omega) (by omega)
 subst hp
 have hsA:(Instr.sliceAt t (.slice (some ⟨g,o,none⟩) n c) (some (.int k (i:Int))) none none).run Tryz.prog w = .ok (.slice (some ⟨g,o+i*m,none⟩) (n-i) (c-i)) w:=by
  rw[run_sliceAt_slice w t _ _ _ _ ht,hr,he,szT_ok hz]
  show Result.ok (sliced (some ⟨g,o,none⟩) (i:Int).toNat n c m) w=_
  rw[Int.toNat_natCast]
  unfold sliced
  rw[if_neg (fun h=>hc h.symm)]
  simp only[Option.map,addr_add]
 unfold execOp
 simp only[ho,hx a w hg,hy a w hg,Option.map,Sem.run_bind,hsA,Result.andThen_ok,Sem.run_pure]
theorem PR.bT' (j:Nat)(hx:EV G x (.slice (some ⟨g,o,none⟩) n c):=by exact ev)(hy:EV G y (.int k p):=by exact ev)(hp:p=(j:Int):=by rfl)(hu:und t=some (.slice e):=by rfl)(hz:szT e=some m:=by rfl)(hj:j<=c:=by omega)(hc:0<c:=by omega):PR Tryz.prog G (.slice t x none (some y) none) (.slice (some ⟨g,o,none⟩) j c):=fun a w op ho hg=>by
 have h1:=und_ok hu
 have he:Tryz.prog.elem t=e:=by simp[Program.elem,h1]
 have ht:Tryz.prog.underlying t=some (.slice (Tryz.prog.elem t)):=by rw[he];exact h1
 have hr:=run_slice_h (P:=Tryz.prog) w t (some ⟨g,o,none⟩) n c ht k (j:Int) (by omega) (by omega)
 subst hp
 have hsA:(Instr.sliceAt t (.slice (some ⟨g,o,none⟩) n c) none (some (.int k (j:Int))) none).run Tryz.prog w = .ok (.slice (some ⟨g,o,none⟩) j c) w:=by
  rw[run_sliceAt_slice w t _ _ _ _ ht,hr,he,szT_ok hz]
  show Result.ok (sliced (some ⟨g,o,none⟩) 0 (j:Int).toNat c m) w=_
  rw[Int.toNat_natCast]
  unfold sliced
  rw[if_neg (by omega)]
  simp only[Option.map,addr_add,Nat.zero_mul,Nat.add_zero,Nat.sub_zero]
 unfold execOp
 simp only[ho,hx a w hg,hy a w hg,Option.map,Sem.run_bind,hsA,Result.andThen_ok,Sem.run_pure]
theorem run_copyOp {a:Act}{w w2:World}{op:Oper}{v1 v2:Value}{r:Value}(ho:op.op = .call { callee:=.builtin .copy,args:=#[x,y],argTypes:=#[t,t2] })(hx:a.eval x=v1)(hy:a.eval y=v2)(h:(Builtin.copy_ #[t,t2] op.type #[v1,v2]).run Tryz.prog w = .ok r w2):(execOp a.eval op).run Tryz.prog w = .ok (.value r) w2:=by
 unfold execOp
 simp only[ho,resolve,invoke,builtin,Sem.run_bind,Sem.run_pure,Result.andThen_ok,List.map_toArray,List.map_cons,List.map_nil,hx,hy,h]
theorem cpB (i j:Nat){g1 g2 o1 o2 k1 k2 c1 c2 m:Nat}{src cur:Array Value}(ys:List Value)(h:KX D nt w0 ((d,i6 ((Nat.min k2 k1:Nat):Int))::L) (M.set j (g2,isB e2 (spl cur o2 ys))) R (wpList Tryz.prog ops Q rest))(hj:M[j]?=some (g2,isB e2 cur):=by rfl)(hi:M[i]?=some (g1,isB e src):=by rfl)(hx:EV (St D nt w0 L M R) x (.slice (some ⟨g2,o2,none⟩) k1 c1):=by exact ev)(hy:EV (St D nt w0 L M R) y (.slice (some ⟨g1,o1,none⟩) k2 c2):=by exact ev){e0:TypeId}(hu:und t=some (.slice e0):=by rfl)(hz:szT e0=some m:=by rfl)(hc:∀ q v,ys[q]?=some v->src[o1+q]?=some v)(hl:ys.length=Nat.min k2 k1*m)(hfit:o2+ys.length<=cur.size)(h1:∀ u∈ys,u.oneCell'=true)(hb:Nat.blt d nt=true:=by rfl):KX D nt w0 L M R (wpList Tryz.prog ops Q (⟨some d,.call { callee:=.builtin .copy,args:=#[x,y],argTypes:=#[t,t2] },tyo,ps,af,none⟩::rest)):=fun a w hs=>by
 have hr:=run_copyB (w:=w) (g1:=g1) (o1:=o1) (t2:=t2) (ty:=tyo) (k:=k1) (l:=k2) (c1:=c2) (c2:=c1) (src:=src) (e1:=e) (und_ok hu) (info_size hz) (hs.m.at j hj) ys (fun q v hq=>by
  rw[addr_add];show w.cell? ⟨g1,o1+q,none⟩=_
  rw[(hs.m.at i hi).cell];exact hc q v hq) hl hfit h1
 exact sq hs.f (wantedS rfl) (w2:=w.setRow g2 (spl cur o2 ys)) (run_copyOp (op:=⟨some d,.call { callee:=.builtin .copy,args:=#[x,y],argTypes:=#[t,t2] },tyo,ps,af,none⟩) rfl (hx a w hs) (hy a w hs) hr) rfl (Nat.le_of_ble_eq_true hb) fun a2 hF=>h a2 _ ⟨hF,hs.m.row j hj _,fun x hx=>(hs.r x hx).upd j hj (grown_setRow w g2 _),hs.nd⟩
end
end
section
section
variable {D:List Deferred}{nt:Nat}{w0:World}{L:LT}{M:MT}{R:List Rw}{G:Kn}{x y z:Operand}{t t2 tn tyo e e0 e2:TypeId}{g o i j n c m d k b:Nat}{kq kn:IntKind}{p:Int}{ops:Array Oper}{rest:List Oper}{Q:Exit->Act->World->Prop}{ps:String}{af:Array Edge}{cs cur:Array Value}
theorem zeroC_len (cs:Array Value)(k:Nat):(Builtin.zeroCells cs k).size=k*cs.size:=by
 simp[Builtin.zeroCells]
theorem agz (i k:Nat)(h:∀ g2 c2 (zs:List Value),n+k<=c2->c2<=maxLen->zs.length=(c2-n)*m->KX D nt w0 ((d,.slice (some ⟨g2,0,none⟩) (n+k) c2)::L) ((g2,isB e (cur.toList.take (n*m)++zs).toArray)::M) R (wpList Tryz.prog ops Q rest))(hi:M[i]?=some (g,isB e0 cur):=by rfl)(hx:EV (St D nt w0 L M R) x (.slice (some ⟨g,0,none⟩) n c):=by exact ev)(hy:EV (St D nt w0 L M R) y (.int kq p):=by exact ev)(hp:p=(k:Int):=by rfl)(hE:elT t=some (e,m,b):=by rfl)(htn:und tn=some (.int kn):=by rfl)(h0:0<k:=by omega)(hg:c<n+k:=by omega)(hn:n*m<=cur.size:=by omega)(h63:n+k<=maxLen:=by unfold maxLen;omega)(hby:(n+k)*b<=140737488355328:=by omega)(hnc:n<=c:=by omega)(hb:Nat.blt d nt=true:=by rfl):KX D nt w0 L M R (wpList Tryz.prog ops Q (⟨some d,.call { callee:=.builtin .append,args:=#[x,y],argTypes:=#[t,tn] },tyo,ps,af,none⟩::rest)):=fun a w hs=>by
 obtain⟨ti,z,hti,hz,hsz,hby2,hzs⟩:=(elT_ok hE).inf
 have hB:=hs.m.at i hi
 have hpos:=(elT_ok hE).pos
 have hlen:(cur.toList.take (n*m)).length=n*ti.size:=by rw[List.length_take,Array.length_toList,hsz];exact Nat.min_eq_left hn
 have h63':n+k<=9223372036854775807:=by simp only[maxLen] at h63;omega
 subst hp
 have hr:=Lib.run_append_grow_zeros (P:=Tryz.prog) w t tn tyo e ti z kq kn (elT_ok hE).un (und_ok htn) hti hz (some ⟨g,0,none⟩) n c (cur.toList.take (n*m)) (run_firstCells_some (P:=Tryz.prog) w.drew ti.size n ⟨g,0,none⟩ n c _ hlen (fun j v hj=>by
  rw[addr_add]
  show w.cell? ⟨g,0+j,none⟩=_
  rw[hB.cell,Nat.zero_add,←Array.getElem?_toList]
  rw[List.getElem?_take] at hj
  split at hj
  ·exact hj
  ·cases hj)) k h0 (by omega) hg (by omega) (by rw[hby2];have:=Nat.mul_le_mul_right b (show k<=n+k by omega);omega) (by rw[hby2];exact growslice_fits hg hby)
 have hc1:=grownCap_ge w (n+k) c e
 have hc2:=grownCap_le_maxLen w (n+k) c e h63
 generalize hc:grownCap w (n+k) c e=c2 at *
 refine sq hs.f (wantedS rfl) (v:=.slice (some ⟨w.heap.size,0,none⟩) (n+k) c2) (w2:=w.drew.alloc (.cells ((cur.toList.take (n*m)).toArray++Builtin.zeroCells z.cells k++Builtin.zeroCells z.cells (c2-(n+k))) e)) ?_ rfl (Nat.le_of_ble_eq_true hb) fun a2 hF2=>h w.heap.size c2 ((Builtin.zeroCells z.cells k).toList++(Builtin.zeroCells z.cells (c2-(n+k))).toList) hc1 hc2 ?_ a2 _ ?_
 ·unfold execOp
  simp only[resolve,invoke,builtin,Sem.run_bind,Sem.run_pure,Result.andThen_ok,List.map_toArray,List.map_cons,List.map_nil,hx a w hs,hy a w hs,hr]
 ·rw[List.length_append,Array.length_toList,Array.length_toList,zeroC_len,zeroC_len,hzs,←Nat.add_mul]
  congr 1;omega
 ·have he:(cur.toList.take (n*m)).toArray++Builtin.zeroCells z.cells k++Builtin.zeroCells z.cells (c2-(n+k))=(cur.toList.take (n*m)++((Builtin.zeroCells z.cells k).toList++(Builtin.zeroCells z.cells (c2-(n+k))).toList)).toArray:=by
   apply Array.toList_inj.1;simp
  rw[he]
  exact hs.new (S:=isB e _) hb ((Below.refl _ w).drew.alloc (Nat.le_refl _) _) (Nat.le_refl _) ⟨_,Blk.new w.drew e _,rfl⟩ hF2
theorem PR.ov (i j:Nat){g1 g2 l1 l2 c1 c2:Nat}{t1 t2:TypeId}{cs1 cs2:Array Value}{ts:Array TypeId}(hi:M[i]?=some (g1,isB t1 cs1):=by rfl)(hj:M[j]?=some (g2,isB t2 cs2):=by rfl)(hn:i≠j:=by decide)(h2:cs2.size≠0:=by omega)(hx:EV (St D nt w0 L M R) x (.slice (some ⟨g1,0,none⟩) l1 c1):=by exact ev)(hy:EV (St D nt w0 L M R) y (.slice (some ⟨g2,o,none⟩) l2 c2):=by exact ev):PR Tryz.prog (St D nt w0 L M R) (.call { callee:=.value (.func 254),args:=#[x,y],argTypes:=ts }) (.bool false):=fun a w op ho hs=>by
 have h1:=hs.m.at i hi
 have h3:=hs.m.at j hj
 have hne:g1≠g2:=pw_ne (P:=fun x y:Nat×(Obj->Prop)=>x.1≠y.1) (fun _ _ h e=>h e.symm) hs.m.nd hi hj hn
 have hv:(callFunc 254 #[.slice (some ⟨g1,0,none⟩) l1 c1,.slice (some ⟨g2,o,none⟩) l2 c2]).run Tryz.prog w = .ok (.value (.bool false)) w:=by
  rw[run_callFunc_extern Tryz.func254 (by kernel_rfl) (by kernel_rfl) (by kernel_rfl) (e:=Extern.SlicesOverlaps.overlaps #[25,25] #[4]) (by kernel_rfl),
   Lib.run_overlaps_apart w 25 4 73 (und_ok rfl) 4 (fun w=>by
    obtain⟨ti,z,hti,hz,hsz,_,_⟩:=(elT_ok (t:=25) (e:=73) (m:=4) (b:=56) rfl).inf
    rw[run_sizeOf (P:=Tryz.prog) w hti,Program.cellsOf,hti];simp[hsz]) ⟨g1,0,none⟩ ⟨g2,o,none⟩ l1 c1 l2 c2 hne t1 t2 cs1.size cs2.size (by unfold World.shape?;rw[show w.heap[g1]?=_ from h1]) (by unfold World.shape?;rw[show w.heap[g2]?=_ from h3]) h2 (h1.frozen 0) (h1.frozen _)]
  rfl
 unfold execOp
 simp only[ho]
 simp only[resolve,Act.eval,Deferred.ofValue,Sem.run_bind,Sem.run_pure,Result.andThen_ok,invoke,Array.append_empty,Array.empty_append]
 rw[show(#[x,y].map fun q=>a.eval q)=_ from mapE2 (hx a w hs) (hy a w hs)]
 exact hv
theorem MB.ox {l:List Oper}{KL:List Kp}{AL:List NewZ}{BL:List OldQ}{js:List Nat}{Bs i iS:Nat}{old:Array Value}{kp:Kp}(kk:Nat)(h:BL[kk]?=some ⟨iS,g,t,old,o,kp⟩)(hb:behindB l iS i=true):MB (QZ D nt w0 L M R l KL AL BL js Bs i) g t old:=MB.oo kk h hb
end
end
end Go.Proofs.YtdjholkjkbihmaaGreatDoor
