/- Laws and walks of TopNeverOther. -/
import Derived.Laws.CopyRow
import Derived.Test.YtdjholkjkbihmaaGreatDoorF04
namespace Go.Proofs.YtdjholkjkbihmaaGreatDoor
open Go.RowKit
set_option maxRecDepth 100000
set_option maxHeartbeats 4000000
section

def Tele.all :Tele->(Value->List Rw->Prop)->Prop
 | .ret v,X=>X v []
 | .row e m n xs k,X=>∀ v,(k v).all fun u l=>X u (⟨v,e,m,n,xs⟩::l)
 | .ex p k,X=>∀ s,p s->(k s).all X
def RV (f:FuncId)(vs:Array Value)(w:World)(v:Value):Prop:=Calls Tryz.prog f vs w fun e w'=>e = .returned v/\Below w.heap.size w w'
def RT (f:FuncId)(vs:Array Value)(w:World)(T:Tele):Prop:=Calls Tryz.prog f vs w fun e w'=>∃ u,e = .returned u/\T.sat w.heap.size w' [] u/\Below w.heap.size w w'
section
variable {D:List Deferred}{nt:Nat}{w0:World}{L:LT}{M:MT}{R:List Rw}{x y z:Operand}{v v2:Value}{ty t t2:TypeId}{k k2:IntKind}{p q r:Int}{g i j m n:Nat}
variable {ops:Array Oper}{rest:List Oper}{Q:Exit->Act->World->Prop}{X:Act->World->Prop}{id:Nat}{cc c1 c2:Code}{tyo:TypeId}{ps:String}{af:Array Edge}{d:Nat}{op:Op}
/- through the code -/
theorem en {Y:Act->World->Prop}(h:KX D nt w0 L M R Y):KX D nt w0 L M R (wpList Tryz.prog ops (Exit.then Y Q) []):=fun a w hs=>h a w hs
theorem en0 (h:KX D nt w0 L M R (Q .normal)):KX D nt w0 L M R (wpList Tryz.prog ops Q []):=fun a w hs=>h a w hs
theorem rg {l:List Oper}(h:KX D nt w0 L M R (wpList Tryz.prog l.toArray (Exit.then (cc.wp Tryz.prog Q) Q) l)):KX D nt w0 L M R ((Code.seq (Code.region id l.toArray false) cc).wp Tryz.prog Q):=fun a w hs=>wp_seq (wp_region_lit (h a w hs))
theorem rg0 {l:List Oper}(h:KX D nt w0 L M R (wpList Tryz.prog l.toArray Q l)):KX D nt w0 L M R ((Code.region id l.toArray false).wp Tryz.prog Q):=fun a w hs=>wp_region_lit (h a w hs)
theorem se (h:KX D nt w0 L M R (c1.wp Tryz.prog (Exit.then (c2.wp Tryz.prog Q) Q))):KX D nt w0 L M R ((Code.seq c1 c2).wp Tryz.prog Q):=fun a w hs=>wp_seq (h a w hs)
theorem bT {b:Bool}(h:b=true:=by first | rfl | exact decide_eq_true (by omega) | assumption | (simp;done) | (simp;omega)):b=true:=h
theorem bF {b:Bool}(h:b=false:=by first | rfl | exact decide_eq_false (by omega) | assumption | (simp;done) | (simp;omega)):b=false:=h
theorem ct {b:Bool}(h:KX D nt w0 L M R (c1.wp Tryz.prog Q))(hc:EV (St D nt w0 L M R) x (.bool b):=by exact ev)(hb:b=true:=by exact bT):KX D nt w0 L M R ((Code.cond x c1 c2).wp Tryz.prog Q):=fun a w hs=>wp_cond_true (by rw[hc a w hs,hb]) (h a w hs)
theorem cf {b:Bool}(h:KX D nt w0 L M R (c2.wp Tryz.prog Q))(hc:EV (St D nt w0 L M R) x (.bool b):=by exact ev)(hb:b=false:=by exact bF):KX D nt w0 L M R ((Code.cond x c1 c2).wp Tryz.prog Q):=fun a w hs=>wp_cond_false (by rw[hc a w hs,hb]) (h a w hs)
theorem cs {b:Bool}(h1:b=true->KX D nt w0 L M R (c1.wp Tryz.prog Q))(h2:b=false->KX D nt w0 L M R (c2.wp Tryz.prog Q))(hc:EV (St D nt w0 L M R) x (.bool b):=by exact ev):KX D nt w0 L M R ((Code.cond x c1 c2).wp Tryz.prog Q):=by
 cases hb:b with
 | true=>exact ct (h1 hb) hc hb
 | false=>exact cf (h2 hb) hc hb
theorem bl (h:KX D nt w0 L M R (cc.wp Tryz.prog (Exit.inBlock i Q))):KX D nt w0 L M R ((Code.block i cc).wp Tryz.prog Q):=fun a w hs=>wp_block (h a w hs)
theorem sk (h:KX D nt w0 L M R (Q .normal)):KX D nt w0 L M R (Code.skip.wp Tryz.prog Q):=fun a w hs=>wp_skip (h a w hs)
theorem xt (h:KX D nt w0 L M R (Q (.exit i))):KX D nt w0 L M R ((Code.exit i).wp Tryz.prog Q):=fun a w hs=>wp_exit (h a w hs)
theorem rt (h:KX D nt w0 L M R (Q .ret)):KX D nt w0 L M R (Code.ret.wp Tryz.prog Q):=fun a w hs=>wp_ret (h a w hs)
theorem nN (h:KX D nt w0 L M R X):KX D nt w0 L M R (Exit.then X Q .normal):=fun a w hs=>h a w hs
theorem nR (h:KX D nt w0 L M R (Q .ret)):KX D nt w0 L M R (Exit.then X Q .ret):=fun a w hs=>h a w hs
theorem nX (h:KX D nt w0 L M R (Q (.exit i))):KX D nt w0 L M R (Exit.then X Q (.exit i)):=fun a w hs=>h a w hs
theorem bN (h:KX D nt w0 L M R (Q .normal)):KX D nt w0 L M R (Exit.inBlock i Q .normal):=fun a w hs=>h a w hs
theorem bR (h:KX D nt w0 L M R (Q .ret)):KX D nt w0 L M R (Exit.inBlock i Q .ret):=fun a w hs=>h a w hs
theorem bH (h:KX D nt w0 L M R (Q .normal)):KX D nt w0 L M R (Exit.inBlock i Q (.exit i)):=fun a w hs=>bkHere (h a w hs)
theorem bX (h:KX D nt w0 L M R (Q (.exit j)))(hn:j≠i:=by decide):KX D nt w0 L M R (Exit.inBlock i Q (.exit j)):=fun a w hs=>bkFar hn (h a w hs)
theorem KX.sub {L2:LT}{M2:MT}{R2:List Rw}(h:KX D nt w0 L2 M2 R2 X)(hL:subs L L2)(hM:M2.Sublist M)(hR:R2.Sublist R):KX D nt w0 L M R X:=fun a w hs=>
 h a w ⟨hs.f.sub hL,hs.m.sub hM,fun x hx=>(hs.r x (hR.subset hx)).sub hM,hs.nd.sublist hR⟩
/- operations that hang on a flag -/
def isW (want:Bool):Value->Bool
 | .bool b=>b==want
 | _=>false
theorem St.wanted {a:Act}{w:World}{oj o:Oper}{sj:Nat}{want:Bool}(h:St D nt w0 L M R a w)(hg:o.guard=some (j,want))(hj:ops[j]?=some oj)(hd:oj.dst=some sj)(he:lz L sj=some v):Region.wanted o (yielded ops a.tmps)=isW want v:=by
 have h1:=h.f.at sj (by rw[←lz_eq];exact he)
 simp only[Region.wanted,hg,yielded,hj,hd,h1,Option.bind_some]
 cases v <;> first | rfl | (cases want <;> rfl) | (rename_i b;cases b <;> cases want <;> rfl)
theorem kG {oj:Oper}{sj:Nat}{want c:Bool}(hw:isW want v2=c)(he:lz L sj=some v2)(hj:ops[j]?=some oj)(hd:oj.dst=some sj)(hp:PR Tryz.prog (GC c (St D nt w0 L M R)) op v)(h:KX D nt w0 ((d,cond c v undef)::L) M R (wpList Tryz.prog ops Q rest))(hb:Nat.blt d nt=true):KX D nt w0 L M R (wpList Tryz.prog ops Q (⟨some d,op,tyo,ps,af,some (j,want)⟩::rest)):=fun a w hs=>by
 have h1:=St.wanted hs (ops:=ops) (o:=⟨some d,op,tyo,ps,af,some (j,want)⟩) rfl hj hd he
 rw[hw] at h1
 cases c with
 | true=>exact sq hs.f h1 (hp a w _ rfl ⟨hs,rfl⟩) rfl (Nat.le_of_ble_eq_true hb) fun a2 hF=>h a2 w ⟨hF,hs.m,hs.r,hs.nd⟩
 | false=>exact sqSkip hs.f h1 rfl (Nat.le_of_ble_eq_true hb) fun a2 hF=>h a2 w ⟨hF,hs.m,hs.r,hs.nd⟩
theorem gTt {oj:Oper}{sj:Nat}{b:Bool}(h:KX D nt w0 ((d,cond b v undef)::L) M R (wpList Tryz.prog ops Q rest))(hj:ops[j]?=some oj:=by rfl)(hd:oj.dst=some sj:=by rfl)(he:lz L sj=some (.bool b):=by rfl)(hp:PR Tryz.prog (GC b (St D nt w0 L M R)) op v:=by exact pr)(hb:Nat.blt d nt=true:=by rfl):KX D nt w0 L M R (wpList Tryz.prog ops Q (⟨some d,op,tyo,ps,af,some (j,true)⟩::rest)):=kG (by cases b <;> rfl) he hj hd hp h hb
theorem gFf {oj:Oper}{sj:Nat}{b:Bool}(h:KX D nt w0 ((d,cond (!b) v undef)::L) M R (wpList Tryz.prog ops Q rest))(hj:ops[j]?=some oj:=by rfl)(hd:oj.dst=some sj:=by rfl)(he:lz L sj=some (.bool b):=by rfl)(hp:PR Tryz.prog (GC (!b) (St D nt w0 L M R)) op v:=by exact pr)(hb:Nat.blt d nt=true:=by rfl):KX D nt w0 L M R (wpList Tryz.prog ops Q (⟨some d,op,tyo,ps,af,some (j,false)⟩::rest)):=kG (by cases b <;> rfl) he hj hd hp h hb
theorem hTt {oj:Oper}{sj:Nat}{b c:Bool}(h:KX D nt w0 ((d,cond (c&&b) v undef)::L) M R (wpList Tryz.prog ops Q rest))(hj:ops[j]?=some oj:=by rfl)(hd:oj.dst=some sj:=by rfl)(he:lz L sj=some (cond c (.bool b) undef):=by rfl)(hp:PR Tryz.prog (GC (c&&b) (St D nt w0 L M R)) op v:=by exact pr)(hb:Nat.blt d nt=true:=by rfl):KX D nt w0 L M R (wpList Tryz.prog ops Q (⟨some d,op,tyo,ps,af,some (j,true)⟩::rest)):=kG (by cases c <;> cases b <;> rfl) he hj hd hp h hb
theorem hFf {oj:Oper}{sj:Nat}{b c:Bool}(h:KX D nt w0 ((d,cond (c && !b) v undef)::L) M R (wpList Tryz.prog ops Q rest))(hj:ops[j]?=some oj:=by rfl)(hd:oj.dst=some sj:=by rfl)(he:lz L sj=some (cond c (.bool b) undef):=by rfl)(hp:PR Tryz.prog (GC (c && !b) (St D nt w0 L M R)) op v:=by exact pr)(hb:Nat.blt d nt=true:=by rfl):KX D nt w0 L M R (wpList Tryz.prog ops Q (⟨some d,op,tyo,ps,af,some (j,false)⟩::rest)):=kG (by cases c <;> cases b <;> rfl) he hj hd hp h hb
/- blocks -/
theorem run_boxC {a:Act}{w:World}{o:Oper}(ho:o.op = .box ty x)(hx:a.eval x=v):(execOp a.eval o).run Tryz.prog w = .ok (.value (pt w.heap.size)) (w.alloc (.cells v.cells ty)):=by
 unfold execOp
 simp only[ho,hx]
 simp[go_sem]
theorem run_allocC {a:Act}{w:World}{o:Oper}(ho:o.op = .alloc ty)(hz:(zeroValue ty).run Tryz.prog w = .ok v w):(execOp a.eval o).run Tryz.prog w = .ok (.value (pt w.heap.size)) (w.alloc (.cells v.cells ty)):=by
 unfold execOp
 simp only[ho]
 simp[Instr.alloc,hz,go_sem]
theorem St.new {a:Act}{w w2:World}{S:Obj->Prop}(h:St D nt w0 L M R a w)(hd:Nat.blt d nt=true)(hb:Below w.heap.size w w2)(hg:w.heap.size<=g)(hB:∃ ob,w2.heap[g]?=some ob/\S ob){a2:Act}(hF:FrD D a2 nt ((d,v)::L)):St D nt w0 ((d,v)::L) ((g,S)::M) R a2 w2 :=
 ⟨hF,h.m.addS hb hg hB,fun x hx=>(h.r x hx).add hb hg,h.nd⟩
theorem kNew {cs:Array Value}(hrun:∀ a w,St D nt w0 L M R a w->(execOp a.eval ⟨some d,op,tyo,ps,af,none⟩).run Tryz.prog w = .ok (.value (pt w.heap.size)) (w.alloc (.cells cs ty)))(h:∀ g,KX D nt w0 ((d,pt g)::L) ((g,isB ty cs)::M) R (wpList Tryz.prog ops Q rest))(hb:Nat.blt d nt=true):KX D nt w0 L M R (wpList Tryz.prog ops Q (⟨some d,op,tyo,ps,af,none⟩::rest)):=fun a w hs=>
 sq hs.f (wantedS rfl) (hrun a w hs) rfl (Nat.le_of_ble_eq_true hb) fun a2 hF=>h w.heap.size a2 _ (hs.new (S:=isB ty cs) hb ((Below.refl _ _).alloc (Nat.le_refl _) _) (Nat.le_refl _) ⟨_,Blk.new _ _ _,rfl⟩ hF)
theorem ba {cs:Array Value}(h:∀ g,KX D nt w0 ((d,pt g)::L) ((g,isB ty cs)::M) R (wpList Tryz.prog ops Q rest))(hx:EV (St D nt w0 L M R) x (.agg cs):=by exact ev)(hb:Nat.blt d nt=true:=by rfl):KX D nt w0 L M R (wpList Tryz.prog ops Q (⟨some d,.box ty x,tyo,ps,af,none⟩::rest)) :=
 kNew (fun a w hs=>run_boxC rfl (hx a w hs)) h hb
theorem b1 (h:∀ g,KX D nt w0 ((d,pt g)::L) ((g,isB ty #[v])::M) R (wpList Tryz.prog ops Q rest))(hx:EV (St D nt w0 L M R) x v:=by exact ev)(hc:v.cells = #[v]:=by rfl)(hb:Nat.blt d nt=true:=by rfl):KX D nt w0 L M R (wpList Tryz.prog ops Q (⟨some d,.box ty x,tyo,ps,af,none⟩::rest)) :=
 kNew (fun a w hs=>by rw[run_boxC rfl (hx a w hs),hc]) h hb
theorem aa {cs:Array Value}(hz:∀ w,(zeroValue ty).run Tryz.prog w = .ok (.agg cs) w)(h:∀ g,KX D nt w0 ((d,pt g)::L) ((g,isB ty cs)::M) R (wpList Tryz.prog ops Q rest))(hb:Nat.blt d nt=true:=by rfl):KX D nt w0 L M R (wpList Tryz.prog ops Q (⟨some d,.alloc ty,tyo,ps,af,none⟩::rest)) :=
 kNew (fun a w hs=>run_allocC rfl (hz w)) h hb
theorem a1 (hz:∀ w,(zeroValue ty).run Tryz.prog w = .ok v w)(h:∀ g,KX D nt w0 ((d,pt g)::L) ((g,isB ty #[v])::M) R (wpList Tryz.prog ops Q rest))(hc:v.cells = #[v]:=by rfl)(hb:Nat.blt d nt=true:=by rfl):KX D nt w0 L M R (wpList Tryz.prog ops Q (⟨some d,.alloc ty,tyo,ps,af,none⟩::rest)) :=
 kNew (fun a w hs=>by rw[run_allocC rfl (hz w),hc]) h hb
def spl (cs:Array Value)(o:Nat)(ys:List Value):Array Value:=(cs.toList.take o++ys++cs.toList.drop (o+ys.length)).toArray
theorem run_stG {w:World}{o:Nat}{cur:Array Value}(hB:Blk w g t cur)(hs:szT ty=some n)(hV:v.cells.size=n)(h1:v.cells.all (·.oneCell')=true)(ho:o+n<=cur.size):(storeVar ty ⟨g,o,none⟩ v).run Tryz.prog w = .ok () (w.setRow g (spl cur o v.cells.toList)):=by
 have h:=run_storeCells_at Tryz.prog g o t v.cells.toList 0 cur w hB (by simpa[hV] using ho) (fun u hu=>Array.all_eq_true_iff_forall_mem.1 h1 u (by simpa using hu))
 have hi:=info_size hs
 cases hq:Tryz.prog.info? ty with
 | none=>simp[hq] at hi
 | some i=>
  have hs2:i.size=n:=by simpa[hq] using hi
  rw[Nat.add_zero] at h
  simp[storeVar,sizeOf,typeInfo,hq,hV,hs2,h,spl]
theorem kStore {o:Nat}{cur cs:Array Value}(hx:EV (St D nt w0 L M R) x (px g o))(hy:EV (St D nt w0 L M R) y v)(e:M[i]?=some (g,isB t cur))(hs:szT ty=some n)(hV:v.cells.size=n)(h1:v.cells.all (·.oneCell')=true)(ho:o+n<=cur.size)(hcs:spl cur o v.cells.toList=cs)
  (h:KX D nt w0 L (M.set i (g,isB t cs)) R (wpList Tryz.prog ops Q rest)):KX D nt w0 L M R (wpList Tryz.prog ops Q (⟨none,.store ty x y,tyo,ps,af,none⟩::rest)):=fun a w hst=>by
 have hB:=hst.m.at i e
 have hr:=run_stG (v:=v) hB hs hV h1 ho
 rw[hcs] at hr
 refine sqN hst.f (wantedS rfl) (w2:=w.setRow g cs) ?_ rfl fun a2 hF=>h a2 _ ⟨hF,hst.m.row i e cs,fun x hx=>(hst.r x hx).upd i e (grown_setRow w g cs),hst.nd⟩
 unfold execOp
 simp only[hx a w hst,hy a w hst,Instr.storeAt,Instr.sureAddr,Sem.run_bind,Sem.run_pure,Result.andThen_ok,hr]
theorem spl_all {cur cs:Array Value}(h:cur.size=cs.size):spl cur 0 cs.toList=cs:=by
 unfold spl
 rw[List.take_zero,List.nil_append,Nat.zero_add,List.drop_eq_nil_of_le (by simp[h]),List.append_nil,Array.toArray_toList]
theorem sw (i:Nat){cur cs:Array Value}(h:KX D nt w0 L (M.set i (g,isB t cs)) R (wpList Tryz.prog ops Q rest))(e:M[i]?=some (g,isB t cur):=by rfl)(hx:EV (St D nt w0 L M R) x (pt g):=by exact ev)(hy:EV (St D nt w0 L M R) y (.agg cs):=by exact ev)(hs:szT ty=some n:=by rfl)(hV:cs.size=n:=by first | rfl | assumption | simp)(hW:cur.size=n:=by first | rfl | assumption | simp)(h1:cs.all (·.oneCell')=true:=by first | exact allA rfl | rfl | assumption | (refine allA ?_;repeat (first | exact oneN | refine oneC (by first | rfl | assumption) ?_)) | assumption | exact cells8_one _):KX D nt w0 L M R (wpList Tryz.prog ops Q (⟨none,.store ty x y,tyo,ps,af,none⟩::rest)) :=
 kStore (v:=.agg cs) hx hy e hs hV h1 (by rw[hW,Nat.zero_add];exact Nat.le_refl _) (spl_all (cs:=cs) (by rw[hV,hW])) h
theorem sc (i:Nat){o:Nat}{cur cs:Array Value}(h:KX D nt w0 L (M.set i (g,isB t cs)) R (wpList Tryz.prog ops Q rest))(e:M[i]?=some (g,isB t cur):=by rfl)(hx:EV (St D nt w0 L M R) x (px g o):=by exact ev)(hy:EV (St D nt w0 L M R) y v:=by exact ev)(hs:szT ty=some n:=by rfl)(hV:v.cells.size=n:=by rfl)(h1:v.cells.all (·.oneCell')=true:=by first | exact allA rfl | rfl | assumption | (refine allA ?_;repeat (first | exact oneN | refine oneC (by first | rfl | assumption) ?_)))(ho:o+n<=cur.size:=by first | decide | (simp;done))(hcs:spl cur o v.cells.toList=cs:=by rfl):KX D nt w0 L M R (wpList Tryz.prog ops Q (⟨none,.store ty x y,tyo,ps,af,none⟩::rest)) :=
 kStore hx hy e hs hV h1 ho hcs h
/- calls -/
theorem run_callK {a:Act}{w:World}{o:Oper}{f:FuncId}{xs:Array Operand}{ts:Array TypeId}{args:Array Value}(ho:o.op = .call { callee:=.value (.func f),args:=xs,argTypes:=ts })(hg:(match Tryz.prog.funcs[f]? with | some fn=>!(fn.name == "runtime.NumGoroutine")&&fn.body.isSome | none=>false)=true)(hx:xs.map a.eval=args):(execOp a.eval o).run Tryz.prog w = .ok (.enter f args) w:=by
 cases hf:Tryz.prog.funcs[f]? with
 | none=>rw[hf] at hg;cases hg
 | some fn=>
  rw[hf] at hg
  simp only[Bool.and_eq_true,Bool.not_eq_true'] at hg
  exact run_call ho hf hg.1 (by cases h:fn.body <;> simp_all) hx
theorem cl {f:FuncId}{xs:List Operand}{vs:List Value}{ts:Array TypeId}(hc:∀ a w,St D nt w0 L M R a w->Calls Tryz.prog f vs.toArray w fun e w'=>e = .returned v/\Below w.heap.size w w')(h:KX D nt w0 ((d,v)::L) M R (wpList Tryz.prog ops Q rest))(hx:EVs (St D nt w0 L M R) xs vs:=by exact evs)(hb:Nat.blt d nt=true:=by rfl)(hg:(match Tryz.prog.funcs[f]? with | some fn=>!(fn.name == "runtime.NumGoroutine")&&fn.body.isSome | none=>false)=true:=by kernel_rfl):KX D nt w0 L M R (wpList Tryz.prog ops Q (⟨some d,.call { callee:=.value (.func f),args:=xs.toArray,argTypes:=ts },tyo,ps,af,none⟩::rest)):=fun a w hs=>
 sqC hs.f hs.m (wantedS rfl) (run_callK rfl hg (hx.arr hs)) rfl (Nat.le_of_ble_eq_true hb) (hc a w hs) fun a2 w2 hB hF _=>h a2 w2 ⟨hF,hs.m.grow hB,fun x hx=>(hs.r x hx).grow hB,hs.nd⟩
theorem Tele.use {B:Nat}{w w2:World}(hm:Mem w0 M w)(hB:B=w.heap.size)(hb:Below w.heap.size w w2):∀ {T:Tele} {A:List Rw} {u:Value} {Y:Value->List Rw->Prop},T.sat B w2 (A.map (·.v)) u->T.all Y->(∀ x∈A,w2.ownsRow B x.e x.m x.v x.n x.xs)->A.Pairwise (fun x y=>apartB y.v x.v)->∃ l,Y u l/\(∀ x∈l,w2.ownsRow B x.e x.m x.v x.n x.xs)/\l.Pairwise (fun x y=>apartB x.v y.v) ∧ ∀ x∈A,∀ y∈l,apartB x.v y.v
 | .ret v,A,u,Y,h,ha,_,_=>by
  rw[show u=v from h]
  exact⟨[],ha,by simp,.nil,by simp⟩
 | .row e m n xs k,A,u,Y,h,ha,hA,hp=>by
  obtain⟨v,h1,h2,h3⟩:=h
  obtain⟨l,y1,y2,y3,y4⟩:=Tele.use hm hB hb (T:=k v) (A:=⟨v,e,m,n,xs⟩::A) (Y:=fun u l=>Y u (⟨v,e,m,n,xs⟩::l)) h3 (ha v) (by
   intro x hx
   rcases List.mem_cons.1 hx with rfl | hx
   ·exact h1
   ·exact hA x hx) (List.Pairwise.cons (fun x hx=>h2 x.v (List.mem_map_of_mem hx)) hp)
  refine⟨_,y1,?_,List.Pairwise.cons (fun y hy=>y4 _ (by simp) y hy) y3,?_⟩
  ·intro x hx
   rcases List.mem_cons.1 hx with rfl | hx
   ·exact h1
   ·exact y2 x hx
  ·intro x hx y hy
   rcases List.mem_cons.1 hy with rfl | hy
   ·exact h2 x.v (List.mem_map_of_mem hx)
   ·exact y4 x (by simp[hx]) y hy
 | .ex p k,A,u,Y,h,ha,hA,hp=>by
  obtain⟨s,h1,h2⟩:=h
  exact Tele.use hm hB hb (T:=k s) h2 (ha s h1) hA hp
theorem apart_new {w w2:World}{u v:Value}{e e2:TypeId}{m2 n2:Nat}{xs xs2:List Value}(h:OwnR w0 M w e m u n xs)(h2:w2.ownsRow w.heap.size e2 m2 v n2 xs2):apartB v u:=by
 intro g hg hu
 have h3:=own_lt_size h.owns hu
 have h4:=own_base h2 hg
 omega
theorem St.tele {a2:Act}{a:Act}{w w2:World}{T:Tele}{u:Value}{Y:Value->List Rw->Prop}(hs:St D nt w0 L M R a w)(hb:Below w.heap.size w w2)(hT:T.sat w.heap.size w2 [] u)(hY:T.all Y)(hF:FrD D a2 nt ((d,u)::L)):∃ l,Y u l/\St D nt w0 ((d,u)::L) M (l++R) a2 w2:=by
 obtain⟨l,y1,y2,y3,_⟩:=Tele.use hs.m rfl hb (A:=[]) hT hY (by simp) .nil
 refine⟨l,y1,hF,hs.m.grow hb,fun x hx=>?_,List.pairwise_append.2 ⟨y3,hs.nd,fun x hx y hy=>apart_new (hs.r y hy) (y2 x hx)⟩⟩
 rcases List.mem_append.1 hx with h | h
 ·exact OwnR.ofCall hs.m (y2 x h)
 ·exact(hs.r x h).grow hb
theorem ce {f:FuncId}{xs:List Operand}{vs:List Value}{ts:Array TypeId}{T:Tele}(hc:∀ a w,St D nt w0 L M R a w->Calls Tryz.prog f vs.toArray w fun e w'=>∃ u,e = .returned u/\T.sat w.heap.size w' [] u/\Below w.heap.size w w')(h:T.all fun u l=>KX D nt w0 ((d,u)::L) M (l++R) (wpList Tryz.prog ops Q rest))(hx:EVs (St D nt w0 L M R) xs vs:=by exact evs)(hb:Nat.blt d nt=true:=by rfl)(hg:(match Tryz.prog.funcs[f]? with | some fn=>!(fn.name == "runtime.NumGoroutine")&&fn.body.isSome | none=>false)=true:=by kernel_rfl):KX D nt w0 L M R (wpList Tryz.prog ops Q (⟨some d,.call { callee:=.value (.func f),args:=xs.toArray,argTypes:=ts },tyo,ps,af,none⟩::rest)):=fun a w hs=>
 sqT (T:=fun u w2=>T.sat w.heap.size w2 [] u/\Below w.heap.size w w2) hs.f (wantedS rfl) (run_callK rfl hg (hx.arr hs)) rfl (Nat.le_of_ble_eq_true hb) (hc a w hs) fun u a2 w2 hT hF=>by
  obtain⟨l,h1,h2⟩:=hs.tele hT.2 hT.1 h hF
  exact h1 a2 w2 h2
/- in and out -/
theorem enter {f:FuncId}{fn:Func}{vs:List Value}{RE:Ending->World->Prop}{w:World}(hf:Tryz.prog.funcs[f]?=some fn)(h:KX [] nt w (numbered vs 0) [] [] (cc.wp Tryz.prog (bodyPost Tryz.prog fn RE)))(hb:fn.body=some cc:=by rfl)(hn:fn.ntmps=nt:=by rfl)(hv:Nat.ble vs.length nt=true:=by rfl):Calls Tryz.prog f vs.toArray w RE :=
 walk_enter hf hb hn hv fun a hF=>h a w ⟨hF,Mem.new w,by simp,.nil⟩
theorem e1 {fn:Func}{RE:Ending->World->Prop}{s:Nat}(h:∀ a w,St [] nt w0 L M R a w->RE (.returned v) w)(hr:fn.results = #[.tmp s]:=by rfl)(hl:lz L s=some v:=by rfl):KX [] nt w0 L M R (bodyPost Tryz.prog fn RE .ret):=fun a w hs=>ret1 hs.f hr (by rw[←lz_eq];exact hl) (h a w hs)
theorem e2 {fn:Func}{RE:Ending->World->Prop}{s s2:Nat}(h:∀ a w,St [] nt w0 L M R a w->RE (.returned (.tuple #[v,v2])) w)(hr:fn.results = #[.tmp s,.tmp s2]:=by rfl)(hl:lz L s=some v:=by rfl)(hl2:lz L s2=some v2:=by rfl):KX [] nt w0 L M R (bodyPost Tryz.prog fn RE .ret):=fun a w hs=>ret2 hs.f hr (by rw[←lz_eq];exact hl) (by rw[←lz_eq];exact hl2) (h a w hs)
theorem run_ldAll {t ty:TypeId}{g m:Nat}{w:World}{cs:Array Value}(hB:Blk w g t cs)(ha:agT ty=some true)(hz:szT ty=some m)(hn:cs.size=m):(loadVar ty ⟨g,0,none⟩).run Tryz.prog w = .ok (.agg cs) w:=by
 have hl:=run_loadCells_list (P:=Tryz.prog) w ⟨g,0,none⟩ cs.toList (fun j u hj=>by rw[addr_add,Nat.zero_add,hB.cell];simpa using hj)
 rw[Array.toArray_toList,Array.length_toList,hn] at hl
 simp[loadVar,agT_ok ha,szT_ok hz,hl]
theorem run_ldOne {t ty:TypeId}{g:Nat}{w:World}(hB:Blk w g t #[v])(ha:agT ty=some false):(loadVar ty ⟨g,0,none⟩).run Tryz.prog w = .ok v w:=loadVar_one hB (agT_ok ha w)
inductive RS (D:List Deferred)(nt:Nat)(w0:World)(L:LT)(M:MT)(R:List Rw):ResultVar->Value->Prop
 | t {s:Nat} {v:Value} (h:lz L s=some v):RS D nt w0 L M R (.tmp s) v
 | a {s g m:Nat} {t ty:TypeId} {cs:Array Value} (h:lz L s=some (.pointer (some ⟨g,0,none⟩))) (hm:(g,isB t cs)∈M) (ha:agT ty=some true) (hz:szT ty=some m) (hn:cs.size=m):RS D nt w0 L M R (.cell s ty) (.agg cs)
 | o {s g:Nat} {t ty:TypeId} {v:Value} (h:lz L s=some (.pointer (some ⟨g,0,none⟩))) (hm:(g,isB t #[v])∈M) (ha:agT ty=some false):RS D nt w0 L M R (.cell s ty) v
inductive RSs (D:List Deferred)(nt:Nat)(w0:World)(L:LT)(M:MT)(R:List Rw):List ResultVar->List Value->Prop
 | nil:RSs D nt w0 L M R [] []
 | cons {r:ResultVar} {v:Value} {rs:List ResultVar} {vs:List Value}:RS D nt w0 L M R r v->RSs D nt w0 L M R rs vs->RSs D nt w0 L M R (r::rs) (v::vs)
theorem rs1 {r:ResultVar}(h:RS D nt w0 L M R r v:=by first | exact RS.t rfl | exact RS.a rfl mm rfl rfl (by first | rfl | assumption | simp) | exact RS.o rfl mm rfl):RS D nt w0 L M R r v:=h
theorem rss {rs:List ResultVar}{vs:List Value}(h:RSs D nt w0 L M R rs vs:=by first | exact RSs.cons rs1 RSs.nil | exact RSs.cons rs1 (RSs.cons rs1 RSs.nil) | exact RSs.cons rs1 (RSs.cons rs1 (RSs.cons rs1 RSs.nil)) | exact RSs.cons rs1 (RSs.cons rs1 (RSs.cons rs1 (RSs.cons rs1 RSs.nil))) | exact RSs.cons rs1 (RSs.cons rs1 (RSs.cons rs1 (RSs.cons rs1 (RSs.cons rs1 RSs.nil))))):RSs D nt w0 L M R rs vs:=h
def tupV :List Value->Value
 | [v]=>v
 | vs=>.tuple vs.toArray
def resF (tmps:Array Value):ResultVar->Sem Value
 | .tmp t=>pure (tmps.getD t undef)
 | .cell a t=>do loadVar t (←asAddr (tmps.getD a undef))
theorem results_F {fn:Func}{tmps:Array Value}:results fn tmps=(do let vs ←fn.results.mapM (resF tmps);pure (if h:vs.size=1 then vs[0] else .tuple vs)):=by
 unfold results
 congr 1
theorem res1 {a:Act}{w:World}{fn:Func}{r1:ResultVar}{u1:Value}(hr:fn.results = #[r1])(h1:(resF a.tmps r1).run Tryz.prog w = .ok u1 w):(results fn a.tmps).run Tryz.prog w = .ok u1 w:=by
 rw[results_F,hr]
 simp[h1]
theorem res2 {a:Act}{w:World}{fn:Func}{r1 r2:ResultVar}{u1 u2:Value}(hr:fn.results = #[r1,r2])(h1:(resF a.tmps r1).run Tryz.prog w = .ok u1 w)(h2:(resF a.tmps r2).run Tryz.prog w = .ok u2 w):(results fn a.tmps).run Tryz.prog w = .ok (.tuple #[u1,u2]) w:=by
 rw[results_F,hr]
 simp[h1,h2]
theorem res3 {a:Act}{w:World}{fn:Func}{r1 r2 r3:ResultVar}{u1 u2 u3:Value}(hr:fn.results = #[r1,r2,r3])(h1:(resF a.tmps r1).run Tryz.prog w = .ok u1 w)(h2:(resF a.tmps r2).run Tryz.prog w = .ok u2 w)(h3:(resF a.tmps r3).run Tryz.prog w = .ok u3 w):(results fn a.tmps).run Tryz.prog w = .ok (.tuple #[u1,u2,u3]) w:=by
 rw[results_F,hr]
 simp[h1,h2,h3]
theorem res4 {a:Act}{w:World}{fn:Func}{r1 r2 r3 r4:ResultVar}{u1 u2 u3 u4:Value}(hr:fn.results = #[r1,r2,r3,r4])(h1:(resF a.tmps r1).run Tryz.prog w = .ok u1 w)(h2:(resF a.tmps r2).run Tryz.prog w = .ok u2 w)(h3:(resF a.tmps r3).run Tryz.prog w = .ok u3 w)(h4:(resF a.tmps r4).run Tryz.prog w = .ok u4 w):(results fn a.tmps).run Tryz.prog w = .ok (.tuple #[u1,u2,u3,u4]) w:=by
 rw[results_F,hr]
 simp[h1,h2,h3,h4]
theorem res5 {a:Act}{w:World}{fn:Func}{r1 r2 r3 r4 r5:ResultVar}{u1 u2 u3 u4 u5:Value}(hr:fn.results = #[r1,r2,r3,r4,r5])(h1:(resF a.tmps r1).run Tryz.prog w = .ok u1 w)(h2:(resF a.tmps r2).run Tryz.prog w = .ok u2 w)(h3:(resF a.tmps r3).run Tryz.prog w = .ok u3 w)(h4:(resF a.tmps r4).run Tryz.prog w = .ok u4 w)(h5:(resF a.tmps r5).run Tryz.prog w = .ok u5 w):(results fn a.tmps).run Tryz.prog w = .ok (.tuple #[u1,u2,u3,u4,u5]) w:=by
 rw[results_F,hr]
 simp[h1,h2,h3,h4,h5]
theorem RS.run {a:Act}{w:World}{r:ResultVar}(h:RS D nt w0 L M R r v)(hs:St D nt w0 L M R a w):(resF a.tmps r).run Tryz.prog w = .ok v w:=by
 have e:∀ {s:Nat} {v:Value},lz L s=some v->a.tmps.getD s undef=v:=fun h=>by
  have h1:=hs.f.at _ (by rw[←lz_eq];exact h)
  rw[Array.getD_eq_getD_getElem?,h1];rfl
 cases h with
 | t h=>simp[resF,e h]
 | a h hm ha hz hn=>
  obtain⟨_,ob,h1,h2⟩:=hs.m.has _ hm
  rw[show ob=_ from h2] at h1
  have:=run_ldAll (w:=w) h1 ha hz hn
  simp[resF,e h,asAddr,this]
 | o h hm ha=>
  obtain⟨_,ob,h1,h2⟩:=hs.m.has _ hm
  rw[show ob=_ from h2] at h1
  have:=run_ldOne (w:=w) h1 ha
  simp[resF,e h,asAddr,this]
theorem RSs.run {a:Act}{w:World}{fn:Func}{rs:List ResultVar}{vs:List Value}(h:RSs D nt w0 L M R rs vs)(hr:fn.results=rs.toArray)(h1:rs ≠ [])(h5:rs.length<=5)(hs:St D nt w0 L M R a w):(results fn a.tmps).run Tryz.prog w = .ok (tupV vs) w:=by
 match rs,vs,h with
 | [],_,_=>exact absurd rfl h1
 | [_],_,.cons a1 .nil=>exact res1 hr (a1.run hs)
 | [_,_],_,.cons a1 (.cons a2 .nil)=>exact res2 hr (a1.run hs) (a2.run hs)
 | [_,_,_],_,.cons a1 (.cons a2 (.cons a3 .nil))=>exact res3 hr (a1.run hs) (a2.run hs) (a3.run hs)
 | [_,_,_,_],_,.cons a1 (.cons a2 (.cons a3 (.cons a4 .nil)))=>exact res4 hr (a1.run hs) (a2.run hs) (a3.run hs) (a4.run hs)
 | [_,_,_,_,_],_,.cons a1 (.cons a2 (.cons a3 (.cons a4 (.cons a5 .nil))))=>exact res5 hr (a1.run hs) (a2.run hs) (a3.run hs) (a4.run hs) (a5.run hs)
 | _::_::_::_::_::_::_,_,_=>simp at h5
theorem er {fn:Func}{RE:Ending->World->Prop}{rs:List ResultVar}{vs:List Value}(h:∀ a w,St [] nt w0 L M R a w->RE (.returned (tupV vs)) w)(hr:fn.results=rs.toArray:=by rfl)(hv:RSs [] nt w0 L M R rs vs:=by exact rss)(h1:rs ≠ []:=by simp)(h5:rs.length<=5:=by decide):KX [] nt w0 L M R (bodyPost Tryz.prog fn RE .ret):=fun a w hs=>
 bodyPost_ret (hv.run hr h1 h5 hs) hs.f.defers (h a w hs)
def Tele.fromI (R:List Rw):List Nat->Tele->Value->Prop
 | i::is,.row e m n xs k,u=>∃ v,R[i]?=some ⟨v,e,m,n,xs⟩/\(k v).fromI R is u
 | is,.ex p k,u=>∃ s,p s/\(k s).fromI R is u
 | [],.ret v,u=>u=v
 | _,_,_=>False
theorem Tele.ofI {a:Act}{w:World}(hs:St D nt w0 L M R a w):∀ {T:Tele} {is:List Nat} {A:List Nat} {u:Value},T.fromI R is u->(A++is).Nodup->T.sat w0.heap.size w (A.map fun i=>(R[i]?.map (·.v)).getD undef) u
 | .ret v,[],A,u,h,_=>h
 | .ret v,_::_,A,u,h,_=>h.elim
 | .row e m n xs k,[],A,u,h,_=>h.elim
 | .ex p k,is,A,u,h,hn=>by
  have h:∃ s,p s/\(k s).fromI R is u:=by cases is <;> exact h
  obtain⟨s,h1,h2⟩:=h
  exact⟨s,h1,Tele.ofI hs h2 hn⟩
 | .row e m n xs k,i::is,A,u,⟨v,h1,h2⟩,hn=>by
  refine⟨v,(hs.row i h1).owns,fun y hy=>?_,?_⟩
  ·obtain⟨j,hj,rfl⟩:=List.mem_map.1 hy
   have hne:j≠i:=fun e=>by
    subst e
    exact(List.nodup_append.1 hn).2.2 j hj j (by simp) rfl
   cases hR:R[j]? with
   | none=>intro g hg;simp[Value.ownBlock,undef] at hg
   | some y=>
    rw[Option.map_some,Option.getD_some]
    have hp:=List.pairwise_iff_getElem.1 hs.nd
    obtain⟨q1,q2⟩:=List.getElem?_eq_some_iff.1 hR
    obtain⟨q3,q4⟩:=List.getElem?_eq_some_iff.1 h1
    rcases Nat.lt_or_gt_of_ne hne with hlt | hlt
    ·have:=hp j i q1 q3 hlt
     rw[q2,q4] at this
     exact this
    ·have:=hp i j q3 q1 hlt
     rw[q2,q4] at this
     exact fun g hg hq=>this g hq hg
  ·have:=Tele.ofI hs (A:=i::A) h2 (by
    have:(i::A++is).Perm (A++i::is):=List.perm_middle.symm
    exact this.nodup_iff.2 hn)
   simpa[h1] using this
theorem fIr {R:List Rw}{i:Nat}{is:List Nat}{e:TypeId}{m n:Nat}{xs:List Value}{k:Value->Tele}{u v:Value}(h:R[i]?=some ⟨v,e,m,n,xs⟩)(h2:(k v).fromI R is u):(Tele.row e m n xs k).fromI R (i::is) u:=⟨v,h,h2⟩
theorem fI0 {R:List Rw}{u:Value}:(Tele.ret u).fromI R [] u:=rfl
theorem fI {R:List Rw}{is:List Nat}{T:Tele}{u:Value}(h:T.fromI R is u:=by repeat (first | exact fI0 | refine fIr rfl ?_)):T.fromI R is u:=h
theorem et (is:List Nat){fn:Func}{rs:List ResultVar}{vs:List Value}{T:Tele}(hr:fn.results=rs.toArray:=by rfl)(hv:RSs [] nt w0 L M R rs vs:=by exact rss)(hT:T.fromI R is (tupV vs):=by exact fI)(hn:is.Nodup:=by decide)(h1:rs ≠ []:=by simp)(h5:rs.length<=5:=by decide):KX [] nt w0 L M R (bodyPost Tryz.prog fn (fun e w'=>∃ u,e = .returned u/\T.sat w0.heap.size w' [] u/\Below w0.heap.size w0 w') .ret) :=
 er (fun _ _ hs=>⟨_,rfl,by simpa using Tele.ofI hs (A:=[]) hT (by simpa using hn),hs.m.below⟩) hr hv h1 h5
theorem q1 {fn:Func}{s:Nat}(hv:v=v2:=by rfl)(hr:fn.results = #[.tmp s]:=by rfl)(hl:lz L s=some v:=by rfl):KX [] nt w0 L M R (bodyPost Tryz.prog fn (fun e w'=>e = .returned v2/\Below w0.heap.size w0 w') .ret):=e1 (fun _ _ hs=>⟨by rw[hv],hs.m.below⟩) hr hl
theorem q1' {fn:Func}{s:Nat}(hr:fn.results = #[.tmp s])(hl:lz L s=some v)(hv:v=v2):KX [] nt w0 L M R (bodyPost Tryz.prog fn (fun e w'=>e = .returned v2/\Below w0.heap.size w0 w') .ret):=q1 hv hr hl
theorem q2 {fn:Func}{s s2:Nat}{u:Value}(hv:.tuple #[v,v2]=u:=by rfl)(hr:fn.results = #[.tmp s,.tmp s2]:=by rfl)(hl:lz L s=some v:=by rfl)(hl2:lz L s2=some v2:=by rfl):KX [] nt w0 L M R (bodyPost Tryz.prog fn (fun e w'=>e = .returned u/\Below w0.heap.size w0 w') .ret):=e2 (fun _ _ hs=>⟨by rw[hv],hs.m.below⟩) hr hl hl2
end
section
variable {D:List Deferred}{nt:Nat}{w0:World}{M:MT}{R:List Rw}{Q:Exit->Act->World->Prop}{cc:Code}
theorem lo {A:Type}(I:A->Prop)(mu:A->Nat)(L:A->LT)(MM:A->MT)(RR:A->List Rw)(x0:A)(h0:I x0){L0:LT}{M0:MT}{R0:List Rw}(hs:∀ a w,St D nt w0 L0 M0 R0 a w->St D nt w0 (L x0) (MM x0) (RR x0) a w)
  (h:∀ x,I x->KX D nt w0 (L x) (MM x) (RR x) (cc.wp Tryz.prog (Exit.then (fun a w=>∃ y,I y/\mu y<mu x/\St D nt w0 (L y) (MM y) (RR y) a w) Q))):KX D nt w0 L0 M0 R0 ((Code.loop cc).wp Tryz.prog Q):=fun a w hst=>
 wkLoop (fun m a w=>∃ x,I x/\mu x=m/\St D nt w0 (L x) (MM x) (RR x) a w) (mu x0) ⟨x0,h0,rfl,hs a w hst⟩ fun m a w ⟨x,hI,hm,hst⟩=>by
  subst hm
  have h1:=h x hI a w hst
  refine wp_mono h1 fun e a2 w2 hq=>?_
  cases e with
  | normal=>obtain⟨y,hy,hlt,hs2⟩:=hq;exact⟨mu y,hlt,y,hy,rfl,hs2⟩
  | _=>exact hq
end
section
variable {D:List Deferred}{nt:Nat}{w0:World}{L L2:LT}{M M2:MT}{R R2:List Rw}{Q:Exit->Act->World->Prop}{c1 c2:Code}{x:Operand}
theorem su (hL:subs L L2:=by repeat (first | exact trivial | refine⟨rfl,?_⟩))(hM:M2.Sublist M:=by repeat (first | exact List.Sublist.refl _ | exact List.Sublist.slnil | exact List.nil_sublist _ | refine List.Sublist.cons_cons _ ?_ | refine List.Sublist.cons _ ?_))(hR:R2.Sublist R:=by repeat (first | exact List.Sublist.refl _ | exact List.Sublist.slnil | exact List.nil_sublist _ | refine List.Sublist.cons_cons _ ?_ | refine List.Sublist.cons _ ?_))(a:Act)(w:World)(hs:St D nt w0 L M R a w):St D nt w0 L2 M2 R2 a w :=
 ⟨hs.f.sub hL,hs.m.sub hM,fun x hx=>(hs.r x (hR.subset hx)).sub hM,hs.nd.sublist hR⟩
theorem bk {A:Type}{I:A->Prop}{mu:A->Nat}{LL:A->LT}{MM:A->MT}{RR:A->List Rw}{m:Nat}(y:A)(hI:I y)(hm:mu y<m)(hs:∀ a w,St D nt w0 L M R a w->St D nt w0 (LL y) (MM y) (RR y) a w):KX D nt w0 L M R (fun a w=>∃ y,I y/\mu y<m/\St D nt w0 (LL y) (MM y) (RR y) a w):=fun a w h=>⟨y,hI,hm,hs a w h⟩
theorem sd {p:Prop}[Decidable p](h1:p->KX D nt w0 L M R (c1.wp Tryz.prog Q))(h2:¬ p->KX D nt w0 L M R (c2.wp Tryz.prog Q))(hc:EV (St D nt w0 L M R) x (.bool (decide p)):=by exact ev):KX D nt w0 L M R ((Code.cond x c1 c2).wp Tryz.prog Q) :=
 cs (fun h=>h1 (of_decide_eq_true h)) (fun h=>h2 (of_decide_eq_false h)) hc
theorem sn' {b:Bool}(h1:b=false->KX D nt w0 L M R (c1.wp Tryz.prog Q))(h2:b=true->KX D nt w0 L M R (c2.wp Tryz.prog Q))(hc:EV (St D nt w0 L M R) x (.bool (!b)):=by exact ev):KX D nt w0 L M R ((Code.cond x c1 c2).wp Tryz.prog Q) :=
 cs (fun h=>h1 (by simpa using h)) (fun h=>h2 (by simpa using h)) hc
end
section
variable {D:List Deferred}{nt:Nat}{w0:World}{L:LT}{M:MT}{R:List Rw}{ops:Array Oper}{rest:List Oper}{Q:Exit->Act->World->Prop}{id:Nat}{cc:Code}
theorem r1 {o1:Op}{y1:TypeId}{s1:String}{f1:Array Edge}{d:Nat}{v:Value}(h1:PR Tryz.prog (St D nt w0 (L) M R) o1 v:=by exact pr)(k:KX D nt w0 ((d,v)::L) M R (cc.wp Tryz.prog Q))(b1:Nat.blt d nt=true:=by rfl):KX D nt w0 L M R ((Code.seq (Code.region id #[⟨some d,o1,y1,s1,f1,none⟩] false) cc).wp Tryz.prog Q):=rg (pp h1 (en k) b1)
theorem p2 {o1 o2:Op}{y1 y2:TypeId}{s1 s2:String}{f1 f2:Array Edge}{d d2:Nat}{v v2:Value}(h1:PR Tryz.prog (St D nt w0 (L) M R) o1 v:=by exact pr)(h2:PR Tryz.prog (St D nt w0 ((d,v)::L) M R) o2 v2:=by exact pr)(k:KX D nt w0 ((d2,v2)::(d,v)::L) M R (wpList Tryz.prog ops Q rest))(b1:Nat.blt d nt=true:=by rfl)(b2:Nat.blt d2 nt=true:=by rfl):KX D nt w0 L M R (wpList Tryz.prog ops Q (⟨some d,o1,y1,s1,f1,none⟩::⟨some d2,o2,y2,s2,f2,none⟩::rest)):=pp h1 (pp h2 k b2) b1
theorem r2 {o1 o2:Op}{y1 y2:TypeId}{s1 s2:String}{f1 f2:Array Edge}{d d2:Nat}{v v2:Value}(h1:PR Tryz.prog (St D nt w0 (L) M R) o1 v:=by exact pr)(h2:PR Tryz.prog (St D nt w0 ((d,v)::L) M R) o2 v2:=by exact pr)(k:KX D nt w0 ((d2,v2)::(d,v)::L) M R (cc.wp Tryz.prog Q))(b1:Nat.blt d nt=true:=by rfl)(b2:Nat.blt d2 nt=true:=by rfl):KX D nt w0 L M R ((Code.seq (Code.region id #[⟨some d,o1,y1,s1,f1,none⟩,⟨some d2,o2,y2,s2,f2,none⟩] false) cc).wp Tryz.prog Q):=rg (pp h1 (pp h2 (en k) b2) b1)
theorem p3 {o1 o2 o3:Op}{y1 y2 y3:TypeId}{s1 s2 s3:String}{f1 f2 f3:Array Edge}{d d2 d3:Nat}{v v2 v3:Value}(h1:PR Tryz.prog (St D nt w0 (L) M R) o1 v:=by exact pr)(h2:PR Tryz.prog (St D nt w0 ((d,v)::L) M R) o2 v2:=by exact pr)(h3:PR Tryz.prog (St D nt w0 ((d2,v2)::(d,v)::L) M R) o3 v3:=by exact pr)(k:KX D nt w0 ((d3,v3)::(d2,v2)::(d,v)::L) M R (wpList Tryz.prog ops Q rest))(b1:Nat.blt d nt=true:=by rfl)(b2:Nat.blt d2 nt=true:=by rfl)(b3:Nat.blt d3 nt=true:=by rfl):KX D nt w0 L M R (wpList Tryz.prog ops Q (⟨some d,o1,y1,s1,f1,none⟩::⟨some d2,o2,y2,s2,f2,none⟩::⟨some d3,o3,y3,s3,f3,none⟩::rest)):=pp h1 (pp h2 (pp h3 k b3) b2) b1
theorem r3 {o1 o2 o3:Op}{y1 y2 y3:TypeId}{s1 s2 s3:String}{f1 f2 f3:Array Edge}{d d2 d3:Nat}{v v2 v3:Value}(h1:PR Tryz.prog (St D nt w0 (L) M R) o1 v:=by exact pr)(h2:PR Tryz.prog (St D nt w0 ((d,v)::L) M R) o2 v2:=by exact pr)(h3:PR Tryz.prog (St D nt w0 ((d2,v2)::(d,v)::L) M R) o3 v3:=by exact pr)(k:KX D nt w0 ((d3,v3)::(d2,v2)::(d,v)::L) M R (cc.wp Tryz.prog Q))(b1:Nat.blt d nt=true:=by rfl)(b2:Nat.blt d2 nt=true:=by rfl)(b3:Nat.blt d3 nt=true:=by rfl):KX D nt w0 L M R ((Code.seq (Code.region id #[⟨some d,o1,y1,s1,f1,none⟩,⟨some d2,o2,y2,s2,f2,none⟩,⟨some d3,o3,y3,s3,f3,none⟩] false) cc).wp Tryz.prog Q):=rg (pp h1 (pp h2 (pp h3 (en k) b3) b2) b1)
theorem p4 {o1 o2 o3 o4:Op}{y1 y2 y3 y4:TypeId}{s1 s2 s3 s4:String}{f1 f2 f3 f4:Array Edge}{d d2 d3 d4:Nat}{v v2 v3 v4:Value}(h1:PR Tryz.prog (St D nt w0 (L) M R) o1 v:=by exact pr)(h2:PR Tryz.prog (St D nt w0 ((d,v)::L) M R) o2 v2:=by exact pr)(h3:PR Tryz.prog (St D nt w0 ((d2,v2)::(d,v)::L) M R) o3 v3:=by exact pr)(h4:PR Tryz.prog (St D nt w0 ((d3,v3)::(d2,v2)::(d,v)::L) M R) o4 v4:=by exact pr)(k:KX D nt w0 ((d4,v4)::(d3,v3)::(d2,v2)::(d,v)::L) M R (wpList Tryz.prog ops Q rest))(b1:Nat.blt d nt=true:=by rfl)(b2:Nat.blt d2 nt=true:=by rfl)(b3:Nat.blt d3 nt=true:=by rfl)(b4:Nat.blt d4 nt=true:=by rfl):KX D nt w0 L M R (wpList Tryz.prog ops Q (⟨some d,o1,y1,s1,f1,none⟩::⟨some d2,o2,y2,s2,f2,none⟩::⟨some d3,o3,y3,s3,f3,none⟩::⟨some d4,o4,y4,s4,f4,none⟩::rest)):=pp h1 (pp h2 (pp h3 (pp h4 k b4) b3) b2) b1
theorem r4 {o1 o2 o3 o4:Op}{y1 y2 y3 y4:TypeId}{s1 s2 s3 s4:String}{f1 f2 f3 f4:Array Edge}{d d2 d3 d4:Nat}{v v2 v3 v4:Value}(h1:PR Tryz.prog (St D nt w0 (L) M R) o1 v:=by exact pr)(h2:PR Tryz.prog (St D nt w0 ((d,v)::L) M R) o2 v2:=by exact pr)(h3:PR Tryz.prog (St D nt w0 ((d2,v2)::(d,v)::L) M R) o3 v3:=by exact pr)(h4:PR Tryz.prog (St D nt w0 ((d3,v3)::(d2,v2)::(d,v)::L) M R) o4 v4:=by exact pr)(k:KX D nt w0 ((d4,v4)::(d3,v3)::(d2,v2)::(d,v)::L) M R (cc.wp Tryz.prog Q))(b1:Nat.blt d nt=true:=by rfl)(b2:Nat.blt d2 nt=true:=by rfl)(b3:Nat.blt d3 nt=true:=by rfl)(b4:Nat.blt d4 nt=true:=by rfl):KX D nt w0 L M R ((Code.seq (Code.region id #[⟨some d,o1,y1,s1,f1,none⟩,⟨some d2,o2,y2,s2,f2,none⟩,⟨some d3,o3,y3,s3,f3,none⟩,⟨some d4,o4,y4,s4,f4,none⟩] false) cc).wp Tryz.prog Q):=rg (pp h1 (pp h2 (pp h3 (pp h4 (en k) b4) b3) b2) b1)
theorem p5 {o1 o2 o3 o4 o5:Op}{y1 y2 y3 y4 y5:TypeId}{s1 s2 s3 s4 s5:String}{f1 f2 f3 f4 f5:Array Edge}{d d2 d3 d4 d5:Nat}{v v2 v3 v4 v5:Value}(h1:PR Tryz.prog (St D nt w0 (L) M R) o1 v:=by exact pr)(h2:PR Tryz.prog (St D nt w0 ((d,v)::L) M R) o2 v2:=by exact pr)(h3:PR Tryz.prog (St D nt w0 ((d2,v2)::(d,v)::L) M R) o3 v3:=by exact pr)(h4:PR Tryz.prog (St D nt w0 ((d3,v3)::(d2,v2)::(d,v)::L) M R) o4 v4:=by exact pr)(h5:PR Tryz.prog (St D nt w0 ((d4,v4)::(d3,v3)::(d2,v2)::(d,v)::L) M R) o5 v5:=by exact pr)(k:KX D nt w0 ((d5,v5)::(d4,v4)::(d3,v3)::(d2,v2)::(d,v)::L) M R (wpList Tryz.prog ops Q rest))(b1:Nat.blt d nt=true:=by rfl)(b2:Nat.blt d2 nt=true:=by rfl)(b3:Nat.blt d3 nt=true:=by rfl)(b4:Nat.blt d4 nt=true:=by rfl)(b5:Nat.blt d5 nt=true:=by rfl):KX D nt w0 L M R (wpList Tryz.prog ops Q (⟨some d,o1,y1,s1,f1,none⟩::⟨some d2,o2,y2,s2,f2,none⟩::⟨some d3,o3,y3,s3,f3,none⟩::⟨some d4,o4,y4,s4,f4,none⟩::⟨some d5,o5,y5,s5,f5,none⟩::rest)):=pp h1 (pp h2 (pp h3 (pp h4 (pp h5 k b5) b4) b3) b2) b1
theorem r5 {o1 o2 o3 o4 o5:Op}{y1 y2 y3 y4 y5:TypeId}{s1 s2 s3 s4 s5:String}{f1 f2 f3 f4 f5:Array Edge}{d d2 d3 d4 d5:Nat}{v v2 v3 v4 v5:Value}(h1:PR Tryz.prog (St D nt w0 (L) M R) o1 v:=by exact pr)(h2:PR Tryz.prog (St D nt w0 ((d,v)::L) M R) o2 v2:=by exact pr)(h3:PR Tryz.prog (St D nt w0 ((d2,v2)::(d,v)::L) M R) o3 v3:=by exact pr)(h4:PR Tryz.prog (St D nt w0 ((d3,v3)::(d2,v2)::(d,v)::L) M R) o4 v4:=by exact pr)(h5:PR Tryz.prog (St D nt w0 ((d4,v4)::(d3,v3)::(d2,v2)::(d,v)::L) M R) o5 v5:=by exact pr)(k:KX D nt w0 ((d5,v5)::(d4,v4)::(d3,v3)::(d2,v2)::(d,v)::L) M R (cc.wp Tryz.prog Q))(b1:Nat.blt d nt=true:=by rfl)(b2:Nat.blt d2 nt=true:=by rfl)(b3:Nat.blt d3 nt=true:=by rfl)(b4:Nat.blt d4 nt=true:=by rfl)(b5:Nat.blt d5 nt=true:=by rfl):KX D nt w0 L M R ((Code.seq (Code.region id #[⟨some d,o1,y1,s1,f1,none⟩,⟨some d2,o2,y2,s2,f2,none⟩,⟨some d3,o3,y3,s3,f3,none⟩,⟨some d4,o4,y4,s4,f4,none⟩,⟨some d5,o5,y5,s5,f5,none⟩] false) cc).wp Tryz.prog Q):=rg (pp h1 (pp h2 (pp h3 (pp h4 (pp h5 (en k) b5) b4) b3) b2) b1)
end
end
section

section
variable {D:List Deferred}{nt:Nat}{w0:World}{L:LT}{M:MT}{R:List Rw}{l:List Oper}{KL:List Kp}{AL:List NewZ}{BL:List OldQ}{js:List Nat}{Bs i j s d:Nat}{G:Kn}{x y:Operand}{v v2:Value}{m n:Nat}{cs:List Value}{k:Kp}{op:Op}{ty:TypeId}{ps:String}{af:Array Edge}
theorem oP (hp:PR Tryz.prog G op v:=by exact pr):OPd Tryz.prog G ⟨some d,op,ty,ps,af,none⟩ l (.val v) Bs:=fun a W h=>.inl ⟨wanted_yes rfl,givz_run (hp a W _ rfl h) rfl⟩
theorem oG {want c:Bool}{oj:Oper}(hj:l[j]?=some oj)(hs:oj.dst=some s)(he:EV G (.tmp s) v2)(hc:isW want v2=c)(hp:PR Tryz.prog (GC c G) op v):OPd Tryz.prog G ⟨some d,op,ty,ps,af,some (j,want)⟩ l (.val (cond c v undef)) Bs:=fun a W h=>by
 have h1:Region.wanted (⟨some d,op,ty,ps,af,some (j,want)⟩:Oper) (yielded l.toArray a.tmps)=c:=by
  have h2:(a.tmps[s]?).getD undef=v2:=by
   have:=he a W h
   simpa[Act.eval] using this
  rw[←hc]
  simp only[Region.wanted,yielded,List.getElem?_toArray,hj,hs,Option.bind_some]
  cases h3:a.tmps[s]? with
  | none=>rw[h3] at h2;rw[←h2];rfl
  | some u=>
   rw[h3] at h2
   rw[←show u=v2 from h2]
   cases u <;> first | rfl | (rename_i b;cases b <;> cases want <;> rfl)
 cases c with
 | true=>exact .inl ⟨h1,givz_run (hp a W _ rfl ⟨h,rfl⟩) rfl⟩
 | false=>exact .inr ⟨h1,rfl⟩
theorem oT {oj:Oper}{b:Bool}(hj:l[j]?=some oj:=by rfl)(hs:oj.dst=some s:=by rfl)(he:EV G (.tmp s) (.bool b):=by exact ev)(hp:PR Tryz.prog (GC b G) op v:=by exact pr):OPd Tryz.prog G ⟨some d,op,ty,ps,af,some (j,true)⟩ l (.val (cond b v undef)) Bs:=oG hj hs he (by cases b <;> rfl) hp
theorem oF {oj:Oper}{b:Bool}(hj:l[j]?=some oj:=by rfl)(hs:oj.dst=some s:=by rfl)(he:EV G (.tmp s) (.bool b):=by exact ev)(hp:PR Tryz.prog (GC (!b) G) op v:=by exact pr):OPd Tryz.prog G ⟨some d,op,ty,ps,af,some (j,false)⟩ l (.val (cond (!b) v undef)) Bs:=oG hj hs he (by cases b <;> rfl) hp
theorem oC {f:FuncId}{xs:List Operand}{vs:List Value}{ts:Array TypeId}(hc:∀ a w,G a w->Calls Tryz.prog f vs.toArray w fun e w'=>e = .returned v/\Below w.heap.size w w')(hx:EVs G xs vs:=by exact evs)(hg:(match Tryz.prog.funcs[f]? with | some fn=>!(fn.name == "runtime.NumGoroutine")&&fn.body.isSome | none=>false)=true:=by kernel_rfl):OPd Tryz.prog G ⟨some d,.call { callee:=.value (.func f),args:=xs.toArray,argTypes:=ts },ty,ps,af,none⟩ l (.val v) Bs:=fun a W h=>
 .inl ⟨wanted_yes rfl,givz_callV (P:=Tryz.prog) (f:=f) (args:=vs.toArray) (run_callK (o:=⟨some d,.call { callee:=.value (.func f),args:=xs.toArray,argTypes:=ts },ty,ps,af,none⟩) rfl hg (hx.arr h)) (hc a W h)⟩
theorem inEr {es:List TypeId}{e:TypeId}{m n:Nat}{xs:List Value}{k:Value->Tele}(h:es.contains e=true)(h2:∀ v,(k v).inE es):(Tele.row e m n xs k).inE es:=⟨h,h2⟩
theorem inE {es:List TypeId}{T:Tele}(h:T.inE es:=by repeat (first | exact trivial | refine inEr rfl fun _=>?_ | intro _)):T.inE es:=h
theorem oE {es:List TypeId}{f:FuncId}{xs:List Operand}{vs:List Value}{ts:Array TypeId}{T:Tele}(hB:∀ a W,G a W->Bs<=W.heap.size)(hc:∀ a w,G a w->Calls Tryz.prog f vs.toArray w fun e w'=>∃ u,e = .returned u/\T.sat w.heap.size w' [] u/\Below w.heap.size w w')(hx:EVs G xs vs:=by exact evs)(hE:T.inE es:=by exact inE)(hg:(match Tryz.prog.funcs[f]? with | some fn=>!(fn.name == "runtime.NumGoroutine")&&fn.body.isSome | none=>false)=true:=by kernel_rfl):OPd Tryz.prog G ⟨some d,.call { callee:=.value (.func f),args:=xs.toArray,argTypes:=ts },ty,ps,af,none⟩ l (.tel es T) Bs:=fun a W h=>
 .inl ⟨wanted_yes rfl,givz_call (P:=Tryz.prog) (f:=f) (args:=vs.toArray) (k:=.tel es T) (run_callK (o:=⟨some d,.call { callee:=.value (.func f),args:=xs.toArray,argTypes:=ts },ty,ps,af,none⟩) rfl hg (hx.arr h)) (hB a W h) ((hc a W h).mono fun e w' ⟨u,h1,h2,h3⟩=>⟨u,h1,⟨hE,h2⟩,h3⟩)⟩
theorem oR {e:TypeId}{run:Bool}(hB:∀ a W,G a W->Bs<=W.heap.size)(hr:∀ a W,G a W->(execOp a.eval ⟨some d,op,ty,ps,af,none⟩).run Tryz.prog W = .ok (.value (.slice (some ⟨W.heap.size,0,none⟩) n n)) (W.alloc (.cells cs.toArray e)))(hs:cs.length=n*m:=by rfl)(hn:n<=maxLen:=by decide):OPd Tryz.prog G ⟨some d,op,ty,ps,af,none⟩ l (.tel [e] (.row e m n cs fun v=>.ret v)) Bs:=fun a W h=>.inl ⟨wanted_yes rfl,by
 have h1:GivesT Tryz.prog (Below W.heap.size W) (fun v W'=>(Kp.row e m n cs.toArray.toList).sat Bs v W') ((execOp a.eval ⟨some d,op,ty,ps,af,none⟩).run Tryz.prog W):=givz_newRow e cs.toArray m n (hB a W h) (by simpa using hs) hn (hr a W h)
 rw[hr a W h] at h1 ⊢
 exact⟨h1.1,⟨⟨by simp,fun _=>trivial⟩,_,h1.2,by simp,rfl⟩⟩⟩
def OPx (G:Kn)(o:Oper)(l:List Oper)(k:Kp)(Bs s:Nat)(T:Tele):Prop:=T.all fun u r=>OPd Tryz.prog (QY G s u Bs r) o l k Bs
theorem Tele.useK {B:Nat}{w2:World}{C:Prop}:∀ {T:Tele} {A:List Value} {u:Value} {Y:Value->List Rw->Prop},T.sat B w2 A u->T.all Y->(∀ r,Y u r->(∀ x∈r,w2.ownsRow B x.e x.m x.v x.n x.xs)->C)->C
 | .ret v,A,u,Y,h,ha,hC=>by
  rw[show u=v from h] at hC
  exact hC [] ha (by simp)
 | .row e m n xs k,A,u,Y,h,ha,hC=>by
  obtain⟨v,h1,_,h3⟩:=h
  refine Tele.useK (T:=k v) (Y:=fun u l=>Y u (⟨v,e,m,n,xs⟩::l)) h3 (ha v) fun r hr hx=>hC _ hr fun x hx2=>?_
  rcases List.mem_cons.1 hx2 with rfl | hx2
  ·exact h1
  ·exact hx x hx2
 | .ex p k,A,u,Y,h,ha,hC=>by
  obtain⟨s,h1,h2⟩:=h
  exact Tele.useK (T:=k s) h2 (ha s h1) hC
theorem oO (s:Nat){o:Oper}{es:List TypeId}{T:Tele}(hQ:∀ a W,G a W->QZ D nt w0 L M R l KL AL BL js Bs i a W)(h:OPx G o l k Bs s T)(hj:dIdx l s 0=some j:=by rfl)(hK:KL.getD j .any = .tel es T:=by rfl)(hb:depB l i j s=true:=by kernel_rfl)(hA:(AL.all fun d=>!(Nat.beq d.iA j))=true:=by kernel_rfl):OPd Tryz.prog G o l k Bs:=fun a W hg=>by
 obtain⟨u,h1,h2⟩:=(hQ a W hg).dep j s hb hA
 rw[hK] at h2
 exact Tele.useK h2.2 h fun r hr hx=>hr a W ⟨hg,h1,hx⟩
theorem oM {s:Nat}(mv:Operand->Op)(ho:mv = .move\/mv = .assign)(hj:dIdx l s 0=some j:=by rfl)(hK:KL.getD j .any=k:=by rfl)(hb:depB l i j s=true:=by kernel_rfl)(hA:(AL.all fun d=>!(Nat.beq d.iA j))=true:=by kernel_rfl):OPd Tryz.prog (QZ D nt w0 L M R l KL AL BL js Bs i) ⟨some d,mv (.tmp s),ty,ps,af,none⟩ l k Bs:=fun a W hg=>by
 obtain⟨u,h1,h2⟩:=hg.dep j s hb hA
 rw[hK] at h2
 refine .inl ⟨wanted_yes rfl,givz_run (c:=u) ?_ h2⟩
 rcases ho with rfl | rfl
 ·exact run_mv rfl (eval_tmp h1)
 ·exact run_as rfl (eval_tmp h1)
inductive AK (D:List Deferred)(nt:Nat)(w0:World)(L:LT)(M:MT)(R:List Rw)(l:List Oper)(KL:List Kp)(AL:List NewZ)(BL:List OldQ)(js:List Nat)(Bs i:Nat)(o:Oper):Prop
 | v (s:Nat) (hs:o.dst=some s) (hA:(AL.all fun d=>!(Nat.beq d.iA i) && !(Nat.beq d.iS i))=true) (hB:(BL.all fun b=>!(Nat.beq b.iS i))=true) (h:OPd Tryz.prog (QZ D nt w0 L M R l KL AL BL js Bs i) o l (KL.getD i .any) Bs)
 | n (x:Nat) (d:NewZ) (hx:AL[x]?=some d) (hi:d.iA=i) (hs:o.dst=some d.slot) (hS:(AL.all fun d=>!(Nat.beq d.iS i))=true) (hB:(BL.all fun b=>!(Nat.beq b.iS i))=true) (hu:(AL.zipIdx.all fun p=>!(Nat.beq p.1.iA i)||Nat.beq p.2 x)=true) (hg:o.guard=none) (ho:o.op = .alloc d.t) (V:Value) (hz:∀ w,(zeroValue d.t).run Tryz.prog w = .ok V w) (hc:V.cells=d.z)
 | p (x:Nat) (d:NewZ) (hx:AL[x]?=some d) (hi:d.iS=i) (hs:o.dst=none) (hA:(AL.all fun d=>!(Nat.beq d.iA i))=true) (hB:(BL.all fun b=>!(Nat.beq b.iS i))=true) (hu:(AL.zipIdx.all fun p=>!(Nat.beq p.1.iS i)||Nat.beq p.2 x)=true) (hw:Region.waitsFor .any l.toArray i d.iA=true) (m:Nat) (ty:TypeId) (Y:Operand) (hop:o.op = .store ty (.tmp d.slot) Y) (hg:o.guard=none) (hY:∀ a W,QZ D nt w0 L M R l KL AL [] js Bs i a W->d.k.sat Bs (a.eval Y) W/\(a.eval Y).cells.size=m/\(a.eval Y).cells.all (·.oneCell')=true) (hsz:szT ty=some m) (hz:d.z.size=m)
 | s (x:Nat) (b:OldQ) (hx:BL[x]?=some b) (hi:b.iS=i) (hs:o.dst=none) (hA:(AL.all fun d=>!(Nat.beq d.iA i) && !(Nat.beq d.iS i))=true) (hu:(BL.zipIdx.all fun p=>!(Nat.beq p.1.iS i)||Nat.beq p.2 x)=true) (m:Nat) (ty:TypeId) (X Y:Operand) (hop:o.op = .store ty X Y) (hg:o.guard=none) (hX:EV (QZ D nt w0 L M R l KL AL [] js Bs i) X (.pointer (some ⟨b.g,b.o,none⟩))) (hY:∀ a W,QZ D nt w0 L M R l KL AL [] js Bs i a W->b.k.sat Bs (a.eval Y) W/\(a.eval Y).cells.size=m/\(a.eval Y).cells.all (·.oneCell')=true) (hsz:szT ty=some m) (hz:b.o+m<=b.old.size)
def AKs (D:List Deferred)(nt:Nat)(w0:World)(L:LT)(M:MT)(R:List Rw)(l:List Oper)(KL:List Kp)(AL:List NewZ)(BL:List OldQ)(js:List Nat)(Bs:Nat):Nat->List Oper->Prop
 | _,[]=>True
 | i,o::r=>AK D nt w0 L M R l KL AL BL js Bs i o/\AKs D nt w0 L M R l KL AL BL js Bs (i+1) r
def BOk (M:MT):List OldQ->List Nat->Prop
 | [],[]=>True
 | b::bs,j::js=>M[j]?=some (b.g,isB b.t b.old)/\BOk M bs js
 | _,_=>False
def AftK (lv:List Nat):List Oper->List Kp->(LT->List Rw->Prop)->Prop
 | o::os,k::ks,X=>match o.dst with
  | some s=>bif lv.contains s then(match k with
    | .val c=>AftK lv os ks fun L R=>X ((s,c)::L) R
    | .tel _ T=>T.all fun u r=>AftK lv os ks fun L R=>X ((s,u)::L) (r++R)
    | _=>AftK lv os ks X) else AftK lv os ks X
  | none=>AftK lv os ks X
 | _,_,X=>X [] []
def AftA :List NewZ->(LT->MT->List Rw->Prop)->Prop
 | [],X=>X [] [] []
 | d::ds,X=>∀ g,match d.k with
  | .val c=>AftA ds fun L M R=>X ((d.slot,.pointer (some ⟨g,0,none⟩))::L) ((g,isB d.t c.cells)::M) R
  | .tel _ T=>T.all fun u r=>AftA ds fun L M R=>X ((d.slot,.pointer (some ⟨g,0,none⟩))::L) ((g,isB d.t u.cells)::M) (r++R)
  | _=>True
def AftB :List OldQ->List Nat->MT->(MT->List Rw->Prop)->Prop
 | b::bs,j::js,M,X=>match b.k with
  | .val c=>AftB bs js (M.set j (b.g,isB b.t (splQ b.old b.o c.cells.toList))) X
  | .tel _ T=>T.all fun u r=>AftB bs js (M.set j (b.g,isB b.t (splQ b.old b.o u.cells.toList))) fun M R=>X M (r++R)
  | _=>True
 | _,_,M,X=>X M []
end
end
end Go.Proofs.YtdjholkjkbihmaaGreatDoor
