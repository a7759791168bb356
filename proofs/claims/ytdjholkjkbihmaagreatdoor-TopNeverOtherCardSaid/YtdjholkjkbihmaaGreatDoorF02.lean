/- Laws and walks of TopNeverOther. -/
import Derived.Lib.ConvBytes
import Derived.Laws.BitsAllLaws
import Derived.Lib.AppendStr
import Derived.Deep.OwnRows
import Derived.RangeFuncLeaves
import Derived.RangeFuncOwn
import Derived.RangeFuncCalls
import Derived.OrdersIn
import Derived.Test.YtdjholkjkbihmaaGreatDoorF01
namespace Go.Proofs.YtdjholkjkbihmaaGreatDoor
open Go.RowKit
set_option maxRecDepth 100000
set_option maxHeartbeats 4000000
section
variable {D:List Deferred}
def isY (l:List UInt8):Obj->Prop:=fun ob=>∃ cur lo hi,ob = .cells cur 5 (lo,hi)/\l.length<=cur.size/\(∀ i,i<l.length->cur[i]?=some (.int .u8 ((bt l i).toNat:Int))) ∧ ∀ i,i<l.length->¬ (lo<=i/\i<hi)
section
variable {P:Program}{a:Act}{o:Oper}{w w0:World}{n s:Nat}{L:List (Nat×Value)}{v:Value}{ops:Array Oper}{rest:List Oper}{Q:Exit->Act->World->Prop}{M:List (Nat×(Obj->Prop))}{l:List UInt8}{g i:Nat}{x y z:Operand}{k k2:IntKind}{p q:Int}
theorem isY_cell (h:∃ ob,w.heap[g]?=some ob/\isY l ob)(hi:i<l.length):w.cell? ⟨g,i,none⟩=some (.int .u8 ((bt l i).toNat:Int)):=by
 obtain⟨ob,h1,cur,lo,hi2,rfl,h3,h4,h5⟩:=h
 simp only[World.cell?,h1]
 simpa using h4 i hi
theorem isY_free (h:∃ ob,w.heap[g]?=some ob/\isY l ob)(hi:i<l.length):w.frozen? ⟨g,i,none⟩=false:=by
 obtain⟨ob,h1,cur,lo,hi2,rfl,h3,h4,h5⟩:=h
 have:=h5 i hi
 simp only[World.frozen?,h1]
 simp only[Bool.and_eq_false_iff,decide_eq_false_iff_not]
 omega
theorem grown_setCell (w:World)(g i:Nat)(v:Value):w.grownBy (w.setCell ⟨g,i,none⟩ v) (some g):=by
 refine⟨rfl,rfl,rfl,by simp[World.setCell],fun k _ hne=>?_⟩
 have:g≠k:=fun e=>hne (by rw[e])
 simp[World.setCell,Array.getElem?_modify,this]
theorem isY_set (h:∃ ob,w.heap[g]?=some ob/\isY l ob)(hi:i<l.length)(b:UInt8):∃ ob,(w.setCell ⟨g,i,none⟩ (.int .u8 (b.toNat:Int))).heap[g]?=some ob/\isY (l.set i b) ob:=by
 obtain⟨ob,h1,cur,lo,hi2,rfl,h3,h4,h5⟩:=h
 refine⟨.cells (cur.setIfInBounds i (.int .u8 (b.toNat:Int))) 5 (lo,hi2),?_,_,lo,hi2,rfl,by simpa using h3,fun j hj=>?_,fun j hj=>h5 j (by simpa using hj)⟩
 ·simp[World.setCell,Array.getElem?_modify,h1]
 ·rw[List.length_set] at hj
  rw[Array.getElem?_setIfInBounds]
  by_cases e:i=j
  ·subst e
   rw[if_pos rfl,if_pos (by omega)]
   simp[bt,hi]
  ·rw[if_neg e,h4 j hj]
   simp[bt,e]
theorem run_cvW {t t2:TypeId}{u c:Value}{w2:World}(ho:o.op = .convert t t2 x)(hx:a.eval x=u)(hr:(convert t t2 u).run P w = .ok c w2):(execOp a.eval o).run P w = .ok (.value c) w2:=by
 unfold execOp
 simp only[ho,hx,Sem.run_bind,hr,Result.andThen_ok,Sem.run_pure]
theorem sqBytesOf {src:TypeId}(hF:FrD D a n L)(hM:Mem w0 M w)(hw:Region.wanted o (yielded ops a.tmps)=true)(ho:o.op = .convert src 75 x)(hx:a.eval x = .string ⟨l.toArray⟩)(hu:Tryz.prog.underlying src=some .string)(hd:o.dst=some s)(hs:s<n)
  (h:∀ g c a2 w2,w.heap.size<=g->Below w.heap.size w w2->l.length<=c->FrD D a2 n ((s,.slice (some ⟨g,0,none⟩) l.length c)::L)->Mem w0 ((g,isY l)::M) w2->wpList Tryz.prog ops Q rest a2 w2):wpList Tryz.prog ops Q (o::rest) a w:=by
 have hc:=Lib.run_convert_string_bytes (P:=Tryz.prog) w src 75 5 ⟨l.toArray⟩ hu Tryz.underlying75 Tryz.underlying5
 rw[str_size] at hc
 have hb:Below w.heap.size w (Lib.bytesWorld w 5 ⟨l.toArray⟩):=⟨rfl,rfl,rfl,by rw[Lib.bytesWorld_size];omega,fun b hb=>Lib.bytesWorld_at_old w _ _ b hb⟩
 have hcap:l.length<=grownCap w l.length 0 5:=grownCap_ge ..
 refine sq hF hw (run_cvW ho hx (c:=.slice (some ⟨w.heap.size,0,none⟩) l.length (grownCap w l.length 0 5)) (w2:=Lib.bytesWorld w 5 ⟨l.toArray⟩) hc) hd hs fun a2 hF2=>h w.heap.size _ a2 _ (Nat.le_refl _) hb hcap hF2 (hM.addS hb (Nat.le_refl _) ⟨_,Lib.bytesWorld_at_new w _ _,_,_,_,rfl,?_,fun j hj=>?_,fun j hj=>?_⟩)
 ·simp[Lib.bytesCells]
 ·have:=Lib.bytesWorld_cell w 5 ⟨l.toArray⟩ j (by rw[str_size];exact hj)
  simp only[World.cell?,Lib.bytesWorld_at_new] at this
  simpa[bt] using this
 ·simp[Lib.bytesCells];omega
theorem run_strY {c j:Nat}(h:∃ ob,w.heap[g]?=some ob/\isY l ob)(hj:j<=l.length):(convert 75 9 (.slice (some ⟨g,0,none⟩) j c)).run Tryz.prog w = .ok (.string ⟨(l.take j).toArray⟩) w:=by
 have hl:(l.take j).length=j:=by rw[List.length_take];omega
 refine run_strOf hl fun q hq=>?_
 rw[hl] at hq
 rw[Nat.zero_add,isY_cell h (by omega)]
 simp[bt,hq]
theorem run_strYall {c j:Nat}(h:∃ ob,w.heap[g]?=some ob/\isY l ob)(hj:j=l.length):(convert 75 9 (.slice (some ⟨g,0,none⟩) j c)).run Tryz.prog w = .ok (.string ⟨l.toArray⟩) w:=by
 have h2:=run_strY (c:=c) h (Nat.le_of_eq hj)
 rwa[hj,List.take_length,←hj] at h2
theorem run_xor8 {b c:UInt8}{t t2:TypeId}(ho:o.op = .binOp .xor t x y t2)(hx:a.eval x = .int .u8 (b.toNat:Int))(hy:a.eval y = .int .u8 (c.toNat:Int)):(execOp a.eval o).run P w = .ok (.value (.int .u8 ((b^^^c).toNat:Int))) w:=by
 refine run_bin ho hx hy (guard_int _) ?_
 have e:=u8_xor_nat b.toNat c.toNat b.toNat_lt c.toNat_lt
 rw[UInt8.toNat_xor]
 simp[binOp,go_sem,e]
end
end
section
variable {D:List Deferred}
theorem elU8 :ElT Tryz.prog 75 5 1 1:=by
 obtain⟨i,h1,h2,h3,h4⟩:=info_parts (show(Tryz.prog.info? 5).map (fun i=>(i.zero,i.size,i.bytes))=some (some (.int .u8 0),1,1) by kernel_rfl)
 exact⟨Tryz.underlying75,⟨i,_,h1,h2,h3,h4,rfl⟩,by decide⟩
theorem map_atB {l:List UInt8}{i:Nat}{x:UInt8}(h:l[i]?=some x):(l.map cb)[i*1]?=some (cb x):=by rw[Nat.mul_one,List.getElem?_map,h];rfl
section
variable {P:Program}{w:World}
theorem append_blockS {base:Nat}{t u ty e:TypeId}{i:TypeInfo}(ht:P.underlying t=some (.slice e))(hu:P.underlying u=some .string)(hi:P.info? e=some i)(hz:i.zero=some (.int .u8 0))
  (hsize:i.size=1) (hby:i.bytes=1) {v:Value} {n:Nat} {xs:List Value} (hown:w.ownsRow base e 1 v n xs) {s:ByteArray}
  (h63:n+s.size<=maxLen) (hbytes:n+s.size<=140737488355328) {v2:Value} {w2:World} (hr:(Builtin.append_ #[t,u] ty #[v,.string s]).run P w = .ok v2 w2) (hnil:v2 = .slice none 0 0 ↔ v = .slice none 0 0/\s.size=0) :
  v2.ownBlock=v.ownBlock ∨ ∃ g,v2.ownBlock=some g/\w.heap.size<=g:=by
 have hsmall:n+s.size<=9223372036854775807:=by simp only[maxLen] at h63;omega
 rcases hown.2 with⟨rfl,rfl⟩ | ⟨g,cap,cur,rfl,hbg,hg,hnc,hcm,hcs,htake⟩
 ·by_cases hm:s.size=0
  ·rw[hnil.2 ⟨rfl,hm⟩];exact .inl rfl
  ·have hr2:=run_append_nil_string (P:=P) w t u ty e i (.int .u8 0) ht hu hi hz s (by omega) (by omega) (by rw[hby];omega)
   rw[hr2] at hr
   injection hr with hv _
   subst hv
   exact .inr ⟨_,rfl,Nat.le_refl _⟩
 ·by_cases hroom:n+s.size<=cap
  ·have hr2:=Lib.run_append_room_string (P:=P) w t u ty e i ht hu hi hsize g n cap cur hg s hroom (by rw[hcs];omega)
   rw[hr2] at hr
   injection hr with hv _
   subst hv
   exact .inl rfl
  ·have holds:∀ j u,xs[j]?=some u->w.cell? ((⟨g,0,none⟩:Addr).add j)=some u:=hown.cells (g:=g) rfl
   have hr2:=Lib.run_append_grow_string (P:=P) w t u ty e i (.int .u8 0) ht hu hi hz ⟨g,0,none⟩ n cap xs (by rw[hsize];exact hown.1) holds s (by omega) (by omega) (growslice_fits (by omega) (by rw[hby];omega))
   rw[hr2] at hr
   injection hr with hv _
   subst hv
   exact .inr ⟨_,rfl,Nat.le_refl _⟩
end
section
variable {a:Act}{o:Oper}{w w0:World}{n s:Nat}{L:List (Nat×Value)}{v:Value}{ops:Array Oper}{rest:List Oper}{Q:Exit->Act->World->Prop}{M:List (Nat×(Obj->Prop))}{x y z:Operand}{g m i:Nat}
theorem run_min2 {p q r:Int}{k k2:IntKind}{ts:Array TypeId}(ho:o.op = .call { callee:=.builtin .min,args:=#[x,y],argTypes:=ts })(hx:a.eval x = .int k p)(hy:a.eval y = .int k2 q)(hr:(if q<p then q else p)=r):(execOp a.eval o).run Tryz.prog w = .ok (.value (.int k r)) w:=by
 subst hr
 unfold execOp
 simp only[ho,resolve,invoke,builtin,Sem.run_bind,Sem.run_pure,Result.andThen_ok,List.map_toArray,List.map_cons,List.map_nil,hx,hy]
 simp[Builtin.min_,Builtin.min2]
theorem run_max2 {p q r:Int}{k k2:IntKind}{ts:Array TypeId}(ho:o.op = .call { callee:=.builtin .max,args:=#[x,y],argTypes:=ts })(hx:a.eval x = .int k p)(hy:a.eval y = .int k2 q)(hr:(if p<q then q else p)=r):(execOp a.eval o).run Tryz.prog w = .ok (.value (.int k r)) w:=by
 subst hr
 unfold execOp
 simp only[ho,resolve,invoke,builtin,Sem.run_bind,Sem.run_pure,Result.andThen_ok,List.map_toArray,List.map_cons,List.map_nil,hx,hy]
 simp[Builtin.max_,Builtin.max2]
theorem run_arrAt {ty e:TypeId}{m cnt c:Nat}{q:Addr}(ho:o.op = .sliceToArrayPointer ty x)(hx:a.eval x = .slice (some q) cnt c)(hu:Tryz.prog.underlying ty=some (.array m e))(hm:m<=cnt):(execOp a.eval o).run Tryz.prog w = .ok (.value (.pointer (some q))) w:=by
 unfold execOp
 simp only[ho,hx]
 simp[Instr.arrayAt,run_underlying hu,Nat.not_lt.2 hm]
theorem run_callF {f:FuncId}{fn:Func}{xs:Array Operand}{ts:Array TypeId}{args cap:Array Value}(ho:o.op = .call { callee:=.value x,args:=xs,argTypes:=ts })(hx:a.eval x = .func (.func f) #[] cap)(hf:Tryz.prog.funcs[f]?=some fn)(hn:(fn.name == "runtime.NumGoroutine")=false)(hb:fn.body.isNone=false)(hxs:xs.map a.eval=args){all:Array Value}(hall:args++cap=all) :
  (execOp a.eval o).run Tryz.prog w = .ok (.enter f all) w:=by
 subst hxs hall
 have e:(callFunc f (xs.map a.eval++cap)).run Tryz.prog w = .ok (.enter f (xs.map a.eval++cap)) w:=by
  have h1:fn.name ≠ "runtime.NumGoroutine":=by simpa using hn
  have h2:fn.body≠none:=by intro e;rw[e] at hb;cases hb
  simp[callFunc,hf,h1,h2]
 unfold execOp
 simp only[ho,resolve,hx]
 simp[Deferred.ofValue,invoke,e]
end
end
section
variable {D:List Deferred}
section
variable {P:Program}{a:Act}{o:Oper}{w w0:World}{n s m:Nat}{L:List (Nat×Value)}{v:Value}{ops:Array Oper}{rest:List Oper}{Q:Exit->Act->World->Prop}{M:List (Nat×(Obj->Prop))}{x:Operand}
def isO (x:Obj):Obj->Prop:=fun ob=>ob=x
theorem Mem.obj (h:Mem w0 M w)(i:Nat){g:Nat}{x:Obj}(e:M[i]?=some (g,isO x)):w.heap[g]?=some x:=by
 obtain⟨ob,h1,h2⟩:=h.ob i e
 unfold isO at h2
 subst h2
 exact h1
theorem Mem.putO (h:Mem w0 M w)(i:Nat){g:Nat}{S:Obj->Prop}(e:M[i]?=some (g,S))(x:Obj):Mem w0 (M.set i (g,isO x)) (w.putObj g x) :=
 h.upd i e (grownBy_putObj' w g x) ⟨x,World.putObj_heap_same (by obtain⟨ob,h1,_⟩:=h.ob i e;exact lt_of_ob h1),rfl⟩
theorem Mem.addO (h:Mem w0 M w)(x:Obj):Mem w0 ((w.heap.size,isO x)::M) (w.alloc x) :=
 h.addS ((Below.refl _ _).alloc (Nat.le_refl _) _) (Nat.le_refl _) ⟨x,World.alloc_heap_new w x,rfl⟩
theorem wpListIn_round {l:Nat}(hQ:∀ a w,¬ Q .outgrown a w):∀ {rest:List Oper} {a:Act} {w:World},(∀ o∈rest,∀ c,o.op ≠ .defer c)->wpList P ops Q rest a w->wpListIn (Fence.wide.inRound l) m P ops Q rest a w
 | [],_,_,_,h=>h
 | o::rest,a,w,hnd,h=>by
  have ih:∀ a w,wpList P ops Q rest a w->wpListIn (Fence.wide.inRound l) m P ops Q rest a w:=fun a w=>wpListIn_round hQ (fun x hx=>hnd x (List.mem_cons_of_mem _ hx))
  unfold wpList at h
  unfold wpListIn
  by_cases hw:Region.wanted o (yielded ops a.tmps)=true
  ·rw[if_pos hw] at h ⊢
   have h:=h.resolve_right fun x=>by obtain⟨a,w,hq⟩:=x.2;exact hQ a w hq
   refine⟨fun _ _=>trivial,?_⟩
   unfold Oper.wp at h
   rw[Oper.semAt_eq _ _ _ (hnd o (List.mem_cons_self ..))]
   generalize (execOp a.eval o).run P w=r at h ⊢
   cases r with
   | ok nx w'=>
    cases nx with
    | value v=>exact ih _ _ h
    | skip=>exact ih _ _ h
    | defer d=>exact ih _ _ h
    | enter f args=>
     refine⟨fun hx=>(by cases hx),CallsIn.inRound l (callsIn_wide.2 (Calls.mono (R:=_) h ?_))⟩
     intro e w2 he
     cases e with
     | returned v=>exact ih _ _ he
     | panicked c=>exact he
     | outgrown=>exact he
    | row rw_ args=>exact⟨fun hx=>(by cases hx),fun c cs _=>by obtain⟨v,w2,h1,h2⟩:=h c cs;exact⟨v,w2,ih _ _ h1,stepsIn_wide.2 h2⟩⟩
    | _=>exact h.elim
   | halt x w'=>cases x <;> first | exact h | exact h.elim
  ·rw[if_neg hw] at h ⊢
   exact⟨fun _ _=>trivial,ih _ _ h⟩
theorem wpIn_region_round {id l:Nat}{ls:List Oper}(hnd:(ls.all fun o=>match o.op with | .defer _=>false | _=>true)=true)(hQ:∀ a w,¬ Q .outgrown a w)(h:wpList P ls.toArray Q ls a w):(Code.region id ls.toArray false).wpIn (Fence.wide.inRound l) m P Q a w :=
 wpIn_region_lit (wpListIn_round hQ (fun o ho c e=>by have:=List.all_eq_true.1 hnd o ho;rw[e] at this;cases this) h)
theorem run_callY {l:Nat}{xs:Array Operand}{ts:Array TypeId}{args:Array Value}(ho:o.op = .call { callee:=.value x,args:=xs,argTypes:=ts })(hx:a.eval x = .func (.yield l) #[] #[])(hxs:xs.map a.eval=args):(execOp a.eval o).run P w=(Instr.yield l args).run P w:=by
 subst hxs
 unfold execOp
 simp only[ho,resolve,hx]
 simp[Deferred.ofValue,invoke]
def YieldW (P:Program)(l:Nat)(args:Array Value)(W:World)(R:Bool->World->Prop):Prop :=
 ∃ fn tmps assign body,(Instr.yield l args).run P W = .ok (.round l fn tmps assign body) W/\RoundIn Fence.wide 0 P l fn tmps assign body W fun e W'=>∃ b,e = .returned (.bool b)/\R b W'
structure IsRec (rc:Loop)(tmps:Array Value)(ps:Array Tmp)(assign body:Code):Prop where
 state:rc.state = .ready
 pending:rc.pending=none
 tmps:rc.tmps=tmps
 params:rc.params=ps
 assign:rc.assign=assign
 body:rc.body=body
def busyR (rc:Loop):Loop:={ rc with state:=.busy }
def leftR (rc:Loop)(c:Code):Loop:={ rc with state:=.done,pending:=some c }
abbrev rec0 (fn:FuncId)(tmps:Array Value)(ps:Array Tmp)(assign body:Code)(d:Nat):Loop:={ state:=.ready,pending:=none,fn:=fn,tmps:=tmps,params:=ps,assign:=assign,body:=body,defers:=d }
theorem wkRange {g:Operand}{ps:Array Tmp}{assign body:Code}{gf:Nat}{lb:Array Value}(hg:a.eval g = .func (.func gf) #[] lb)(eg:∀ args w,(callFunc gf args).run P w = .ok (.enter gf args) w)(hM:Mem w0 M w)
  (h:∀ rc d l W,IsRec rc a.tmps ps assign body->w.heap.size<=d->w.heap.size<=l->Below w.heap.size w W->Mem w0 ((l,isO (.loop rc))::(d,isO (.deferred (some [])))::M) W →
   Calls P gf (#[.func (.yield l) #[] #[]]++lb) W fun e W2=>(∃ u,e = .returned u) ∧ ∃ r2,W2.heap[l]?=some (.loop r2)/\r2.state ≠ .busy ∧
    (match r2.pending with
     | none=>Q .normal { a with defers:={ target:=.collected d,args:=#[] }::a.defers } (W2.putObj l (.loop { r2 with state:=.exhausted }))
     | some c=>c.wp P Q { a with defers:={ target:=.collected d,args:=#[] }::a.defers } (W2.putObj l (.loop { r2 with state:=.exhausted })))) :
  (Code.rangeFunc g ps assign body).wp P Q a w:=by
 refine(wpIn_wide (n:=0)).1 (wpIn_rangeFunc fun fn _=>?_)
 have hb:Below w.heap.size w ((w.alloc (.deferred (some []))).alloc (.loop (rec0 fn a.tmps ps assign body w.heap.size))):=((Below.refl _ w).alloc (Nat.le_refl _) _).alloc (by simp) _
 have hM1:=(hM.addO (.deferred (some []))).addO (.loop (rec0 fn a.tmps ps assign body w.heap.size))
 have hs:(w.alloc (.deferred (some []))).heap.size=w.heap.size+1:=World.size_alloc _ _
 have hE:(Instr.enterLoop fn a.tmps ps assign body Fence.wide.round).run P w = .ok (w.heap.size+1,[{ target:=.collected w.heap.size,args:=#[] }]) ((w.alloc (.deferred (some []))).alloc (.loop (rec0 fn a.tmps ps assign body w.heap.size))):=run_enterLoop_outer _ _ _ _ _
 rw[hs] at hM1
 obtain⟨W1,hW1⟩:∃ W1,(w.alloc (.deferred (some []))).alloc (.loop (rec0 fn a.tmps ps assign body w.heap.size))=W1:=⟨_,rfl⟩
 rw[hW1] at hM1 hb hE
 have hc:=h (rec0 fn a.tmps ps assign body w.heap.size) w.heap.size (w.heap.size+1) W1 ⟨rfl,rfl,rfl,rfl,rfl,rfl⟩ (Nat.le_refl _) (by omega) hb hM1
 clear h hM1
 refine⟨w.heap.size+1,[{ target:=.collected w.heap.size,args:=#[] }],W1,{ target:=.fn (.func gf) lb,args:=#[.func (.yield (w.heap.size+1)) #[] #[]] },W1,gf,#[.func (.yield (w.heap.size+1)) #[] #[]]++lb,W1,hE,?_,fun _ _=>trivial,?_,fun hx=>(by cases hx),?_⟩
 ·simp only[resolve,hg]
  simp[go_sem]
 ·simp[invoke,go_sem,eg]
 ·refine callsIn_wide.2 (hc.mono ?_)
  rintro e W2 ⟨⟨u,rfl⟩,r2,h1,h2,h3⟩
  refine⟨r2.pending,_,run_endLoop h1 h2,?_⟩
  cases hp:r2.pending with
  | none=>rw[hp] at h3;exact h3
  | some c=>rw[hp] at h3;exact wpIn_wide.2 h3
abbrev mark (d:Nat):Deferred:={ target:=.collected d,args:=#[] }
theorem enters_f {f:FuncId}{fn:Func}(hf:P.funcs[f]?=some fn)(hn:(fn.name == "runtime.NumGoroutine")=false)(hb:fn.body.isNone=false)(args:Array Value)(w:World):(callFunc f args).run P w = .ok (.enter f args) w:=by
 have h1:fn.name ≠ "runtime.NumGoroutine":=by simpa using hn
 have h2:fn.body≠none:=by intro e;rw[e] at hb;cases hb
 simp[callFunc,hf,h1,h2]
theorem frRound2 {p q:Nat}{u v:Value}(hF:FrD D a n L)(hp:p<n)(hq:q<n):Fr { tmps:=(#[p,q].zip #[u,v]).foldl (fun t (p,v)=>t.setIfInBounds p v) a.tmps,defers:=[] } n ((q,v)::(p,u)::L):=by
 have h0:Fr { tmps:=a.tmps,defers:=[] } n L:=⟨hF.size,rfl,hF.has⟩
 have h2:=(h0.put (v:=u) hp).put (v:=v) hq
 simpa[Act.put] using h2
theorem yieldW_of {l:Nat}{args:Array Value}{r:Loop}{R:Bool->World->Prop}(hl:w.heap[l]?=some (.loop r))(hs:args.size=r.params.size)
  (h:r.assign.wpIn (Fence.wide.inRound l) 0 P (Exit.then (fun a₁ w₁=>∃ w₂,(Instr.beginRound l).run P w₁ = .ok () w₂/\r.body.wpIn (Fence.wide.inRound l) 0 P (roundPost P l fun e W'=>∃ b,e = .returned (.bool b)/\R b W') a₁ w₂) (fun _ _ _=>False))
   { tmps:=(r.params.zip args).foldl (fun tmps (t,a)=>tmps.setIfInBounds t a) r.tmps,defers:=[] } w):YieldW P l args w R :=
 ⟨_,_,_,_,run_yield hl hs,roundIn_of_wpIn trivial h⟩
theorem yieldW2 {l p q:Nat}{u v:Value}{rc:Loop}{assign body:Code}{R:Bool->World->Prop}(hR:IsRec rc a.tmps #[p,q] assign body)(hl:w.heap[l]?=some (.loop rc))(hF:FrD D a n L)(hp:p<n)(hq:q<n)
  (h:∀ b,Fr b n ((q,v)::(p,u)::L)->assign.wpIn (Fence.wide.inRound l) 0 P (Exit.then (fun a₁ w₁=>∃ w₂,(Instr.beginRound l).run P w₁ = .ok () w₂/\body.wpIn (Fence.wide.inRound l) 0 P (roundPost P l fun e W'=>∃ b,e = .returned (.bool b)/\R b W') a₁ w₂) (fun _ _ _=>False)) b w):YieldW P l #[u,v] w R:=by
 refine yieldW_of hl (by rw[hR.params];rfl) ?_
 rw[hR.params,hR.tmps,hR.assign,hR.body]
 exact h _ (frRound2 hF hp hq)
theorem frMark {d:Nat}(hF:Fr a n L):FrD [mark d] { a with defers:={ target:=.collected d,args:=#[] }::a.defers } n L:=⟨hF.size,by simp[hF.defers],hF.has⟩
theorem Mem.perm {M2:List (Nat×(Obj->Prop))}(h:Mem w0 M w)(hp:M2.Perm M):Mem w0 M2 w:=⟨h.below,fun x hx=>h.has x (hp.subset hx),(hp.pairwise_iff (fun h e=>h e.symm)).2 h.nd⟩
theorem perm3 {α:Type}(a b c:α)(r:List α):(c::a::b::r).Perm (a::b::c::r):=(List.Perm.swap _ _ _).trans (.cons _ (List.Perm.swap _ _ _))
theorem walk_enterM {f:FuncId}{fn:Func}{c:Code}{vs:List Value}{R:Ending->World->Prop}(hf:P.funcs[f]?=some fn)(hb:fn.body=some c)(hn:fn.ntmps=n)(hv:Nat.ble vs.length n=true)
  (h:∀ a,Fr a n (numbered vs 0)->c.wp P (bodyPostM Fence.wide 0 P fn R) a w):Calls P f vs.toArray w R:=by
 refine callsIn_wide.1 (callsIn_of_wp_marks hf hb trivial (wpIn_wide.2 (h _ ⟨?_,rfl,fun s v e=>?_⟩)))
 ·have:=Nat.le_of_ble_eq_true hv;subst hn;simp;omega
 ·obtain⟨_,h2⟩:=lk_numbered vs 0 s v e
  have hs:=(List.getElem?_eq_some_iff.1 h2).1
  simp only[Nat.sub_zero] at h2 hs
  rw[Array.getElem?_append,if_pos (by simpa using hs)]
  simpa using h2
end
end
section

def apartB (u v:Value):Prop:=∀ g,u.ownBlock=some g->v.ownBlock≠some g
inductive Tele where
 | ret (v:Value)
 | row (e:TypeId) (m n:Nat) (xs:List Value) (k:Value->Tele)
 | ex (p:List UInt8->Prop) (k:List UInt8->Tele)
def Tele.sat (B:Nat)(w:World):Tele->List Value->Value->Prop
 | .ret v,_,u=>u=v
 | .row e m n xs k,A,u=>∃ v,w.ownsRow B e m v n xs/\(∀ y∈A,apartB y v)/\(k v).sat B w (v::A) u
 | .ex p k,A,u=>∃ s,p s/\(k s).sat B w A u
def Tele.inE (es:List TypeId):Tele->Prop
 | .ret _=>True
 | .row e _ _ _ k=>es.contains e=true ∧ ∀ v,(k v).inE es
 | .ex _ k=>∀ s,(k s).inE es
inductive Kp where
 | any
 | val (c:Value)
 | row (e:TypeId) (m n:Nat) (xs:List Value)
 | rowO (b:Nat) (e:TypeId) (m n:Nat) (xs:List Value) (v0:Value)
 | rows2 (e e2:TypeId) (m2:Nat) (LL:List (Nat×List Value))
 | new (t:TypeId) (cs:Array Value) (n:Nat)
 | st (k:Kp)
 | tup2 (p q:Kp)
 | tup4 (p q r s:Kp)
 | tel (es:List TypeId) (T:Tele)
def Kp.sat (B:Nat):Kp->Value->World->Prop
 | .any,_,_=>True
 | .val c,v,_=>v=c
 | .row e m n xs,v,W=>W.ownsRow B e m v n xs
 | .rowO b e m n xs v0,v,W=>W.ownsRow b e m v n xs/\(v.ownBlock=v0.ownBlock ∨ ∀ g,v.ownBlock=some g->B<=g)
 | .rows2 e e2 m2 LL,v,W=>∃ US:List Value,W.ownsRow B e 1 v US.length US/\US.length=LL.length ∧ ∀ (q n:Nat) (xs:List Value),LL[q]?=some (n,xs)->∃ u,US[q]?=some u/\W.ownsRow B e2 m2 u n xs
 | .new t cs n,v,W=>∃ g,B<=g/\v = .slice (some ⟨g,0,none⟩) n n/\Blk W g t cs
 | .st k,v,W=>∃ u,v = .agg #[u]/\k.sat B u W
 | .tup2 p q,v,W=>∃ x y,v = .tuple #[x,y]/\p.sat B x W/\q.sat B y W
 | .tup4 p q r s,v,W=>∃ x y z u,v = .tuple #[x,y,z,u]/\p.sat B x W/\q.sat B y W/\r.sat B z W/\s.sat B u W
 | .tel es T,v,W=>T.inE es/\T.sat B W [] v
def Kp.uses :Kp->TypeId->Prop
 | .row e _ _ _,x=>x=e
 | .rowO _ e _ _ _ _,x=>x=e
 | .rows2 e e2 _ _,x=>x=e\/x=e2
 | .new t _ _,x=>x=t
 | .st k,x=>k.uses x
 | .tup2 p q,x=>p.uses x\/q.uses x
 | .tup4 p q r s,x=>p.uses x\/q.uses x\/r.uses x\/s.uses x
 | .tel es _,x=>es.contains x=true
 | _,_=>False
def Kp.safe :Kp->TypeId->Bool
 | .row e _ _ _,x=>!(Nat.beq x e)
 | .rowO _ e _ _ _ _,x=>!(Nat.beq x e)
 | .rows2 e e2 _ _,x=>!(Nat.beq x e) && !(Nat.beq x e2)
 | .new t _ _,x=>!(Nat.beq x t)
 | .st k,x=>k.safe x
 | .tup2 p q,x=>p.safe x&&q.safe x
 | .tup4 p q r s,x=>p.safe x&&(q.safe x&&(r.safe x&&s.safe x))
 | .tel es _,x=>!(es.contains x)
 | _,_=>true
theorem beq_no {x e:TypeId}(h:(!(Nat.beq x e))=true):x≠e:=by
 rintro rfl
 rw[Nat.beq_refl] at h
 cases h
theorem Kp.safe_uses :∀ {k:Kp} {x:TypeId},k.safe x=true->¬ k.uses x
 | .any,_,_=>id
 | .val _,_,_=>id
 | .row _ _ _ _,_,h=>beq_no h
 | .rowO _ _ _ _ _ _,_,h=>beq_no h
 | .rows2 e e2 _ _,x,h=>by
  have h:(!(Nat.beq x e) && !(Nat.beq x e2))=true:=h
  simp only[Bool.and_eq_true] at h
  rintro(h1 | h1)
  ·exact beq_no h.1 h1
  ·exact beq_no h.2 h1
 | .new _ _ _,_,h=>beq_no h
 | .st k,_,h=>Kp.safe_uses (k:=k) h
 | .tup2 p q,x,h=>by
  have h:(p.safe x&&q.safe x)=true:=h
  simp only[Bool.and_eq_true] at h
  rintro(h1 | h1)
  ·exact Kp.safe_uses h.1 h1
  ·exact Kp.safe_uses h.2 h1
 | .tup4 p q r s,x,h=>by
  have h:(p.safe x&&(q.safe x&&(r.safe x&&s.safe x)))=true:=h
  simp only[Bool.and_eq_true] at h
  rintro(h1 | h1 | h1 | h1)
  ·exact Kp.safe_uses h.1 h1
  ·exact Kp.safe_uses h.2.1 h1
  ·exact Kp.safe_uses h.2.2.1 h1
  ·exact Kp.safe_uses h.2.2.2 h1
 | .tel es T,x,h=>by
  intro h1
  have h:(!(es.contains x))=true:=h
  have h1:es.contains x=true:=h1
  rw[h1] at h
  cases h
theorem ownsRow_keep0 {w W:World}{B m n:Nat}{e:TypeId}{v:Value}{xs:List Value}{ob:Option Nat}(h:w.ownsRow B e m v n xs)(hg:w.grownBy W ob)(hne:∀ g,v.ownBlock=some g->some g≠ob):W.ownsRow B e m v n xs:=by
 refine⟨h.1,?_⟩
 rcases h.2 with h1 | ⟨g,cap,cur,rfl,h2,hh,h3⟩
 ·exact .inl h1
 ·exact .inr ⟨g,cap,cur,rfl,h2,(hg.block g (lt_of_ob hh) (hne g rfl)).trans hh,h3⟩
theorem Tele.keep {W W':World}{B:Nat}{ob:Option Nat}{es:List TypeId}(hg:W.grownBy W' ob)(hne:∀ g cur x,es.contains x=true->W.heap[g]?=some (.cells cur x (0,0))->some g≠ob):∀ {T:Tele} {A:List Value} {v:Value},T.inE es->T.sat B W A v->T.sat B W' A v
 | .ret _,_,_,_,h=>h
 | .row e m n xs k,A,u,hE,h=>by
  obtain⟨v,h1,h2,h3⟩:=h
  refine⟨v,⟨h1.1,?_⟩,h2,Tele.keep hg hne (hE.2 v) h3⟩
  rcases h1.2 with h1 | ⟨g,cap,cur,h1,h2,hh,h3⟩
  ·exact .inl h1
  ·exact .inr ⟨g,cap,cur,h1,h2,(hg.block g (lt_of_ob hh) (hne g cur e hE.1 hh)).trans hh,h3⟩
 | .ex p k,A,u,hE,h=>by
  obtain⟨s,h1,h2⟩:=h
  exact⟨s,h1,Tele.keep hg hne (hE s) h2⟩
theorem Kp.keep {B:Nat}{W W':World}{ob:Option Nat}(hg:W.grownBy W' ob):∀ {k:Kp} {v:Value},k.sat B v W->(∀ g cur x,k.uses x->W.heap[g]?=some (.cells cur x (0,0))->some g≠ob)->k.sat B v W'
 | .any,_,_,_=>trivial
 | .val _,_,h,_=>h
 | .row e m n xs,v,h,hne=>by
  refine⟨h.1,?_⟩
  rcases h.2 with h1 | ⟨g,cap,cur,h1,h2,hh,h3⟩
  ·exact .inl h1
  ·exact .inr ⟨g,cap,cur,h1,h2,(hg.block g (lt_of_ob hh) (hne g cur e rfl hh)).trans hh,h3⟩
 | .rowO b0 e m n xs v0,v,h,hne=>by
  refine⟨⟨h.1.1,?_⟩,h.2⟩
  rcases h.1.2 with h1 | ⟨g,cap,cur,h1,h2,hh,h3⟩
  ·exact .inl h1
  ·exact .inr ⟨g,cap,cur,h1,h2,(hg.block g (lt_of_ob hh) (hne g cur e rfl hh)).trans hh,h3⟩
 | .rows2 e e2 m2 LL,v,h,hne=>by
  obtain⟨US,h1,h2,h3⟩:=h
  refine⟨US,?_,h2,fun q n xs hq=>?_⟩
  ·refine⟨h1.1,?_⟩
   rcases h1.2 with h4 | ⟨g,cap,cur,h4,h5,hh,h6⟩
   ·exact .inl h4
   ·exact .inr ⟨g,cap,cur,h4,h5,(hg.block g (lt_of_ob hh) (hne g cur e (.inl rfl) hh)).trans hh,h6⟩
  ·obtain⟨u,h4,h5⟩:=h3 q n xs hq
   refine⟨u,h4,h5.1,?_⟩
   rcases h5.2 with h6 | ⟨g,cap,cur,h6,h7,hh,h8⟩
   ·exact .inl h6
   ·exact .inr ⟨g,cap,cur,h6,h7,(hg.block g (lt_of_ob hh) (hne g cur e2 (.inr rfl) hh)).trans hh,h8⟩
 | .new t cs n,v,h,hne=>by
  obtain⟨g,h1,h2,h3⟩:=h
  exact⟨g,h1,h2,(hg.block g h3.lt (hne g cs t rfl h3)).trans h3⟩
 | .st k,v,h,hne=>by
  obtain⟨u,h1,h2⟩:=h
  exact⟨u,h1,Kp.keep hg h2 hne⟩
 | .tup2 p q,v,h,hne=>by
  obtain⟨x,y,h1,h2,h3⟩:=h
  exact⟨x,y,h1,Kp.keep hg h2 (fun g cur x hx=>hne g cur x (.inl hx)),Kp.keep hg h3 (fun g cur x hx=>hne g cur x (.inr hx))⟩
 | .tup4 p q r s,v,h,hne=>by
  obtain⟨x,y,z,u,h1,h2,h3,h4,h5⟩:=h
  exact⟨x,y,z,u,h1,Kp.keep hg h2 (fun g cur x hx=>hne g cur x (.inl hx)),Kp.keep hg h3 (fun g cur x hx=>hne g cur x (.inr (.inl hx))),Kp.keep hg h4 (fun g cur x hx=>hne g cur x (.inr (.inr (.inl hx)))),Kp.keep hg h5 (fun g cur x hx=>hne g cur x (.inr (.inr (.inr hx))))⟩
 | .tel es T,v,h,hne=>⟨h.1,Tele.keep hg hne h.1 h.2⟩
structure KeepW (G:List Nat)(w W:World):Prop where
 os:W.os=w.os
 tape:W.tape=w.tape
 output:W.output=w.output
 size:w.heap.size<=W.heap.size
 block:∀ k,k<w.heap.size->k∉G->W.heap[k]?=w.heap[k]?
section
variable {w w0 W W':World}{G:List Nat}{M:List (Nat×(Obj->Prop))}
theorem below_grownP (h:Below w.heap.size w W)(ob:Option Nat):w.grownBy W ob:=⟨h.os,h.tape,h.output,h.size,fun k hk _=>h.block k hk⟩
theorem KeepW.ofBelow (h:Below w.heap.size w W):KeepW G w W:=⟨h.os,h.tape,h.output,h.size,fun k hk _=>h.block k hk⟩
theorem KeepW.grown {ob:Option Nat}(h:KeepW G w W)(hg:W.grownBy W' ob)(hob:∀ k,ob=some k->w.heap.size<=k\/k∈G):KeepW G w W' :=
 ⟨hg.os.trans h.os,hg.tape.trans h.tape,hg.output.trans h.output,Nat.le_trans h.size hg.size,fun k hk hG=>(hg.block k (Nat.lt_of_lt_of_le hk h.size) (fun e=>by
  rcases hob k e.symm with h1 | h1
  ·omega
  ·exact hG h1)).trans (h.block k hk hG)⟩
theorem Mem.keepW (h:Mem w0 M w)(hk:KeepW G w W)(hf:∀ x∈M,x.1∉G)(hG:∀ g∈G,w0.heap.size<=g):Mem w0 M W:=by
 refine⟨⟨hk.os.trans h.below.os,hk.tape.trans h.below.tape,hk.output.trans h.below.output,Nat.le_trans h.below.size hk.size,fun k hl=>(hk.block k (Nat.lt_of_lt_of_le hl h.below.size) (fun hm=>by have:=hG k hm;omega)).trans (h.below.block k hl)⟩,fun x hx=>?_,h.nd⟩
 obtain⟨h1,ob,h2,h3⟩:=h.has x hx
 exact⟨h1,ob,(hk.block _ (lt_of_ob h2) (hf x hx)).trans h2,h3⟩
theorem OwnR.keepW {e:TypeId}{size m:Nat}{v:Value}{xs:List Value}(h:OwnR w0 M w e size v m xs)(hk:KeepW G w W)(hf:∀ g∈G,v.ownBlock≠some g):OwnR w0 M W e size v m xs:=by
 refine⟨⟨h.owns.1,?_⟩,h.far⟩
 rcases h.owns.2 with h1 | ⟨g,cap,cur,rfl,h2,hh,h3⟩
 ·exact .inl h1
 ·exact .inr ⟨g,cap,cur,rfl,h2,(hk.block g (lt_of_ob hh) (fun hm=>hf g hm rfl)).trans hh,h3⟩
end
structure NewZ where
 iA:Nat
 slot:Nat
 iS:Nat
 t:TypeId
 z:Array Value
 k:Kp
structure RowZ where
 iA:Nat
 b:Nat
 e:TypeId
 m:Nat
 v:Value
 n:Nat
 xs:List Value
section
variable {P:Program}{l:List Oper}
def killedB (l:List Oper)(kill:List (Option Nat))(q i:Nat):Bool:=match kill.getD q none with | some K=>K==i||Region.waitsFor .any l.toArray i K | none=>false
def behindB (l:List Oper)(i j:Nat):Bool:=Region.waitsFor .any l.toArray i j||(List.range l.length).any fun k=>Region.waitsFor .any l.toArray i k&&Region.waitsFor .any l.toArray k j
def dstB (l:List Oper)(j s:Nat):Bool:=match l[j]? with | some oj=>oj.dst==some s | none=>false
def DepZ (l:List Oper)(a0:Act)(w:World)(KL:List Kp)(kill:List (Option Nat))(AL:List NewZ)(i:Nat)(a:Act)(W:World):Prop :=
 (∀ (j s:Nat),depB l i j s=true->(∀ d∈AL,d.iA≠j)->(∀ K,kill.getD j none=some K->K=i\/Region.waitsFor .any l.toArray K i=true)->∃ v,a.tmps[s]?=some v/\(KL.getD j .any).sat w.heap.size v W) ∧
 ∀ (j s:Nat) (v:Value),dstB l j s=true->behindB l j i=true->a0.tmps[s]?=some v->a.tmps[s]?=some v
theorem run_storeP {W:World}{g:Nat}{t ty:TypeId}{old:Array Value}{V:Value}(hB:Blk W g t old)(hi:(P.info? ty).map (·.size)=some V.cells.size)(ho:old.size=V.cells.size)(h1:V.cells.all (·.oneCell')=true):(storeVar ty ⟨g,0,none⟩ V).run P W = .ok () (W.setRow g V.cells) :=
 run_storeAny rfl hB hi ho h1
end
end
section
variable {D:List Deferred}
section
variable {P:Program}{l:List Oper}{w w0 W W':World}{B B':Nat}{a:Act}{o:Oper}{c:Value}{k:Kp}
theorem ownsRow_mono {e:TypeId}{m n:Nat}{v:Value}{xs:List Value}(h:W.ownsRow B' e m v n xs)(hB:B<=B'):W.ownsRow B e m v n xs:=by
 refine⟨h.1,?_⟩
 rcases h.2 with h1 | ⟨g,cap,cur,h1,h2,h3⟩
 ·exact .inl h1
 ·exact .inr ⟨g,cap,cur,h1,Nat.le_trans hB h2,h3⟩
theorem Tele.mono (hB:B<=B'):∀ {T:Tele} {A:List Value} {v:Value},T.sat B' W A v->T.sat B W A v
 | .ret _,_,_,h=>h
 | .row _ _ _ _ _,_,_,⟨v,h1,h2,h3⟩=>⟨v,ownsRow_mono h1 hB,h2,Tele.mono hB h3⟩
 | .ex _ _,_,_,⟨s,h1,h2⟩=>⟨s,h1,Tele.mono hB h2⟩
theorem Kp.mono (hB:B<=B'):∀ {k:Kp} {v:Value},k.sat B' v W->k.sat B v W
 | .any,_,_=>trivial
 | .val _,_,h=>h
 | .row _ _ _ _,_,h=>ownsRow_mono h hB
 | .rowO _ _ _ _ _ _,_,⟨h1,h2⟩=>⟨h1,h2.imp id fun h3 g hg=>Nat.le_trans hB (h3 g hg)⟩
 | .rows2 _ _ _ _,_,⟨US,h1,h2,h3⟩=>⟨US,ownsRow_mono h1 hB,h2,fun q n xs hq=>(h3 q n xs hq).imp fun _ h=>⟨h.1,ownsRow_mono h.2 hB⟩⟩
 | .new _ _ _,_,⟨g,h1,h2⟩=>⟨g,Nat.le_trans hB h1,h2⟩
 | .st _,_,⟨u,h1,h2⟩=>⟨u,h1,Kp.mono hB h2⟩
 | .tup2 _ _,_,⟨x,y,h1,h2,h3⟩=>⟨x,y,h1,Kp.mono hB h2,Kp.mono hB h3⟩
 | .tup4 _ _ _ _,_,⟨x,y,z,u,h1,h2,h3,h4,h5⟩=>⟨x,y,z,u,h1,Kp.mono hB h2,Kp.mono hB h3,Kp.mono hB h4,Kp.mono hB h5⟩
 | .tel _ _,_,⟨h1,h2⟩=>⟨h1,Tele.mono hB h2⟩
theorem givz_run (h:(execOp a.eval o).run P W = .ok (.value c) W)(hk:k.sat B c W):GivesT P (Below W.heap.size W) (fun v W'=>k.sat B v W') ((execOp a.eval o).run P W):=by
 rw[h]
 exact⟨Below.refl _ _,hk⟩
theorem givz_call {f:FuncId}{args:Array Value}(hrun:(execOp a.eval o).run P W = .ok (.enter f args) W)(hB:B<=W.heap.size)(hc:Calls P f args W fun e w'=>∃ u,e = .returned u/\k.sat W.heap.size u w'/\Below W.heap.size W w'):GivesT P (Below W.heap.size W) (fun v W'=>k.sat B v W') ((execOp a.eval o).run P W):=by
 rw[hrun]
 refine hc.mono ?_
 rintro e w' ⟨u,h1,h2,h3⟩
 exact⟨u,h1,h3,Kp.mono hB h2⟩
theorem givz_callV {f:FuncId}{args:Array Value}(hrun:(execOp a.eval o).run P W = .ok (.enter f args) W)(hc:Calls P f args W fun e w'=>e = .returned c/\Below W.heap.size W w'):GivesT P (Below W.heap.size W) (fun v W'=>(Kp.val c).sat B v W') ((execOp a.eval o).run P W):=by
 rw[hrun]
 exact hc.mono fun e w' h=>⟨c,h.1,h.2,rfl⟩
theorem givz_newRow (t:TypeId)(cs:Array Value)(m n:Nat)(hB:B<=W.heap.size)(hs:cs.size=n*m)(hn:n<=maxLen)(h:(execOp a.eval o).run P W = .ok (.value (.slice (some ⟨W.heap.size,0,none⟩) n n)) (W.alloc (.cells cs t))):GivesT P (Below W.heap.size W) (fun v W'=>(Kp.row t m n cs.toList).sat B v W') ((execOp a.eval o).run P W):=by
 rw[h]
 refine⟨(Below.refl _ _).alloc (Nat.le_refl _) _,?_,.inr ⟨W.heap.size,n,cs,rfl,hB,heap_alloc_new W _,Nat.le_refl _,hn,hs,?_⟩⟩
 ·simpa using hs
 ·exact List.take_of_length_le (by simp[hs])
theorem DepZ.prev {a0:Act}{KL:List Kp}{kill:List (Option Nat)}{AL:List NewZ}{i j s:Nat}{v:Value}(h:DepZ l a0 w KL kill AL i a W)(h1:dstB l j s=true)(h2:behindB l j i=true)(h3:a0.tmps[s]?=some v):a.tmps[s]?=some v:=h.2 j s v h1 h2 h3
theorem KeepW.below (h:KeepW [] w W):Below w.heap.size w W:=⟨h.os,h.tape,h.output,h.size,fun k hk=>h.block k hk (by simp)⟩
theorem own_ne_ty {e t:TypeId}{size m g:Nat}{v:Value}{xs:List Value}{cs:Array Value}(h:W.ownsRow B e size v m xs)(hB:Blk W g t cs)(ht:(!(Nat.beq t e))=true):v.ownBlock≠some g:=by
 intro hq
 rcases h.2 with⟨rfl,_⟩ | ⟨g2,cap,cur,rfl,_,hh,_⟩
 ·simp[Value.ownBlock] at hq
 ·have:g2=g:=by simpa[Value.ownBlock] using hq
  subst this
  rw[hB] at hh
  injection hh with hh
  injection hh with _ h3 _
  exact beq_no ht h3
theorem own_ne_own {B2:Nat}{e e2:TypeId}{s s2 m m2 g:Nat}{v v2:Value}{xs ys:List Value}(h:W.ownsRow B e s v m xs)(h2:W.ownsRow B2 e2 s2 v2 m2 ys)(ht:(!(Nat.beq e2 e))=true)(hg2:v2.ownBlock=some g):v.ownBlock≠some g:=by
 rcases h2.2 with⟨rfl,_⟩ | ⟨g2,cap,cur,rfl,_,hh,_⟩
 ·simp[Value.ownBlock] at hg2
 ·have:g2=g:=by simpa[Value.ownBlock] using hg2
  subst this
  exact own_ne_ty (t:=e2) h hh ht
theorem own_slice {e:TypeId}{size m:Nat}{v:Value}{xs:List Value}(h:W.ownsRow B e size v m xs):∃ p n c,v = .slice p n c:=by
 rcases h.2 with⟨rfl,_⟩ | ⟨g,cap,cur,rfl,_⟩ <;> exact⟨_,_,_,rfl⟩
theorem Sl.ofOwns {e:TypeId}{size m:Nat}{v:Value}{xs:List Value}(h:W.ownsRow B e size v m xs):Sl W v size m xs:=by
 refine⟨h.1,?_⟩
 rcases h.2 with⟨rfl,h2⟩ | ⟨g,cap,cur,rfl,_,hh,h1,h2,h3,h4⟩
 ·exact .inl ⟨⟨_,_,rfl⟩,h2⟩
 ·refine .inr ⟨g,0,cap,rfl,lt_of_ob hh,fun j u hj=>?_⟩
  rw[Nat.zero_add,cell_of_row W g j cur e (0,0) hh]
  have hl:j<m*size:=by have:=(List.getElem?_eq_some_iff.1 hj).1;rw[h.1] at this;exact this
  have e1:cur[j]?=(cur.toList.take (m*size))[j]?:=by rw[List.getElem?_take_of_lt hl];simp
  rw[e1,h4];exact hj
end
section
variable {P:Program}{a:Act}{w w0:World}{n:Nat}{L:List (Nat×Value)}{M:List (Nat×(Obj->Prop))}
theorem loadVar_one {ty t:TypeId}{g:Nat}{v:Value}(hB:Blk w g t #[v])(hag:(isAgg ty).run P w = .ok false w):(loadVar ty ⟨g,0,none⟩).run P w = .ok v w:=by
 have hc:w.cell? ⟨g,0,none⟩=some v:=by rw[hB.cell];rfl
 simp[loadVar,hag,go_sem,hc]
theorem run_eqnil {o:Oper}{x y:Operand}{t t2 e:TypeId}{ad:Option Addr}{m c:Nat}(ho:o.op = .binOp .eql t x y t2)(hx:a.eval x = .slice ad m c)(hy:a.eval y = .slice none 0 0)(hu:P.underlying t=some (.slice e)):(execOp a.eval o).run P w = .ok (.value (.bool ad.isNone)) w:=by
 have h9:∀ d:Nat,(Op.equalIn (d+1) t (.slice ad m c) (.slice none 0 0)).run P w = .ok ad.isNone w:=by
  intro d
  cases ad <;> simp[Op.equalIn,run_underlying hu]
 refine run_bin ho hx hy (by simp[eqGuard,go_sem]) ?_
 simp only[binOp]
 simp[Op.equal,Op.maxDepth,h9 9999]
end
end
end Go.Proofs.YtdjholkjkbihmaaGreatDoor
