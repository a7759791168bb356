/- Laws and walks of TopNeverOther. -/
import Derived.LoopN
import Derived.Lib.Bytealg
import Derived.Test.YtdjholkjkbihmaaGreatDoorF06
namespace Go.Proofs.YtdjholkjkbihmaaGreatDoor
open Go.RowKit
set_option maxRecDepth 100000
set_option maxHeartbeats 4000000
section
section
variable {G:Kn}{x:Operand}{t t2 e:TypeId}{adr:Addr}{n c:Nat}
theorem PR.en0 (hx:EV G x (.slice none n c):=by exact ev)(hu:und t=some (.slice e):=by rfl):PR Tryz.prog G (.binOp .eql t x (.const (nv)) t2) (.bool true):=fun a w _ ho hg=>run_eqnil ho (hx a w hg) rfl (und_ok hu)
theorem PR.en1 (hx:EV G x (.slice (some adr) n c):=by exact ev)(hu:und t=some (.slice e):=by rfl):PR Tryz.prog G (.binOp .eql t x (.const (nv)) t2) (.bool false):=fun a w _ ho hg=>run_eqnil ho (hx a w hg) rfl (und_ok hu)
theorem PR.gd {p:Prop}[Decidable p]{op:Op}{v:Value}(h:p->PR Tryz.prog (GC (decide p) G) op v):PR Tryz.prog (GC (decide p) G) op v:=fun a w o ho hg=>h (of_decide_eq_true hg.2) a w o ho hg
theorem PR.gb {b:Bool}{op:Op}{v:Value}(h:b=true->PR Tryz.prog (GC b G) op v):PR Tryz.prog (GC b G) op v:=fun a w o ho hg=>h hg.2 a w o ho hg
theorem wX {x r:Int}(h:x=r ∧ -9223372036854775808<=r/\r<=9223372036854775807:=by omega):IntKind.i64.wrap x=r:=by
 obtain⟨rfl,h1,h2⟩:=h
 exact IntWalk.i64_in _ ⟨h1,h2⟩
theorem PR.ad (r:Int){y:Operand}{p q:Int}(hx:EV G x (i6 p):=by exact ev)(hy:EV G y (i6 q):=by exact ev)(h:p+q=r ∧ -9223372036854775808<=r/\r<=9223372036854775807:=by omega):PR Tryz.prog G (.binOp .add t x y t2) (i6 r):=PR.add hx hy (wX h)
theorem PR.sb (r:Int){y:Operand}{p q:Int}(hx:EV G x (i6 p):=by exact ev)(hy:EV G y (i6 q):=by exact ev)(h:p-q=r ∧ -9223372036854775808<=r/\r<=9223372036854775807:=by omega):PR Tryz.prog G (.binOp .sub t x y t2) (i6 r):=PR.sub hx hy (wX h)
theorem PR.ml (r:Int){y:Operand}{p q:Int}(hx:EV G x (i6 p):=by exact ev)(hy:EV G y (i6 q):=by exact ev)(h:p*q=r ∧ -9223372036854775808<=r/\r<=9223372036854775807:=by omega):PR Tryz.prog G (.binOp .mul t x y t2) (i6 r):=PR.mul hx hy (wX h)
end
theorem cln {f:FuncId}{fn:Func}{t e tb:TypeId}{m b n:Nat}{s0 s1 s2 s3 s4 s5 s6 s7:String}{a0 a1 a2 a3 a4 a5 a6 a7:Array Edge}{v:Value}{xs:List Value}{w:World}(hV:Sl w v m n xs)(h1:∀ u∈xs,u.oneCell'=true)(hf:Tryz.prog.funcs[f]?=some fn)(hb:fn.body=some ((Code.region 0 #[⟨some 2,.assign (.const (nv)),t,s0,a0,none⟩] false).seq (((Code.region 1 #[⟨some 3,.move (.tmp 0),t,s1,a1,none⟩,⟨some 4,.binOp .eql t (.tmp 3) (.const (nv)) t,tb,s2,a2,none⟩] false).seq (Code.cond (.tmp 4) ((Code.region 2 #[⟨some 2,.assign (.const (nv)),t,s3,a3,none⟩] false).seq Code.ret) Code.skip)).seq ((Code.region 3 #[⟨some 5,.buildSlice t 0 #[],t,s4,a4,none⟩,⟨some 6,.move (.tmp 0),t,s5,a5,none⟩,⟨some 7,.call { callee:=.builtin .append,args:=#[.tmp 5,.tmp 6],argTypes:=#[t,t] },t,s6,a6,none⟩,⟨some 2,.assign (.tmp 7),t,s7,a7,none⟩] false).seq Code.ret))):=by rfl)(hE:elT t=some (e,m,b):=by rfl)(hn:n*b<=140737488355328:=by omega)(hn2:n<=maxLen:=by unfold maxLen;omega)(hnt:fn.ntmps=8:=by rfl)(hr:fn.results = #[.tmp 2]:=by rfl)(hu:und t=some (.slice e):=by rfl)(hz:szT e=some m:=by rfl):RT f #[v] w (.row e m n xs fun v=>.ret v):=by
 rcases hV.adr with⟨c,rfl,rfl,rfl⟩ | ⟨ad,c,rfl,hc⟩
 ·refine enter (vs:=[_]) hf ?_ hb hnt
  exact r1 (k:=se (rg (p1 (k:=pp (PR.en0 ev hu) (en (ct (r1 (k:=rt (nR (er (fun a w hs=>⟨_,rfl,T1 ⟨by simp,.inl ⟨rfl,rfl⟩⟩ (by simp) T0,hs.m.below⟩) hr))))))))))
 ·refine enter (vs:=[_]) hf ?_ hb hnt
  refine r1 (k:=se (rg (p1 (k:=pp (PR.en1 ev hu) (en (cf (sk (nN (rg (o0 (fun v=>?_) hu hz))))))))))
  refine p1 (k:=kAp 0 rfl hE ev ev hV.1 (fun a w hs=>hc w hs.m.below) h1 (by rw[Nat.zero_add];exact hn2) (by rw[Nat.zero_add];exact hn) (fun v2=>?_) rfl)
  refine p1 (k:=en (rt ?_))
  rw[Nat.zero_add]
  exact et [0] hr
end
section
def slOf (i j sz:Nat):Value->Value
 | .slice a _ c=>sliced a i j c sz
 | v=>v
def CapOk (v:Value):Prop:=∀ a n c,v = .slice a n c->n<=c
theorem CapOk.nil :CapOk (nv):=fun _ _ _ h=>by cases h;exact Nat.le_refl _
theorem CapOk.own {w:World}{B m n:Nat}{e:TypeId}{v:Value}{xs:List Value}(h:w.ownsRow B e m v n xs):CapOk v:=by
 rcases h.2 with⟨rfl,_⟩ | ⟨g,cap,cur,rfl,_,_,h1,_⟩
 ·exact .nil
 ·intro a n c e;cases e;exact h1
theorem Sl.part {w:World}{v:Value}{m n i j:Nat}{cs:List Value}(h:Sl w v m n cs)(hv:CapOk v)(hij:i<=j)(hj:j<=n):Sl w (slOf i j m v) m (j-i) ((cs.drop (i*m)).take ((j-i)*m))/\CapOk (slOf i j m v):=by
 have hl:=h.1
 have e1:i*m+(j-i)*m=j*m:=by rw[←Nat.add_mul];congr 1;omega
 have e2:j*m<=n*m:=Nat.mul_le_mul_right _ hj
 have h3:CapOk (slOf i j m v):=by
  rcases h.2 with⟨⟨a,c,rfl⟩,rfl⟩ | ⟨b,o,c,rfl,_,_⟩ <;>
  ·have:=hv _ _ _ rfl
   intro a n c e
   unfold slOf sliced at e
   injection e with _ e1 e2
   omega
 refine⟨⟨by rw[List.length_take,List.length_drop,hl];omega,?_⟩,h3⟩
 rcases h.2 with⟨⟨a,c,rfl⟩,rfl⟩ | ⟨b,o,c,rfl,hb,hc⟩
 ·refine .inl ⟨?_,by omega⟩
  have:j-i=0:=by omega
  unfold slOf sliced
  exact⟨_,_,by rw[this]⟩
 ·have h0:=hv _ _ _ rfl
  by_cases h4:c=i
  ·refine .inl ⟨?_,by omega⟩
   unfold slOf sliced
   exact⟨_,_,by rw[show j-i=0 by omega]⟩
  ·refine .inr ⟨b,o+i*m,c-i,?_,hb,fun q u hq=>?_⟩
   ·show Value.slice (if c=i then _ else Option.map (fun x:Addr=>x.add (i*m)) (some ⟨b,o,none⟩)) _ _=_
    rw[if_neg h4]
    congr 1
    simp only[Option.map,Addr.add]
    split
    ·rename_i h5;rw[h5];rfl
    ·rfl
   ·have hq1:q<(j-i)*m:=by have:=(List.getElem?_eq_some_iff.1 hq).1;rw[List.length_take] at this;omega
    rw[List.getElem?_take_of_lt hq1,List.getElem?_drop] at hq
    rw[Nat.add_assoc]
    exact hc _ u hq
section
variable {G:Kn}{x y z:Operand}{t e:TypeId}{v:Value}{m n i j:Nat}{cs:List Value}{k k2:IntKind}{p q:Int}
theorem PR.sF (hp:p=(i:Int):=by rfl)(hx:EV G x v:=by exact ev)(hs:SL G v m n cs:=by exact sl)(hy:EV G y (.int k p):=by exact ev)(hu:und t=some (.slice e):=by rfl)(hz:szT e=some m:=by rfl)(hi:i<=n:=by omega):PR Tryz.prog G (.slice t x (some y) none none) (slOf i n m v):=fun a w o ho hg=>by
 obtain⟨b,c,rfl⟩:=(hs a w hg).len
 have h1:=und_ok hu
 have he:Tryz.prog.elem t=e:=by simp[Program.elem,h1]
 have ht:Tryz.prog.underlying t=some (.slice (Tryz.prog.elem t)):=by rw[he];exact h1
 have hr:=run_slice_l (P:=Tryz.prog) w t b n c ht k (i:Int) (by omega) (by omega)
 subst hp
 have hsA:(Instr.sliceAt t (.slice b n c) (some (.int k (i:Int))) none none).run Tryz.prog w = .ok (slOf i n m (.slice b n c)) w:=by
  rw[run_sliceAt_slice w t _ _ _ _ ht,hr,he,szT_ok hz]
  rfl
 unfold execOp
 simp only[ho,hx a w hg,hy a w hg,Option.map,Sem.run_bind,hsA,Result.andThen_ok,Sem.run_pure]
theorem PR.sT (hv:CapOk v)(hp:p=(j:Int):=by rfl)(hx:EV G x v:=by exact ev)(hs:SL G v m n cs:=by exact sl)(hy:EV G y (.int k p):=by exact ev)(hu:und t=some (.slice e):=by rfl)(hz:szT e=some m:=by rfl)(hj:j<=n:=by omega):PR Tryz.prog G (.slice t x none (some y) none) (slOf 0 j m v):=fun a w o ho hg=>by
 obtain⟨b,c,rfl⟩:=(hs a w hg).len
 have h0:=hv _ _ _ rfl
 have h1:=und_ok hu
 have he:Tryz.prog.elem t=e:=by simp[Program.elem,h1]
 have ht:Tryz.prog.underlying t=some (.slice (Tryz.prog.elem t)):=by rw[he];exact h1
 have hr:=run_slice_h (P:=Tryz.prog) w t b n c ht k (j:Int) (by omega) (by omega)
 subst hp
 have hsA:(Instr.sliceAt t (.slice b n c) none (some (.int k (j:Int))) none).run Tryz.prog w = .ok (slOf 0 j m (.slice b n c)) w:=by
  rw[run_sliceAt_slice w t _ _ _ _ ht,hr,he,szT_ok hz]
  rfl
 unfold execOp
 simp only[ho,hx a w hg,hy a w hg,Option.map,Sem.run_bind,hsA,Result.andThen_ok,Sem.run_pure]
end
end
section
section
variable {D:List Deferred}{nt:Nat}{w0:World}{L:LT}{M:MT}{R:List Rw}{x y z:Operand}{v v2:Value}{ops:Array Oper}{rest:List Oper}{Q:Exit->Act->World->Prop}{tyo t t2:TypeId}{ps:String}{af:Array Edge}{d j:Nat}{G:Kn}{k k2:IntKind}{p q r:Int}{b c:UInt8}
theorem PR.shr (r:Int)(hx:EV G x (.int k p):=by exact ev)(hy:EV G y (.int k2 q):=by exact ev)(h:p/2^q.toNat=r:=by omega)(h0:0<=q/\q<=k.bits:=by decide):PR Tryz.prog G (.binOp .shr t x y t2) (.int k r):=fun a w _ ho hg=>run_shr ho (hx a w hg) (hy a w hg) h0.1 h0.2 h
theorem PR.and (r:Int)(hx:EV G x (.int k p):=by exact ev)(hy:EV G y (.int k q):=by exact ev)(h:bits .and k p q=r):PR Tryz.prog G (.binOp .and t x y t2) (.int k r):=fun a w _ ho hg=>run_and ho (hx a w hg) (hy a w hg) h
theorem PR.or (r:Int)(hx:EV G x (.int k p):=by exact ev)(hy:EV G y (.int k q):=by exact ev)(h:bits .or k p q=r):PR Tryz.prog G (.binOp .or t x y t2) (.int k r):=fun a w _ ho hg=>run_or ho (hx a w hg) (hy a w hg) h
theorem PR.shl (r:Int)(hx:EV G x (.int k p):=by exact ev)(hy:EV G y (.int k2 q):=by exact ev)(h0:0<=q/\q<=k.bits)(h:k.wrap (p*2^q.toNat)=r):PR Tryz.prog G (.binOp .shl t x y t2) (.int k r):=fun a w _ ho hg=>run_shl ho (hx a w hg) (hy a w hg) h0.1 h0.2 h
theorem PR.cn (r:Int)(hx:EV G x (.int k p):=by exact ev)(hu:und t=some (.int k):=by rfl)(hu2:und t2=some (.int .i64):=by rfl)(h:p=r ∧ -9223372036854775808<=r/\r<=9223372036854775807:=by omega):PR Tryz.prog G (.convert t t2 x) (i6 r):=PR.cv (wX h) hx hu hu2
theorem PR.xor8 (hx:EV G x (.int .u8 (b.toNat:Int)):=by exact ev)(hy:EV G y (.int .u8 (c.toNat:Int)):=by exact ev):PR Tryz.prog G (.binOp .xor t x y t2) (.int .u8 ((b^^^c).toNat:Int)):=fun a w _ ho hg=>run_xor8 ho (hx a w hg) (hy a w hg)
theorem EV.to (h:EV G x v)(e:v=v2):EV G x v2:=e▸h
theorem gcF {f:FuncId}{xs:List Operand}{args:List Value}{ts:Array TypeId}{oj:Oper}{sj:Nat}{b:Bool}(hc:b=true->∀ a w,St D nt w0 L M R a w->Calls Tryz.prog f args.toArray w fun e w'=>e = .returned v/\Below w.heap.size w w')(h:KX D nt w0 ((d,cond b v undef)::L) M R (wpList Tryz.prog ops Q rest))(hj:ops[j]?=some oj:=by rfl)(hd:oj.dst=some sj:=by rfl)(hf:lz L sj=some (.bool b):=by rfl)(he:EV (GC b (St D nt w0 L M R)) x (.func (.func f) #[] (args.drop xs.length).toArray):=by exact ev)(hx:EVs (GC b (St D nt w0 L M R)) xs (args.take xs.length):=by exact evs)(hb:Nat.blt d nt=true:=by rfl)(hg:(match Tryz.prog.funcs[f]? with | some fn=>!(fn.name == "runtime.NumGoroutine")&&fn.body.isSome | none=>false)=true:=by kernel_rfl):KX D nt w0 L M R (wpList Tryz.prog ops Q (⟨some d,.call { callee:=.value x,args:=xs.toArray,argTypes:=ts },tyo,ps,af,some (j,true)⟩::rest)):=fun a w hs=>by
 have h1:=St.wanted hs (ops:=ops) (o:=⟨some d,.call { callee:=.value x,args:=xs.toArray,argTypes:=ts },tyo,ps,af,some (j,true)⟩) rfl hj hd hf
 cases b with
 | true=>exact sqC hs.f hs.m h1 (run_callG rfl (he a w ⟨hs,rfl⟩) hg (hx.arr ⟨hs,rfl⟩)) rfl (Nat.le_of_ble_eq_true hb) (by rw[List.append_toArray,List.take_append_drop];exact hc rfl a w hs) fun a2 w2 hB hF _=>h a2 w2 ⟨hF,hs.m.grow hB,fun x hx=>(hs.r x hx).grow hB,hs.nd⟩
 | false=>exact sqSkip hs.f h1 rfl (Nat.le_of_ble_eq_true hb) fun a2 hF=>h a2 w ⟨hF,hs.m,hs.r,hs.nd⟩
theorem own_one {w:World}{B m n:Nat}{e:TypeId}{u:Value}{xs:List Value}(h:w.ownsRow B e m u n xs):u.oneCell'=true:=by
 obtain⟨_,_,_,rfl⟩:=own_slice h
 rfl
theorem gcD {f:FuncId}{xs:List Operand}{args:List Value}{ts:Array TypeId}{oj:Oper}{sj:Nat}{b:Bool}(hc:b=false->∀ a w,St D nt w0 L M R a w->Calls Tryz.prog f args.toArray w fun e w'=>e = .returned v/\Below w.heap.size w w')(h:KX D nt w0 ((d,cond (!b) v undef)::L) M R (wpList Tryz.prog ops Q rest))(hj:ops[j]?=some oj:=by rfl)(hd:oj.dst=some sj:=by rfl)(hf:lz L sj=some (.bool b):=by rfl)(hx:EVs (GC (!b) (St D nt w0 L M R)) xs args:=by exact evs)(hb:Nat.blt d nt=true:=by rfl)(hg:(match Tryz.prog.funcs[f]? with | some fn=>!(fn.name == "runtime.NumGoroutine")&&fn.body.isSome | none=>false)=true:=by kernel_rfl):KX D nt w0 L M R (wpList Tryz.prog ops Q (⟨some d,.call { callee:=.value (.func f),args:=xs.toArray,argTypes:=ts },tyo,ps,af,some (j,false)⟩::rest)):=fun a w hs=>by
 have h1:=St.wanted hs (ops:=ops) (o:=⟨some d,.call { callee:=.value (.func f),args:=xs.toArray,argTypes:=ts },tyo,ps,af,some (j,false)⟩) rfl hj hd hf
 cases b with
 | false=>exact sqC hs.f hs.m h1 (run_callK rfl hg (hx.arr ⟨hs,rfl⟩)) rfl (Nat.le_of_ble_eq_true hb) (hc rfl a w hs) fun a2 w2 hB hF _=>h a2 w2 ⟨hF,hs.m.grow hB,fun x hx=>(hs.r x hx).grow hB,hs.nd⟩
 | true=>exact sqSkip hs.f h1 rfl (Nat.le_of_ble_eq_true hb) fun a2 hF=>h a2 w ⟨hF,hs.m,hs.r,hs.nd⟩
theorem os (i:Nat){X:Act->World->Prop}{e:TypeId}{m n:Nat}{xs:List Value}(h:v.oneCell'=true->CapOk v->KX D nt w0 L M R X)(hi:R[i]?=some ⟨v,e,m,n,xs⟩:=by rfl):KX D nt w0 L M R X:=fun a w hs=>h (own_one (hs.row i hi).owns) (CapOk.own (hs.row i hi).owns) a w hs
theorem nr (e:TypeId)(m:Nat){X:Act->World->Prop}(h:KX D nt w0 L M (⟨nv,e,m,0,[]⟩::R) X):KX D nt w0 L M R X:=fun a w hs=>h a w ⟨hs.f,hs.m,fun x hx=>by
 rcases List.mem_cons.1 hx with rfl | hx
 ·exact OwnR.nil w0 w M e m
 ·exact hs.r x hx,List.Pairwise.cons (fun x _ g hg=>by cases hg) hs.nd⟩
theorem rc (i:Nat){X:Act->World->Prop}{e:TypeId}{m n:Nat}{xs:List Value}(n2:Nat)(xs2:List Value)(hi:R[i]?=some ⟨v,e,m,n,xs⟩:=by rfl)(hn:n=n2)(hx:xs=xs2)(h:KX D nt w0 L M (R.set i ⟨v,e,m,n2,xs2⟩) X):KX D nt w0 L M R X:=by
 subst hn hx
 have:R.set i ⟨v,e,m,n,xs⟩=R:=by
  obtain⟨h1,h2⟩:=List.getElem?_eq_some_iff.1 hi
  rw[←h2];exact List.set_getElem_self h1
 rwa[this] at h
theorem cell1 {u:Value}(h:u.oneCell'=true):u.cells = #[u]:=by cases u <;> first | rfl | cases h
theorem s1 (i:Nat){g o:Nat}{ty:TypeId}{cur cs:Array Value}(h:KX D nt w0 L (M.set i (g,isB t cs)) R (wpList Tryz.prog ops Q rest))(e:M[i]?=some (g,isB t cur):=by rfl)(hx:EV (St D nt w0 L M R) x (px g o):=by exact ev)(hy:EV (St D nt w0 L M R) y v:=by exact ev)(hs:szT ty=some 1:=by rfl)(h1:v.oneCell'=true:=by first | rfl | assumption)(ho:o+1<=cur.size:=by first | decide | (simp;done) | omega)(hcs:spl cur o [v]=cs:=by rfl):KX D nt w0 L M R (wpList Tryz.prog ops Q (⟨none,.store ty x y,tyo,ps,af,none⟩::rest)) :=
 kStore hx hy e hs (by rw[cell1 h1];rfl) (by rw[cell1 h1];exact allA (by simp[h1])) ho (by rw[cell1 h1];exact hcs) h
theorem oS (cs:Array Value){l:List Oper}{Bs n m:Nat}{e:TypeId}{parts:List (Nat×Operand)}{vs:LT}(hB:∀ a W,G a W->Bs<=W.heap.size)(hp:EVp G parts vs:=by exact evp)(hr:∀ w,(Instr.buildSlice t n vs.toArray).run Tryz.prog w = .ok (.slice (some ⟨w.heap.size,0,none⟩) n n) (w.alloc (.cells cs e)):=by intro _;kernel_rfl)(hs:cs.toList.length=n*m:=by rfl)(hn:n<=maxLen:=by decide):OPd Tryz.prog G ⟨some d,.buildSlice t n parts.toArray,tyo,ps,af,none⟩ l (.tel [e] (.row e m n cs.toList fun v=>.ret v)) Bs :=
 oR (run:=true) hB (fun a W h=>by
  have h2:=hr W
  unfold execOp
  simp only[hp.arr h,h2,Sem.run_bind,Result.andThen_ok,Sem.run_pure,Array.toArray_toList]) hs hn
theorem oO1 {nt:Nat}{w0:World}{l:List Oper}{KL:List Kp}{AL:List NewZ}{BL:List OldQ}{js:List Nat}{Bs i j s m n:Nat}{e:TypeId}{xs:List Value}{o:Oper}{k:Kp}(hQ:∀ a W,G a W->QZ D nt w0 L M R l KL AL BL js Bs i a W)(h:∀ u,OPd Tryz.prog (QY G s u Bs [⟨u,e,m,n,xs⟩]) o l k Bs)(hj:dIdx l s 0=some j:=by rfl)(hK:KL.getD j .any = .tel [e] (.row e m n xs fun v=>.ret v):=by rfl)(hb:depB l i j s=true:=by kernel_rfl)(hA:(AL.all fun d=>!(Nat.beq d.iA j))=true:=by kernel_rfl):OPd Tryz.prog G o l k Bs:=oO (T:=.row e m n xs fun v=>.ret v) s hQ h hj hK hb hA
section
variable {nt:Nat}{w0:World}{l:List Oper}{KL:List Kp}{AL:List NewZ}{BL:List OldQ}{js:List Nat}{Bs i j s kk:Nat}
theorem ez (h:lz L s=some v:=by rfl)(hd:(l.all fun o=>o.dst != some s)=true:=by kernel_rfl):EV (QZ D nt w0 L M R l KL AL BL js Bs i) (.tmp s) v:=EV.zz h hd
theorem ed (hj:dIdx l s 0=some j:=by rfl)(hK:KL.getD j .any = .val v:=by rfl)(hb:depB l i j s=true:=by kernel_rfl)(hA:(AL.all fun d=>!(Nat.beq d.iA j))=true:=by kernel_rfl):EV (QZ D nt w0 L M R l KL AL BL js Bs i) (.tmp s) v:=EV.dd hj hK hb hA
theorem mk' (kk:Nat){g:Nat}{t:TypeId}{cs:Array Value}(h:M[kk]?=some (g,isB t cs):=by rfl)(hj:(js.all fun j=>!(Nat.beq j kk))=true:=by rfl):MB (QZ D nt w0 L M R l KL AL BL js Bs i) g t cs:=MB.zz kk h hj
end
theorem PR.b2s {s Bs:Nat}{vr:Value}{rs:List Rw}{l:List UInt8}{G0:Kn}(hm:(⟨vr,5,1,l.length,l.map cb⟩:Rw)∈rs)(hx:EV (QY G0 s v Bs rs) x vr:=by exact ev):PR Tryz.prog (QY G0 s v Bs rs) (.convert 75 9 x) (sv l):=fun a w _ ho hg=>by
 have h1:=hg.2.2 _ hm
 unfold execOp
 simp only[ho,hx a w hg,Sem.run_bind,run_strOwn h1,Result.andThen_ok,Sem.run_pure]
theorem qv {fn:Func}{rs:List ResultVar}{vs:List Value}{u:Value}(hr:fn.results=rs.toArray:=by rfl)(hvs:RSs [] nt w0 L M R rs vs:=by exact rss)(hv:tupV vs=u:=by rfl)(h1:rs ≠ []:=by simp)(h5:rs.length<=5:=by decide):KX [] nt w0 L M R (bodyPost Tryz.prog fn (fun e w'=>e = .returned u/\Below w0.heap.size w0 w') .ret):=er (fun _ _ h=>⟨by rw[hv],h.m.below⟩) hr hvs h1 h5
end
section
variable {D:List Deferred}{nt:Nat}{w0:World}{L:LT}{M:MT}{R:List Rw}{Q:Exit->Act->World->Prop}{cc:Code}
def Rd2 {A B:Type}(I:A->B->Prop)(mu:A->B->Nat)(m:Nat)(D:List Deferred)(nt:Nat)(w0:World)(L:A->B->LT)(MM:A->B->MT)(RR:A->B->List Rw):Kn:=fun a w=>∃ q:A×B,I q.1 q.2/\mu q.1 q.2<m/\St D nt w0 (L q.1 q.2) (MM q.1 q.2) (RR q.1 q.2) a w
theorem lo2 {A B:Type}(I:A->B->Prop)(mu:A->B->Nat)(L:A->B->LT)(MM:A->B->MT)(RR:A->B->List Rw)(x0:A)(y0:B)(h0:I x0 y0){L0:LT}{M0:MT}{R0:List Rw}(hs:∀ a w,St D nt w0 L0 M0 R0 a w->St D nt w0 (L x0 y0) (MM x0 y0) (RR x0 y0) a w)
  (h:∀ x y,I x y->KX D nt w0 (L x y) (MM x y) (RR x y) (cc.wp Tryz.prog (Exit.then (Rd2 I mu (mu x y) D nt w0 L MM RR) Q))):KX D nt w0 L0 M0 R0 ((Code.loop cc).wp Tryz.prog Q):=lo (fun q=>I q.1 q.2) (fun q=>mu q.1 q.2) (fun q=>L q.1 q.2) (fun q=>MM q.1 q.2) (fun q=>RR q.1 q.2) (x0,y0) h0 hs fun q hq=>h q.1 q.2 hq
theorem bk2 {A B:Type}{I:A->B->Prop}{mu:A->B->Nat}{LL:A->B->LT}{MM:A->B->MT}{RR:A->B->List Rw}{m:Nat}(x:A)(y:B)(hI:I x y)(hm:mu x y<m)(hs:∀ a w,St D nt w0 L M R a w->St D nt w0 (LL x y) (MM x y) (RR x y) a w):KX D nt w0 L M R (Rd2 I mu m D nt w0 LL MM RR):=fun a w h=>⟨(x,y),hI,hm,hs a w h⟩
def Rd3 {A B C:Type}(I:A->B->C->Prop)(mu:A->B->C->Nat)(m:Nat)(D:List Deferred)(nt:Nat)(w0:World)(L:A->B->C->LT)(MM:A->B->C->MT)(RR:A->B->C->List Rw):Kn:=fun a w=>∃ q:A×B×C,I q.1 q.2.1 q.2.2/\mu q.1 q.2.1 q.2.2<m/\St D nt w0 (L q.1 q.2.1 q.2.2) (MM q.1 q.2.1 q.2.2) (RR q.1 q.2.1 q.2.2) a w
theorem lo3 {A B C:Type}(I:A->B->C->Prop)(mu:A->B->C->Nat)(L:A->B->C->LT)(MM:A->B->C->MT)(RR:A->B->C->List Rw)(x0:A)(y0:B)(z0:C)(h0:I x0 y0 z0){L0:LT}{M0:MT}{R0:List Rw}(hs:∀ a w,St D nt w0 L0 M0 R0 a w->St D nt w0 (L x0 y0 z0) (MM x0 y0 z0) (RR x0 y0 z0) a w)
  (h:∀ x y z,I x y z->KX D nt w0 (L x y z) (MM x y z) (RR x y z) (cc.wp Tryz.prog (Exit.then (Rd3 I mu (mu x y z) D nt w0 L MM RR) Q))):KX D nt w0 L0 M0 R0 ((Code.loop cc).wp Tryz.prog Q):=lo (fun q=>I q.1 q.2.1 q.2.2) (fun q=>mu q.1 q.2.1 q.2.2) (fun q=>L q.1 q.2.1 q.2.2) (fun q=>MM q.1 q.2.1 q.2.2) (fun q=>RR q.1 q.2.1 q.2.2) (x0,y0,z0) h0 hs fun q hq=>h q.1 q.2.1 q.2.2 hq
theorem bk3 {A B C:Type}{I:A->B->C->Prop}{mu:A->B->C->Nat}{LL:A->B->C->LT}{MM:A->B->C->MT}{RR:A->B->C->List Rw}{m:Nat}(x:A)(y:B)(z:C)(hI:I x y z)(hm:mu x y z<m)(hs:∀ a w,St D nt w0 L M R a w->St D nt w0 (LL x y z) (MM x y z) (RR x y z) a w):KX D nt w0 L M R (Rd3 I mu m D nt w0 LL MM RR):=fun a w h=>⟨(x,y,z),hI,hm,hs a w h⟩
def Rd4 {A B C E:Type}(I:A->B->C->E->Prop)(mu:A->B->C->E->Nat)(m:Nat)(D:List Deferred)(nt:Nat)(w0:World)(L:A->B->C->E->LT)(MM:A->B->C->E->MT)(RR:A->B->C->E->List Rw):Kn:=fun a w=>∃ q:A×B×C×E,I q.1 q.2.1 q.2.2.1 q.2.2.2/\mu q.1 q.2.1 q.2.2.1 q.2.2.2<m/\St D nt w0 (L q.1 q.2.1 q.2.2.1 q.2.2.2) (MM q.1 q.2.1 q.2.2.1 q.2.2.2) (RR q.1 q.2.1 q.2.2.1 q.2.2.2) a w
theorem lo4 {A B C E:Type}(I:A->B->C->E->Prop)(mu:A->B->C->E->Nat)(L:A->B->C->E->LT)(MM:A->B->C->E->MT)(RR:A->B->C->E->List Rw)(x0:A)(y0:B)(z0:C)(u0:E)(h0:I x0 y0 z0 u0){L0:LT}{M0:MT}{R0:List Rw}(hs:∀ a w,St D nt w0 L0 M0 R0 a w->St D nt w0 (L x0 y0 z0 u0) (MM x0 y0 z0 u0) (RR x0 y0 z0 u0) a w)
  (h:∀ x y z u,I x y z u->KX D nt w0 (L x y z u) (MM x y z u) (RR x y z u) (cc.wp Tryz.prog (Exit.then (Rd4 I mu (mu x y z u) D nt w0 L MM RR) Q))):KX D nt w0 L0 M0 R0 ((Code.loop cc).wp Tryz.prog Q):=lo (fun q=>I q.1 q.2.1 q.2.2.1 q.2.2.2) (fun q=>mu q.1 q.2.1 q.2.2.1 q.2.2.2) (fun q=>L q.1 q.2.1 q.2.2.1 q.2.2.2) (fun q=>MM q.1 q.2.1 q.2.2.1 q.2.2.2) (fun q=>RR q.1 q.2.1 q.2.2.1 q.2.2.2) (x0,y0,z0,u0) h0 hs fun q hq=>h q.1 q.2.1 q.2.2.1 q.2.2.2 hq
theorem bk4 {A B C E:Type}{I:A->B->C->E->Prop}{mu:A->B->C->E->Nat}{LL:A->B->C->E->LT}{MM:A->B->C->E->MT}{RR:A->B->C->E->List Rw}{m:Nat}(x:A)(y:B)(z:C)(u:E)(hI:I x y z u)(hm:mu x y z u<m)(hs:∀ a w,St D nt w0 L M R a w->St D nt w0 (LL x y z u) (MM x y z u) (RR x y z u) a w):KX D nt w0 L M R (Rd4 I mu m D nt w0 LL MM RR):=fun a w h=>⟨(x,y,z,u),hI,hm,hs a w h⟩
end
/-- what is known of the values of the first rows. -/
def osT :List Rw->Nat->Prop->Prop
 | _,0,X=>X
 | [],_+1,X=>X
 | r::_,1,X=>r.v.oneCell'=true->CapOk r.v->X
 | r::R,n+2,X=>r.v.oneCell'=true->CapOk r.v->osT R (n+1) X
theorem osL_aux {D:List Deferred}{nt:Nat}{w0:World}{L:LT}{M:MT}{R:List Rw}{X:Act->World->Prop}:∀ (n k:Nat),osT (R.drop k) n (KX D nt w0 L M R X)->KX D nt w0 L M R X
 | 0,_,h=>by rw[osT] at h;exact h
 | 1,k,h=>by
  by_cases hk:k<R.length
  ·rw[List.drop_eq_getElem_cons hk] at h
   exact os (v:=R[k].v) (e:=R[k].e) (m:=R[k].m) (n:=R[k].n) (xs:=R[k].xs) k h (by rw[List.getElem?_eq_getElem hk])
  ·rw[List.drop_of_length_le (by omega)] at h
   exact h
 | n+2,k,h=>by
  by_cases hk:k<R.length
  ·rw[List.drop_eq_getElem_cons hk] at h
   exact os (v:=R[k].v) (e:=R[k].e) (m:=R[k].m) (n:=R[k].n) (xs:=R[k].xs) k (fun h1 h2=>osL_aux (n+1) (k+1) (h h1 h2)) (by rw[List.getElem?_eq_getElem hk])
  ·rw[List.drop_of_length_le (by omega)] at h
   exact h
theorem osL (n:Nat){D:List Deferred}{nt:Nat}{w0:World}{L:LT}{M:MT}{R:List Rw}{X:Act->World->Prop}(h:osT R n (KX D nt w0 L M R X)):KX D nt w0 L M R X:=osL_aux n 0 h
theorem allC {u:Value}{l:List Value}(h:u.oneCell'=true)(h2:(l.all fun u=>u.oneCell')=true):((u::l).all fun u=>u.oneCell')=true:=by rw[List.all_cons,h,h2];rfl
theorem onesA {l:List Value}(h:(l.all fun u=>u.oneCell')=true:=by(repeat refine allC (by first | assumption | rfl) ?_);rfl):∀ u∈l,u.oneCell'=true:=List.all_eq_true.1 h
end
section
section
variable {D:List Deferred}{nt:Nat}{w0:World}{L:LT}{M:MT}{R:List Rw}{x y:Operand}{v:Value}{Q:Exit->Act->World->Prop}{t e:TypeId}{G:Kn}{k:IntKind}{p:Int}{i n m g o:Nat}{cc:Code}{cs:Array Value}
theorem PR.ia (i:Nat)(hx:EV G x (px g o):=by exact ev)(hy:EV G y (.int k p):=by exact ev)(hp:p=(i:Int):=by rfl)(hu:und t=some (.array n e):=by rfl)(hz:szT e=some m:=by rfl)(hi:i<n:=by omega):PR Tryz.prog G (.indexAddr t x y) (px g (o+i*m)):=fun a w op ho hg=>by
 have hu:=und_ok hu
 have hz:=szT_ok hz w
 have hx:=hx a w hg
 have hy:=hy a w hg
 subst hp
 have h1:(i:Int).toNat=i:=Int.toNat_natCast i
 have h2:(0:Int)<=(i:Int):=Int.natCast_nonneg i
 have h3:(i:Int)<(n:Int):=Int.ofNat_lt.2 hi
 unfold execOp
 simp only[ho,hx,hy]
 by_cases h0:i*m=0
 ·simp[go_sem,hu,hz,h3,Addr.add,h0]
 ·simp[go_sem,hu,hz,h3,Addr.add,h0]
theorem PR.xa (i:Nat)(hx:EV G x (.agg cs):=by exact ev)(hy:EV G y (.int k (i:Int)):=by exact ev)(hu:und t=some (.array n e):=by rfl)(ha:agT e=some true:=by rfl)(hz:szT e=some m:=by rfl)(hi:i<n:=by omega):PR Tryz.prog G (.index t x y) (.agg (cs.extract (i*m) (i*m+m))):=fun a w op ho hg=>by
 have h0:(0:Int)<=i/\(i:Int)<n:=by omega
 have h1:(Instr.index t (.agg cs) (.int k (i:Int))).run Tryz.prog w = .ok (.agg (cs.extract (i*m) (i*m+m))) w:=by
  simp[Instr.index,asIntOf,run_underlying (und_ok hu),h0,szT_ok hz,part,agT_ok ha]
  exact fun h=>absurd h (by omega)
 unfold execOp
 simp only[ho,hx a w hg,hy a w hg,Sem.run_bind,h1,Result.andThen_ok,Sem.run_pure]
theorem PR.xl (i:Nat)(ys:List Value)(hx:EV G x (.agg cs):=by exact ev)(hy:EV G y (.int k (i:Int)):=by exact ev)(hu:und t=some (.array n e):=by rfl)(ha:agT e=some true:=by rfl)(hz:szT e=some m:=by rfl)(hl:(cs.toList.drop (i*m)).take m=ys:=by rfl)(hi:i<n:=by omega):PR Tryz.prog G (.index t x y) (.agg ys.toArray):=(PR.xa i hx hy hu ha hz hi).to (by rw[←hl];congr 1;apply Array.ext';simp[List.extract_eq_take_drop])
theorem kL (L2:LT){X:Act->World->Prop}(h:KX D nt w0 L2 M R X)(hL:subs L L2:=by repeat (first | exact trivial | refine⟨rfl,?_⟩)):KX D nt w0 L M R X:=fun a w hs=>h a w ⟨hs.f.sub hL,hs.m,hs.r,hs.nd⟩
theorem kM (i:Nat)(cs2:Array Value){X:Act->World->Prop}{g:Nat}{t:TypeId}{cs:Array Value}(h:KX D nt w0 L (M.set i (g,isB t cs2)) R X)(e:M[i]?=some (g,isB t cs):=by rfl)(hc:cs=cs2:=by rfl):KX D nt w0 L M R X:=by
 subst hc
 have:M.set i (g,isB t cs)=M:=by
  obtain⟨h1,h2⟩:=List.getElem?_eq_some_iff.1 e
  rw[←h2];exact List.set_getElem_self h1
 rwa[this] at h
theorem PR.sA (hx:EV G x (px g o):=by exact ev)(hu:und t=some (.array n e):=by rfl)(hz:szT e=some 1:=by rfl)(hn:0<n:=by decide):PR Tryz.prog G (.slice t x none none none) (.slice (some ⟨g,o,none⟩) n n):=fun a w op ho hg=>by
 have h1:=run_sliceArr_all (P:=Tryz.prog) (und_ok hu) (szT_ok hz) g o hn w
 unfold execOp
 simp only[ho,hx a w hg,Option.map,Sem.run_bind,h1,Result.andThen_ok,Sem.run_pure]
theorem PR.bB {c:Nat}{l:List UInt8}(hx:EV G x (.slice (some ⟨g,0,none⟩) n c):=by exact ev)(hm:MB G g t (cells8 l):=by exact mb)(hl:l.length=n:=by assumption):PR Tryz.prog G (.convert 75 9 x) (sv l):=fun a w op ho hg=>by
 have h1:=run_strBlk (cap:=c) hl (hm a w hg)
 unfold execOp
 simp only[ho,hx a w hg,Sem.run_bind,h1,Result.andThen_ok,Sem.run_pure]
theorem blkSl {w:World}{k:Nat}(h:Blk w g t cs)(hl:cs.toList.length=k*m):Sl w (.slice (some ⟨g,0,none⟩) k k) m k cs.toList:=⟨hl,.inr ⟨g,0,k,rfl,lt_of_ob h,fun j u hj=>by rw[Nat.zero_add,h.cell];simpa using hj⟩⟩
theorem oGC {f:FuncId}{xs:List Operand}{vs:List Value}{ts:Array TypeId}{oj:Oper}{l:List Oper}{Bs s d j:Nat}{ty:TypeId}{ps:String}{af:Array Edge}{b:Bool}(hc:b=false->∀ a w,G a w->Calls Tryz.prog f vs.toArray w fun e w'=>e = .returned v/\Below w.heap.size w w')(hj:l[j]?=some oj:=by rfl)(hs:oj.dst=some s:=by rfl)(he:EV G (.tmp s) (.bool b):=by exact ev)(hx:EVs (GC (!b) G) xs vs:=by exact evs)(hg:(match Tryz.prog.funcs[f]? with | some fn=>!(fn.name == "runtime.NumGoroutine")&&fn.body.isSome | none=>false)=true:=by kernel_rfl):OPd Tryz.prog G ⟨some d,.call { callee:=.value (.func f),args:=xs.toArray,argTypes:=ts },ty,ps,af,some (j,false)⟩ l (.val (cond (!b) v undef)) Bs:=fun a W h=>by
 have h2:a.eval (.tmp s) = .bool b:=he a W h
 have h1:Region.wanted (⟨some d,.call { callee:=.value (.func f),args:=xs.toArray,argTypes:=ts },ty,ps,af,some (j,false)⟩:Oper) (yielded l.toArray a.tmps) = !b:=by
  have h3:(a.tmps[s]?).getD undef = .bool b:=by simpa[Act.eval] using h2
  simp only[Region.wanted,yielded,List.getElem?_toArray,hj,hs,Option.bind_some]
  cases h4:a.tmps[s]? with
  | none=>rw[h4] at h3;cases h3
  | some u=>rw[h4] at h3;rw[show u = .bool b from h3];cases b <;> rfl
 cases b with
 | false=>exact .inl ⟨h1,givz_callV (P:=Tryz.prog) (f:=f) (args:=vs.toArray) (run_callK (o:=⟨some d,.call { callee:=.value (.func f),args:=xs.toArray,argTypes:=ts },ty,ps,af,some (j,false)⟩) rfl hg (hx.arr ⟨h,rfl⟩)) (hc rfl a W h)⟩
 | true=>exact .inr ⟨h1,rfl⟩
theorem jn (L2:LT)(M2:MT)(R2:List Rw){c1 c2:Code}(h1:KX D nt w0 L M R (c1.wp Tryz.prog (Exit.then (St D nt w0 L2 M2 R2) Q)))(h2:KX D nt w0 L2 M2 R2 (c2.wp Tryz.prog Q)):KX D nt w0 L M R ((Code.seq c1 c2).wp Tryz.prog Q):=fun a w hs=>wp_seq (wp_mono (h1 a w hs) fun e a2 w2 hq=>by
 cases e with
 | normal=>exact h2 a2 w2 hq
 | _=>exact hq)
theorem je {L2:LT}{M2:MT}{R2:List Rw}(hs:∀ a w,St D nt w0 L M R a w->St D nt w0 L2 M2 R2 a w):KX D nt w0 L M R (St D nt w0 L2 M2 R2):=hs
def StP (P:Prop)(D:List Deferred)(nt:Nat)(w0:World)(L:LT)(M:MT)(R:List Rw):Kn:=fun a w=>P/\St D nt w0 L M R a w
theorem jp (P:Prop)(L2:LT)(M2:MT)(R2:List Rw){c1 c2:Code}(h1:KX D nt w0 L M R (c1.wp Tryz.prog (Exit.then (StP P D nt w0 L2 M2 R2) Q)))(h2:P->KX D nt w0 L2 M2 R2 (c2.wp Tryz.prog Q)):KX D nt w0 L M R ((Code.seq c1 c2).wp Tryz.prog Q):=fun a w hs=>wp_seq (wp_mono (h1 a w hs) fun e a2 w2 hq=>by
 cases e with
 | normal=>exact h2 hq.1 a2 w2 hq.2
 | _=>exact hq)
theorem jq {P:Prop}{L2:LT}{M2:MT}{R2:List Rw}(hP:P)(hs:∀ a w,St D nt w0 L M R a w->St D nt w0 L2 M2 R2 a w):KX D nt w0 L M R (StP P D nt w0 L2 M2 R2):=fun a w h=>⟨hP,hs a w h⟩
theorem lr (n:Nat)(h:KX D nt w0 L M R (Code.rounds Tryz.prog cc Q n)):KX D nt w0 L M R ((Code.loop cc).wp Tryz.prog Q):=fun a w hs=>wp_loop_rounds n (h a w hs)
theorem un (h:KX D nt w0 L M R (cc.wp Tryz.prog (Exit.then (Code.rounds Tryz.prog cc Q n) Q))):KX D nt w0 L M R (Code.rounds Tryz.prog cc Q (n+1)):=fun a w hs=>h a w hs
end
end

structure Ob where
 nm:List UInt8
 da:List UInt8
 wa:List UInt8
 had:Bool
abbrev noOb :Ob:=⟨[],[],[],false⟩
def obC (o:Ob):List Value:=[tx o.nm,tx o.da,tx o.wa,.bool o.had]
theorem obC_len (o:Ob):(obC o).length=4:=rfl
theorem obC_one (o:Ob):∀ u∈obC o,u.oneCell'=true:=by
 intro u hu
 simp only[obC,List.mem_cons,List.not_mem_nil,or_false] at hu
 rcases hu with rfl | rfl | rfl | rfl <;> rfl
structure Shf where
 objs:List Ob
 fates:List Int
def chkO (p:Option Ob)(o:Ob):Int :=
 if o.nm.length<1\/100<o.nm.length then 7
 else if p.any (fun q=>o.nm==q.nm)=true then 8
 else if p.any (fun q=>Op.bytesLess o.nm q.nm)=true then 2
 else if 65536<o.da.length\/65536<o.wa.length then 6
 else if o.had=false/\o.wa ≠ [] then 3 else 0
def chkF :Option Ob->List Ob->Int
 | _,[]=>0
 | p,o::r=>if chkO p o=0 then chkF (some o) r else chkO p o
def chkS (l:List Ob):Int:=chkF none l
def ahO (l:List Ob)(i:Nat):Option Ob:=if i=0 then none else l[i-1]?
theorem chkF_step (l:List Ob){i:Nat}{o:Ob}(h:l[i]?=some o):chkF (ahO l i) (l.drop i)=if chkO (ahO l i) o=0 then chkF (ahO l (i+1)) (l.drop (i+1)) else chkO (ahO l i) o:=by
 obtain⟨hl,rfl⟩:=List.getElem?_eq_some_iff.1 h
 rw[List.drop_eq_getElem_cons hl,chkF]
 congr 1
 unfold ahO
 rw[if_neg (by omega),Nat.add_sub_cancel,h]
theorem chkF_end (l:List Ob)(i:Nat)(h:l.length<=i):chkF (ahO l i) (l.drop i)=0:=by
 rw[List.drop_eq_nil_of_le h];rfl
def bsN :Nat->(Nat->Bool)->Nat->Nat->Nat
 | 0,_,i,_=>i
 | f+1,p,i,j=>if i<j then(if p ((i+j)/2)=true then bsN f p ((i+j)/2+1) j else bsN f p i ((i+j)/2)) else i
theorem bsN_fuel (p:Nat->Bool):∀ (f g i j:Nat),j-i<=f->j-i<=g->bsN f p i j=bsN g p i j
 | 0,0,_,_,_,_=>rfl
 | 0,g+1,i,j,h,_=>by rw[bsN,bsN,if_neg (by omega)]
 | f+1,0,i,j,_,h=>by rw[bsN,bsN,if_neg (by omega)]
 | f+1,g+1,i,j,h1,h2=>by
  rw[bsN,bsN]
  by_cases h:i<j
  ·rw[if_pos h,if_pos h]
   rw[bsN_fuel p f g ((i+j)/2+1) j (by omega) (by omega),bsN_fuel p f g i ((i+j)/2) (by omega) (by omega)]
  ·rw[if_neg h,if_neg h]
def bsS (p:Nat->Bool)(i j:Nat):Nat:=bsN (j-i) p i j
theorem bsS_end (p:Nat->Bool){i j:Nat}(h:¬ i<j):bsS p i j=i:=by
 unfold bsS
 rw[show j-i=0 by omega];rfl
theorem bsS_yes {p:Nat->Bool}{i j:Nat}(h:i<j)(hp:p ((i+j)/2)=true):bsS p i j=bsS p ((i+j)/2+1) j:=by
 unfold bsS
 rw[bsN_fuel p (j-i) (j-i+1) i j (Nat.le_refl _) (Nat.le_succ _),bsN,if_pos h,if_pos hp,bsN_fuel p (j-i) (j-((i+j)/2+1)) _ _ (by omega) (Nat.le_refl _)]
theorem bsS_no {p:Nat->Bool}{i j:Nat}(h:i<j)(hp:p ((i+j)/2)=false):bsS p i j=bsS p i ((i+j)/2):=by
 unfold bsS
 rw[bsN_fuel p (j-i) (j-i+1) i j (Nat.le_refl _) (Nat.le_succ _),bsN,if_pos h,if_neg (by rw[hp];decide),bsN_fuel p (j-i) ((i+j)/2-i) _ _ (by omega) (Nat.le_refl _)]
theorem bsN_le (p:Nat->Bool):∀ (f i j:Nat),i<=j->i<=bsN f p i j/\bsN f p i j<=j
 | 0,i,j,h=>⟨Nat.le_refl _,h⟩
 | f+1,i,j,h=>by
  rw[bsN]
  by_cases h1:i<j
  ·rw[if_pos h1]
   split
   ·have:=bsN_le p f ((i+j)/2+1) j (by omega);omega
   ·have:=bsN_le p f i ((i+j)/2) (by omega);omega
  ·rw[if_neg h1];exact⟨Nat.le_refl _,h⟩
theorem bsS_le (p:Nat->Bool){i j:Nat}(h:i<=j):bsS p i j<=j:=(bsN_le p _ i j h).2
def cmpO (l:List Ob)(nm:List UInt8)(i:Nat):Int:=Lib.compareBytes (l.getD i noOb).nm nm
def findI (l:List Ob)(nm:List UInt8):Nat:=bsS (fun i=>decide (cmpO l nm i<0)) 0 l.length
def findB (l:List Ob)(nm:List UInt8):Bool:=decide (findI l nm<l.length)&&(cmpO l nm (findI l nm)==0)
theorem findI_le (l:List Ob)(nm:List UInt8):findI l nm<=l.length:=bsS_le _ (Nat.zero_le _)
theorem findB_lt {l:List Ob}{nm:List UInt8}(h:findB l nm=true):findI l nm<l.length:=by
 unfold findB at h
 rw[Bool.and_eq_true] at h
 exact of_decide_eq_true h.1
def putO (l:List Ob)(nm da:List UInt8):List Ob :=
 if findB l nm=true then l.set (findI l nm) ⟨nm,da,(l.getD (findI l nm) noOb).da,true⟩
 else l.take (findI l nm)++⟨nm,da,[],false⟩::l.drop (findI l nm)
def flipL (d:List UInt8):List UInt8:=if d = [] then [] else d.take (d.length-1) ++ [bt d (d.length-1)^^^1]
theorem flipL_len (d:List UInt8):(flipL d).length=d.length:=by
 unfold flipL
 split
 ·rename_i h;rw[h]
 ·rename_i h
  have:=List.length_pos_iff.2 h
  simp;omega
def askS (l:List Ob)(nm:List UInt8):Int:=if chkS l≠0 then chkS l else if nm.length<1\/100<nm.length then 7 else 0
def toldS (s:Shf)(nm:List UInt8):List UInt8×Int :=
 if askS s.objs nm≠0 then([],askS s.objs nm)
 else if s.fates.headD 0=4 then([],17)
 else if s.fates.headD 0=1\/findB s.objs nm=false\/(s.fates.headD 0=3/\(s.objs.getD (findI s.objs nm) noOb).had=false) then([],9)
 else if s.fates.headD 0=3 then((s.objs.getD (findI s.objs nm) noOb).wa,0)
 else if s.fates.headD 0=2 then(flipL (s.objs.getD (findI s.objs nm) noOb).da,0)
 else((s.objs.getD (findI s.objs nm) noOb).da,0)
abbrev obs (l:List Ob):List Value:=l.flatMap obC
abbrev nts (l:List Int):List Value:=l.map (Value.int .i64)
theorem obs_len (l:List Ob):(obs l).length=l.length*4:=by induction l with
 | nil=>rfl
 | cons a l ih=>simp only[obs,List.flatMap_cons,List.length_append,obC_len] at ih ⊢;rw[ih];simp only[List.length_cons];omega
theorem obs_at {l:List Ob}{i:Nat}{x:Ob}(h:l[i]?=some x)(j:Nat){u:Value}(hu:(obC x)[j]?=some u):(obs l)[i*4+j]?=some u:=flat_at obC_len h j hu
theorem obs_one (l:List Ob):∀ u∈obs l,u.oneCell'=true:=fun u hu=>by
 obtain⟨o,_,h⟩:=List.mem_flatMap.1 hu
 exact obC_one o u h
theorem nts_one (l:List Int):∀ u∈nts l,u.oneCell'=true:=fun u hu=>by
 obtain⟨i,_,rfl⟩:=List.mem_map.1 hu
 rfl
structure ShfIn (w:World)(u v:Value)(s:Shf):Prop where
 o:Sl w u 4 s.objs.length (obs s.objs)
 f:Sl w v 1 s.fates.length (nts s.fates)
 ho:s.objs.length<2^36
 hf:s.fates.length<2^36
theorem ShfIn.below {w w2:World}{u v:Value}{s:Shf}(h:ShfIn w u v s)(hb:Below w.heap.size w w2):ShfIn w2 u v s:=⟨h.o.below hb,h.f.below hb,h.ho,h.hf⟩
abbrev shT (s:Shf):Tele:=.row 73 4 s.objs.length (obs s.objs) fun x=>.row 3 1 s.fates.length (nts s.fates) fun y=>.ret (.agg #[x,y])
theorem cln_ob {n:Nat}{xs:List Value}{v:Value}{w:World}(hV:Sl w v 4 n xs)(h1:∀ u∈xs,u.oneCell'=true)(hn:n<2^36):RT 78 #[v] w (.row 73 4 n xs fun v=>.ret v):=cln hV h1 Tryz.func78
theorem cln_in {n:Nat}{xs:List Value}{v:Value}{w:World}(hV:Sl w v 1 n xs)(h1:∀ u∈xs,u.oneCell'=true)(hn:n<2^36):RT 79 #[v] w (.row 3 1 n xs fun v=>.ret v):=cln hV h1 Tryz.func79
theorem smay (s:List UInt8)(w:World):RV 203 #[sv s] w (.bool (decide (1<=s.length/\s.length<=100))):=by
 refine enter Tryz.func203 ?_
 refine r1 .as (rg (p4 .mv .ln .geq .mv (gTt (hp:=PR.mv) ?_)))
 refine gTt (hp:=PR.ln) ?_
 refine gTt (hp:=PR.leq) ?_
 exact p2 .pand .as (en (rt (q1' rfl rfl (by congr 1;rw[←Bool.decide_and];exact decide_eq_decide.2 (by omega)))))
theorem scop {u v:Value}{s:Shf}{w:World}(hS:ShfIn w u v s):RT 141 #[.agg #[u,v]] w (shT s):=by
 refine enter Tryz.func141 ?_
 refine rg (ba (fun g0=>?_))
 refine aa Tryz.zeroValue28 (fun g1=>en (dr [_,_,.tel [73] (.row 73 4 s.objs.length (obs s.objs) fun v=>.ret v),_,_,.tel [3] (.row 3 1 s.fates.length (nts s.fates) fun v=>.ret v),.tel [73,3] (shT s),.any] [] [⟨7,_,_,_,0,.tel [73,3] (shT s)⟩] [0] [] ⟨rfl,trivial⟩ (fun Bs=>⟨kv (oP (PR.fa ez)),kv (oP (PR.ld ed (mk' 1))),kv (oE (fun _ _ h=>h.size) (fun _ _ h=>cln_ob (hS.o.below h.low) (obs_one _) hS.ho)),kv (oP (PR.fa ez)),kv (oP (PR.ld ed (mk' 1))),kv (oE (fun _ _ h=>h.size) (fun _ _ h=>cln_in (hS.f.below h.low) (nts_one _) hS.hf)),kv oB2,ks 0,trivial⟩) (fun x y=>?_)))
 exact rt (et [0,1])
end Go.Proofs.YtdjholkjkbihmaaGreatDoor
