/- Laws and walks of TopNeverOther. -/
import Derived.ProofKit
import Derived.Lib.AppendZeros
import Derived.Sort.OwnSorted
import Derived.Shelf.Sort.Plain
import Derived.Shelf.Slices.In.SortNone
import Derived.Shelf.Slices.CompactS
import Derived.Maps.OwnSet
import Derived.StringKeys
import Derived.Test.YtdjholkjkbihmaaGreatDoorF11
namespace Go.Proofs.YtdjholkjkbihmaaGreatDoor
open Go.RowKit
set_option maxRecDepth 100000
set_option maxHeartbeats 4000000
section
theorem MR.conv {w0 w:World}{M M2:MT}{R R2:List Rw}(h:MR w0 M R w)(hM:M2.Perm M)(hR:R2.Perm R):MR w0 M2 R2 w :=
 ⟨(h.perm hM).m,fun x hx=>(h.perm hM).r x (hR.subset hx),hR.symm.pairwise h.nd fun {_ _} h=>apB_symm _ _ h⟩
theorem RM.conv {f:FuncId}{vs:Array Value}{w0:World}{M M2:MT}{R R2:List Rw}{A:Type}{I:A->Prop}{V:A->Value}{MM MM2:A->MT}{RR RR2:A->List Rw}(h:RM f vs w0 M R I V MM RR)(hM:M.Perm M2)(hR:R.Perm R2)(hM2:∀ x,(MM2 x).Perm (MM x))(hR2:∀ x,(RR2 x).Perm (RR x)):RM f vs w0 M2 R2 I V MM2 RR2:=fun w hw=>
 (h w (hw.conv hM hR)).mono fun _ _ ⟨x,h1,h2,h3⟩=>⟨x,h1,h2,h3.conv (hM2 x) (hR2 x)⟩
theorem RM.mid {f:FuncId}{vs:Array Value}{w0:World}{M M1:MT}{S R R1:List Rw}{A:Type}{I:A->Prop}{V:A->Value}{MM:A->MT}{SS RR:A->List Rw}(h:RM f vs w0 (M++M1) (S++(R++R1)) I V (fun x=>MM x++M1) (fun x=>SS x++(RR x++R1))):RM f vs w0 (M1++M) (S++(R1++R)) I V (fun x=>M1++MM x) (fun x=>SS x++(R1++RR x)) :=
 h.conv List.perm_append_comm (.append_left _ List.perm_append_comm) (fun _=>List.perm_append_comm) (fun _=>.append_left _ List.perm_append_comm)
theorem blk_of {w:World}{g:Nat}{t:TypeId}{cs:Array Value}(h:∃ ob,w.heap[g]?=some ob/\isB t cs ob):Blk w g t cs:=by
 obtain⟨ob,h1,h2⟩:=h
 rw[show ob=_ from h2] at h1
 exact h1
theorem MB.w0 {D:List Deferred}{nt:Nat}{w0:World}{L:LT}{M:MT}{R:List Rw}{g:Nat}{t:TypeId}{cs:Array Value}(h:Blk w0 g t cs):MB (St D nt w0 L M R) g t cs:=fun _ _ hs=>h.below hs.m.below h.lt
theorem list_set_self {α:Type}{l:List α}{i:Nat}{x:α}(h:l[i]?=some x):l.set i x=l:=by
 obtain⟨hi,rfl⟩:=List.getElem?_eq_some_iff.1 h
 exact List.set_getElem_self hi
theorem js1 {j k:Nat}(h:j<k):([j].all fun q=>!(Nat.beq q k))=true:=by
 rw[List.all_cons,List.all_nil,Bool.and_true]
 cases hq:Nat.beq j k with
 | false=>rfl
 | true=>have:=Nat.eq_of_beq_eq_true hq;omega
section
variable {D:List Deferred}{nt:Nat}{w0:World}{L:LT}{M:MT}{R:List Rw}{l:List Oper}{KL:List Kp}{AL:List NewZ}{BL:List OldQ}{js:List Nat}{Bs i j s d:Nat}{G:Kn}{x:Operand}{v:Value}{ty:TypeId}{ps:String}{af:Array Edge}
theorem oCF {f:FuncId}{xs:List Operand}{args:List Value}{ts:Array TypeId}(hc:∀ a w,G a w->Calls Tryz.prog f args.toArray w fun e w'=>e = .returned v/\Below w.heap.size w w')(he:EV G x (.func (.func f) #[] (args.drop xs.length).toArray))(hx:EVs G xs (args.take xs.length))(hg:(match Tryz.prog.funcs[f]? with | some fn=>!(fn.name == "runtime.NumGoroutine")&&fn.body.isSome | none=>false)=true):OPd Tryz.prog G ⟨some d,.call { callee:=.value x,args:=xs.toArray,argTypes:=ts },ty,ps,af,none⟩ l (.val v) Bs:=fun a W h=>
 .inl ⟨wanted_yes rfl,givz_callV (P:=Tryz.prog) (f:=f) (args:=args.toArray) (by
  have:=run_callG (w:=W) (o:=⟨some d,.call { callee:=.value x,args:=xs.toArray,argTypes:=ts },ty,ps,af,none⟩) rfl (he a W h) hg (hx.arr h)
  rw[List.append_toArray,List.take_append_drop] at this
  exact this) (hc a W h)⟩
theorem oX0 {e e2:TypeId}{m n m2 n2:Nat}{xs xs2:List Value}{u:Value}(hj:dIdx l s 0=some j:=by rfl)(hK:KL.getD j .any = .tel [e,e2] (.row e m n xs fun x=>.row e2 m2 n2 xs2 fun y=>.ret (.tuple #[.agg #[x,y],u])):=by rfl)(hb:depB l i j s=true:=by kernel_rfl)(hA:(AL.all fun d=>!(Nat.beq d.iA j))=true:=by kernel_rfl):OPd Tryz.prog (QZ D nt w0 L M R l KL AL BL js Bs i) ⟨some d,.extract (.tmp s) 0,ty,ps,af,none⟩ l (.tel [e,e2] (.row e m n xs fun x=>.row e2 m2 n2 xs2 fun y=>.ret (.agg #[x,y]))) Bs:=fun a W hg=>by
 obtain⟨v,h1,h2⟩:=hg.dep j s hb hA
 rw[hK] at h2
 obtain⟨hE,x,q1,q2,y,q3,q4,rfl⟩:=h2
 exact .inl ⟨wanted_yes rfl,givz_run (run_ext rfl (eval_tmp h1) rfl) ⟨⟨by simp,fun _=>⟨by simp,fun _=>trivial⟩⟩,T1 q1 q2 (T1 q3 q4 T0)⟩⟩
theorem oX1 {e e2:TypeId}{m n m2 n2:Nat}{xs xs2:List Value}{u:Value}(hj:dIdx l s 0=some j:=by rfl)(hK:KL.getD j .any = .tel [e,e2] (.row e m n xs fun x=>.row e2 m2 n2 xs2 fun y=>.ret (.tuple #[.agg #[x,y],u])):=by rfl)(hb:depB l i j s=true:=by kernel_rfl)(hA:(AL.all fun d=>!(Nat.beq d.iA j))=true:=by kernel_rfl):OPd Tryz.prog (QZ D nt w0 L M R l KL AL BL js Bs i) ⟨some d,.extract (.tmp s) 1,ty,ps,af,none⟩ l (.val u) Bs:=fun a W hg=>by
 obtain⟨v,h1,h2⟩:=hg.dep j s hb hA
 rw[hK] at h2
 obtain⟨hE,x,q1,q2,y,q3,q4,rfl⟩:=h2
 exact .inl ⟨wanted_yes rfl,givz_run (run_ext rfl (eval_tmp h1) rfl) rfl⟩
theorem made1 (v:Value)(m:Nat):madeCells #[v] m=(List.replicate m v).toArray:=by
 unfold madeCells
 apply Array.ext'
 apply List.ext_getElem
 ·simp
 ·intro j h1 h2
  simp[Nat.mod_one]
variable {y:Operand}{ops:Array Oper}{rest:List Oper}{Q:Exit->Act->World->Prop}{tyo:TypeId}{k k2:IntKind}{p q:Int}
theorem mS (m:Nat)(h:∀ g,KX D nt w0 ((d,.slice (some ⟨g,0,none⟩) m m)::L) ((g,isB 9 (List.replicate m (.string ⟨#[]⟩)).toArray)::M) R (wpList Tryz.prog ops Q rest))(hx:EV (St D nt w0 L M R) x (.int k p):=by exact ev)(hy:EV (St D nt w0 L M R) y (.int k2 q):=by exact ev)(hp:p=(m:Int):=by rfl)(hq:q=(m:Int):=by rfl)(hm:m<=8796093022208:=by omega)(hb:Nat.blt d nt=true:=by rfl):KX D nt w0 L M R (wpList Tryz.prog ops Q (⟨some d,.makeSlice 48 x y,tyo,ps,af,none⟩::rest)):=fun a w hs=>by
 subst hp hq
 have hr:=run_make_row' (P:=Tryz.prog) 48 9 (.string ⟨#[]⟩) 16 Tryz.underlying48 (by kernel_rfl) rfl k k2 m (by omega) (by omega) w
 rw[made1] at hr
 exact sq hs.f (wantedS rfl) (v:=.slice (some ⟨w.heap.size,0,none⟩) m m) (w2:=w.alloc (.cells (List.replicate m (.string ⟨#[]⟩)).toArray 9)) (by
  unfold execOp
  simp only[hx a w hs,hy a w hs,Sem.run_bind,hr,Result.andThen_ok,Sem.run_pure]) rfl (Nat.le_of_ble_eq_true hb) fun a2 hF=>h w.heap.size a2 _ (hs.new (S:=isB 9 (List.replicate m (.string ⟨#[]⟩)).toArray) hb ((Below.refl _ _).alloc (Nat.le_refl _) _) (Nat.le_refl _) ⟨_,Blk.new _ _ _,rfl⟩ hF)
theorem apR (i j:Nat){e:TypeId}{m b n0 k:Nat}{u:Value}{xs ys:List Value}{t:TypeId}(h:∀ v2,KX D nt w0 ((d,v2)::L) M (R.set i ⟨v2,e,m,n0+k,xs++ys⟩) (wpList Tryz.prog ops Q rest))(hi:R[i]?=some ⟨v,e,m,n0,xs⟩:=by rfl)(hj:R[j]?=some ⟨u,e,m,k,ys⟩:=by rfl)(hE:elT t=some (e,m,b):=by rfl)(hx:EV (St D nt w0 L M R) x v:=by exact ev)(hy:EV (St D nt w0 L M R) y u:=by exact ev)(h1:∀ u∈ys,u.oneCell'=true)(h63:n0+k<=maxLen:=by unfold maxLen;omega)(hbytes:(n0+k)*b<=140737488355328:=by omega)(hb:Nat.blt d nt=true:=by rfl):KX D nt w0 L M R (wpList Tryz.prog ops Q (⟨some d,.call { callee:=.builtin .append,args:=#[x,y],argTypes:=#[t,t] },tyo,ps,af,none⟩::rest)):=fun a w hs=>by
 have hO:w.ownsRow w0.heap.size e m u k ys:=(hs.row j hj).owns
 rcases hO.2 with⟨hu,hk⟩ | ⟨g,cap,cur,hu,_⟩
 ·have hk:k=0:=hk
  subst hk hu
  have hys:ys = []:=List.eq_nil_of_length_eq_zero (by rw[hO.1,Nat.zero_mul])
  subst hys
  obtain⟨ti,z,hti,hz,hsz,hby,hzs⟩:=(elT_ok hE).inf
  have hr:=run_append_owned_none (P:=Tryz.prog) w w0.heap.size t tyo e ti m (elT_ok hE).un hti v n0 xs (hs.row i hi).owns
  refine sq hs.f (wantedS rfl) (v:=v) (w2:=w) ?_ rfl (Nat.le_of_ble_eq_true hb) fun a2 hF=>h v a2 w ⟨hF,hs.m,fun q hq=>?_,?_⟩
  ·unfold execOp
   simp only[resolve,invoke,builtin,Sem.run_bind,Sem.run_pure,Result.andThen_ok,List.map_toArray,List.map_cons,List.map_nil,hx a w hs,hy a w hs,hr]
  ·rw[List.append_nil,Nat.add_zero,list_set_self hi] at hq
   exact hs.r q hq
  ·rw[List.append_nil,Nat.add_zero,list_set_self hi]
   exact hs.nd
 ·subst hu
  exact kAp i hi hE hx hy hO.1 (fun a2 w2 hs2 q u hq=>(hs2.row j hj).owns.cells (g:=g) rfl q u hq) h1 h63 hbytes h hb a w hs
end
end
def isH (c:UInt8):Bool:=decide ((48<=c.toNat/\c.toNat<=57)\/(97<=c.toNat/\c.toNat<=102))
def hvl (c:UInt8):Nat:=if 48<=c.toNat/\c.toNat<=57 then c.toNat-48 else if 97<=c.toNat/\c.toNat<=102 then c.toNat-87 else 0
theorem hvl_lt (c:UInt8):hvl c<16:=by unfold hvl;split <;> (try split) <;> omega
def two (s:List UInt8)(i:Nat):UInt8:=UInt8.ofNat (16*hvl (bt s (2*i))+hvl (bt s (2*i+1)))
def ofTo (s:List UInt8):Nat->List UInt8
 | 0=>List.replicate 32 0
 | i+1=>(ofTo s i).set i (two s i)
theorem ofTo_len (s:List UInt8)(i:Nat):(ofTo s i).length=32:=by
 induction i with
 | zero=>simp[ofTo]
 | succ i ih=>simp[ofTo,ih]
def ofOk (s:List UInt8):Bool:=decide (s.length=64)&&(List.range 64).all fun i=>isH (bt s i)
theorem ofOk_iff (s:List UInt8):ofOk s=true ↔ s.length=64 ∧ ∀ i,i<64->isH (bt s i)=true:=by
 simp[ofOk]
def ofD (s:List UInt8):List UInt8:=if ofOk s then ofTo s 32 else List.replicate 32 0
theorem ofD_len (s:List UInt8):(ofD s).length=32:=by unfold ofD;split <;> simp[ofTo_len]
def putS (n:Nat):List UInt8:=(List.range 8).map fun i=>UInt8.ofNat (n/256^i)
theorem putS_len (n:Nat):(putS n).length=8:=by simp[putS]
def signsL :List UInt8:=[48,49,50,51,52,53,54,55,56,57,97,98,99,100,101,102]
def hxd (n:Nat):UInt8:=bt signsL n
def hexB (b:UInt8):List UInt8:=[hxd (b.toNat/16),hxd (b.toNat%16)]
def hexS (d:List UInt8):List UInt8:=d.flatMap hexB
theorem hexS_len (d:List UInt8):(hexS d).length=2*d.length:=by
 unfold hexS
 induction d with
 | nil=>rfl
 | cons b d ih=>rw[List.flatMap_cons,List.length_append,ih];simp[hexB];omega
theorem strs_of {w:World}{v:Value}{l:List (List UInt8)}(h:Sl w v 1 l.length (txs l)):Strs w v l:=by
 rcases h.2 with⟨⟨ad,c,rfl⟩,h2⟩ | ⟨b,off,c,rfl,hb,hc⟩
 ·exact .inl ⟨⟨ad,c,rfl⟩,List.eq_nil_of_length_eq_zero h2⟩
 ·exact .inr ⟨b,off,c,rfl,hb,fun i hi=>hc i _ (by rw[List.getElem?_map,List.getD_eq_getElem?_getD,List.getElem?_eq_getElem hi];rfl)⟩
theorem nrowK {l:List (List UInt8)}{v:Value}{w:World}(hS:Sl w v 1 l.length (txs l))(hl:l.flatten.length+10*l.length<=140737488355328)(hn:l.length<2^44):RV 62 #[v] w (sv (rowS l)):=nrow_any l v w (strs_of hS) hl hn
structure Env (w:World):Prop where
 gl:GL w
 sum:SumAt w
 put:∀ w:World,RV 58 #[.int .u64 0,i6 8] w (sv (putS 0))
 hof:∀ (s:List UInt8) (w:World),s.length<=maxLen->RV 59 #[sv s] w (.tuple #[.agg (cells8 (ofD s)),.bool (ofOk s)])
theorem SumAt.below {w w2:World}(h:SumAt w)(hb:Below w.heap.size w w2):SumAt w2:=fun w3 v l h3=>h w3 v l (hb.trans (h3.mono hb.size))
theorem Env.below {w w2:World}(h:Env w)(hb:Below w.heap.size w w2):Env w2:=⟨h.gl.below hb,h.sum.below hb,h.put,h.hof⟩
def dgC (d:List UInt8):List Value:=(List.range 32).map fun i=>cb (bt d i)
theorem dgC_of {d:List UInt8}(h:d.length=32):dgC d=d.map cb:=by
 apply List.ext_getElem?
 intro i
 unfold dgC
 rw[List.getElem?_map,List.getElem?_map]
 by_cases hi:i<32
 ·rw[List.getElem?_range hi,List.getElem?_eq_getElem (by omega)]
  simp[bt,h,hi]
 ·rw[List.getElem?_eq_none (by simp;omega),List.getElem?_eq_none (by omega)]
  rfl
theorem dgC_one (d:List UInt8):∀ u∈dgC d,u.oneCell'=true:=by
 intro u hu
 unfold dgC at hu
 obtain⟨i,_,rfl⟩:=List.mem_map.1 hu
 rfl
section
open Go.RowKit Go.Lib
theorem dg_nat {d:Nat}(h:d<10):(UInt8.ofNat (48+d)).toNat=48+d:=by
 rw[UInt8.toNat_ofNat',Nat.mod_eq_of_lt (by omega)]
theorem pm_dec (M:Nat)(u:Nat):∀ (r:List UInt8),u<=M->u<2^63->parseUintM M 0 (decDigits u++r)=parseUintM M u r:=by
 induction u using Nat.strongRecOn with
 | _ u ih=>
  intro r h1 h2
  by_cases h:u<10
  ·rw[decDigits,dif_pos h,List.singleton_append,parseUintM,dg_nat h,if_pos (by omega),if_neg (by omega),if_neg (by omega)]
   congr 1;omega
  ·rw[decDigits,dif_neg h,List.append_assoc,ih (u/10) (by omega) _ (by omega) (by omega),List.singleton_append,parseUintM,dg_nat (by omega),if_pos (by omega),if_neg (by omega),if_neg (by omega)]
   congr 1;omega
theorem dec_head (u:Nat):∃ c r,decDigits u=c::r/\48<=c.toNat/\c.toNat<=57:=by
 induction u using Nat.strongRecOn with
 | _ u ih=>
  by_cases h:u<10
  ·exact⟨_,[],by rw[decDigits,dif_pos h],by rw[dg_nat h];omega,by rw[dg_nat h];omega⟩
  ·obtain⟨c,r,h1,h2⟩:=ih (u/10) (by omega)
   exact⟨c,r ++ [UInt8.ofNat (48+u%10)],by rw[decDigits,dif_neg h,h1];rfl,h2⟩
theorem intS_itoa (n:Int)(h0:0<=n)(h:n<9223372036854775808):intS (itoa n)=some n:=by
 have e:itoa n=decDigits n.toNat:=by rw[itoa,if_neg (by omega)]
 obtain⟨c,r,h1,h2,h3⟩:=dec_head n.toNat
 have hp:=pm_dec (2^64-1) n.toNat [] (by omega) (by omega)
 rw[List.append_nil,h1] at hp
 have h4:parseIntB 64 (c::r) = .ok n:=by
  unfold parseIntB
  simp only[show ¬ (c.toNat=43\/c.toNat=45) by omega,if_false]
  unfold parseUintB
  rw[if_neg (by simp),hp,parseUintM]
  simp only[show ¬ c.toNat=45 by omega,not_false_eq_true,true_and,false_and,if_false]
  rw[if_neg (by omega),show((n.toNat:Nat):Int)=n by omega]
 unfold intS
 rw[e,h1,h4]
 simp only
 rw[if_pos (by rw[e,h1])]
theorem itoa_dig (n:Int)(h0:0<=n):itoa n=decDigits n.toNat:=by rw[itoa,if_neg (by omega)]
theorem dec_len :∀ (k u:Nat),0<k->u<10^k->(decDigits u).length<=k
 | 0,_,h,_=>by omega
 | k+1,u,_,h=>by
  by_cases hu:u<10
  ·rw[decDigits,dif_pos hu];simp
  ·rw[decDigits,dif_neg hu,List.length_append]
   rcases Nat.eq_zero_or_pos k with hk | hk
   ·subst hk;simp at h;omega
   ·have:=dec_len k (u/10) hk (by rw[Nat.pow_succ] at h;omega)
    simp;omega
theorem itoa_len (k:Nat)(n:Int)(h0:0<=n)(hk:0<k)(h:n<((10^k:Nat):Int)):(itoa n).length<=k:=by
 rw[itoa_dig n h0]
 exact dec_len k _ hk (by omega)
end
section
section
variable {G:Kn}{x y:Operand}{k k2:IntKind}{p q:Int}{ts:Array TypeId}
theorem PR.mx (r:Int)(hx:EV G x (.int k p):=by exact ev)(hy:EV G y (.int k2 q):=by exact ev)(hr:(if p<q then q else p)=r):PR Tryz.prog G (.call { callee:=.builtin .max,args:=#[x,y],argTypes:=ts }) (.int k r):=fun a w o ho hg=>run_max2 ho (hx a w hg) (hy a w hg) hr
end
theorem mdec {n:Int}{w:World}(hE:Env w)(hn:-9223372036854775808<=n/\n<=9223372036854775807):RV 56 #[i6 n] w (sv (Lib.itoa n)):=by
 refine enter Tryz.func56 ?_
 exact r1 .as (rg (p1 .mv (cl (fun _ _ h=>ndec (hE.gl.below h.m.below) hn) (p1 .as (en (rt (q1 rfl)))))))
theorem mdec64 {n:Int}{w:World}(hE:Env w)(hn:-9223372036854775808<=n/\n<=9223372036854775807):RV 57 #[i6 n] w (sv (Lib.itoa n)):=by
 refine enter Tryz.func57 ?_
 exact r1 .as (rg (p1 .mv (cl (fun _ _ h=>ndec (hE.gl.below h.m.below) hn) (p1 .as (en (rt (q1 rfl)))))))
theorem rdec {n:Int}{w:World}(hE:Env w)(hn:-9223372036854775808<=n/\n<=9223372036854775807):RV 178 #[i6 n] w (sv (Lib.itoa n)):=by
 refine enter Tryz.func178 ?_
 exact r1 .as (rg (p1 .mv (cl (fun _ _ h=>ndec (hE.gl.below h.m.below) hn) (p1 .as (en (rt (q1 rfl)))))))
theorem mwith (n a b:Int)(w:World):RV 117 #[i6 n,i6 a,i6 b] w (.bool (decide (a<=n)&&decide (n<=b))):=by
 refine enter Tryz.func117 ?_
 refine r1 .as (rg (p4 .mv .mv .geq .mv (gTt (hp:=PR.mv) ?_)))
 refine gTt (hp:=PR.mv) ?_
 refine gTt (hp:=PR.leq) ?_
 exact p2 .pand .as (en (rt (q1' rfl rfl (by cases h:decide (a<=n) <;> simp_all))))
theorem mwith64 (n a b:Int)(w:World):RV 118 #[i6 n,i6 a,i6 b] w (.bool (decide (a<=n)&&decide (n<=b))):=by
 refine enter Tryz.func118 ?_
 refine r1 .as (rg (p4 .mv .mv .geq .mv (gTt (hp:=PR.mv) ?_)))
 refine gTt (hp:=PR.mv) ?_
 refine gTt (hp:=PR.leq) ?_
 exact p2 .pand .as (en (rt (q1' rfl rfl (by cases h:decide (a<=n) <;> simp_all))))
theorem mmach (w:World):RV 116 #[.string ⟨[109].toArray⟩] w (.bool true):=by
 refine enter Tryz.func116 ?_
 refine r1 .as (se (rg (p4 .mv .ln .lss .mv (gFf (hp:=PR.mv) ?_))))
 refine gFf (hp:=PR.ln) ?_
 refine gFf (hp:=PR.gtr) ?_
 refine p1 .por (en (cf (hb:=rfl) (sk (nN (se (r1 .as (bl (lr 2 (kL [(0,.string ⟨List.toArray [109]⟩),(2,.bool false),(3,i6 0)] (un (se ?_)))))))))))
 refine r4 .mv .mv .ln .lss (ct (sk (nN (se (bl (rg (p2 .mv .mv (pp (PR.sa (s:=[109]) (i:=0) (hn:=by decide)) (p1 .as (en (rg (p3 .mv .geq .mv (gTt (hp:=PR.mv) ?_)))))))))))))
 refine gTt (hp:=PR.leq) ?_
 refine p2 .pand .mv (gFf (hp:=PR.mv) ?_)
 refine gFf (hp:=PR.geq) ?_
 refine gFf (hp:=PR.mv) ?_
 refine hTt (hp:=PR.mv) ?_
 refine hTt (hp:=PR.leq) ?_
 refine gFf (hp:=PR.pand) ?_
 refine p2 .por .mv (gFf (hp:=PR.mv) ?_)
 refine gFf (hp:=PR.eqi) ?_
 refine p2 .por .mv (gFf (hp:=PR.mv) ?_)
 refine gFf (hp:=PR.eqi) ?_
 refine p2 .por .not (en (cf (hb:=rfl) (sk (bN (nN (rg0 ?_))))))
 exact p1 .mv (pp (PR.ad 1) (p1 .as (en0 (nN (kL [(0,.string ⟨List.toArray [109]⟩),(2,.bool false),(3,i6 1)] (un (se (r4 .mv .mv .ln .lss (cf (xt (nX (nX (bH (nN (r1 .as (rt (q1 rfl)))))))))))))))))
abbrev rootT :List UInt8:=[114,111,111,116,47]
def nameR (n:Int):List UInt8:=rootT++List.replicate (8-(Lib.itoa n).length) 48++Lib.itoa n
theorem dec8 (n:Int)(h:0<=n/\n<=99999999):(Lib.itoa n).length<=8:=itoa_len 8 n h.1 (by decide) (by have:=h.2;show n<((100000000:Nat):Int);omega)
theorem rname {n:Int}{w:World}(hE:Env w)(hn:0<=n/\n<=99999999):RV 129 #[i6 n] w (sv (nameR n)):=by
 refine enter Tryz.func129 ?_
 have h8:=dec8 n hn
 refine r1 .as (rg (p1 .mv (cl (fun _ _ h=>rdec (n:=n) (hE.below h.m.below) (by omega)) ?_)))
 exact p1 .as (en (rg (p2 .mv .ln (pp (PR.sb ((8-(Lib.itoa n).length:Nat):Int)) (pp (PR.mx ((8-(Lib.itoa n).length:Nat):Int) (hr:=by split <;> omega)) (cl (fun _ _ h=>str_rep 48 (8-(Lib.itoa n).length) _ (by omega)) (pp (PR.cat (s:=rootT) (s2:=List.replicate (8-(Lib.itoa n).length) 48) EV.k ev (by rw[List.length_replicate];show 5+_<_;omega)) (p1 .mv (pp (PR.cat (s:=rootT++List.replicate (8-(Lib.itoa n).length) 48) (s2:=(Lib.itoa n)) ev ev (by rw[List.length_append,List.length_replicate];show 5+_+_<_;omega)) (p1 .as (en (rt (q1 rfl)))))))))))))
theorem rchunk {s:List UInt8}{w:World}(hE:Env w)(hs:s.length<2^40):RV 262 #[sv s] w (.bool (ofOk s)):=by
 refine enter Tryz.func262 ?_
 refine r1 .as (rg (p1 .mv (cl (fun _ _ h=>hE.hof s _ (by unfold maxLen;omega)) (p3 .mv .ext .ext (aa Tryz.zeroValue65 (fun g0=>sw 0 (h1:=cells8_one _) (hV:=by rw[cells8_size,ofD_len]) ?_))))))
 exact p1 .as (en (r2 .mv .as (rt (q1 rfl))))
theorem pre_app (a b:List UInt8):Lib.hasPrefix (a++b) a=true:=by
 unfold Lib.hasPrefix;simp
theorem cut_name (t:List UInt8):(Value.tuple #[sv (Lib.trimPrefix (rootT++t) rootT),.bool (Lib.hasPrefix (rootT++t) rootT)]) = .tuple #[sv t,.bool true]:=by
 unfold Lib.trimPrefix
 rw[pre_app,if_pos rfl,List.drop_left]
theorem dig_ok {c:UInt8}(h:48<=c.toNat/\c.toNat<=57):(decide ((c.toNat:Int)<48)||decide (57<(c.toNat:Int)))=false:=by
 simp;omega
theorem rroot {t:List UInt8}{w:World}(hl8:t.length=8)(hdg:∀ i,i<8->48<=(bt t i).toNat/\(bt t i).toNat<=57):RV 134 #[sv (rootT++t)] w (.bool true):=by
 refine enter Tryz.func134 ?_
 refine r1 .as (rg (p1 .mv (cl (fun _ _ h=>cut_name t▸str_cut (rootT++t) rootT _) (p5 .mv .ext .ext .as .as (en (se (rg (p3 .mv .not .mv (gFf (hp:=PR.mv) ?_)))))))))
 refine gFf (hp:=PR.ln) ?_
 refine gFf (hp:=PR.nei) ?_
 refine p1 .por (en (cf (hb:=(by simp[hl8])) (sk (nN (se (r1 .as (bl (lr 9 ?_))))))))
 refine kL [(0,sv (rootT++t)),(2,.bool false),(3,sv t),(5,i6 0)] (un (se (r2 .mv .lss (ct (sk (nN (se (bl (rg (p2 .mv .mv (pp (PR.sa (i:=0) (hn:=by omega)) (p2 .lss .mv (gFf (hp:=PR.mv) ?_)))))))))))))
 refine gFf (hp:=PR.mv) ?_
 refine gFf (hp:=PR.sa (i:=0) (hn:=by omega)) ?_
 refine gFf (hp:=PR.gtr) ?_
 refine p1 .por (en (cf (hb:=(dig_ok (hdg 0 (by decide)))) (sk (bN (nN (rg0 (p1 .mv (pp (PR.ad 1) (p1 .as (en0 (nN ?_)))))))))))
 refine kL [(0,sv (rootT++t)),(2,.bool false),(3,sv t),(5,i6 1)] (un (se (r2 .mv .lss (ct (sk (nN (se (bl (rg (p2 .mv .mv (pp (PR.sa (i:=1) (hn:=by omega)) (p2 .lss .mv (gFf (hp:=PR.mv) ?_)))))))))))))
 refine gFf (hp:=PR.mv) ?_
 refine gFf (hp:=PR.sa (i:=1) (hn:=by omega)) ?_
 refine gFf (hp:=PR.gtr) ?_
 refine p1 .por (en (cf (hb:=(dig_ok (hdg 1 (by decide)))) (sk (bN (nN (rg0 (p1 .mv (pp (PR.ad 2) (p1 .as (en0 (nN ?_)))))))))))
 refine kL [(0,sv (rootT++t)),(2,.bool false),(3,sv t),(5,i6 2)] (un (se (r2 .mv .lss (ct (sk (nN (se (bl (rg (p2 .mv .mv (pp (PR.sa (i:=2) (hn:=by omega)) (p2 .lss .mv (gFf (hp:=PR.mv) ?_)))))))))))))
 refine gFf (hp:=PR.mv) ?_
 refine gFf (hp:=PR.sa (i:=2) (hn:=by omega)) ?_
 refine gFf (hp:=PR.gtr) ?_
 refine p1 .por (en (cf (hb:=(dig_ok (hdg 2 (by decide)))) (sk (bN (nN (rg0 (p1 .mv (pp (PR.ad 3) (p1 .as (en0 (nN ?_)))))))))))
 refine kL [(0,sv (rootT++t)),(2,.bool false),(3,sv t),(5,i6 3)] (un (se (r2 .mv .lss (ct (sk (nN (se (bl (rg (p2 .mv .mv (pp (PR.sa (i:=3) (hn:=by omega)) (p2 .lss .mv (gFf (hp:=PR.mv) ?_)))))))))))))
 refine gFf (hp:=PR.mv) ?_
 refine gFf (hp:=PR.sa (i:=3) (hn:=by omega)) ?_
 refine gFf (hp:=PR.gtr) ?_
 refine p1 .por (en (cf (hb:=(dig_ok (hdg 3 (by decide)))) (sk (bN (nN (rg0 (p1 .mv (pp (PR.ad 4) (p1 .as (en0 (nN ?_)))))))))))
 refine kL [(0,sv (rootT++t)),(2,.bool false),(3,sv t),(5,i6 4)] (un (se (r2 .mv .lss (ct (sk (nN (se (bl (rg (p2 .mv .mv (pp (PR.sa (i:=4) (hn:=by omega)) (p2 .lss .mv (gFf (hp:=PR.mv) ?_)))))))))))))
 refine gFf (hp:=PR.mv) ?_
 refine gFf (hp:=PR.sa (i:=4) (hn:=by omega)) ?_
 refine gFf (hp:=PR.gtr) ?_
 refine p1 .por (en (cf (hb:=(dig_ok (hdg 4 (by decide)))) (sk (bN (nN (rg0 (p1 .mv (pp (PR.ad 5) (p1 .as (en0 (nN ?_)))))))))))
 refine kL [(0,sv (rootT++t)),(2,.bool false),(3,sv t),(5,i6 5)] (un (se (r2 .mv .lss (ct (sk (nN (se (bl (rg (p2 .mv .mv (pp (PR.sa (i:=5) (hn:=by omega)) (p2 .lss .mv (gFf (hp:=PR.mv) ?_)))))))))))))
 refine gFf (hp:=PR.mv) ?_
 refine gFf (hp:=PR.sa (i:=5) (hn:=by omega)) ?_
 refine gFf (hp:=PR.gtr) ?_
 refine p1 .por (en (cf (hb:=(dig_ok (hdg 5 (by decide)))) (sk (bN (nN (rg0 (p1 .mv (pp (PR.ad 6) (p1 .as (en0 (nN ?_)))))))))))
 refine kL [(0,sv (rootT++t)),(2,.bool false),(3,sv t),(5,i6 6)] (un (se (r2 .mv .lss (ct (sk (nN (se (bl (rg (p2 .mv .mv (pp (PR.sa (i:=6) (hn:=by omega)) (p2 .lss .mv (gFf (hp:=PR.mv) ?_)))))))))))))
 refine gFf (hp:=PR.mv) ?_
 refine gFf (hp:=PR.sa (i:=6) (hn:=by omega)) ?_
 refine gFf (hp:=PR.gtr) ?_
 refine p1 .por (en (cf (hb:=(dig_ok (hdg 6 (by decide)))) (sk (bN (nN (rg0 (p1 .mv (pp (PR.ad 7) (p1 .as (en0 (nN ?_)))))))))))
 refine kL [(0,sv (rootT++t)),(2,.bool false),(3,sv t),(5,i6 7)] (un (se (r2 .mv .lss (ct (sk (nN (se (bl (rg (p2 .mv .mv (pp (PR.sa (i:=7) (hn:=by omega)) (p2 .lss .mv (gFf (hp:=PR.mv) ?_)))))))))))))
 refine gFf (hp:=PR.mv) ?_
 refine gFf (hp:=PR.sa (i:=7) (hn:=by omega)) ?_
 refine gFf (hp:=PR.gtr) ?_
 refine p1 .por (en (cf (hb:=(dig_ok (hdg 7 (by decide)))) (sk (bN (nN (rg0 ?_))))))
 exact p1 .mv (pp (PR.ad 8) (p1 .as (en0 (nN (kL [(0,sv (rootT++t)),(2,.bool false),(3,sv t),(5,i6 8)] (un (se (r2 .mv .lss (cf (xt (nX (nX (bH (nN (r1 .as (rt (q1 rfl)))))))))))))))))
end
section
section
variable {D:List Deferred}{nt:Nat}{w0:World}{L:LT}{M:MT}{R:List Rw}{G:Kn}{x y:Operand}{t tn tyo e:TypeId}{m d k b:Nat}{kq kn:IntKind}{p:Int}{ops:Array Oper}{rest:List Oper}{Q:Exit->Act->World->Prop}{ps:String}{af:Array Edge}
theorem PR.nT (hx:EV G x (nv):=by exact ev)(hy:EV G y (.int kq 0):=by exact ev)(hu:und t=some (.slice e):=by rfl)(hz:szT e=some m:=by rfl):PR Tryz.prog G (.slice t x none (some y) none) (nv):=fun a w op ho hg=>by
 have h1:=und_ok hu
 have he:Tryz.prog.elem t=e:=by simp[Program.elem,h1]
 have ht:Tryz.prog.underlying t=some (.slice (Tryz.prog.elem t)):=by rw[he];exact h1
 have hr:=run_slice_h (P:=Tryz.prog) w t none 0 0 ht kq 0 (by omega) (by omega)
 have hsA:(Instr.sliceAt t (nv) none (some (.int kq 0)) none).run Tryz.prog w = .ok (nv) w:=by
  rw[run_sliceAt_slice w t _ _ _ _ ht,hr,he,szT_ok hz]
  rfl
 unfold execOp
 simp only[ho,hx a w hg,hy a w hg,Option.map,Sem.run_bind,hsA,Result.andThen_ok,Sem.run_pure]
theorem agn (k:Nat)(h:∀ g2 c2 (zs:List Value),k<=c2->c2<=maxLen->zs.length=c2*m->KX D nt w0 ((d,.slice (some ⟨g2,0,none⟩) k c2)::L) ((g2,isB e zs.toArray)::M) R (wpList Tryz.prog ops Q rest))(hx:EV (St D nt w0 L M R) x (nv):=by exact ev)(hy:EV (St D nt w0 L M R) y (.int kq p):=by exact ev)(hp:p=(k:Int):=by rfl)(hE:elT t=some (e,m,b):=by rfl)(htn:und tn=some (.int kn):=by rfl)(h0:0<k:=by omega)(h63:k<=maxLen:=by unfold maxLen;omega)(hby:k*b<=140737488355328:=by omega)(hb:Nat.blt d nt=true:=by rfl):KX D nt w0 L M R (wpList Tryz.prog ops Q (⟨some d,.call { callee:=.builtin .append,args:=#[x,y],argTypes:=#[t,tn] },tyo,ps,af,none⟩::rest)):=fun a w hs=>by
 obtain⟨ti,z,hti,hz,hsz,hby2,hzs⟩:=(elT_ok hE).inf
 have hpos:=(elT_ok hE).pos
 have h63':k<=9223372036854775807:=by simp only[maxLen] at h63;omega
 subst hp
 have hr:=Lib.run_append_nil_zeros (P:=Tryz.prog) w t tn tyo e ti z kq kn (elT_ok hE).un (und_ok htn) hti hz k h0 (by omega) (by omega) (by rw[hby2];omega)
 have hc1:=grownCap_ge w k 0 e
 have hc2:=grownCap_le_maxLen w k 0 e h63
 generalize hc:grownCap w k 0 e=c2 at *
 refine sq hs.f (wantedS rfl) (v:=.slice (some ⟨w.heap.size,0,none⟩) k c2) (w2:=w.drew.alloc (.cells (Builtin.zeroCells z.cells k++Builtin.zeroCells z.cells (c2-k)) e)) ?_ rfl (Nat.le_of_ble_eq_true hb) fun a2 hF2=>h w.heap.size c2 ((Builtin.zeroCells z.cells k).toList++(Builtin.zeroCells z.cells (c2-k)).toList) hc1 hc2 ?_ a2 _ ?_
 ·unfold execOp
  simp only[resolve,invoke,builtin,Sem.run_bind,Sem.run_pure,Result.andThen_ok,List.map_toArray,List.map_cons,List.map_nil,hx a w hs,hy a w hs,hr]
 ·rw[List.length_append,Array.length_toList,Array.length_toList,zeroC_len,zeroC_len,hzs,←Nat.add_mul]
  congr 1;omega
 ·have he:Builtin.zeroCells z.cells k++Builtin.zeroCells z.cells (c2-k)=((Builtin.zeroCells z.cells k).toList++(Builtin.zeroCells z.cells (c2-k)).toList).toArray:=by
   apply Array.toList_inj.1;simp
  rw[he]
  exact hs.new (S:=isB e _) hb ((Below.refl _ w).drew.alloc (Nat.le_refl _) _) (Nat.le_refl _) ⟨_,Blk.new w.drew e _,rfl⟩ hF2
end
end
section
theorem MR.turn {w0 w w2:World}{M:MT}{R:List Rw}{i m n n2:Nat}{e:TypeId}{v v2:Value}{xs xs2:List Value}(hs:MR w0 M R w)(hi:R[i]?=some ⟨v,e,m,n,xs⟩)(h2:w2.ownsRow w0.heap.size e m v2 n2 xs2)(hb:v2.ownBlock=v.ownBlock ∨ ∃ g,v2.ownBlock=some g/\w.heap.size<=g)(h3:w.grownBy w2 v.ownBlock):MR w0 M (R.set i ⟨v2,e,m,n2,xs2⟩) w2:=by
 have hO:OwnR w0 M w e m v n xs:=hs.r _ (List.mem_of_getElem? hi)
 have hap:∀ j y,j≠i->R[j]?=some y->apartB v y.v:=fun j y hn hj=>pw_ne apB_symm hs.nd hi hj (fun e=>hn e.symm)
 refine⟨hO.mem hs.m h3,fun q hq=>?_,pw_set apB_symm hs.nd fun j y hn hj=>?_⟩
 ·rcases set_at hq with rfl | ⟨j,hn,hj⟩
  ·exact hO.next hs.m h2 hb
  ·exact(hs.r q (List.mem_of_getElem? hj)).keepG h3 fun g hg hq=>hap j q hn hj g hq hg
 ·intro g hg hq
  rcases hb with h5 | ⟨g2,h5,h6⟩
  ·exact hap j y hn hj g (h5.symm.trans hg) hq
  ·have h7:=own_lt_size (hs.r y (List.mem_of_getElem? hj)).owns hq
   rw[h5] at hg
   injection hg with hg
   omega
def srt (l:List (List UInt8)):List (List UInt8):=l.mergeSort fun x y=>decide (x<=y)
theorem srt_len (l:List (List UInt8)):(srt l).length=l.length:=by simp[srt]
theorem sortR {w0:World}{M:MT}{R:List Rw}{v:Value}{l:List (List UInt8)}(hl:l.length<2^36):RM 85 #[v] w0 M (⟨v,9,1,l.length,l.map tx⟩::R) (A:=Unit) (fun _=>True) (fun _=>.tuple #[]) (fun _=>M) (fun _=>⟨v,9,1,l.length,(srt l).map tx⟩::R):=fun w hw=>by
 have hO:w.ownsRow w0.heap.size 9 1 v l.length (l.map tx):=(hw.r _ (List.mem_cons_self ..)).owns
 rcases hO.2 with⟨rfl,h0⟩ | ⟨g,cap,cur,rfl,hbase,hb,h1,h2,h3,h4⟩
 ·have:l = []:=List.eq_nil_of_length_eq_zero h0
  subst this
  exact(Any.slices_Sort_string_none lay190 none 0 w).mono fun e w' ⟨q1,q2⟩=>⟨(),trivial,q1,by rw[q2,show srt [] = [] by simp[srt]];exact hw⟩
 ·refine(Any.slices_Sort_string lay190 g 0 cap l w (holds_of_block hb (by rw[Nat.mul_one] at h4;exact h4)) (Array.getElem?_eq_some_iff.1 hb).1 (by omega)).mono fun e w' ⟨q1,n,os,q2⟩=>⟨(),trivial,q1,?_⟩
  rw[q2]
  exact hw.turn (i:=0) rfl (ownsRow_sorted (ss:=l) (ts:=srt l) (srt_len l) hbase hb h1 h2 h3) (.inl rfl) (grownBy_sorted _)
theorem compact_le (l:List (List UInt8)):(Lib.compact l).length<=l.length:=by
 unfold Lib.compact Lib.compactUpTo
 rw[List.length_map]
 exact Nat.le_trans (List.length_filter_le _ _) (by simp)
theorem compR {w0:World}{M:MT}{R:List Rw}{v:Value}{l:List (List UInt8)}(hl:l.length<2^36):RM 86 #[v] w0 M (⟨v,9,1,l.length,l.map tx⟩::R) (A:=Value) (fun _=>True) (fun u=>u) (fun _=>M) (fun u=>⟨u,9,1,(Lib.compact l).length,(Lib.compact l).map tx⟩::R):=fun w hw=>by
 have hO:w.ownsRow w0.heap.size 9 1 v l.length (l.map tx):=(hw.r _ (List.mem_cons_self ..)).owns
 rcases hO.2 with⟨rfl,h0⟩ | ⟨g,cap,cur,rfl,hbase,hb,h1,h2,h3,h4⟩
 ·have:l = []:=List.eq_nil_of_length_eq_zero h0
  subst this
  exact(Any.slices_Compact_string_empty lay194 none 0 w).mono fun e w' ⟨q1,q2⟩=>⟨_,trivial,q1,by rw[q2];exact hw⟩
 ·refine(Any.slices_Compact_string lay194 g 0 cap l w (holds_of_block hb (by rw[Nat.mul_one] at h4;exact h4)) (by omega) h1).mono fun e w' ⟨q1,n,q2⟩=>⟨_,trivial,q1,?_⟩
  have hc:=compact_le l
  have h5:=ownsRow_sorted (w:=w) (n:=n) (os:=#[]) (ss:=l) (ts:=Lib.compact l++List.replicate (l.length-(Lib.compact l).length) []) (by rw[List.length_append,List.length_replicate];omega) hbase hb h1 h2 h3
  have h6:=grownBy_sorted (w:=w) (g:=g) (n:=n) (os:=#[]) (Lib.compact l++List.replicate (l.length-(Lib.compact l).length) []).toArray
  rw[Go.Sort.grow_empty] at h5 h6
  rw[q2]
  refine hw.turn (i:=0) rfl ?_ (.inl rfl) h6
  rcases h5.2 with⟨h,_⟩ | ⟨g2,cap2,cur2,e1,k1,k2,k3,k4,k5,k6⟩
  ·cases h
  ·cases e1
   refine⟨by simp,.inr ⟨g,cap,cur2,rfl,k1,k2,by omega,k4,k5,?_⟩⟩
   have:=congrArg (List.take ((Lib.compact l).length*1)) k6
   rw[List.take_take,Nat.min_eq_left (by omega)] at this
   rw[this]
   simp
   intros;rfl
structure NI (D:List Deferred)(nt:Nat)(w0:World)(L:LT)(M M2:MT)(R:List Rw)(RR:Value->List Rw)(d0 d1 d2 d4 d5:Nat)(v0 v c:Value)(b:Nat->Bool)(u:Value)(a:Act)(W:World):Prop where
 sz:a.tmps.size=nt
 df:a.defers=D
 base:∀ s x,lz L s=some x->s≠d0->s≠d1->s≠d2->s≠d4->s≠d5->a.tmps[s]?=some x
 p0:b 0=true->a.tmps[d0]?=some v0
 p1:b 1=true->a.tmps[d1]?=some v
 p2:b 2=true->a.tmps[d2]?=some u
 p4:b 4=true->a.tmps[d4]?=some u
 p5:b 5=true->a.tmps[d5]?=some c
 cl:b 4=true->b 2=true
 mem:MR w0 (cond (b 3) M2 M) (cond (b 2) (RR u) R) W
theorem put_self {a:Act}{s:Nat}{v:Value}(h:s<a.tmps.size):(a.put (some s) v).tmps[s]?=some v:=by
 simp[Act.put,h]
theorem put_sz {a:Act}{s:Nat}{v:Value}:(a.put (some s) v).tmps.size=a.tmps.size:=by simp[Act.put]
section
variable {D:List Deferred}{nt:Nat}{w0:World}{L:LT}{M M2:MT}{R:List Rw}{RR:Value->List Rw}{d0 d1 d2 d4 d5:Nat}{v0 v c:Value}{b:Nat->Bool}{u:Value}{a:Act}{W:World}
theorem NI.put (h:NI D nt w0 L M M2 R RR d0 d1 d2 d4 d5 v0 v c b u a W)(i d:Nat)(x:Value)(hd:(i=0/\d=d0/\x=v0)\/(i=1/\d=d1/\x=v)\/(i=4/\d=d4/\x=u)\/(i=5/\d=d5/\x=c))(hs:d<nt)(hn:[d0,d1,d2,d4,d5].Nodup)(h42:i=4->b 2=true):NI D nt w0 L M M2 R RR d0 d1 d2 d4 d5 v0 v c (fun j=>b j||j==i) u (a.put (some d) x) W:=by
 simp only[List.nodup_cons,List.mem_cons,List.not_mem_nil,or_false,not_or,List.nodup_nil,and_true,not_false_eq_true] at hn
 obtain⟨⟨n1,n2,n3,n4⟩,⟨n5,n6,n7⟩,⟨n8,n9⟩,n10⟩:=hn
 rcases hd with⟨rfl,rfl,rfl⟩ | ⟨rfl,rfl,rfl⟩ | ⟨rfl,rfl,rfl⟩ | ⟨rfl,rfl,rfl⟩
 all_goals
  refine⟨by rw[put_sz,h.sz],h.df,fun s y q1 q2 q3 q4 q5 q6=>?_,fun q=>?_,fun q=>?_,fun q=>?_,fun q=>?_,fun q=>?_,fun q=>by first | (simp at q ⊢;exact h.cl q) | (simp at h42 ⊢;exact h42),by simpa using h.mem⟩
  ·rw[put_ne (by first | exact Ne.symm q2 | exact Ne.symm q3 | exact Ne.symm q5 | exact Ne.symm q6)]
   exact h.base s y q1 q2 q3 q4 q5 q6
  all_goals first
   | exact put_self (by rw[h.sz];exact hs)
   | (rw[put_ne (by first | assumption | exact Ne.symm (by assumption))];first | exact h.p0 (by simpa using q) | exact h.p1 (by simpa using q) | exact h.p2 (by simpa using q) | exact h.p4 (by simpa using q) | exact h.p5 (by simpa using q))
theorem drC {id:Nat}{Q:Exit->Act->World->Prop}{cc:Code}{l:List Oper}{f:FuncId}{s0 s1 s3 g0 g1 g3 n0:Nat}{cs cur:Array Value}{ty0 ty1 y0 y1 y2 y3 y4 y5 t0 t1 t3:TypeId}{q0 q1 q2 q3 q4 q5:String}{f0 f1 f2 f3 f4 f5:Array Edge}{ts:Array TypeId}(k0 k1 k3:Nat)(h:∀ u,KX D nt w0 ((d5,c)::(d4,u)::(d2,u)::(d1,v)::(d0,.agg cs)::L) (M.set k3 (g3,isB t3 cs)) (RR u) (cc.wp Tryz.prog Q))(hc:∀ M',RM f #[v] w0 M' R (A:=Value) (fun _=>True) (fun u=>u) (fun _=>M') RR)
  (hl:l = [⟨some d0,.load ty0 (.tmp s0),y0,q0,f0,none⟩,⟨some d1,.load ty1 (.tmp s1),y1,q1,f1,none⟩,⟨some d2,.call { callee:=.value (.func f),args:=#[.tmp d1],argTypes:=ts },y2,q2,f2,none⟩,⟨none,.store ty0 (.tmp s3) (.tmp d0),y3,q3,f3,none⟩,⟨some d4,.assign (.tmp d2),y4,q4,f4,none⟩,⟨some d5,.assign (.const c),y5,q5,f5,none⟩]:=by rfl)
  (e0:lz L s0=some (pt g0):=by rfl) (e1:lz L s1=some (pt g1):=by rfl) (e3:lz L s3=some (pt g3):=by rfl) (m0:M[k0]?=some (g0,isB t0 cs):=by rfl) (m1:M[k1]?=some (g1,isB t1 #[v]):=by rfl) (m3:M[k3]?=some (g3,isB t3 cur):=by rfl) (kn:k0≠k3/\k1≠k3:=by decide)
  (ha:agT ty0=some true:=by rfl) (hz:szT ty0=some n0:=by rfl) (hn0:cs.size=n0:=by first | rfl | assumption | simp) (hnc:cur.size=n0:=by first | rfl | assumption | simp) (h1c:cs.all (·.oneCell')=true) (ha1:agT ty1=some false:=by rfl)
  (hs:[s0,s1,s3].all (fun s=>[d0,d1,d2,d4,d5].all fun d=>!(Nat.beq s d))=true:=by kernel_rfl) (hn:[d0,d1,d2,d4,d5].Nodup:=by decide) (hd:[d0,d1,d2,d4,d5].all (fun d=>Nat.blt d nt)=true:=by rfl)
  (w21:Region.waitsFor .any l.toArray 2 1=true:=by kernel_rfl) (w30:Region.waitsFor .any l.toArray 3 0=true:=by kernel_rfl) (w42:Region.waitsFor .any l.toArray 4 2=true:=by kernel_rfl) (hB:looseB l nt=true:=by kernel_rfl) (hm:Tryz.prog.follows .mixedOrders=true:=by kernel_rfl)
  (hg:(match Tryz.prog.funcs[f]? with | some fn=>!(fn.name == "runtime.NumGoroutine")&&fn.body.isSome | none=>false)=true:=by kernel_rfl):KX D nt w0 L M R ((Code.seq (Code.region id l.toArray true) cc).wp Tryz.prog Q):=fun a w hst=>by
 simp only[List.all_cons,List.all_nil,Bool.and_true,Bool.and_eq_true,Bool.not_eq_true'] at hs hd
 have nb:∀ {x y:Nat},Nat.beq x y=false->x≠y:=fun {x y} h e=>by rw[e,Nat.beq_refl] at h;cases h
 have lt:∀ {x:Nat},Nat.blt x nt=true->x<nt:=fun h=>Nat.le_of_ble_eq_true h
 obtain⟨⟨a1,a2,a3,a4,a5⟩,⟨b1,b2,b3,b4,b5⟩,c1,c2,c3,c4,c5⟩:=hs
 obtain⟨z0,z1,z2,z4,z5⟩:=hd
 refine wp_seq ?_
 refine wp_region_inv nt hm hB (fun b a W=>∃ u,NI D nt w0 L M (M.set k3 (g3,isB t3 cs)) R RR d0 d1 d2 d4 d5 (.agg cs) v c b u a W) ⟨undef,hst.f.size,hst.f.defers,fun s x q _ _ _ _ _=>hst.f.has s x (by rw[←lz_eq];exact q),(by intro h;cases h),(by intro h;cases h),(by intro h;cases h),(by intro h;cases h),(by intro h;cases h),(by intro h;cases h),⟨hst.m.drew,fun x hx=>(hst.r x hx).grow (Below.refl _ _).drew,hst.nd⟩⟩ ?_ ?_
 ·rintro b a W i o ⟨u,I⟩ hio hLi hw
  have hi:i<6:=by have:=(List.getElem?_eq_some_iff.1 hio).1;rw[hl] at this;simpa using this
  have E0:a.eval (.tmp s0)=pt g0:=eval_tmp (I.base _ _ e0 (nb a1) (nb a2) (nb a3) (nb a4) (nb a5))
  have E1:a.eval (.tmp s1)=pt g1:=eval_tmp (I.base _ _ e1 (nb b1) (nb b2) (nb b3) (nb b4) (nb b5))
  have E3:a.eval (.tmp s3)=pt g3:=eval_tmp (I.base _ _ e3 (nb c1) (nb c2) (nb c3) (nb c4) (nb c5))
  have B0:Blk W g0 t0 cs:=by
   cases hb:b 3 with
   | false=>have:=I.mem.m;rw[hb] at this;exact this.at k0 m0
   | true=>have:=I.mem.m;rw[hb] at this;exact this.at k0 (by rw[cond_true,List.getElem?_set_ne (Ne.symm kn.1)];exact m0)
  have B1:Blk W g1 t1 #[v]:=by
   cases hb:b 3 with
   | false=>have:=I.mem.m;rw[hb] at this;exact this.at k1 m1
   | true=>have:=I.mem.m;rw[hb] at this;exact this.at k1 (by rw[cond_true,List.getElem?_set_ne (Ne.symm kn.2)];exact m1)
  rw[hl] at hio
  obtain rfl | rfl | rfl | rfl | rfl | rfl:i=0\/i=1\/i=2\/i=3\/i=4\/i=5:=by omega
  all_goals cases hio
  all_goals refine⟨wanted_yes rfl,?_⟩
  ·have hr:(execOp a.eval ⟨some d0,.load ty0 (.tmp s0),y0,q0,f0,none⟩).run Tryz.prog W = .ok (.value (.agg cs)) W:=PR.lw (G:=fun a2 W2=>a2.eval (.tmp s0)=pt g0/\Blk W2 g0 t0 cs) (fun _ _ h=>h.1) (fun _ _ h=>h.2) ha hz hn0 a W _ rfl ⟨E0,B0⟩
   rw[hr]
   exact⟨trivial,u,I.put 0 d0 _ (.inl ⟨rfl,rfl,rfl⟩) (lt z0) hn (by intro h;cases h)⟩
  ·have hr:(execOp a.eval ⟨some d1,.load ty1 (.tmp s1),y1,q1,f1,none⟩).run Tryz.prog W = .ok (.value v) W:=PR.lc (G:=fun a2 W2=>a2.eval (.tmp s1)=pt g1/\Blk W2 g1 t1 #[v]) rfl (fun _ _ h=>h.1) (fun _ _ h=>h.2) ha1 a W _ rfl ⟨E1,B1⟩
   rw[hr]
   exact⟨trivial,u,I.put 1 d1 _ (.inr (.inl ⟨rfl,rfl,rfl⟩)) (lt z1) hn (by intro h;cases h)⟩
  ·have hp1:=I.p1 (hw 1 w21)
   have hr:(execOp a.eval ⟨some d2,.call { callee:=.value (.func f),args:=#[.tmp d1],argTypes:=ts },y2,q2,f2,none⟩).run Tryz.prog W = .ok (.enter f #[v]) W:=run_callK rfl hg (by simp[eval_tmp hp1])
   rw[hr]
   have hb4:b 4=false:=by
    cases hq:b 4 with
    | false=>rfl
    | true=>have:=I.cl hq;rw[hLi] at this;cases this
   have hmem:=I.mem
   rw[hLi] at hmem
   refine(hc _ W hmem).mono fun e W' ⟨x,_,q2,q3⟩=>⟨x,q2,trivial,x,?_⟩
   have hn':=hn
   simp only[List.nodup_cons,List.mem_cons,List.not_mem_nil,or_false,not_or,List.nodup_nil,and_true,not_false_eq_true] at hn'
   obtain⟨⟨n1,n2,n3,n4⟩,⟨n5,n6,n7⟩,⟨n8,n9⟩,n10⟩:=hn'
   refine⟨by rw[put_sz,I.sz],I.df,fun s y q1 q2 q3 q4 q5 q6=>?_,fun q=>?_,fun q=>?_,fun q=>?_,fun q=>?_,fun q=>?_,fun q=>by simp,by simpa using q3⟩
   ·rw[put_ne (Ne.symm q4)];exact I.base s y q1 q2 q3 q4 q5 q6
   ·rw[put_ne (Ne.symm n2)];exact I.p0 (by simpa using q)
   ·rw[put_ne (Ne.symm n5)];exact I.p1 (by simpa using q)
   ·exact put_self (by rw[I.sz];exact lt z2)
   ·have:b 4=true:=by simpa using q
    rw[hb4] at this;cases this
   ·rw[put_ne n9];exact I.p5 (by simpa using q)
  ·have hp0:=I.p0 (hw 0 w30)
   have hmem:=I.mem
   rw[hLi] at hmem
   have hB3:Blk W g3 t3 cur:=hmem.m.at k3 m3
   have hrun:=run_stG (v:=.agg cs) (o:=0) hB3 hz hn0 h1c (by rw[hnc,Nat.zero_add];exact Nat.le_refl _)
   rw[show spl cur 0 (Value.agg cs).cells.toList=cs from spl_all (cs:=cs) (by rw[hnc];exact hn0.symm)] at hrun
   have hr:(execOp a.eval ⟨none,.store ty0 (.tmp s3) (.tmp d0),y3,q3,f3,none⟩).run Tryz.prog W = .ok .skip (W.setRow g3 cs):=by
    unfold execOp
    simp only[E3,eval_tmp hp0,Instr.storeAt,Instr.sureAddr,Sem.run_bind,Sem.run_pure,Result.andThen_ok,hrun]
   rw[hr]
   refine⟨trivial,u,I.sz,I.df,I.base,fun q=>I.p0 (by simpa using q),fun q=>I.p1 (by simpa using q),fun q=>I.p2 (by simpa using q),fun q=>I.p4 (by simpa using q),fun q=>I.p5 (by simpa using q),fun q=>by simp at q ⊢;exact I.cl q,?_⟩
   have h2:MR w0 (M.set k3 (g3,isB t3 cs)) (cond (b 2) (RR u) R) (W.setRow g3 cs):=⟨hmem.m.row k3 m3 cs,fun x hx=>(hmem.r x hx).upd k3 m3 (grown_setRow W g3 cs),hmem.nd⟩
   simpa using h2
  ·have hp2:=I.p2 (hw 2 w42)
   have hr:(execOp a.eval ⟨some d4,.assign (.tmp d2),y4,q4,f4,none⟩).run Tryz.prog W = .ok (.value u) W:=PR.as (G:=fun a2 _=>a2.eval (.tmp d2)=u) (fun _ _ h=>h) a W _ rfl (eval_tmp hp2)
   rw[hr]
   exact⟨trivial,u,I.put 4 d4 _ (.inr (.inr (.inl ⟨rfl,rfl,rfl⟩))) (lt z4) hn (fun _=>hw 2 w42)⟩
  ·have hr:(execOp a.eval ⟨some d5,.assign (.const c),y5,q5,f5,none⟩).run Tryz.prog W = .ok (.value c) W:=PR.as (G:=fun _ _=>True) EV.k a W _ rfl trivial
   rw[hr]
   exact⟨trivial,u,I.put 5 d5 _ (.inr (.inr (.inr ⟨rfl,rfl,rfl⟩))) (lt z5) hn (by intro h;cases h)⟩
 ·rintro b a W hall ⟨u,I⟩
  have hb:∀ j,j<6->b j=true:=fun j hj=>hall j (by rw[hl];simpa using hj)
  have hmem:=I.mem
  rw[hb 3 (by omega),hb 2 (by omega)] at hmem
  refine h u a W ⟨⟨I.sz,I.df,fun s x hx=>?_⟩,hmem.m,hmem.r,hmem.nd⟩
  rw[←lz_eq] at hx
  have one:∀ {d:Nat} {y:Value} {T:LT},lz ((d,y)::T) s=some x->(d=s/\y=x)\/(s≠d/\lz T s=some x):=fun {d y T} q=>by
   rw[lz] at q
   cases hq:Nat.beq d s with
   | true=>rw[hq] at q;exact .inl ⟨Nat.eq_of_beq_eq_true hq,by simpa using q⟩
   | false=>rw[hq] at q;exact .inr ⟨Ne.symm (nb hq),q⟩
  rcases one hx with⟨rfl,rfl⟩ | ⟨r5,hx⟩
  ·exact I.p5 (hb 5 (by omega))
  rcases one hx with⟨rfl,rfl⟩ | ⟨r4,hx⟩
  ·exact I.p4 (hb 4 (by omega))
  rcases one hx with⟨rfl,rfl⟩ | ⟨r2,hx⟩
  ·exact I.p2 (hb 2 (by omega))
  rcases one hx with⟨rfl,rfl⟩ | ⟨r1,hx⟩
  ·exact I.p1 (hb 1 (by omega))
  rcases one hx with⟨rfl,rfl⟩ | ⟨r0,hx⟩
  ·exact I.p0 (hb 0 (by omega))
  exact I.base s x hx r0 r1 r2 r4 r5
end
end
section
def snapL (N:Int)(v:Value):List Value:=[.string ⟨List.toArray [109]⟩,i6 N,i6 0,.int .u64 0,i6 1,i6 1,v,nv,nv,.int .u8 0,.int .u8 0,.int .u8 0,.int .u8 0,.int .u8 0,.int .u8 0,.int .u8 0,.int .u8 0,.int .u8 0,.int .u8 0,.int .u8 0,.int .u8 0,.int .u8 0,.int .u8 0,.int .u8 0,.int .u8 0,.int .u8 0,.int .u8 0,.int .u8 0,.int .u8 0,.int .u8 0,.int .u8 0,.int .u8 0,.int .u8 0,.int .u8 0,.int .u8 0,.int .u8 0,.int .u8 0,.int .u8 0,.int .u8 0,.int .u8 0,.int .u8 0]
structure NmsOk (l:List (List UInt8)):Prop where
 n:l.length<=1000
 ok:∀ s∈l,s.length<2^40/\ofOk s=true
theorem nms_at {l:List (List UInt8)}(h:NmsOk l){j:Nat}(hj:j<l.length):(l.getD j []).length<2^40/\ofOk (l.getD j [])=true:=by
 refine h.ok _ ?_
 rw[List.getD_eq_getElem?_getD,List.getElem?_eq_getElem hj]
 exact List.getElem_mem hj
theorem mcheck {v:Value}{l:List (List UInt8)}{N:Int}{w:World}(hE:Env w)(hV:Sl w v 1 l.length (txs l))(hv:v.oneCell'=true)(hl:NmsOk l)(hN:1<=N/\N<=100000000):RV 55 #[.agg (snapL N v).toArray] w (i6 0):=by
 refine enter Tryz.func55 ?_
 have hn:=hl.n
 refine rg (ba (fun g0=>?_))
 refine p1 .as (en (se ?_))
 refine rg (p2 .fa .ld (cl (fun _ _ h=>mmach _) (p1 .not (en (cf (sk (nN (se (rg (p2 .fa .ld (cl (fun _ _ h=>mwith N 1 100000000 _) (p2 .not .mv (gFf (hp:=PR.fa) ?_)))))))))))))
 refine gFf (hp:=PR.ld) ?_
 refine gcN (fun _ _ _ _=>mwith64 0 0 1000000000000 _) ?_
 refine gFf (hp:=PR.not) ?_
 refine p2 .por .mv (gFf (hp:=PR.fa) ?_)
 refine gFf (hp:=PR.ld) ?_
 refine gcN (fun _ _ _ _=>mwith 1 1 64 _) ?_
 refine gFf (hp:=PR.not) ?_
 refine p2 .por .mv (gFf (hp:=PR.fa) ?_)
 refine gFf (hp:=PR.ld) ?_
 refine gcN (fun _ _ _ _=>mwith 1 1 256 _) ?_
 refine gFf (hp:=PR.not) ?_
 refine p1 .por (en (cf (hb:=(by simp[hN.1,hN.2])) (sk (nN (se (rg (p1 .fa (pp (PR.ia 0) (p1 .ld ?_)))))))))
 refine pp (PR.lr) (p1 .fa (pp (PR.ia 1) (p2 .ld .l0 (pp (PR.ad (l.length:Int)) (p1 .fa (pp (PR.ia 2) (p2 .ld .l0 (pp (PR.ad (l.length:Int)) (p1 .gtr (en (cf (sk (nN ?_)))))))))))))
 refine se (rg (p1 .fa (pp (PR.ls [v,nv,nv]) (p1 .mv (en (bl (lr 4 (kL [(1,pt g0),(2,i6 0),(51,.agg #[v,nv,nv]),(52,i6 0)] (un (r1 .lss (se (ct (sk ?_)))))))))))))
 refine nN (se (bl (rg (pp (PR.xc 0) (p1 .as (en (rg (p1 .mv (pp PR.lr (p1 .mv (en (bl (lo (A:=Nat) (fun j=>j<=l.length) (fun j=>l.length-j) (fun j=>[(1,pt g0),(2,i6 0),(51,.agg #[v,nv,nv]),(52,i6 0),(55,v),(56,i6 (l.length:Int)),(57,i6 (j:Int))]) (fun j=>[(g0,isB 67 #[.string ⟨List.toArray [109]⟩,i6 N,i6 0,.int .u64 0,i6 1,i6 1,v,nv,nv,.int .u8 0,.int .u8 0,.int .u8 0,.int .u8 0,.int .u8 0,.int .u8 0,.int .u8 0,.int .u8 0,.int .u8 0,.int .u8 0,.int .u8 0,.int .u8 0,.int .u8 0,.int .u8 0,.int .u8 0,.int .u8 0,.int .u8 0,.int .u8 0,.int .u8 0,.int .u8 0,.int .u8 0,.int .u8 0,.int .u8 0,.int .u8 0,.int .u8 0,.int .u8 0,.int .u8 0,.int .u8 0,.int .u8 0,.int .u8 0,.int .u8 0,.int .u8 0])]) (fun j=>[]) 0 (Nat.zero_le _) su (fun j hi=>?_))))))))))))))
 refine r1 .lss (se (sd (fun hlt=>?_) (fun hlt=>?_)))
 ·skip
  refine sk (nN (se (bl ?_)))
  have hoj:=nms_at hl (j:=j) (by omega)
  refine rg (pp (PR.ix (i:=j)) (pp (PR.lp (v2:=sv (l.getD j [])) (txs_at (by omega))) (p1 .as (en (rg (p1 .mv (cl (fun _ _ h=>hE.hof (l.getD j []) _ (by unfold maxLen;omega)) (p3 .mv .ext .ext (aa Tryz.zeroValue65 (fun g1=>sw 0 (h1:=cells8_one _) (hV:=by rw[cells8_size,ofD_len]) ?_))))))))))
  exact p1 .as (en (r2 .mv .not (cf (hb:=(by rw[hoj.2];rfl)) (sk (bN (nN (rg0 (pp (PR.ad ((j+1:Nat):Int)) (p1 .mv (en0 (nN (bk (j+1) (by omega) (by omega) su))))))))))))
 ·skip
  refine xt (nX (nX (bH (bN (nN (rg0 (pp (PR.ad 1) (p1 .mv (en0 (nN (kL [(1,pt g0),(2,i6 0),(51,.agg #[v,nv,nv]),(52,i6 1)] ?_)))))))))))
  refine un (r1 .lss (se (ct (sk (nN (se (bl (rg (pp (PR.xc 1) (p1 .as (en (rg (p1 .mv ?_)))))))))))))
  refine p1 .l0 (p1 .mv (en (bl (lr 1 (kL [(1,pt g0),(2,i6 0),(51,.agg #[v,nv,nv]),(52,i6 1),(55,nv),(56,i6 ((0:Nat):Int)),(57,i6 0)] (un (r1 .lss (se (cf (xt (nX (nX (bH (bN (nN (rg0 (pp (PR.ad 2) (p1 .mv ?_))))))))))))))))))
  refine en0 (nN (kL [(1,pt g0),(2,i6 0),(51,.agg #[v,nv,nv]),(52,i6 2)] (un (r1 .lss (se (ct (sk (nN (se (bl (rg (pp (PR.xc 2) (p1 .as ?_)))))))))))))
  refine en (rg (p1 .mv (p1 .l0 (p1 .mv (en (bl (lr 1 (kL [(1,pt g0),(2,i6 0),(51,.agg #[v,nv,nv]),(52,i6 2),(55,nv),(56,i6 ((0:Nat):Int)),(57,i6 0)] (un (r1 .lss (se (cf (xt (nX (nX (bH (bN (nN ?_))))))))))))))))))
  exact rg0 (pp (PR.ad 3) (p1 .mv (en0 (nN (kL [(1,pt g0),(2,i6 0),(51,.agg #[v,nv,nv]),(52,i6 3)] (un (r1 .lss (se (cf (xt (nX (nX (bH (nN (r1 .as (rt (q1 rfl)))))))))))))))))
theorem rmach {w:World}(hE:Env w):RV 236 #[.string ⟨[109].toArray⟩] w (.bool true):=by
 refine enter Tryz.func236 ?_
 exact r1 .as (rg (p1 .mv (pp (PR.bd #[.string ⟨List.toArray [109]⟩,i6 1,i6 0,.int .u64 0,i6 1,i6 1,nv,nv,nv,.int .u8 0,.int .u8 0,.int .u8 0,.int .u8 0,.int .u8 0,.int .u8 0,.int .u8 0,.int .u8 0,.int .u8 0,.int .u8 0,.int .u8 0,.int .u8 0,.int .u8 0,.int .u8 0,.int .u8 0,.int .u8 0,.int .u8 0,.int .u8 0,.int .u8 0,.int .u8 0,.int .u8 0,.int .u8 0,.int .u8 0,.int .u8 0,.int .u8 0,.int .u8 0,.int .u8 0,.int .u8 0,.int .u8 0,.int .u8 0,.int .u8 0,.int .u8 0]) (cl (fun _ _ h=>mcheck (l:=[]) (hE.below h.m.below) (N:=1) (v:=nv) ⟨rfl,.inl ⟨⟨none,0,rfl⟩,rfl⟩⟩ rfl ⟨Nat.zero_le _,by simp⟩ (by decide)) (p2 .nei .as (en (rt (q1 rfl))))))))
theorem sgrow {n:Nat}{w:World}(h0:0<n)(hn:n<2^36):RT 176 #[nv,i6 (n:Int)] w (.row 9 1 0 [] fun v=>.ret v):=by
 refine enter Tryz.func176 ?_
 refine r1 .as (se (r2 .mv .lss (cf (sk (nN (se (rg (p2 .mv .mv ?_))))))))
 refine pp PR.cap (p2 .mv .l0 (pp (PR.sb 0) (pp (PR.sb (n:Int)) (p1 .as (en (r2 .mv .gtr (ct (rg0 (p2 .mv .mv (pp PR.cap (pp PR.nT (p1 .mv (agn n (fun g2 c2 zs hc1 hc2 hz=>?_))))))))))))))
 refine p2 .mv .l0 (pp (PR.bT' (m:=1) 0) (p1 .as (en0 (nN (r2 .mv .as (rt (rb 0 (n:=0) (m:=1) [] ?_ rfl (Nat.zero_le _) hc2 (by rw[List.size_toArray,hz]))))))))
 exact et [0]
theorem txs_one1 (l:List (List UInt8)):∀ u∈txs l,u.oneCell'=true:=fun u hu=>by
 obtain⟨s,_,rfl⟩:=List.mem_map.1 hu
 rfl
section
variable {D:List Deferred}{nt:Nat}{w0:World}{L:LT}{M:MT}{R:List Rw}{x y:Operand}{u v:Value}{ops:Array Oper}{rest:List Oper}{Q:Exit->Act->World->Prop}{t tyo e:TypeId}{ps:String}{af:Array Edge}{d m b n0:Nat}{xs:List Value}
theorem apS1 (i:Nat){x':Operand}{x:List UInt8}(hV:Sl w0 u 1 1 (txs [x]))(h:∀ v2,KX D nt w0 ((d,v2)::L) M (R.set i ⟨v2,9,1,n0+1,xs++txs [x]⟩) (wpList Tryz.prog ops Q rest))(hi:R[i]?=some ⟨v,9,1,n0,xs⟩:=by rfl)(hx:EV (St D nt w0 L M R) x' v:=by exact ev)(hy:EV (St D nt w0 L M R) y u:=by exact ev)(hn:n0<2^36:=by decide)(hb:Nat.blt d nt=true:=by rfl):KX D nt w0 L M R (wpList Tryz.prog ops Q (⟨some d,.call { callee:=.builtin .append,args:=#[x',y],argTypes:=#[48,48] },tyo,ps,af,none⟩::rest)):=by
 rcases hV.adr with⟨c,rfl,h0,_⟩ | ⟨ad,c,rfl,h2⟩
 ·cases h0
 ·exact kAp (e:=9) (m:=1) (b:=16) i hi rfl hx hy rfl (fun a w hs j q hj=>h2 w hs.m.below j q hj) (fun q hq=>txs_one1 _ q hq) (by unfold maxLen;omega) (by omega) h hb
theorem apN (i:Nat)(h:KX D nt w0 ((d,v)::L) M R (wpList Tryz.prog ops Q rest))(hi:R[i]?=some ⟨v,e,m,n0,xs⟩:=by rfl)(hE:elT t=some (e,m,b):=by rfl)(hx:EV (St D nt w0 L M R) x v:=by exact ev)(hy:EV (St D nt w0 L M R) y (nv):=by exact ev)(hb:Nat.blt d nt=true:=by rfl):KX D nt w0 L M R (wpList Tryz.prog ops Q (⟨some d,.call { callee:=.builtin .append,args:=#[x,y],argTypes:=#[t,t] },tyo,ps,af,none⟩::rest)):=fun a w hs=>by
 obtain⟨ti,z,hti,hz,hsz,hby,hzs⟩:=(elT_ok hE).inf
 have hr:=run_append_owned_none (P:=Tryz.prog) w w0.heap.size t tyo e ti m (elT_ok hE).un hti v n0 xs (hs.row i hi).owns
 refine sq hs.f (wantedS rfl) (v:=v) (w2:=w) ?_ rfl (Nat.le_of_ble_eq_true hb) fun a2 hF=>h a2 w ⟨hF,hs.m,hs.r,hs.nd⟩
 unfold execOp
 simp only[resolve,invoke,builtin,Sem.run_bind,Sem.run_pure,Result.andThen_ok,List.map_toArray,List.map_cons,List.map_nil,hx a w hs,hy a w hs,hr]
end
theorem sconcat {w0:World}{M0:MT}{R0:List Rw}{gs:Nat}{v:Value}{x:List UInt8}(hV:Sl w0 v 1 1 (txs [x])):RM 125 #[.slice (some ⟨gs,0,none⟩) 3 3] w0 ((gs,isB 48 #[v,nv,nv])::M0) R0 (A:=Value) (fun _=>True) (fun u=>u) (fun _=>(gs,isB 48 #[v,nv,nv])::M0) (fun u=>⟨u,9,1,1,txs [x]⟩::R0):=by
 refine enterM Tryz.func125 ?_
 refine r1 .as (r1 .as (se (r3 .mv .l0 .mv ?_)))
 refine bl (lr 4 (kL [(0,.slice (some ⟨gs,0,none⟩) 3 3),(2,nv),(3,i6 0),(9,.slice (some ⟨gs,0,none⟩) 3 3),(10,i6 3),(11,i6 0)] (un (r1 .lss (se (ct (sk (nN (se (bl (rg (pp (PR.ib (m:=1) 0) (pp (PR.lc (o:=0*1) (v:=v) rfl) ?_)))))))))))))
 refine p1 .as (en (rg (p2 .mv .mv (pp PR.lr (pp (PR.ad ((1:Nat):Int)) (p1 .as (en (r2 .mv .lss (cf (sk (bN (nN (rg0 (pp (PR.ad 1) ?_))))))))))))))
 refine p1 .mv (en0 (nN (kL [(0,.slice (some ⟨gs,0,none⟩) 3 3),(2,nv),(3,i6 ((1:Nat):Int)),(9,.slice (some ⟨gs,0,none⟩) 3 3),(10,i6 3),(11,i6 1)] (un (r1 .lss (se (ct (sk (nN (se (bl (rg (pp (PR.ib (m:=1) 1) ?_)))))))))))))
 refine pp (PR.lc (o:=1*1) (v:=nv) rfl) (p1 .as (en (rg (p2 .mv .mv (p1 .l0 (pp (PR.ad ((1:Nat):Int)) (p1 .as (en (r2 .mv .lss (cf (sk (bN (nN (rg0 ?_))))))))))))))
 refine pp (PR.ad 2) (p1 .mv (en0 (nN (kL [(0,.slice (some ⟨gs,0,none⟩) 3 3),(2,nv),(3,i6 ((1:Nat):Int)),(9,.slice (some ⟨gs,0,none⟩) 3 3),(10,i6 3),(11,i6 2)] (un (r1 .lss (se (ct (sk (nN (se (bl (rg ?_)))))))))))))
 refine pp (PR.ib (m:=1) 2) (pp (PR.lc (o:=2*1) (v:=nv) rfl) (p1 .as (en (rg (p2 .mv .mv (p1 .l0 (pp (PR.ad ((1:Nat):Int)) (p1 .as (en (r2 .mv .lss (cf (sk (bN (nN ?_))))))))))))))
 refine rg0 (pp (PR.ad 3) (p1 .mv (en0 (nN (kL [(0,.slice (some ⟨gs,0,none⟩) 3 3),(2,nv),(3,i6 ((1:Nat):Int)),(9,.slice (some ⟨gs,0,none⟩) 3 3),(10,i6 3),(11,i6 3)] (un (r1 .lss (se (cf (xt (nX (nX (bH (nN (rg (p1 .mv (ce (fun _ _ h=>sgrow (n:=1) (by decide) (by decide)) (fun v0=>?_))))))))))))))))))
 refine os 0 (fun ov0 cv0=>?_)
 refine p1 .as (en (se (r3 .mv .l0 .mv (bl (lr 4 (kL [(0,.slice (some ⟨gs,0,none⟩) 3 3),(2,nv),(3,i6 ((1:Nat):Int)),(6,v0),(25,.slice (some ⟨gs,0,none⟩) 3 3),(26,i6 3),(27,i6 0)] (un (r1 .lss ?_))))))))
 refine se (ct (sk (nN (se (bl (rg (pp (PR.ib (m:=1) 0) (pp (PR.lc (o:=0*1) (v:=v) rfl) (p1 .as (en (rg0 (p2 .mv .mv (apS1 0 (x:=x) hV (fun v1=>?_))))))))))))))
 refine rc 0 1 (txs [x]) (hn:=rfl) (hx:=rfl) (h:=?_)
 refine p1 .as (en0 (bN (nN (rg0 (pp (PR.ad 1) (p1 .mv (en0 (nN (kL [(0,.slice (some ⟨gs,0,none⟩) 3 3),(2,nv),(3,i6 ((1:Nat):Int)),(6,v1),(25,.slice (some ⟨gs,0,none⟩) 3 3),(26,i6 3),(27,i6 1)] (un (r1 .lss ?_)))))))))))
 refine se (ct (sk (nN (se (bl (rg (pp (PR.ib (m:=1) 1) (pp (PR.lc (o:=1*1) (v:=nv) rfl) (p1 .as (en (rg0 (p2 .mv .mv (apN 0 ?_)))))))))))))
 refine p1 .as (en0 (bN (nN (rg0 (pp (PR.ad 2) (p1 .mv (en0 (nN (kL [(0,.slice (some ⟨gs,0,none⟩) 3 3),(2,nv),(3,i6 ((1:Nat):Int)),(6,v1),(25,.slice (some ⟨gs,0,none⟩) 3 3),(26,i6 3),(27,i6 2)] (un (r1 .lss ?_)))))))))))
 refine se (ct (sk (nN (se (bl (rg (pp (PR.ib (m:=1) 2) (pp (PR.lc (o:=2*1) (v:=nv) rfl) (p1 .as (en (rg0 (p2 .mv .mv (apN 0 ?_)))))))))))))
 refine p1 .as (en0 (bN (nN (rg0 ?_))))
 exact pp (PR.ad 3) (p1 .mv (en0 (nN (kL [(0,.slice (some ⟨gs,0,none⟩) 3 3),(2,nv),(3,i6 ((1:Nat):Int)),(6,v1),(25,.slice (some ⟨gs,0,none⟩) 3 3),(26,i6 3),(27,i6 3)] (un (r1 .lss (se (cf (xt (nX (nX (bH (nN (r2 .mv .as (rt (kL [(2,v1)] (rm v1 trivial su)))))))))))))))))
theorem srt_1 (x:List UInt8):srt [x] = [x]:=by simp[srt]
theorem compact_1 (x:List UInt8):Lib.compact [x] = [x]:=Lib.compact_all [x] fun j hj=>Lib.keeps_lt_one _ j hj
theorem mnames {v:Value}{x:List UInt8}{N:Int}{w:World}(hV:Sl w v 1 1 (txs [x]))(hv:v.oneCell'=true):RT 64 #[.agg (snapL N v).toArray] w (.row 9 1 1 (txs [x]) fun u=>.ret u):=by
 obtain⟨ad,c,rfl⟩:=hV.len
 refine enter Tryz.func64 ?_
 refine rg (ba (fun g0=>?_))
 refine p1 .as (en (rg (p1 .fa (pp (PR.ia 0) (p2 .ld .fa (pp (PR.ia 1) (p2 .ld .fa (pp (PR.ia 2) (p1 .ld (bs #[.slice ad 1 c,nv,nv] (fun g1=>?_)))))))))))
 refine cm (sconcat hV) (fun v1 _=>?_)
 refine os 0 (fun o1 _=>?_)
 refine p1 .as (en (rg (p1 .mv (cm (sortR (l:=[x]) (show 1<2^36 by decide)) (fun _ _=>?_)))))
 rw[show srt [x] = [x] from srt_1 x]
 refine en (rg (p1 .mv (cm (compR (l:=[x]) (show 1<2^36 by decide)) (fun v2 _=>?_))))
 rw[show Lib.compact [x] = [x] from compact_1 x]
 exact p1 .as (en (rt (et [0])))
end
section
open Go.RowKit Go.Maps
variable {D:List Deferred}
def isSet (names:List (List UInt8)):Obj->Prop:=fun ob=>∃ (es:Array MapEntry) (clock:Nat) (D:DataW Unit),ob = .map es clock/\WideElems.Fit Tryz.prog 9 (plainElem (H:=Unit) Tryz.prog 4) es clock/\es.size<=names.length ∧
 D = .map ((es.toList.map (WideElems.rg Tryz.prog 9 (plainElem Tryz.prog 4))).foldr DataW.insert []) ∧ ∀ s,D.atKey (.string s) (.lit (.bool false)) = .lit (.bool (names.contains s))
theorem isSet_owns {w:World}{g:Nat}{names:List (List UInt8)}(h:∃ ob,w.heap[g]?=some ob/\isSet names ob):∃ D:DataW Unit,w.ownsMap Tryz.prog 9 (plainElem Tryz.prog 4) g names.length D ∧ ∀ s,D.atKey (.string s) (.lit (.bool false)) = .lit (.bool (names.contains s)):=by
 obtain⟨ob,h1,es,clock,D,rfl,h2,h3,h4,h5⟩:=h
 exact⟨D,⟨es,clock,h1,h2,h3,h4⟩,h5⟩
theorem isSet_of {w:World}{g:Nat}{names:List (List UInt8)}{D:DataW Unit}(h:w.ownsMap Tryz.prog 9 (plainElem Tryz.prog 4) g names.length D)(hs:∀ s,D.atKey (.string s) (.lit (.bool false)) = .lit (.bool (names.contains s))):∃ ob,w.heap[g]?=some ob/\isSet names ob:=by
 obtain⟨es,clock,h1,h2,h3,h4⟩:=h
 exact⟨_,h1,es,clock,D,rfl,h2,h3,h4,hs⟩
theorem keyedS1 :Keyed Tryz.prog 9:=string_keyed Tryz.underlying9
theorem key_str (s:List UInt8)(hs:s.length<=maxLen):keyOf Tryz.prog 9 (.string ⟨s.toArray⟩)=some (.string s):=by
 have h:=Go.WideMaps.keyOf_string_mk (P:=Tryz.prog) (k:=9) (s:=⟨s.toArray⟩) Tryz.underlying9 (by rw[str_size];exact hs)
 simpa using h
theorem bool_inv {P:Program}{e:TypeId}(he:P.underlying e=some .bool){v:Value}{d:DataW Unit}{ps:List MemPlace}(h:plainElem P e v=some (d,ps)):∃ b,v = .bool b/\d = .lit (.bool b):=by
 unfold plainElem at h
 rw[he] at h
 cases v <;> simp at h
 exact⟨_,rfl,h.1.symm⟩
theorem lit_bool {b c:Bool}(h:(DataW.lit (.bool b):DataW Unit) = .lit (.bool c)):c=b:=by
 injection h with h
 injection h with h
 exact h.symm
section
variable {a:Act}{o:Oper}{w w0:World}{n s:Nat}{L:List (Nat×Value)}{v:Value}{ops:Array Oper}{rest:List Oper}{Q:Exit->Act->World->Prop}{M:List (Nat×(Obj->Prop))}{x y z:Operand}{g:Nat}{names:List (List UInt8)}
theorem run_inSet {l:List UInt8}(ho:o.op = .lookup 186 x y false)(hx:a.eval x = .map (some g))(hy:a.eval y = .string ⟨l.toArray⟩)(h:∃ ob,w.heap[g]?=some ob/\isSet names ob)(hl:l.length<=maxLen):(execOp a.eval o).run Tryz.prog w = .ok (.value (.bool (names.contains l))) w:=by
 obtain⟨D,h1,h2⟩:=isSet_owns h
 have hz:(zeroValue 4).run Tryz.prog w = .ok (.bool false) w:=by kernel_rfl
 obtain⟨u,ps,hr,hu⟩:=h1.lookup keyedS1 Tryz.underlying186 hz (plainElem_bool Tryz.underlying4 false) (key_str l hl)
 obtain⟨b,rfl,hb⟩:=bool_inv Tryz.underlying4 hu
 rw[h2 l] at hb
 obtain rfl:=lit_bool hb
 unfold execOp
 simp only[ho,hx,hy,Sem.run_bind,hr,Result.andThen_ok,Sem.run_pure]
theorem isKeyLit_str (s:List UInt8)(hs:s.length<=maxLen):WideAt.IsKeyLit (.string s):=keyedS1.key (key_str s hs)
theorem sqSetAdd {l:List UInt8}{i:Nat}(hF:FrD D a n L)(hM:Mem w0 M w)(hgd:o.guard=none)(ho:o.op = .mapUpdate 186 x y z)(hd:o.dst=none)(hx:a.eval x = .map (some g))(hy:a.eval y = .string ⟨l.toArray⟩)(hz:a.eval z = .bool true)(e:M[i]?=some (g,isSet names))(hl:l.length<=maxLen)(hn:names.length<maxLen)
  (h:∀ a2 w2,w.grownBy w2 (some g)->FrD D a2 n L->Mem w0 (M.set i (g,isSet (names ++ [l]))) w2->wpList Tryz.prog ops Q rest a2 w2):wpList Tryz.prog ops Q (o::rest) a w:=by
 obtain⟨D,h1,h2⟩:=isSet_owns (hM.ob i e)
 have hIs:IsMap D:=h1.isMap
 obtain⟨w2,hr,h3,h4⟩:=h1.update keyedS1 Tryz.underlying186 hn (key_str l hl) (plainElem_bool Tryz.underlying4 true)
 refine sqN hF (wantedS hgd) (w2:=w2) ?_ hd fun a2 hF2=>h a2 w2 h4 hF2 (hM.upd i e h4 (isSet_of (D:=D.put (.string l) (.lit (.bool true))) (by rw[List.length_append];exact h3) fun s=>?_))
 ·unfold execOp
  simp only[ho,hx,hy,hz,Sem.run_bind,hr,Result.andThen_ok,Sem.run_pure]
 ·by_cases hs:s=l
  ·subst hs
   rw[atKey_put_same hIs (isKeyLit_str s hl)]
   simp
  ·rw[atKey_put_other (fun e=>hs (by injection e))]
   rw[h2 s]
   simp[hs]
theorem sqMakeSet {r:Option Operand}(hF:FrD D a n L)(hM:Mem w0 M w)(hgd:o.guard=none)(ho:o.op = .makeMap 186 r)(hr:∀ q,r=some q->∃ k p,a.eval q = .int k p)(hd:o.dst=some s)(hs:s<n)
  (h:∀ g a2 w2,w.heap.size<=g->Below w.heap.size w w2->FrD D a2 n ((s,.map (some g))::L)->Mem w0 ((g,isSet [])::M) w2->wpList Tryz.prog ops Q rest a2 w2):wpList Tryz.prog ops Q (o::rest) a w:=by
 have hb:Below w.heap.size w (w.alloc (.map #[] 0)):=(Below.refl _ _).alloc (Nat.le_refl _) _
 refine sq hF (wantedS hgd) (v:=.map (some w.heap.size)) (w2:=w.alloc (.map #[] 0)) ?_ hd hs fun a2 hF2=>h _ a2 _ (Nat.le_refl _) hb hF2 (hM.addS hb (Nat.le_refl _) (isSet_of (World.ownsMap_made w _ _ _) fun _=>rfl))
 unfold execOp
 cases r with
 | none=>simp only[ho,Option.map,Sem.run_bind,run_makeMap,Result.andThen_ok,Sem.run_pure]
 | some q=>
  obtain⟨k,p,hq⟩:=hr q rfl
  simp only[ho,Option.map,hq]
  simp[Instr.makeMap,run_underlying Tryz.underlying186,go_sem]
end
end
end Go.Proofs.YtdjholkjkbihmaaGreatDoor
