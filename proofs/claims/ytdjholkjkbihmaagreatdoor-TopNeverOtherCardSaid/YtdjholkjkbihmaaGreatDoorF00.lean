/- Laws and walks of TopNeverOther. -/
import Derived.WalkKit
import Derived.StillTail
import Derived.StillTactics
import Derived.Deep.RegionHeld3
import Derived.Laws.OwnMore
import Derived.Deep.Draws
import Derived.Laws.Rows
import Derived.Laws.Tables
import Derived.Deep.WholeRow
import Derived.StillTailTactics
import Derived.Stop.BytesEq
import Derived.Deep.MidRow
import Derived.Lib.TrimByte
import Derived.WalkSpells
import Derived.Laws.IdiomStrings
import Derived.Test.YtdjholkjkbihmaaGreatDoorRows
import Derived.WalkLawsBesides
import Derived.Lib.Hide
import Derived.Lib.BufferRead
namespace Go.Proofs.YtdjholkjkbihmaaGreatDoor
open Go.RowKit
set_option maxRecDepth 100000
set_option maxHeartbeats 4000000
section
open Go
section
variable {P:Program}{ops:Array Oper}{md:Region.Mode}{S:World->Prop}
theorem headInv0 (n:Nat):HeadInv md ops n (Array.replicate ops.size false) :=
 ⟨by simp,fun j oj _ hl=>(by rw[getD_replicate_false] at hl;cases hl),fun t _ ht=>getD_in (by simpa using ht) (getD_replicate_false _ _)⟩
/-! The same where the first p operations give their values in whatever world (plain moves), and a tail need not wait for these. -/
end
end
section
open Go
section
variable {P:Program}{l:List Oper}
def GivesT (P:Program)(R:World->Prop)(T:Value->World->Prop):Result Next->Prop
 | .ok (.value v) w'=>R w'/\T v w'
 | .ok .skip w'=>R w'/\T undef w'
 | .ok (.enter f args) w'=>Calls P f args w' fun e w''=>∃ v,e = .returned v/\R w''/\T v w''
 | _=>False
def noDst (l:List Oper)(s:Nat):Bool:=l.all fun o=>o.dst != some s
def looseB (l:List Oper)(n:Nat):Bool :=
 ((List.range l.length).all fun i=>match l[i]? with
  | some o=>(match o.dst with | some s=>decide (s<n)&&(List.range l.length).all (fun j=>j==i||(match l[j]? with | some oj=>oj.dst != some s | none=>true)) | none=>true) &&
    o.after.all (fun e=>!Region.binds .any e||decide (e.on<i))
  | none=>true)
theorem looseB_dst {n i j s:Nat}{o oj:Oper}(h:looseB l n=true)(hi:l[i]?=some o)(hs:o.dst=some s)(hj:l[j]?=some oj)(hsj:oj.dst=some s):j=i:=by
 have hil:=(List.getElem?_eq_some_iff.1 hi).1
 have hjl:=(List.getElem?_eq_some_iff.1 hj).1
 have h1:=List.all_eq_true.1 h i (List.mem_range.2 hil)
 simp only[hi,hs,Bool.and_eq_true] at h1
 have h2:=List.all_eq_true.1 h1.1.2 j (List.mem_range.2 hjl)
 simp only[hj,Bool.or_eq_true,beq_iff_eq] at h2
 rcases h2 with h2 | h2
 ·exact h2
 ·rw[hsj] at h2;simp at h2
theorem looseB_lt {n i s:Nat}{o:Oper}(h:looseB l n=true)(hi:l[i]?=some o)(hs:o.dst=some s):s<n:=by
 have hil:=(List.getElem?_eq_some_iff.1 hi).1
 have h1:=List.all_eq_true.1 h i (List.mem_range.2 hil)
 simp only[hi,hs,Bool.and_eq_true,decide_eq_true_eq] at h1
 exact h1.1.1
theorem looseB_after {n i:Nat}{o:Oper}(h:looseB l n=true)(hi:l[i]?=some o):∀ e∈o.after,Region.binds .any e=true->e.on<i:=by
 have hil:=(List.getElem?_eq_some_iff.1 hi).1
 have h1:=List.all_eq_true.1 h i (List.mem_range.2 hil)
 simp only[hi,Bool.and_eq_true] at h1
 intro e he hb
 have h2:=Array.all_eq_true_iff_forall_mem.1 h1.2 e he
 simpa[hb] using h2
def openN (n:Nat)(listed:Array Bool):Nat:=((List.range n).filter fun i=>listed.getD i true==false).length
theorem openN_set (n:Nat)(listed:Array Bool)(i:Nat)(hi:i<n)(hs:listed.size=n)(hu:listed.getD i true=false):openN n listed=openN n (listed.setIfInBounds i true)+1:=by
 unfold openN
 have key:∀ m,(((List.range m).filter fun k=>listed.getD k true==false).length=((List.range m).filter fun k=>(listed.setIfInBounds i true).getD k true==false).length+if i<m then 1 else 0):=by
  intro m
  induction m with
  | zero=>simp
  | succ m ih=>
   rw[List.range_succ,List.filter_append,List.filter_append,List.length_append,List.length_append,ih]
   by_cases hm:m=i
   ·subst hm
    have e1:(listed.setIfInBounds m true).getD m true=true:=by simp[hs,hi]
    rw[List.filter_cons,List.filter_cons,hu,e1]
    simp
   ·have e1:(listed.setIfInBounds i true).getD m true=listed.getD m true:=by
     simp only[Array.getD_eq_getD_getElem?,Array.getElem?_setIfInBounds]
     rw[if_neg (fun h=>hm h.symm)]
    have e2:([m].filter fun k=>(listed.setIfInBounds i true).getD k true==false)=([m].filter fun k=>listed.getD k true==false):=by
     rw[List.filter_cons,List.filter_cons,e1];rfl
    rw[e2]
    by_cases h1:i<m
    ·rw[if_pos h1,if_pos (by omega)];omega
    ·rw[if_neg h1,if_neg (by omega)];omega
 rw[key n,if_pos hi]
theorem ready_of_open {n:Nat}{listed:Array Bool}(h:looseB l n=true)(hs:listed.size=l.length)(ho:openN l.length listed≠0):Region.ready .any l.toArray listed ≠ []:=by
 -- the first that is not listed waits for nothing
 have hex:∃ i,i<l.length/\listed.getD i true=false:=by
  unfold openN at ho
  have:((List.range l.length).filter fun i=>listed.getD i true==false) ≠ []:=fun e=>ho (by rw[e];rfl)
  obtain⟨i,hi⟩:=List.exists_mem_of_ne_nil _ this
  rw[List.mem_filter,List.mem_range] at hi
  exact⟨i,hi.1,by simpa using hi.2⟩
 have hmin:∀ k,∀ i,i<=k->i<l.length->listed.getD i true=false->∃ m,m<l.length/\listed.getD m true=false ∧ ∀ j,j<m->listed.getD j true=true:=by
  intro k
  induction k with
  | zero=>intro i hi hl hu;exact⟨i,hl,hu,fun j hj=>by omega⟩
  | succ k ih=>
   intro i hi hl hu
   by_cases hall:∀ j,j<i->listed.getD j true=true
   ·exact⟨i,hl,hu,hall⟩
   ·have:∃ j,j<i/\listed.getD j true=false:=by
     refine Classical.byContradiction fun hc=>hall fun j hj=>?_
     cases hj':listed.getD j true with
     | true=>rfl
     | false=>exact absurd ⟨j,hj,hj'⟩ hc
    obtain⟨j,hj,hj'⟩:=this
    exact ih j (by omega) (by omega) hj'
 obtain⟨i,hi,hu⟩:=hex
 obtain⟨m,hm,hmu,hall⟩:=hmin i i (Nat.le_refl _) hi hu
 have hmem:m∈Region.ready .any l.toArray listed:=by
  rw[mem_ready]
  have hop:l.toArray[m]?=some l[m]:=by simp[hm]
  refine⟨hmu,l[m],hop,fun e he hb=>?_⟩
  have hlt:=looseB_after h (List.getElem?_eq_getElem hm) e he hb
  have:=hall e.on hlt
  have hsz:e.on<listed.size:=by omega
  simp only[Array.getD_eq_getD_getElem?,Array.getElem?_eq_getElem hsz,Option.getD_some] at this ⊢
  exact this
 intro e
 rw[e] at hmem
 cases hmem
structure Known (l:List Oper)(a0:Act)(T:Nat->Value->World->Prop)(L:Nat->Bool)(a:Act)(W:World):Prop where
 size:a.tmps.size=a0.tmps.size
 defers:a.defers=a0.defers
 old:∀ s,(∀ i o,l[i]?=some o->L i=true->o.dst≠some s)->a.tmps[s]?=a0.tmps[s]?
 new:∀ i o s,l[i]?=some o->L i=true->o.dst=some s->∃ v,a.tmps[s]?=some v/\T i v W
 mem:∀ i o,l[i]?=some o->L i=true->o.dst=none->T i undef W
theorem Known.put {a0 a:Act}{T:Nat->Value->World->Prop}{listed:Array Bool}{W W':World}{i n:Nat}{o:Oper}{v:Value}(hB:looseB l n=true)(hn:a0.tmps.size=n)(hi:l[i]?=some o)(hsz:listed.size=l.length)
  (h:Known l a0 T (fun j=>listed.getD j false) a W) (hun:listed.getD i true=false) (hT:∀ j u,j≠i->T j u W->T j u W') (hv:T i v W') (hvn:o.dst=none->T i undef W') :
  Known l a0 T (fun j=>(listed.setIfInBounds i true).getD j false) (a.put o.dst v) W':=by
 have hil:=(List.getElem?_eq_some_iff.1 hi).1
 have hL:∀ j,(listed.setIfInBounds i true).getD j false=true ↔ j=i\/listed.getD j false=true:=by
  intro j
  by_cases hj:i=j
  ·subst hj;simp[hsz,hil]
  ·simp only[Array.getD_eq_getD_getElem?,Array.getElem?_setIfInBounds]
   rw[if_neg hj]
   constructor
   ·exact .inr
   ·rintro(h | h)
    ·exact absurd h.symm hj
    ·exact h
 have hnot:listed.getD i false=false:=by
  have:i<listed.size:=by omega
  simp only[Array.getD_eq_getD_getElem?,Array.getElem?_eq_getElem this,Option.getD_some] at hun ⊢
  exact hun
 constructor
 ·cases hd:o.dst with
  | none=>simpa[Act.put] using h.size
  | some d=>simpa[Act.put] using h.size
 ·cases hd:o.dst with
  | none=>simpa[Act.put] using h.defers
  | some d=>simpa[Act.put] using h.defers
 ·intro s hs
  have h1:=h.old s (fun j oj hj hl=>hs j oj hj ((hL j).2 (.inr hl)))
  have h2:=hs i o hi ((hL i).2 (.inl rfl))
  cases hd:o.dst with
  | none=>simpa[Act.put] using h1
  | some d=>
   have hne:d≠s:=fun e=>h2 (by rw[hd,e])
   simp only[Act.put,Array.getElem?_setIfInBounds]
   rw[if_neg hne];exact h1
 ·intro j oj s hj hl hs
  rcases(hL j).1 hl with rfl | hl'
  ·have e1:oj=o:=Option.some.inj (hj.symm.trans hi)
   subst e1
   refine⟨v,?_,hv⟩
   have hlt:=looseB_lt hB hj hs
   simp only[hs,Act.put,Array.getElem?_setIfInBounds]
   rw[if_pos trivial,if_pos (by rw[h.size];omega)]
  ·have hne:j≠i:=fun e=>by subst e;rw[hnot] at hl';cases hl'
   obtain⟨u,hu,hTu⟩:=h.new j oj s hj hl' hs
   refine⟨u,?_,hT j u hne hTu⟩
   cases hd:o.dst with
   | none=>simpa[Act.put] using hu
   | some d=>
    have hds:d≠s:=fun e=>hne (looseB_dst hB hi (by rw[hd,e]) hj hs)
    simp only[Act.put,Array.getElem?_setIfInBounds]
    rw[if_neg hds];exact hu
 ·intro j oj hj hl hs
  rcases(hL j).1 hl with rfl | hl'
  ·have e1:oj=o:=Option.some.inj (hj.symm.trans hi)
   subst e1
   exact hvn hs
  ·have hne:j≠i:=fun e=>by subst e;rw[hnot] at hl';cases hl'
   exact hT j undef hne (h.mem j oj hj hl' hs)
def Asks (P:Program)(l:List Oper)(a0:Act)(S:World->Prop)(T:Nat->Value->World->Prop)(R:Nat->World->World->Prop)(i:Nat)(o:Oper):Prop :=
 ∀ (a:Act) (W:World),S W->(∀ s v,noDst l s=true->a0.tmps[s]?=some v->a.tmps[s]?=some v)->(∀ j,Region.waitsFor .any l.toArray i j=true->∀ oj s,l[j]?=some oj->oj.dst=some s->∃ v,a.tmps[s]?=some v/\T j v W) →
  (∀ j,Region.waitsFor .any l.toArray i j=true->∀ oj,l[j]?=some oj->oj.dst=none->T j undef W) →
  (Region.wanted o (yielded l.toArray a.tmps)=true/\GivesT P (R i W) (T i) ((execOp a.eval o).run P W))\/(Region.wanted o (yielded l.toArray a.tmps)=false/\T i undef W)
theorem wp_region_loose {id:Nat}{Q:Exit->Act->World->Prop}{a0:Act}{w:World}(n:Nat)(hm:P.follows .mixedOrders=true)(hB:looseB l n=true)(hn:a0.tmps.size=n)
  (S:World->Prop) (T:Nat->Value->World->Prop) (R:Nat->World->World->Prop) (hS:S w.drew) (hRS:∀ i W W',S W->R i W W'->S W') (hRT:∀ i j v W W',j≠i->S W->R i W W'->T j v W->T j v W')
  (hdn:∀ i o,l[i]?=some o->o.dst=none->∀ v W,T i v W->T i undef W) (hop:∀ i o,l[i]?=some o->Asks P l a0 S T R i o)
  (hend:∀ a W,S W->Known l a0 T (fun _=>true) a W->Q .normal a W):(Code.region id l.toArray true).wp P Q a0 w:=by
 refine wp_region_any hm ?_
 have main:∀ (f:Nat) (listed:Array Bool) (a:Act) (W:World),listed.size=l.length->openN l.length listed=f->S W->Known l a0 T (fun j=>listed.getD j false) a W →
   (∀ j,j<l.length->listed.getD j false=true->True)->wpAny P .any l.toArray Q f listed a W:=by
  intro f
  induction f with
  | zero=>
   intro listed a W hsz hf hSW hK _
   have hno:Region.ready .any l.toArray listed = []:=by
    refine Classical.byContradiction fun hc=>?_
    obtain⟨j,hj⟩:=List.exists_mem_of_ne_nil _ hc
    obtain⟨hu,o,ho,_⟩:=mem_ready.1 hj
    have hjl:j<l.length:=by simpa using (Array.getElem?_eq_some_iff.1 ho).1
    have:=openN_set l.length listed j hjl hsz hu
    omega
   refine⟨hno,hend a W hSW ?_⟩
   have hall:∀ j,j<l.length->listed.getD j false=true:=by
    intro j hj
    have hjs:j<listed.size:=by omega
    cases hu:listed.getD j true with
    | true=>
     simp only[Array.getD_eq_getD_getElem?,Array.getElem?_eq_getElem hjs,Option.getD_some] at hu ⊢
     exact hu
    | false=>
     have:=openN_set l.length listed j hj hsz hu
     omega
   exact⟨hK.size,hK.defers,fun s hs=>hK.old s (fun i o hi _=>hs i o hi rfl),fun i o s hi _ hs=>hK.new i o s hi (hall i (List.getElem?_eq_some_iff.1 hi).1) hs,fun i o hi _ hs=>hK.mem i o hi (hall i (List.getElem?_eq_some_iff.1 hi).1) hs⟩
  | succ f ih=>
   intro listed a W hsz hf hSW hK _
   refine⟨fun h=>absurd h (ready_of_open hB hsz (by omega)),fun i hi=>?_⟩
   obtain⟨hu,o,ho,hwait⟩:=mem_ready.1 hi
   have hio:l[i]?=some o:=by simpa using ho
   have hil:=(List.getElem?_eq_some_iff.1 hio).1
   have hstep:∀ v W',R i W W'\/W'=W->T i v W'->wpAny P .any l.toArray Q f (listed.setIfInBounds i true) (a.put o.dst v) W':=by
    intro v W' hR hTv
    have hS':S W':=by
     rcases hR with hR | rfl
     ·exact hRS i W W' hSW hR
     ·exact hSW
    refine ih _ _ _ (by simpa using hsz) (by have:=openN_set l.length listed i hil hsz hu;omega) hS' ?_ (fun _ _ _=>trivial)
    refine hK.put hB hn hio hsz hu (fun j u hne hTj=>?_) hTv (fun hd=>hdn i o hio hd v W' hTv)
    rcases hR with hR | rfl
    ·exact hRT i j u W W' hne hSW hR hTj
    ·exact hTj
   have hlist:∀ j,Region.waitsFor .any l.toArray i j=true->listed.getD j false=true:=by
    intro j hj
    obtain⟨o',ho',e,he,hb,hon⟩:=Region.waitsFor_spec hj
    have e1:o'=o:=Option.some.inj (ho'.symm.trans ho)
    subst e1
    rw[←hon];exact hwait e he hb
   have hask:=hop i o hio a W hSW (fun s v hs hv=>by
     rw[hK.old s (fun j oj hj _ hd=>by
      have:=List.all_eq_true.1 hs oj (List.mem_of_getElem? hj)
      rw[hd] at this;simp at this)]
     exact hv)
    (fun j hj oj s hoj hs=>hK.new j oj s hoj (hlist j hj) hs) (fun j hj oj hoj hs=>hK.mem j oj hoj (hlist j hj) hs)
   unfold wpOp
   simp only[ho]
   rcases hask with⟨hw,hg⟩ | ⟨hw,hT⟩
   ·rw[if_pos hw]
    left
    unfold Oper.wp
    generalize (execOp a.eval o).run P W=r at hg
    cases r with
    | ok x w'=>
     cases x <;> simp only[GivesT] at hg
     case value u=>exact hstep _ _ (.inl hg.1) hg.2
     case skip=>exact hstep _ _ (.inl hg.1) hg.2
     case enter f' args=>
      show Calls P f' args w' _
      refine hg.mono ?_
      rintro e w'' ⟨v,rfl,h1,h2⟩
      exact hstep _ _ (.inl h1) h2
    | halt x w'=>simp only[GivesT] at hg
   ·rw[if_neg (by rw[hw];decide)]
    exact hstep _ _ (.inr rfl) hT
 have h0:openN l.length (Array.replicate l.toArray.size false)=l.toArray.size:=by
  unfold openN
  have:((List.range l.length).filter fun i=>(Array.replicate l.toArray.size false).getD i true==false)=List.range l.length:=by
   apply List.filter_eq_self.2
   intro i hi
   rw[List.mem_range] at hi
   simp[hi]
  rw[this];simp
 refine main _ _ _ _ (by simp) h0 hS ⟨rfl,rfl,fun s _=>rfl,fun i o s hi hl=>?_,fun i o hi hl=>?_⟩ (fun _ _ _=>trivial)
 ·rw[getD_replicate_false] at hl;cases hl
 ·rw[getD_replicate_false] at hl;cases hl
end
end
section

abbrev Wd :=BitVec 32
def nm (x:Wd):Int:=(x.toNat:Int)
theorem nm_nonneg (x:Wd):0<=nm x:=by unfold nm;omega
theorem nm_lt (x:Wd):nm x<4294967296:=by have:=x.isLt;unfold nm;omega
def cw (x:Wd):Value:=.int .u32 (nm x)
theorem wrap_u32 (n:Int):IntKind.u32.wrap n=n%4294967296:=by
 simp[IntKind.wrap,IntKind.bits,IntKind.signed]
theorem wrap_u64 (n:Int):IntKind.u64.wrap n=n%18446744073709551616:=by
 simp[IntKind.wrap,IntKind.bits,IntKind.signed]
theorem wrap_u8 (n:Int):IntKind.u8.wrap n=n%256:=by
 simp[IntKind.wrap,IntKind.bits,IntKind.signed]
theorem nm_add (x y:Wd):IntKind.u32.wrap (nm x+nm y)=nm (x+y):=by
 rw[wrap_u32];unfold nm;rw[BitVec.toNat_add];omega
theorem nm_self (x:Wd):IntKind.u32.wrap (nm x)=nm x:=by
 rw[wrap_u32];have:=nm_nonneg x;have:=nm_lt x;omega
theorem ofInt_nm (x:Wd):BitVec.ofInt 32 (nm x)=x:=by
 unfold nm;apply BitVec.eq_of_toNat_eq;rw[BitVec.toNat_ofInt];have:=x.isLt;omega
theorem nm_xor (x y:Wd):bits .xor .u32 (nm x) (nm y)=nm (x^^^y):=by
 have h:bits .xor .u32 (nm x) (nm y)=IntKind.u32.wrap (((BitVec.ofInt 32 (nm x))^^^(BitVec.ofInt 32 (nm y))).toNat):=rfl
 rw[h,ofInt_nm,ofInt_nm];exact nm_self _
theorem nm_or (x y:Wd):bits .or .u32 (nm x) (nm y)=nm (x|||y):=by
 have h:bits .or .u32 (nm x) (nm y)=IntKind.u32.wrap (((BitVec.ofInt 32 (nm x))|||(BitVec.ofInt 32 (nm y))).toNat):=rfl
 rw[h,ofInt_nm,ofInt_nm];exact nm_self _
def rl (x:Wd)(k:Nat):Wd:=x.rotateLeft k
theorem or_add (a b i:Nat)(h:b<2^i):(a*2^i)|||b=a*2^i+b:=by
 rw[Nat.mul_comm];exact(Nat.two_pow_add_eq_or_of_lt h a).symm
theorem nm_rl (x:Wd)(k:Nat)(hk:k<32):bits .or .u32 (nm x*2^k%4294967296) (nm x/2^(32-k))=nm (rl x k):=by
 have h1:nm x*2^k%4294967296=nm (x <<< k):=by
  unfold nm;rw[BitVec.toNat_shiftLeft,Nat.shiftLeft_eq]
  rw[Int.natCast_emod,Int.natCast_mul,Int.natCast_pow];rfl
 have h2:nm x/2^(32-k)=nm (x >>> (32-k)):=by
  unfold nm;rw[BitVec.toNat_ushiftRight,Nat.shiftRight_eq_div_pow,Int.natCast_ediv,Int.natCast_pow];rfl
 rw[h1,h2,nm_or];congr 1
 unfold rl;rw[BitVec.rotateLeft_def,Nat.mod_eq_of_lt hk]
theorem bits_or_nat (a b:Nat)(ha:a<4294967296)(hb:b<4294967296):bits .or .u32 (a:Int) (b:Int)=((a|||b:Nat):Int):=by
 have h1:(a:Int)=nm (BitVec.ofNat 32 a):=by unfold nm;rw[BitVec.toNat_ofNat];omega
 have h2:(b:Int)=nm (BitVec.ofNat 32 b):=by unfold nm;rw[BitVec.toNat_ofNat];omega
 rw[h1,h2,nm_or];unfold nm
 rw[BitVec.toNat_or,BitVec.toNat_ofNat,BitVec.toNat_ofNat,Nat.mod_eq_of_lt (by omega),Nat.mod_eq_of_lt (by omega)]
def wd (b0 b1 b2 b3:UInt8):Wd:=BitVec.ofNat 32 (b0.toNat+256*b1.toNat+65536*b2.toNat+16777216*b3.toNat)
theorem nm_wd (b0 b1 b2 b3:UInt8):nm (wd b0 b1 b2 b3)=(b0.toNat:Int)+256*b1.toNat+65536*b2.toNat+16777216*b3.toNat:=by
 have:=b0.toNat_lt;have:=b1.toNat_lt;have:=b2.toNat_lt;have:=b3.toNat_lt
 unfold nm wd;rw[BitVec.toNat_ofNat];omega
theorem or_add' (a b i:Nat)(h:b<2^i):b|||(a*2^i)=b+a*2^i:=by
 rw[Nat.or_comm,or_add a b i h,Nat.add_comm]
theorem word_eq (b0 b1 b2 b3:UInt8):bits .or .u32 (bits .or .u32 (bits .or .u32 (IntKind.u32.wrap b0.toNat) (IntKind.u32.wrap (IntKind.u32.wrap b1.toNat*256))) (IntKind.u32.wrap (IntKind.u32.wrap b2.toNat*65536)))
  (IntKind.u32.wrap (IntKind.u32.wrap b3.toNat*16777216))=nm (wd b0 b1 b2 b3):=by
 have h0:=b0.toNat_lt;have h1:=b1.toNat_lt;have h2:=b2.toNat_lt;have h3:=b3.toNat_lt
 rw[nm_wd]
 have e0:IntKind.u32.wrap b0.toNat=((b0.toNat:Nat):Int):=by rw[wrap_u32];omega
 have e1:IntKind.u32.wrap (IntKind.u32.wrap b1.toNat*256)=((b1.toNat*2^8:Nat):Int):=by rw[wrap_u32,wrap_u32];omega
 have e2:IntKind.u32.wrap (IntKind.u32.wrap b2.toNat*65536)=((b2.toNat*2^16:Nat):Int):=by rw[wrap_u32,wrap_u32];omega
 have e3:IntKind.u32.wrap (IntKind.u32.wrap b3.toNat*16777216)=((b3.toNat*2^24:Nat):Int):=by rw[wrap_u32,wrap_u32];omega
 rw[e0,e1,e2,e3,bits_or_nat _ _ (by omega) (by omega),or_add' _ _ _ (by omega),bits_or_nat _ _ (by omega) (by omega),or_add' _ _ _ (by omega),bits_or_nat _ _ (by omega) (by omega),or_add' _ _ _ (by omega)]
 omega
theorem ret_int {k:IntKind}{a b:Int}(h:a=b):Ending.returned (.int k a) = .returned (.int k b):=by rw[h]
def gt (v:List Wd)(i:Nat):Wd:=v.getD i 0
def hf (v:List Wd)(a b d k:Nat):List Wd :=
 (v.set a (gt v a+gt v b)).set d (rl (gt (v.set a (gt v a+gt v b)) d^^^gt (v.set a (gt v a+gt v b)) a) k)
def qr (v:List Wd)(a b c d:Nat):List Wd:=hf (hf (hf (hf v a b d 16) c d b 12) a b d 8) c d b 7
theorem hf_len (v:List Wd)(a b d k:Nat):(hf v a b d k).length=v.length:=by simp[hf]
theorem qr_len (v:List Wd)(a b c d:Nat):(qr v a b c d).length=v.length:=by simp[qr,hf_len]
def cells (v:List Wd):Array Value:=(v.map cw).toArray
theorem cells_size (v:List Wd):(cells v).size=v.length:=by simp[cells]
theorem cells_get (v:List Wd)(i:Nat)(h:i<v.length):(cells v)[i]?=some (.int .u32 (nm (gt v i))):=by
 simp[cells,gt,cw,h]
theorem gt_set (v:List Wd)(i j:Nat)(x:Wd)(h:i<v.length):gt (v.set i x) j=if i=j then x else gt v j:=by
 unfold gt;simp only[List.getD_eq_getElem?_getD,List.getElem?_set];split <;> simp_all
def cb (b:UInt8):Value:=.int .u8 (b.toNat:Int)
def cells8 (l:List UInt8):Array Value:=(l.map cb).toArray
def bt (l:List UInt8)(i:Nat):UInt8:=l.getD i 0
theorem cells8_size (l:List UInt8):(cells8 l).size=l.length:=by simp[cells8]
theorem cells8_get (l:List UInt8)(i:Nat)(h:i<l.length):(cells8 l)[i]?=some (.int .u8 ((bt l i).toNat:Int)):=by
 simp[cells8,bt,cb,h]
def wdAt (l:List UInt8)(j:Nat):Wd:=wd (bt l j) (bt l (j+1)) (bt l (j+2)) (bt l (j+3))
def base16 :List Wd:=[1634760805#32,857760878#32,2036477234#32,1797285236#32,0,0,0,0,0,0,0,0,0,0,0,0]
def putWs (l:List UInt8)(at_:Nat)(v:List Wd):Nat->List Wd
 | 0=>v
 | i+1=>(putWs l at_ v i).set (at_+i) (wdAt l (4*i))
theorem putWs_len (l:List UInt8)(p:Nat)(v:List Wd)(i:Nat):(putWs l p v i).length=v.length:=by
 induction i with
 | zero=>rfl
 | succ i ih=>simp[putWs,ih]
def fst16 (k nonce:List UInt8)(n:Wd):List Wd:=putWs nonce 13 ((putWs k 4 base16 8).set 12 n) 3
theorem fst16_len (k nonce:List UInt8)(n:Wd):(fst16 k nonce n).length=16:=by simp[fst16,putWs_len,base16]
def Blk (w:World)(g:Nat)(t:TypeId)(cs:Array Value):Prop:=w.heap[g]?=some (.cells cs t (0,0))
section
variable {w w':World}{g:Nat}{t:TypeId}{cs:Array Value}
theorem Blk.lt (h:Blk w g t cs):g<w.heap.size:=by
 rcases Nat.lt_or_ge g w.heap.size with hlt | hge
 ·exact hlt
 ·unfold Blk at h;rw[Array.getElem?_eq_none hge] at h;cases h
theorem Blk.cell (h:Blk w g t cs)(i:Nat):w.cell? ⟨g,i,none⟩=cs[i]?:=cell_of_row w g i cs t (0,0) h
theorem Blk.frozen (h:Blk w g t cs)(i:Nat):w.frozen? ⟨g,i,none⟩=false:=by
 unfold Blk at h
 simp[World.frozen?,h]
theorem Blk.new (w:World)(t:TypeId)(cs:Array Value):Blk (w.alloc (.cells cs t)) w.heap.size t cs:=heap_alloc_new w _
theorem Blk.drew (h:Blk w g t cs):Blk w.drew g t cs:=h
theorem Blk.alloc (h:Blk w g t cs)(o:Obj):Blk (w.alloc o) g t cs:=(Below.heap_alloc w o g h.lt).trans h
theorem Blk.far (h:Blk w g t cs){p:Addr}(hp:g≠p.block)(u:Value):Blk (w.setCell p u) g t cs:=(Below.heap_setCell w p u g hp).trans h
theorem Blk.below {B:Nat}(h:Blk w g t cs)(hb:Below B w w')(hg:g<B):Blk w' g t cs:=(hb.block g hg).trans h
theorem Blk.grown {row:Option Nat}(h:Blk w g t cs)(hb:w.grownBy w' row)(hg:some g≠row):Blk w' g t cs:=(hb.block g h.lt hg).trans h
end
section
variable {P:Program}{w w':World}{g:Nat}{t:TypeId}{cs cs':Array Value}
theorem Blk.row (h:Blk w g t cs)(cs':Array Value):Blk (w.setRow g cs') g t cs':=setRow_heap w g cs cs' t (0,0) h
theorem Blk.rowFar (h:Blk w g t cs){g':Nat}(hg:g≠g')(cs':Array Value):Blk (w.setRow g' cs') g t cs:=(setRow_other w g' g cs' hg).trans h
end
theorem cells_one (v:List Wd):(cells v).all (·.oneCell')=true:=by
 rw[Array.all_eq_true_iff_forall_mem];intro x hx;simp[cells,cw] at hx;obtain⟨y,_,rfl⟩:=hx;rfl
theorem cells8_one (v:List UInt8):(cells8 v).all (·.oneCell')=true:=by
 rw[Array.all_eq_true_iff_forall_mem];intro x hx;simp[cells8,cb] at hx;obtain⟨y,_,rfl⟩:=hx;rfl
section
variable {P:Program}{t e:TypeId}{n:Nat}
theorem arrLen_of (hu:P.underlying t=some (.array n e)):P.arrayLen t=n/\P.elem t=e:=by simp[Program.arrayLen,Program.elem,hu]
theorem addr_add (g off i:Nat):(⟨g,off,none⟩:Addr).add i=⟨g,off+i,none⟩:=by
 unfold Addr.add;split
 ·subst_vars;rfl
 ·rfl
theorem run_sliceArr_l (hu:P.underlying t=some (.array n e))(hs:∀ w,(sizeOf e).run P w = .ok 1 w)(g off:Nat)(l:Int)(h0:0<=l)(hl:l<n)(W:World) :
  (Instr.sliceAt t (.pointer (some ⟨g,off,none⟩)) (some (.int .i64 l)) none none).run P W = .ok (.slice (some ⟨g,off+l.toNat,none⟩) (n-l.toNat) (n-l.toNat)) W:=by
 obtain⟨h1,h2⟩:=arrLen_of hu
 have ht:P.underlying t=some (.array (P.arrayLen t) (P.elem t)):=by rw[h1,h2];exact hu
 rw[run_sliceAt_array_l W t ⟨g,off,none⟩ ht .i64 l h0 (by rw[h1];omega),h1,h2,hs W]
 simp only[Result.andThen,slicedAt]
 rw[if_neg (by omega),Nat.mul_one,addr_add]
theorem run_sliceArr_h (hu:P.underlying t=some (.array n e))(hs:∀ w,(sizeOf e).run P w = .ok 1 w)(g off:Nat)(h:Int)(h0:0<=h)(hh:h<=n)(hn:0<n)(W:World) :
  (Instr.sliceAt t (.pointer (some ⟨g,off,none⟩)) none (some (.int .i64 h)) none).run P W = .ok (.slice (some ⟨g,off,none⟩) h.toNat n) W:=by
 obtain⟨h1,h2⟩:=arrLen_of hu
 have ht:P.underlying t=some (.array (P.arrayLen t) (P.elem t)):=by rw[h1,h2];exact hu
 rw[run_sliceAt_array_h W t ⟨g,off,none⟩ ht .i64 h h0 (by rw[h1];omega),h1,h2,hs W]
 simp only[Result.andThen,slicedAt]
 rw[if_neg (by omega),Nat.zero_mul,addr_add,Nat.sub_zero,Nat.sub_zero,Nat.add_zero]
theorem run_sliceArr_all (hu:P.underlying t=some (.array n e))(hs:∀ w,(sizeOf e).run P w = .ok 1 w)(g off:Nat)(hn:0<n)(W:World) :
  (Instr.sliceAt t (.pointer (some ⟨g,off,none⟩)) none none none).run P W = .ok (.slice (some ⟨g,off,none⟩) n n) W:=by
 obtain⟨h1,h2⟩:=arrLen_of hu
 have ht:P.underlying t=some (.array (P.arrayLen t) (P.elem t)):=by rw[h1,h2];exact hu
 rw[run_sliceAt_array_all W t ⟨g,off,none⟩ ht,h1,h2,hs W]
 simp only[Result.andThen,slicedAt]
 rw[if_neg (by omega),Nat.zero_mul,addr_add,Nat.sub_zero,Nat.add_zero]
end
def dbl (v:List Wd):List Wd :=
 qr (qr (qr (qr (qr (qr (qr (qr v 0 4 8 12) 1 5 9 13) 2 6 10 14) 3 7 11 15) 0 5 10 15) 1 6 11 12) 2 7 8 13) 3 4 9 14
def rnds (v:List Wd):Nat->List Wd
 | 0=>v
 | i+1=>dbl (rnds v i)
theorem dbl_len (v:List Wd):(dbl v).length=v.length:=by simp[dbl,qr_len]
theorem rnds_len (v:List Wd)(i:Nat):(rnds v i).length=v.length:=by
 induction i with
 | zero=>rfl
 | succ i ih=>simp[rnds,dbl_len,ih]
def byteOf (x:Wd)(j:Nat):UInt8:=UInt8.ofNat (x.toNat/2^(8*j))
theorem byteOf_eq (x:Wd)(j:Nat):IntKind.u8.wrap (nm x/2^(8*j))=((byteOf x j).toNat:Int):=by
 rw[wrap_u8];unfold nm byteOf
 rw[UInt8.toNat_ofNat',Int.natCast_emod,Int.natCast_ediv,Int.natCast_pow];rfl
theorem byteOf_eq' (x:Wd)(j:Nat):nm x/2^(8*j)%256=((byteOf x j).toNat:Int):=by rw[←byteOf_eq,wrap_u8]
def outs (v was:List Wd):Nat->List UInt8
 | 0=>List.replicate 64 0
 | m+1=>(outs v was m).set m (byteOf (gt v (m/4)+gt was (m/4)) (m%4))
theorem outs_len (v was:List Wd)(m:Nat):(outs v was m).length=64:=by
 induction m with
 | zero=>simp[outs]
 | succ m ih=>simp[outs,ih]
def chacha (k nonce:List UInt8)(n:Wd):List UInt8:=outs (rnds (fst16 k nonce n) 10) (fst16 k nonce n) 64
theorem chacha_len (k nonce:List UInt8)(n:Wd):(chacha k nonce n).length=64:=outs_len _ _ _
end

def tx (l:List UInt8):Value:=.string ⟨l.toArray⟩
def Strs (w:World)(v:Value)(l:List (List UInt8)):Prop :=
 ((∃ a c,v = .slice a 0 c)/\l = []) ∨ ∃ b o c:Nat,v = .slice (some ⟨b,o,none⟩) l.length c/\b<w.heap.size ∧ ∀ i,i<l.length->w.cell? ⟨b,o+i,none⟩=some (tx (l.getD i []))
theorem Strs.keep {w w':World}{v:Value}{l:List (List UInt8)}(h:Strs w v l)(hs:w.heap.size<=w'.heap.size)(hk:∀ b,b<w.heap.size->w'.heap[b]?=w.heap[b]?):Strs w' v l:=by
 rcases h with h | ⟨b,o,c,h1,h2,h3⟩
 ·exact .inl h
 ·refine .inr ⟨b,o,c,h1,by omega,fun i hi=>?_⟩
  rw[←h3 i hi]
  unfold World.cell?
  simp only[hk b h2]
theorem Strs.below {w w':World}{v:Value}{l:List (List UInt8)}(h:Strs w v l)(hb:Below w.heap.size w w'):Strs w' v l:=h.keep hb.size (fun b hl=>hb.block b hl)
theorem Strs.grown {w0 w w':World}{g:Nat}{v:Value}{l:List (List UInt8)}(h:Strs w0 v l)(h0:Below w0.heap.size w0 w)(hb:w.grownBy w' (some g))(hg:w0.heap.size<=g):Strs w' v l :=
 h.keep (Nat.le_trans h0.size hb.size) (fun b hl=>(hb.block b (Nat.lt_of_lt_of_le hl h0.size) (by simp;omega)).trans (h0.block b hl))
theorem Strs.len {w:World}{v:Value}{l:List (List UInt8)}(h:Strs w v l):∃ a c,v = .slice a l.length c:=by
 rcases h with⟨⟨a,c,rfl⟩,rfl⟩ | ⟨b,o,c,h1,_,_⟩
 ·exact⟨_,_,rfl⟩
 ·exact⟨_,_,h1⟩
def joinTo (l:List (List UInt8))(i:Nat):List UInt8:=(l.take i).flatten
theorem joinTo_succ (l:List (List UInt8))(i:Nat)(h:i<l.length):joinTo l i++l.getD i []=joinTo l (i+1):=by
 unfold joinTo
 rw[List.take_succ_eq_append_getElem h,List.flatten_append]
 simp[h]
theorem joinTo_le (l:List (List UInt8))(i:Nat):(joinTo l i).length<=l.flatten.length:=by
 have:l.flatten=joinTo l i++(l.drop i).flatten:=by unfold joinTo;rw[←List.flatten_append,List.take_append_drop]
 rw[this,List.length_append];omega
theorem joinTo_all (l:List (List UInt8)):joinTo l l.length=l.flatten:=by unfold joinTo;rw[List.take_length]
theorem Strs.new (w:World)(l:List (List UInt8))(t:TypeId)(c:Nat)(cs:Array Value)(h:cs=(l.map tx).toArray):Strs (w.alloc (.cells cs t)) (.slice (some ⟨w.heap.size,0,none⟩) l.length c) l:=by
 subst h
 refine .inr ⟨w.heap.size,0,c,rfl,by simp,fun i hi=>?_⟩
 rw[(Blk.new w t (l.map tx).toArray).cell]
 simp[hi]
section

structure Kd where
 p:Value->World->Prop
 st:∀ v W W',Below W.heap.size W W'->p v W->p v W'
def kval (c:Value):Kd:=⟨fun v _=>v=c,fun _ _ _ _ h=>h⟩
def kany :Kd:=⟨fun _ _=>True,fun _ _ _ _ _=>trivial⟩
theorem getK {KL l:List Kd}(h:KL=l)(i:Nat):KL.getD i kany=l.getD i kany:=by rw[h]
def kT (KL:List Kd)(i:Nat):Value->World->Prop:=(KL.getD i kany).p
section
variable {P:Program}{l:List Oper}
abbrev grows (_:Nat)(W W':World):Prop:=Below W.heap.size W W'
section
variable {a0:Act}{w:World}{KL:List Kd}{i:Nat}{o:Oper}
abbrev Had (l:List Oper)(a0 a:Act):Prop:=∀ s v,noDst l s=true->a0.tmps[s]?=some v->a.tmps[s]?=some v
abbrev Dep (l:List Oper)(KL:List Kd)(i:Nat)(a:Act)(W:World):Prop:=∀ j,Region.waitsFor .any l.toArray i j=true->∀ oj s,l[j]?=some oj->oj.dst=some s->∃ v,a.tmps[s]?=some v/\kT KL j v W
theorem eval_tmp {a:Act}{s:Nat}{v:Value}(h:a.tmps[s]?=some v):a.eval (.tmp s)=v:=by simp[Act.eval,h]
theorem wanted_yes {a:Act}(hg:o.guard=none):Region.wanted o (yielded l.toArray a.tmps)=true:=by simp[Region.wanted,hg]
variable {W:World}{a:Act}
def depB (l:List Oper)(i j s:Nat):Bool:=Region.waitsFor .any l.toArray i j&&(match l[j]? with | some oj=>oj.dst==some s | none=>false)
theorem Dep.get {j s:Nat}(h:Dep l KL i a W)(hb:depB l i j s=true):∃ v,a.tmps[s]?=some v/\kT KL j v W:=by
 simp only[depB,Bool.and_eq_true] at hb
 obtain⟨h1,h2⟩:=hb
 cases hj:l[j]? with
 | none=>rw[hj] at h2;cases h2
 | some oj=>
  rw[hj] at h2
  exact h j h1 oj s hj (by simpa using h2)
theorem Dep.val {j s:Nat}{c:Value}(h:Dep l KL i a W)(hb:depB l i j s=true)(hk:KL.getD j kany=kval c):a.tmps[s]?=some c:=by
 obtain⟨v,h1,h2⟩:=h.get hb
 unfold kT at h2;rw[hk] at h2
 rw[h1];exact congrArg some h2
theorem Dep.vl (h:Dep l KL i a W)(j s:Nat){c:Value}(hb:depB l i j s=true)(hk:KL.getD j kany=kval c):a.tmps[s]?=some c:=h.val hb hk
theorem Known.val {s:Nat}{c:Value}(h:Known l a0 (kT KL) (fun _=>true) a W)(hb:(match l[i]? with | some oj=>oj.dst==some s | none=>false)=true)(hk:KL.getD i kany=kval c):a.tmps[s]?=some c:=by
 cases hj:l[i]? with
 | none=>rw[hj] at hb;cases hb
 | some oj=>
  rw[hj] at hb
  obtain⟨v,h1,h2⟩:=h.new i oj s hj rfl (by simpa using hb)
  unfold kT at h2;rw[hk] at h2
  rw[h1];exact congrArg some h2
theorem Known.vl (h:Known l a0 (kT KL) (fun _=>true) a W)(i s:Nat){c:Value}(hb:(match l[i]? with | some oj=>oj.dst==some s | none=>false)=true)(hk:KL.getD i kany=kval c):a.tmps[s]?=some c:=h.val hb hk
theorem giv_val {c:Value}{x:Value}(h:(execOp a.eval o).run P W = .ok (.value x) W)(hk:KL.getD i kany=kval c)(hx:x=c):GivesT P (grows i W) (kT KL i) ((execOp a.eval o).run P W):=by
 rw[h]
 refine⟨Below.refl _ _,?_⟩
 unfold kT;rw[hk];exact hx
theorem giv_call {f:FuncId}{args:Array Value}{c:Value}(hrun:(execOp a.eval o).run P W = .ok (.enter f args) W)(hc:Calls P f args W fun e w'=>e = .returned c/\Below W.heap.size W w')(hk:KL.getD i kany=kval c) :
  GivesT P (grows i W) (kT KL i) ((execOp a.eval o).run P W):=by
 rw[hrun]
 refine hc.mono fun e w' h=>⟨c,h.1,h.2,?_⟩
 unfold kT;rw[hk];rfl
end
end
end

def putAll (a:Act):List Oper->List Value->Act
 | o::os,v::vs=>putAll (a.put o.dst v) os vs
 | _,_=>a
def AllAt (a:Act):List Oper->List Value->Prop
 | o::os,v::vs=>(match o.dst with | some s=>a.tmps[s]?=some v | none=>True)/\AllAt a os vs
 | [],[]=>True
 | _,_=>False
theorem putAll_eq {a:Act}:∀ (r:List Oper) (vs:List Value) (b:Act),b.tmps.size=a.tmps.size->(∀ s,(∀ o∈r,o.dst≠some s)->b.tmps[s]?=a.tmps[s]?)->AllAt a r vs->b.defers=a.defers->putAll b r vs=a
 | [],[],b,hs,hb,_,hd=>by
  obtain⟨bt,bd⟩:=b
  obtain⟨at_,ad⟩:=a
  simp only[putAll]
  simp only at hd hb
  subst hd
  congr 1
  apply Array.ext_getElem?
  intro i
  exact hb i (fun o ho=>by cases ho)
 | [],_::_,_,_,_,h,_=>h.elim
 | _::_,[],_,_,_,h,_=>h.elim
 | o::os,v::vs,b,hs,hb,hA,hd=>by
  simp only[putAll]
  refine putAll_eq os vs _ ?_ ?_ hA.2 ?_
  ·cases ho:o.dst <;> simp[Act.put,hs]
  ·intro s hno
   have hA1:=hA.1
   cases ho:o.dst with
   | none=>
    simp only[Act.put]
    exact hb s (fun o' ho'=>by
     rcases List.mem_cons.1 ho' with rfl | h
     ·rw[ho];exact fun e=>by cases e
     ·exact hno o' h)
   | some d=>
    rw[ho] at hA1
    simp only at hA1
    by_cases e:d=s
    ·subst e
     have hlt:d<a.tmps.size:=by
      rcases Nat.lt_or_ge d a.tmps.size with h | h
      ·exact h
      ·rw[Array.getElem?_eq_none h] at hA1;cases hA1
     simp only[Act.put,Array.getElem?_setIfInBounds]
     rw[if_pos trivial,if_pos (by rw[hs];exact hlt)]
     exact hA1.symm
    ·simp only[Act.put,Array.getElem?_setIfInBounds]
     rw[if_neg e]
     exact hb s (fun o' ho'=>by
      rcases List.mem_cons.1 ho' with rfl | h
      ·rw[ho];exact fun e'=>e (Option.some.inj e')
      ·exact hno o' h)
  ·cases ho:o.dst <;> simp[Act.put,hd]
theorem Known.frame {l:List Oper}{a0 a:Act}{T:Nat->Value->World->Prop}{W:World}(h:Known l a0 T (fun _=>true) a W)(vs:List Value)(hA:AllAt a l vs):putAll a0 l vs=a :=
 putAll_eq l vs a0 h.size.symm (fun s hs=>(h.old s (fun _ o ho _=>hs o (List.mem_of_getElem? ho))).symm) hA h.defers.symm
section

structure Kr (base:Nat) where
 p:Value->World->Prop
 row:Option Nat
 st:∀ v W W',Below W.heap.size W W'->p v W->p v W'
 sr:∀ v W r cs,r<base->row≠some r->p v W->p v (W.setRow r cs)
def krblk {base:Nat}(r:Nat)(t:TypeId)(cs:Array Value):Kr base:=⟨fun _ W=>Blk W r t cs,some r,fun _ _ _ hb h=>h.below hb h.lt,fun _ _ r' _ _ hne h=>h.rowFar (fun e=>hne (by rw[e])) _⟩
def krany {base:Nat}:Kr base:=⟨fun _ _=>True,none,fun _ _ _ _ _=>trivial,fun _ _ _ _ _ _ _=>trivial⟩
def rT {base:Nat}(KL:List (Kr base))(i:Nat):Value->World->Prop:=(KL.getD i krany).p
section
variable {P:Program}{l:List Oper}
section
variable {a0:Act}{w:World}{rs:List (Nat×TypeId×Nat)}{KL:List (Kr w.heap.size)}{i:Nat}{o:Oper}{W:World}{a:Act}
theorem Known.rblk {r:Nat}{t:TypeId}{cs:Array Value}(h:Known l a0 (rT KL) (fun _=>true) a W)(hb:(match l[i]? with | some oj=>oj.dst==none | none=>false)=true)(hk:KL.getD i krany=krblk r t cs):Blk W r t cs:=by
 cases hj:l[i]? with
 | none=>rw[hj] at hb;cases hb
 | some oj=>
  rw[hj] at hb
  have h2:=h.mem i oj hj rfl (by simpa using hb)
  unfold rT at h2;rw[hk] at h2
  exact h2
end
end
end

theorem str_byte (l:List UInt8)(i:Nat)(h:i<(⟨l.toArray⟩:ByteArray).size):(⟨l.toArray⟩:ByteArray)[i]'h=bt l i:=by
 have hl:i<l.length:=h
 show l.toArray[i]=bt l i
 simp[bt,hl]
theorem str_app (a b:List UInt8):((⟨a.toArray⟩:ByteArray)++(⟨b.toArray⟩:ByteArray))=⟨(a++b).toArray⟩:=by
 apply ByteArray.ext
 simp
theorem str_size (a:List UInt8):(⟨a.toArray⟩:ByteArray).size=a.length:=by show a.toArray.size=_;simp
theorem str_drop (s:List UInt8)(a:Nat):(⟨s.toArray⟩:ByteArray).extract a s.length=⟨(s.drop a).toArray⟩:=by
 rw[Lib.extract_mk,List.take_of_length_le (by rw[List.length_drop];omega)]
theorem str_mid (s:List UInt8)(a b:Nat):(⟨s.toArray⟩:ByteArray).extract a b=⟨((s.drop a).take (b-a)).toArray⟩:=by
 rw[Lib.extract_mk]
section

section
variable {P:Program}{a:Act}{o:Oper}{W:World}{t t2:TypeId}{x y z:Operand}{k k2:IntKind}{p q r:Int}
theorem guard_int (op:BinOp):(eqGuard op t x y (.int k p) (.int k2 q)).run P W = .ok () W:=by
 cases op <;> simp[eqGuard]
theorem guard_str (op:BinOp)(s s2:ByteArray):(eqGuard op t x y (.string s) (.string s2)).run P W = .ok () W:=by
 cases op <;> simp[eqGuard]
theorem guard_bool (op:BinOp)(s s2:Bool):(eqGuard op t x y (.bool s) (.bool s2)).run P W = .ok () W:=by
 cases op <;> simp[eqGuard]
theorem run_bin {op:BinOp}{u v c:Value}(ho:o.op = .binOp op t x y t2)(hx:a.eval x=u)(hy:a.eval y=v)
  (hg:(eqGuard op t x y u v).run P W = .ok () W) (hr:(binOp op t u v).run P W = .ok c W):(execOp a.eval o).run P W = .ok (.value c) W:=by
 unfold execOp
 simp only[ho,hx,hy,Sem.run_bind,hg,hr,Result.andThen_ok,Sem.run_pure]
theorem run_add (ho:o.op = .binOp .add t x y t2)(hx:a.eval x = .int k p)(hy:a.eval y = .int k q)(h:k.wrap (p+q)=r):(execOp a.eval o).run P W = .ok (.value (.int k r)) W :=
 run_bin ho hx hy (guard_int _) (by simp[binOp,h,go_sem])
theorem run_sub (ho:o.op = .binOp .sub t x y t2)(hx:a.eval x = .int k p)(hy:a.eval y = .int k q)(h:k.wrap (p-q)=r):(execOp a.eval o).run P W = .ok (.value (.int k r)) W :=
 run_bin ho hx hy (guard_int _) (by simp[binOp,h,go_sem])
theorem run_mul (ho:o.op = .binOp .mul t x y t2)(hx:a.eval x = .int k p)(hy:a.eval y = .int k q)(h:k.wrap (p*q)=r):(execOp a.eval o).run P W = .ok (.value (.int k r)) W :=
 run_bin ho hx hy (guard_int _) (by simp[binOp,h,go_sem])
theorem run_quo (ho:o.op = .binOp .quo t x y t2)(hx:a.eval x = .int k p)(hy:a.eval y = .int k q)(h0:q≠0)(h:k.wrap (p.tdiv q)=r):(execOp a.eval o).run P W = .ok (.value (.int k r)) W :=
 run_bin ho hx hy (guard_int _) (by simp[binOp,h,h0,go_sem])
theorem run_rem (ho:o.op = .binOp .rem t x y t2)(hx:a.eval x = .int k p)(hy:a.eval y = .int k q)(h0:q≠0)(h:p.tmod q=r):(execOp a.eval o).run P W = .ok (.value (.int k r)) W :=
 run_bin ho hx hy (guard_int _) (by simp[binOp,h,h0,go_sem])
theorem run_lss {b:Bool}(ho:o.op = .binOp .lss t x y t2)(hx:a.eval x = .int k p)(hy:a.eval y = .int k q)(h:decide (p<q)=b):(execOp a.eval o).run P W = .ok (.value (.bool b)) W :=
 run_bin ho hx hy (guard_int _) (by simp[binOp,h,go_sem])
theorem run_leq {b:Bool}(ho:o.op = .binOp .leq t x y t2)(hx:a.eval x = .int k p)(hy:a.eval y = .int k q)(h:decide (p<=q)=b):(execOp a.eval o).run P W = .ok (.value (.bool b)) W :=
 run_bin ho hx hy (guard_int _) (by simp[binOp,h,go_sem])
theorem run_gtr {b:Bool}(ho:o.op = .binOp .gtr t x y t2)(hx:a.eval x = .int k p)(hy:a.eval y = .int k q)(h:decide (q<p)=b):(execOp a.eval o).run P W = .ok (.value (.bool b)) W :=
 run_bin ho hx hy (guard_int _) (by simp[binOp,h,go_sem])
theorem run_geq {b:Bool}(ho:o.op = .binOp .geq t x y t2)(hx:a.eval x = .int k p)(hy:a.eval y = .int k q)(h:decide (q<=p)=b):(execOp a.eval o).run P W = .ok (.value (.bool b)) W :=
 run_bin ho hx hy (guard_int _) (by simp[binOp,h,go_sem])
theorem run_eqi {b:Bool}(ho:o.op = .binOp .eql t x y t2)(hx:a.eval x = .int k p)(hy:a.eval y = .int k q)(h:(p==q)=b):(execOp a.eval o).run P W = .ok (.value (.bool b)) W :=
 run_bin ho hx hy (guard_int _) (by simp[binOp,h,go_sem])
theorem run_nei {b:Bool}(ho:o.op = .binOp .neq t x y t2)(hx:a.eval x = .int k p)(hy:a.eval y = .int k q)(h:(p != q)=b):(execOp a.eval o).run P W = .ok (.value (.bool b)) W :=
 run_bin ho hx hy (guard_int _) (by simp[binOp,h,go_sem])
theorem ba_toList (s:List UInt8):(⟨s.toArray⟩:ByteArray).toList=s:=by rw[ByteArray.toList_eq]
theorem run_eqs {b:Bool}{s s2:List UInt8}(ho:o.op = .binOp .eql t x y t2)(hx:a.eval x = .string ⟨s.toArray⟩)(hy:a.eval y = .string ⟨s2.toArray⟩)(h:(s==s2)=b):(execOp a.eval o).run P W = .ok (.value (.bool b)) W:=by
 refine run_bin ho hx hy (guard_str _ _ _) ?_
 simp only[binOp,Op.stringOp,ba_toList,h,Sem.run_pure]
theorem run_nes {b:Bool}{s s2:List UInt8}(ho:o.op = .binOp .neq t x y t2)(hx:a.eval x = .string ⟨s.toArray⟩)(hy:a.eval y = .string ⟨s2.toArray⟩)(h:(!(s==s2))=b):(execOp a.eval o).run P W = .ok (.value (.bool b)) W:=by
 refine run_bin ho hx hy (guard_str _ _ _) ?_
 simp only[binOp,Op.stringOp,ba_toList,h,Sem.run_pure]
theorem run_cat {s s2:List UInt8}(ho:o.op = .binOp .add t x y t2)(hx:a.eval x = .string ⟨s.toArray⟩)(hy:a.eval y = .string ⟨s2.toArray⟩)(h:s.length+s2.length<2^62):(execOp a.eval o).run P W = .ok (.value (.string ⟨(s++s2).toArray⟩)) W:=by
 refine run_bin ho hx hy (guard_str _ _ _) ?_
 have h2:¬ 9223372036854775807<s.length+s2.length:=by omega
 simp[binOp,str_size,str_app,h2,go_sem]
theorem run_pick {b:Bool}{u v:Value}(ho:o.op = .pick x y z)(hx:a.eval x = .bool b)(hy:a.eval y=u)(hz:a.eval z=v):(execOp a.eval o).run P W = .ok (.value (if b then u else v)) W:=by
 unfold execOp
 simp only[ho,hx,hy,hz]
 cases b <;> simp[go_sem]
theorem run_len {ts:Array TypeId}{s:List UInt8}(ho:o.op = .call { callee:=.builtin .len,args:=#[x],argTypes:=ts })(hx:a.eval x = .string ⟨s.toArray⟩)(hts:ts = #[t])(hu:P.underlying t=some .string):(execOp a.eval o).run P W = .ok (.value (.int .i64 (s.length:Int))) W:=by
 subst hts
 have e:(Builtin.len_ #[t] o.type #[.string ⟨s.toArray⟩]).run P W = .ok (.int .i64 (s.length:Int)) W:=by simp[hu,go_sem,str_size]
 unfold execOp
 simp only[ho]
 simp[resolve,invoke,builtin,hx,e]
theorem run_cvI (ho:o.op = .convert t t2 x)(hx:a.eval x = .int k p)(hu:P.underlying t=some (.int k))(hu2:P.underlying t2=some (.int k2))(h:k2.wrap p=r):(execOp a.eval o).run P W = .ok (.value (.int k2 r)) W:=by
 have e:(convert t t2 (.int k p)).run P W = .ok (.int k2 r) W:=by simp[hu,hu2,h,go_sem]
 unfold execOp
 simp only[ho,hx,Sem.run_bind,e,Result.andThen_ok,Sem.run_pure]
theorem run_sTo {s:List UInt8}{n:Nat}(ho:o.op = .slice t x none (some y) none)(hx:a.eval x = .string ⟨s.toArray⟩)(hy:a.eval y = .int k p)(hu:P.underlying t=some .string)(hp:p=(n:Int))(hn:n<=s.length):(execOp a.eval o).run P W = .ok (.value (.string ⟨(s.take n).toArray⟩)) W:=by
 subst hp
 have e:(⟨s.toArray⟩:ByteArray).extract 0 n=⟨(s.take n).toArray⟩:=by rw[str_mid];simp
 unfold execOp
 simp only[ho,hx,hy,Option.map]
 simp[hu,go_sem,hn,e]
theorem run_sFrom {s:List UInt8}{m:Nat}(ho:o.op = .slice t x (some y) none none)(hx:a.eval x = .string ⟨s.toArray⟩)(hy:a.eval y = .int k p)(hu:P.underlying t=some .string)(hp:p=(m:Int))(hn:m<=s.length):(execOp a.eval o).run P W = .ok (.value (.string ⟨(s.drop m).toArray⟩)) W:=by
 subst hp
 have e:(⟨s.toArray⟩:ByteArray).extract m s.length=⟨(s.drop m).toArray⟩:=str_drop s m
 unfold execOp
 simp only[ho,hx,hy,Option.map]
 simp[hu,go_sem,hn,e]
theorem run_sMid {s:List UInt8}{m n:Nat}(ho:o.op = .slice t x (some y) (some z) none)(hx:a.eval x = .string ⟨s.toArray⟩)(hy:a.eval y = .int k p)(hz:a.eval z = .int k2 q)(hu:P.underlying t=some .string)(hp:p=(m:Int))(hq:q=(n:Int))(hmn:m<=n)(hn:n<=s.length):(execOp a.eval o).run P W = .ok (.value (.string ⟨((s.drop m).take (n-m)).toArray⟩)) W:=by
 subst hp hq
 have e:(⟨s.toArray⟩:ByteArray).extract m n=⟨((s.drop m).take (n-m)).toArray⟩:=str_mid s m n
 unfold execOp
 simp only[ho,hx,hy,hz,Option.map]
 simp[hu,go_sem,hmn,hn,e]
theorem run_sAt {s:List UInt8}{n:Nat}(ho:o.op = .index t x y)(hx:a.eval x = .string ⟨s.toArray⟩)(hy:a.eval y = .int k p)(hu:P.underlying t=some .string)(hp:p=(n:Int))(hn:n<s.length):(execOp a.eval o).run P W = .ok (.value (.int .u8 ((bt s n).toNat:Int))) W:=by
 subst hp
 have e:∀ h,(⟨s.toArray⟩:ByteArray)[n]'h=bt s n:=fun h=>str_byte s n h
 unfold execOp
 simp only[ho,hx,hy]
 simp[hu,go_sem,hn,e]
theorem run_ext {vs:Array Value}{n:Nat}{c:Value}(ho:o.op = .extract x n)(hx:a.eval x = .tuple vs)(hc:vs[n]?=some c):(execOp a.eval o).run P W = .ok (.value c) W:=by
 unfold execOp
 simp only[ho,hx]
 simp[go_sem,hc]
end
end
section

section
variable {P:Program}{l:List Oper}
def tailB (l:List Oper)(n0:Nat):Bool :=
 decide (n0<l.length)&&Region.sinkB .any l.toArray n0&&Region.chainB .any l.toArray n0&&Region.seqB .any l.toArray (l.length-n0) n0 (List.replicate n0 true++List.replicate (l.length-n0) false).toArray
theorem openN_lt {n:Nat}{listed:Array Bool}(ho:openN n listed≠0):∃ i,i<n/\listed.getD i true=false:=by
 unfold openN at ho
 have:((List.range n).filter fun i=>listed.getD i true==false) ≠ []:=fun e=>ho (by rw[e];rfl)
 obtain⟨i,hi⟩:=List.exists_mem_of_ne_nil _ this
 rw[List.mem_filter,List.mem_range] at hi
 exact⟨i,hi.1,by simpa using hi.2⟩
theorem openN_set' (n:Nat)(listed:Array Bool)(i:Nat)(hi:i<n)(_hs:n<=listed.size)(hu:listed.getD i true=false):openN n listed=openN n (listed.setIfInBounds i true)+1:=by
 unfold openN
 have key:∀ m,m<=n->(((List.range m).filter fun k=>listed.getD k true==false).length=((List.range m).filter fun k=>(listed.setIfInBounds i true).getD k true==false).length+if i<m then 1 else 0):=by
  intro m
  induction m with
  | zero=>intro _;simp
  | succ m ih=>
   intro hmn
   rw[List.range_succ,List.filter_append,List.filter_append,List.length_append,List.length_append,ih (by omega)]
   by_cases hm:m=i
   ·subst hm
    have e1:(listed.setIfInBounds m true).getD m true=true:=by simp
    rw[List.filter_cons,List.filter_cons,hu,e1]
    simp
   ·have e1:(listed.setIfInBounds i true).getD m true=listed.getD m true:=by
     simp only[Array.getD_eq_getD_getElem?,Array.getElem?_setIfInBounds]
     rw[if_neg (fun h=>hm h.symm)]
    have e2:([m].filter fun k=>(listed.setIfInBounds i true).getD k true==false)=([m].filter fun k=>listed.getD k true==false):=by
     rw[List.filter_cons,List.filter_cons,e1];rfl
    rw[e2]
    by_cases h1:i<m
    ·rw[if_pos h1,if_pos (by omega)];omega
    ·rw[if_neg h1,if_neg (by omega)];omega
 rw[key n (Nat.le_refl _),if_pos hi]
theorem Known.hval {n0 i s:Nat}{a0 a:Act}{KL:List Kd}{W:World}{c:Value}(h:Known l a0 (kT KL) (fun i=>decide (i<n0)) a W)(hi:decide (i<n0)=true)(hb:(match l[i]? with | some oj=>oj.dst==some s | none=>false)=true)(hk:KL.getD i kany=kval c):a.tmps[s]?=some c:=by
 cases hj:l[i]? with
 | none=>rw[hj] at hb;cases hb
 | some oj=>
  rw[hj] at hb
  obtain⟨v,h1,h2⟩:=h.new i oj s hj hi (by simpa using hb)
  unfold kT at h2;rw[hk] at h2
  rw[h1];exact congrArg some h2
theorem Known.hvl {n0:Nat}{a0 a:Act}{KL:List Kd}{W:World}{c:Value}(h:Known l a0 (kT KL) (fun i=>decide (i<n0)) a W)(i s:Nat)(hi:decide (i<n0)=true)(hb:(match l[i]? with | some oj=>oj.dst==some s | none=>false)=true)(hk:KL.getD i kany=kval c):a.tmps[s]?=some c:=h.hval hi hb hk
theorem Known.hget {n0 i s:Nat}{a0 a:Act}{KL:List Kd}{W:World}(h:Known l a0 (kT KL) (fun i=>decide (i<n0)) a W)(hi:decide (i<n0)=true)(hb:(match l[i]? with | some oj=>oj.dst==some s | none=>false)=true):∃ v,a.tmps[s]?=some v/\(KL.getD i kany).p v W:=by
 cases hj:l[i]? with
 | none=>rw[hj] at hb;cases hb
 | some oj=>
  rw[hj] at hb
  exact h.new i oj s hj hi (by simpa using hb)
end
end
section

def sx (k nonce:List UInt8)(n:Wd)(i:Nat):UInt8:=bt (chacha k nonce (n+BitVec.ofNat 32 (i/64))) (i%64)
def xorTo (k nonce:List UInt8)(n:Wd)(data:List UInt8):Nat->List UInt8
 | 0=>data
 | m+1=>(xorTo k nonce n data m).set m (bt data m^^^sx k nonce n m)
def xorS (k nonce:List UInt8)(n:Wd)(data:List UInt8):List UInt8:=xorTo k nonce n data data.length
theorem xorTo_len (k nonce:List UInt8)(n:Wd)(data:List UInt8)(m:Nat):(xorTo k nonce n data m).length=data.length:=by
 induction m with
 | zero=>rfl
 | succ m ih=>simp[xorTo,ih]
theorem xorS_len (k nonce:List UInt8)(n:Wd)(data:List UInt8):(xorS k nonce n data).length=data.length:=xorTo_len _ _ _ _ _
theorem bt_set (l:List UInt8)(i j:Nat)(x:UInt8)(h:i<l.length):bt (l.set i x) j=if i=j then x else bt l j:=by
 unfold bt;simp only[List.getD_eq_getElem?_getD,List.getElem?_set];split <;> simp_all
theorem xorTo_at (k nonce:List UInt8)(n:Wd)(data:List UInt8)(m:Nat)(hm:m<=data.length)(j:Nat) :
  bt (xorTo k nonce n data m) j=if j<m then bt data j^^^sx k nonce n j else bt data j:=by
 induction m with
 | zero=>simp[xorTo]
 | succ m ih=>
  rw[xorTo,bt_set _ _ _ _ (by rw[xorTo_len];omega),ih (by omega)]
  by_cases h:m=j
  ·subst h;simp
  ·rw[if_neg h]
   by_cases h2:j<m
   ·rw[if_pos h2,if_pos (by omega)]
   ·rw[if_neg h2,if_neg (by omega)]
theorem xorS_at (k nonce:List UInt8)(n:Wd)(data:List UInt8)(j:Nat)(hj:j<data.length):bt (xorS k nonce n data) j=bt data j^^^sx k nonce n j:=by
 unfold xorS;rw[xorTo_at _ _ _ _ _ (Nat.le_refl _),if_pos hj]
theorem ext_bt {l m:List UInt8}(h:l.length=m.length)(hb:∀ i,i<l.length->bt l i=bt m i):l=m:=by
 apply List.ext_getElem h
 intro i h1 h2
 have:=hb i h1
 simp[bt,h1,h2] at this
 exact this
theorem nm_succ (n:Wd)(j:Nat):(nm (n+BitVec.ofNat 32 j)+1)%4294967296=nm (n+BitVec.ofNat 32 (j+1)):=by
 unfold nm;rw[BitVec.toNat_add,BitVec.toNat_add,BitVec.toNat_ofNat,BitVec.toNat_ofNat];omega
theorem xor8 (a b:UInt8):bits .xor .u8 (a.toNat:Int) (b.toNat:Int)=((a^^^b).toNat:Int):=by
 have h:bits .xor .u8 (a.toNat:Int) (b.toNat:Int)=IntKind.u8.wrap (((BitVec.ofInt 8 (a.toNat:Int))^^^(BitVec.ofInt 8 (b.toNat:Int))).toNat):=rfl
 have e:∀ x:UInt8,BitVec.ofInt 8 (x.toNat:Int)=x.toBitVec:=by
  intro x;apply BitVec.eq_of_toNat_eq;rw[BitVec.toNat_ofInt];have:=x.toNat_lt;show _=x.toNat;omega
 rw[h,e,e,wrap_u8]
 have e2:(a^^^b).toNat=(a.toBitVec^^^b.toBitVec).toNat:=rfl
 have:=(a.toBitVec^^^b.toBitVec).isLt
 omega
section
variable {w w':World}{g:Nat}{l:List UInt8}
end
end

theorem own_lt {w:World}{g base:Nat}{e:TypeId}{size n:Nat}{v:Value}{xs:List Value}(h:w.ownsRow base e size v n xs)(hg:g<base):v.ownBlock≠some g:=by
 rcases h.2 with⟨rfl,_⟩ | ⟨g',cap,cur,rfl,hb,_⟩
 ·simp[Value.ownBlock]
 ·intro he
  have e1:g'=g:=by simpa[Value.ownBlock] using he
  omega
theorem own_base {w:World}{base g:Nat}{e:TypeId}{size n:Nat}{v:Value}{xs:List Value}(h:w.ownsRow base e size v n xs)(hg:v.ownBlock=some g):base<=g:=by
 rcases Nat.lt_or_ge g base with hl | hl
 ·exact absurd hg (own_lt h hl)
 ·exact hl
theorem run_strOf {w:World}{g off cap n:Nat}{l:List UInt8}(hn:l.length=n)(hc:∀ j,j<l.length->w.cell? ⟨g,off+j,none⟩=some (.int .u8 ((bt l j).toNat:Int))) :
  (convert 75 9 (.slice (some ⟨g,off,none⟩) n cap)).run Tryz.prog w = .ok (.string ⟨l.toArray⟩) w:=by
 subst hn
 refine run_convert_bytes_back w _ _ 5 ⟨g,off,none⟩ cap l Tryz.underlying75 Tryz.underlying5 Tryz.underlying9 (fun j hj=>?_)
 rw[addr_add,hc j hj];simp[bt,hj]
theorem run_strBlk {w:World}{g cap n:Nat}{t:TypeId}{l:List UInt8}(hn:l.length=n)(hB:Blk w g t (cells8 l)) :
  (convert 75 9 (.slice (some ⟨g,0,none⟩) n cap)).run Tryz.prog w = .ok (.string ⟨l.toArray⟩) w :=
 run_strOf hn (fun j hj=>by rw[Nat.zero_add,hB.cell];exact cells8_get l j hj)
theorem run_strOwn {w:World}{base:Nat}{v:Value}{l:List UInt8}(h:w.ownsRow base 5 1 v l.length (l.map cb)):(convert 75 9 v).run Tryz.prog w = .ok (.string ⟨l.toArray⟩) w:=by
 rcases h.2 with⟨rfl,h0⟩ | ⟨g,cap,cur,rfl,hg,hh,hc1,hc2,hc3,hc4⟩
 ·have hxs:l = []:=List.eq_nil_of_length_eq_zero h0
  subst hxs
  exact Lib.run_convert_nil_bytes (P:=Tryz.prog) w 75 9 5 0 Tryz.underlying75 Tryz.underlying5 Tryz.underlying9
 ·refine run_strOf rfl (fun i hi=>?_)
  rw[Nat.zero_add,cell_of_row w g i cur 5 (0,0) hh]
  have e:cur[i]?=(cur.toList.take (l.length*1))[i]?:=by rw[List.getElem?_take_of_lt (by omega)];simp
  rw[e,hc4]
  simp[cb,bt,hi]
end Go.Proofs.YtdjholkjkbihmaaGreatDoor
