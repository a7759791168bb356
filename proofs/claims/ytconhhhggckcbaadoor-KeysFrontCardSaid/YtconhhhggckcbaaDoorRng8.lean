/- Plain: keys that are apart; the keys of names and boxes of the first keys. -/
import Derived.Test.YtconhhhggckcbaaDoorRng7
namespace Go.Proofs.YtconhhhggckcbaaDoor
open Go.RowKit

theorem nodup_of_ap {l : List (List UInt8)} (h : ∀ (p q : Nat) (x y : List UInt8), l[p]? = some x → l[q]? = some y → q < p → x ≠ y ∧ keyedS x checkT ≠ keyedS y checkT) : l.Nodup := by
  rw [List.nodup_iff_pairwise_ne, List.pairwise_iff_getElem]
  intro i j hi hj hij he
  exact (h j i l[j] l[i] (List.getElem?_eq_getElem hj) (List.getElem?_eq_getElem hi) hij).1 he.symm
attribute [local irreducible] sealS keyedS nonceS openS
theorem getD_take {l : List (List UInt8)} {i n : Nat} (h : i < n) : (l.take n).getD i [] = l.getD i [] := by
  rw [List.getD_eq_getElem?_getD, List.getD_eq_getElem?_getD, List.getElem?_take_of_lt h]
theorem idS_take {l : List (List UInt8)} {j : Nat} (h : j < l.length) : idS (l.take (j + 1)) = idS l := by
  have h1 : l.take (j + 1) ≠ [] := by
    intro e
    have h3 : (l.take (j + 1)).length = j + 1 := by rw [List.length_take]; omega
    rw [e] at h3
    simp at h3
  have h2 : l ≠ [] := by
    rintro rfl
    simp at h
  unfold idS
  rw [if_neg h1, if_neg h2, getD_take (by omega)]
theorem box_take {l : List (List UInt8)} {j : Nat} (h : j < l.length) : ∃ bx : List UInt8, bx.length = 32 ∧ boxK (l.take (j + 1)) (j : Int) = (bx, 0) ∧ boxK l (j : Int) = (bx, 0) := by
  refine ⟨bkeyS l j, bkeyS_len _ _, ?_, ?_⟩
  · unfold boxK
    rw [if_neg (by rw [List.length_take]; omega), Int.toNat_natCast]
    unfold bkeyS
    rw [getD_take (by omega)]
  · unfold boxK
    rw [if_neg (by omega), Int.toNat_natCast]
theorem ring_take (l : List (List UInt8)) (i : Nat) : (ringS l).take i = ringS (l.take i) := by
  apply List.ext_getElem?
  intro q
  by_cases h : q < i
  · rw [List.getElem?_take_of_lt h]
    by_cases hq : q < l.length
    · rw [ringS_at hq, ringS_at (by rw [List.length_take]; omega)]
      unfold epAt
      by_cases h0 : q = 0
      · rw [if_pos h0, if_pos h0, getD_take (by omega)]
      · rw [if_neg h0, if_neg h0, getD_take h, getD_take (by omega)]
    · rw [List.getElem?_eq_none (by rw [ringS_len]; omega), List.getElem?_eq_none (by rw [ringS_len, List.length_take]; omega)]
  · rw [List.getElem?_eq_none (by rw [List.length_take]; omega), List.getElem?_eq_none (by rw [ringS_len, List.length_take]; omega)]
theorem shS_at {k no : List UInt8} {j : Nat} (h : j < 5) : (shS k no)[j]? = some (shOf k no j) := by
  rw [shS, List.getElem?_map, List.getElem?_range h]; rfl
theorem front_open {l : List (List UInt8)} {q m : Nat} {k no : List UInt8} (hk : l[q]? = some k) (h32 : ∀ x ∈ l, x.length = 32) (hm : m = 3) : opnS ((ringS l).take (q + 1)) (((shS k no).drop 1).take m) = (l.take (q + 1), 0) := by
  subst hm
  have hql := (List.getElem?_eq_some_iff.1 hk).1
  have htl : (l.take (q + 1)).length = q + 1 := by rw [List.length_take]; omega
  have hne : l.take (q + 1) ≠ [] := by
    intro e
    rw [e] at htl
    simp at htl
  have hj : joinT (((shS k no).drop 1).take 3) = some k := by
    have h : ((shS k no).drop 1).take 3 = [shOf k no 1, shOf k no 2, shOf k no 3] := rfl
    rw [h]
    exact join_shares (h32 k (List.mem_of_getElem? hk)) (by decide) (by decide) (by decide) (by decide) (by decide) (by decide)
  rw [ring_take, opnS_some (ringS_ne_nil hne) hj]
  refine open_ring ?_ (fun x hx => h32 x (List.mem_of_mem_take hx))
  rw [htl, Nat.add_sub_cancel, List.getElem?_take_of_lt (by omega)]
  exact hk
theorem three_open {l : List (List UInt8)} {k no : List UInt8} {i j m : Nat} (hk : l[l.length - 1]? = some k) (h32 : ∀ x ∈ l, x.length = 32) (hi : i < 5) (hj : j < 5) (hm : m < 5) (hij : i ≠ j) (him : i ≠ m) (hjm : j ≠ m) : opnS (ringS l) [shOf k no i, shOf k no j, shOf k no m] = (l, 0) := by
  have hne : l ≠ [] := by
    rintro rfl
    simp at hk
  rw [opnS_some (ringS_ne_nil hne) (join_shares (h32 k (List.mem_of_getElem? hk)) hi hj hm hij him hjm)]
  exact open_ring hk h32
theorem three_shut {l : List (List UInt8)} {k k2 no : List UInt8} {i j m : Nat} (hk : l[l.length - 1]? = some k) (hk2 : k2.length = 32) (hne2 : keyedS k2 checkT ≠ keyedS k checkT) (hi : i < 5) (hj : j < 5) (hm : m < 5) (hij : i ≠ j) (him : i ≠ m) (hjm : j ≠ m) : opnS (ringS l) [shOf k2 no i, shOf k2 no j, shOf k2 no m] = ([], 21) := by
  have hne : l ≠ [] := by
    rintro rfl
    simp at hk
  rw [opnS_some (ringS_ne_nil hne) (join_shares hk2 hi hj hm hij him hjm)]
  exact open_other hk hne2
theorem three_twice {l : List (List UInt8)} {k no : List UInt8} {i j m : Nat} (hne : l ≠ []) (h : i = j ∨ i = m ∨ j = m) : opnS (ringS l) [shOf k no i, shOf k no j, shOf k no m] = ([], 1) := by
  unfold opnS
  rw [if_neg (ringS_ne_nil hne), join_twice h]
theorem run_shs3 {a : Act} {o : Oper} {w : World} {x y z : Operand} {s0 s1 s2 : Sh} (ho : o.op = .buildSlice 31 3 #[(0, x), (1, y), (2, z)]) (hx : a.eval x = .agg (shareC s0).toArray) (hy : a.eval y = .agg (shareC s1).toArray) (hz : a.eval z = .agg (shareC s2).toArray) : (execOp a.eval o).run Tryd.prog w = .ok (.value (.slice (some ⟨w.heap.size, 0, none⟩) 3 3)) (w.alloc (.cells (List.toArray ([s0, s1, s2].flatMap shareC)) 54)) := by
  have hr : (Instr.buildSlice 31 3 #[(0, .agg (shareC s0).toArray), (1, .agg (shareC s1).toArray), (2, .agg (shareC s2).toArray)]).run Tryd.prog w = .ok (.slice (some ⟨w.heap.size, 0, none⟩) 3 3) (w.alloc (.cells (List.toArray ([s0, s1, s2].flatMap shareC)) 54)) := by kernel_rfl
  unfold execOp
  simp only [ho, List.map_toArray, List.map_cons, List.map_nil, hx, hy, hz, Sem.run_bind, hr, Result.andThen_ok, Sem.run_pure]
end Go.Proofs.YtconhhhggckcbaaDoor
