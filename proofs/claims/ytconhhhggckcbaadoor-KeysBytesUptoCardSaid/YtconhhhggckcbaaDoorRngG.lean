/- Parts of rows; the example's keys. -/
import Derived.Test.YtconhhhggckcbaaDoorRng4
import Derived.Test.YtconhhhggckcbaaDoorSesQ
namespace Go.Proofs.YtconhhhggckcbaaDoor
open Go.RowKit
variable {D : List Deferred}

section
variable {P : Program} {a : Act} {o : Oper} {w w0 : World} {n s : Nat} {M : List (Nat × (Obj → Prop))} {v : Value} {x y z : Operand} {g : Nat}
theorem OwnR.toMem2 {e : TypeId} {size m : Nat} {xs : List Value} (h : OwnR w0 M w e size v m xs) (hM : Mem w0 M w) (hm : 0 < m) : ∃ g c, v = .slice (some ⟨g, 0, none⟩) m c ∧ m ≤ c ∧ Mem w0 ((g, isRow e size m xs) :: M) w := by
  rcases h.owns.2 with ⟨_, h2⟩ | ⟨g, cap, cur, rfl, _, _, h2, _, _, _⟩
  · omega
  · obtain ⟨g2, c2, h5, h6⟩ := h.toMem hM hm
    injection h5 with h7 h8 h9
    injection h7 with h7
    injection h7 with h7
    subst h7
    subst h9
    exact ⟨_, _, rfl, h2, h6⟩
theorem own_ne_row {B : Nat} {e t : TypeId} {size m s2 k : Nat} {xs ys : List Value} (h : w.ownsRow B e size v m xs) (hg : ∃ ob, w.heap[g]? = some ob ∧ isRow t s2 k ys ob) (ht : (!(Nat.beq t e)) = true) : v.ownBlock ≠ some g := by
  obtain ⟨ob, h1, cur, rfl, _⟩ := hg
  exact own_ne_ty h h1 ht
theorem slMid {α : Type} {f : α → List Value} {g c size i j : Nat} {e : TypeId} {l : List α} (hf : ∀ x, (f x).length = size) (h : ∃ ob, w.heap[g]? = some ob ∧ isRow e size l.length (l.flatMap f) ob) (hij : i ≤ j) (hj : j ≤ l.length) : Sl w (.slice (some ⟨g, i * size, none⟩) (j - i) (c - i)) size ((l.drop i).take (j - i)).length (((l.drop i).take (j - i)).flatMap f) := by
  obtain ⟨ob, h1, cur, rfl, h2, h3⟩ := h
  have hl : ((l.drop i).take (j - i)).length = j - i := by rw [List.length_take, List.length_drop]; omega
  refine ⟨flat_lenG hf _, .inr ⟨g, i * size, c - i, by rw [hl], lt_of_ob h1, fun q u hq => ?_⟩⟩
  rw [cell_of_row w g (i * size + q) cur e (0, 0) h1]
  have hq1 : q < (j - i) * size := by have := (List.getElem?_eq_some_iff.1 hq).1; rw [flat_lenG hf, hl] at this; exact this
  have hm : (j - i) * size + i * size = j * size := by rw [← Nat.add_mul]; congr 1; omega
  have hm2 : j * size ≤ l.length * size := Nat.mul_le_mul_right _ hj
  have e1 : cur[i * size + q]? = (cur.toList.take (l.length * size))[i * size + q]? := by rw [List.getElem?_take_of_lt (by omega)]; simp
  rw [e1, h2]
  have e2 : l.flatMap f = (l.take i).flatMap f ++ (((l.drop i).take (j - i)).flatMap f ++ ((l.drop i).drop (j - i)).flatMap f) := by
    rw [← List.flatMap_append, ← List.flatMap_append, List.take_append_drop, List.take_append_drop]
  have e3 : ((l.take i).flatMap f).length = i * size := by rw [flat_lenG hf, List.length_take, Nat.min_eq_left (by omega)]
  rw [e2, List.getElem?_append_right (by omega), e3, Nat.add_sub_cancel_left, List.getElem?_append_left (by rw [flat_lenG hf, hl]; exact hq1)]
  exact hq
theorem run_fromS {t e : TypeId} {k : IntKind} {p : Int} {m c i sz : Nat} (ho : o.op = .slice t x (some y) none none) (hx : a.eval x = .slice (some ⟨g, 0, none⟩) m c) (hy : a.eval y = .int k p) (hp : p = (i : Int)) (him : i ≤ m) (hic : i < c) (_hi0 : i ≠ 0) (hu : P.underlying t = some (.slice e)) (hsz : (sizeOf e).run P w = .ok sz w) :
    (execOp a.eval o).run P w = .ok (.value (.slice (some ⟨g, i * sz, none⟩) (m - i) (c - i))) w := by
  subst hp
  have he : P.elem t = e := by simp [Program.elem, hu]
  have ht : P.underlying t = some (.slice (P.elem t)) := by rw [he]; exact hu
  have hz2 : (sizeOf (P.elem t)).run P w = .ok sz w := by rw [he]; exact hsz
  have hr := run_slice_l (P := P) w t (some ⟨g, 0, none⟩) m c ht k (i : Int) (by omega) (by omega)
  have hs : (Instr.sliceAt t (.slice (some ⟨g, 0, none⟩) m c) (some (.int k (i : Int))) none none).run P w = .ok (.slice (some ⟨g, i * sz, none⟩) (m - i) (c - i)) w := by
    rw [run_sliceAt_slice w t _ _ _ _ ht, hr, hz2]
    have hne : c ≠ i := by omega
    simp [sliced, Addr.add, hne]
    try (intro h; omega)
  unfold execOp
  simp only [ho, hx, hy, Option.map, Sem.run_bind, hs, Result.andThen_ok, Sem.run_pure]
end
/-- the example. -/
theorem sealS_short (k n h d : List UInt8) (hn : n.length = 12) (hd : d.length = 32) : (sealS k n h d).length < 2 ^ 29 := by
  rw [sealS_len k n h d hn, hd]; decide
theorem ringS_wr {K : List (List UInt8)} (h32 : ∀ x ∈ K, x.length = 32) : ∀ e ∈ ringS K, e.wr.length < 2 ^ 29 := by
  intro e he
  obtain ⟨i, hi, rfl⟩ := List.mem_map.1 he
  have hi := List.mem_range.1 hi
  unfold epAt
  by_cases h0 : i = 0
  · rw [if_pos h0]; exact Nat.lt_of_lt_of_le Nat.zero_lt_one (by decide)
  · rw [if_neg h0]
    refine sealS_short _ _ _ _ (nonceS_len _) ?_
    rw [List.getD_eq_getElem?_getD, List.getElem?_eq_getElem (by omega : i - 1 < K.length), Option.getD_some]
    exact h32 _ (List.getElem_mem _)
def ky1 : List UInt8 := 1 :: List.replicate 31 0
def ky2 : List UInt8 := 2 :: List.replicate 31 0
def no64 : List UInt8 := List.replicate 64 0
theorem ky1_len : ky1.length = 32 := by simp [ky1]
theorem ky2_len : ky2.length = 32 := by simp [ky2]
theorem no64_len : no64.length = 64 := by simp [no64]
theorem ky_apart : keyedS ky1 checkT ≠ keyedS ky2 checkT := by decide +kernel
attribute [local irreducible] sealS keyedS nonceS openS
theorem ex_make : makeS ky1 no64 = (ringS [ky1], [ky1], shS ky1 no64, 0) := by unfold makeS; rw [if_pos no64_len]
theorem ex_rot : rotS (ringS [ky1]) [ky1] ky2 no64 = (ringS [ky1, ky2], [ky1, ky2], shS ky2 no64, 0) := rot_ring (by simp) (by decide) (by decide) no64_len
theorem ex32 : ∀ x ∈ [ky1, ky2], x.length = 32 := by
  intro x hx
  rcases List.mem_cons.1 hx with rfl | hx
  · exact ky1_len
  · rw [List.mem_singleton.1 hx]; exact ky2_len
theorem ringS_ne_nil {K : List (List UInt8)} (h : K ≠ []) : ringS K ≠ [] := by
  intro hr
  have := congrArg List.length hr
  rw [ringS_len] at this
  exact h (List.eq_nil_of_length_eq_zero this)
theorem opnS_some {E : List Ep} {l : List Sh} {k : List UInt8} (hE : E ≠ []) (hj : joinT l = some k) : opnS E l = opnK E k := by unfold opnS; rw [if_neg hE, hj]
theorem ex_open {m : Nat} (hm : m = 3) : opnS (ringS [ky1, ky2]) (((shS ky2 no64).drop 2).take m) = ([ky1, ky2], 0) := by
  subst hm
  have hj : joinT (((shS ky2 no64).drop 2).take 3) = some ky2 := by
    have h : ((shS ky2 no64).drop 2).take 3 = [shOf ky2 no64 2, shOf ky2 no64 3, shOf ky2 no64 4] := rfl
    rw [h]
    exact join_shares ky2_len (by decide) (by decide) (by decide) (by decide) (by decide) (by decide)
  rw [opnS_some (ringS_ne_nil (by simp)) hj]
  exact open_ring rfl ex32
theorem ex_shut {m : Nat} (hm : m = 3) : opnS (ringS [ky1, ky2]) ((shS ky1 no64).take m) = ([], 21) := by
  subst hm
  have hj : joinT ((shS ky1 no64).take 3) = some ky1 := by
    have h : (shS ky1 no64).take 3 = [shOf ky1 no64 0, shOf ky1 no64 1, shOf ky1 no64 2] := rfl
    rw [h]
    exact join_shares ky1_len (by decide) (by decide) (by decide) (by decide) (by decide) (by decide)
  rw [opnS_some (ringS_ne_nil (by simp)) hj]
  exact open_other (k := ky2) rfl ky_apart
end Go.Proofs.YtconhhhggckcbaaDoor
