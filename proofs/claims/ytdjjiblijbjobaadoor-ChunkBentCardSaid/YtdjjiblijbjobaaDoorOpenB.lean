/- A slice of boxes that came in, as it reads. -/
import Derived.Deep.Slices
import Derived.ProofKit
import Derived.Test.YtdjjiblijbjobaaDoorPackS
namespace Go.Proofs.YtdjjiblijbjobaaDoor
open Go.ChangeShapes Go.WideShapes Go.ChangeAt Go.RowKit

theorem list_choice {α : Type} {p : Nat → α → Prop} : ∀ n : Nat, (∀ i, i < n → ∃ x, p i x) → ∃ l : List α, l.length = n ∧ ∀ i x, l[i]? = some x → p i x
  | 0, _ => ⟨[], rfl, fun i x h => by simp at h⟩
  | n + 1, h => by
    obtain ⟨l, hl, hp⟩ := list_choice n fun i hi => h i (by omega)
    obtain ⟨y, hy⟩ := h n (by omega)
    refine ⟨l ++ [y], by simp [hl], fun i x hx => ?_⟩
    by_cases hi : i < l.length
    · rw [List.getElem?_append_left hi] at hx; exact hp i x hx
    · rw [List.getElem?_append_right (by omega)] at hx
      have hlt := (List.getElem?_eq_some_iff.1 hx).1
      simp only [List.length_singleton] at hlt
      have e : i = n := by omega
      subst e
      rw [hl, Nat.sub_self] at hx
      simp only [List.getElem?_cons_zero, Option.some.injEq] at hx
      subst hx
      exact hy
theorem flat_inv {α : Type} {f : α → List Value} {m : Nat} (hf : ∀ x, (f x).length = m) : ∀ (l : List α) (j : Nat) (u : Value), (l.flatMap f)[j]? = some u → ∃ i x r, j = i * m + r ∧ l[i]? = some x ∧ (f x)[r]? = some u
  | [], j, u, h => by simp at h
  | y :: l, j, u, h => by
    rw [List.flatMap_cons] at h
    by_cases hj : j < (f y).length
    · rw [List.getElem?_append_left hj] at h
      exact ⟨0, y, j, by omega, rfl, h⟩
    · rw [List.getElem?_append_right (by omega), hf] at h
      obtain ⟨i, x, r, h1, h2, h3⟩ := flat_inv hf l (j - m) u h
      rw [hf] at hj
      exact ⟨i + 1, x, r, by rw [Nat.add_mul]; omega, by simpa using h2, h3⟩
theorem flat_len {α : Type} {f : α → List Value} {m : Nat} (hf : ∀ x, (f x).length = m) : ∀ l : List α, (l.flatMap f).length = l.length * m
  | [] => by simp
  | y :: l => by rw [List.flatMap_cons, List.length_append, flat_len hf l, hf, List.length_cons, Nat.add_mul]; omega
theorem plain_addr {W : World} {a : Addr} {u : Value} (h : W.cell? (a.add 0) = some u) : a.spot = none ∧ a.block < W.heap.size := by
  unfold World.cell? at h
  have e : (a.add 0).block = a.block ∧ (a.add 0).spot = a.spot := by unfold Addr.add; rw [if_pos rfl]; exact ⟨rfl, rfl⟩
  rw [e.1, e.2] at h
  split at h
  · rename_i c t fr hb
    constructor
    · cases hs : a.spot with
      | none => rfl
      | some x => rw [hs] at h; simp at h
    · rcases Nat.lt_or_ge a.block W.heap.size with hlt | hge
      · exact hlt
      · rw [Array.getElem?_eq_none hge] at hb; cases hb
  · cases h
end Go.Proofs.YtdjjiblijbjobaaDoor
