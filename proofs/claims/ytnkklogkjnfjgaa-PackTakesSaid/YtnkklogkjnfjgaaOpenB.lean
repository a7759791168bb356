/- A slice of boxes that came in, as it reads. -/
import Derived.Deep.Slices
import Derived.ProofKit
import Derived.Test.YtnkklogkjnfjgaaPackS
namespace Go.Proofs.Ytnkklogkjnfjgaa
open Go.ChangeShapes Go.WideShapes Go.ChangeAt Go.RowKit

theorem list_choice {α : Type} {p : Nat → α → Prop} : ∀ n : Nat, (∀ i, i < n → ∃ x, p i x) → ∃ l : List α, l.length = n ∧ ∀ i x, l[i]? = some x → p i x
  | 0, _ => ⟨[], rfl, fun i x h => by simp at h⟩
  | n + 1, h => by
    obtain ⟨l, hl, hp⟩ := list_choice n fun i hi => h i (by omega)
    obtain ⟨y, hy⟩ := h n (by omega)
    refine ⟨l ++ [y], by simp [hl], fun i x hx => ?_⟩
    by_cases hi : i < l.length
    · rw [List.getElem?_append_left hi] at hx; exact hp i x hx
    · rw [List.getElem?_append_right (by omega)] at hx
      have hlt := (List.getElem?_eq_some_iff.1 hx).1
      simp only [List.length_singleton] at hlt
      have e : i = n := by omega
      subst e
      rw [hl, Nat.sub_self] at hx
      simp only [List.getElem?_cons_zero, Option.some.injEq] at hx
      subst hx
      exact hy
theorem flat_inv {α : Type} {f : α → List Value} {m : Nat} (hf : ∀ x, (f x).length = m) : ∀ (l : List α) (j : Nat) (u : Value), (l.flatMap f)[j]? = some u → ∃ i x r, j = i * m + r ∧ l[i]? = some x ∧ (f x)[r]? = some u
  | [], j, u, h => by simp at h
  | y :: l, j, u, h => by
    rw [List.flatMap_cons] at h
    by_cases hj : j < (f y).length
    · rw [List.getElem?_append_left hj] at h
      exact ⟨0, y, j, by omega, rfl, h⟩
    · rw [List.getElem?_append_right (by omega), hf] at h
      obtain ⟨i, x, r, h1, h2, h3⟩ := flat_inv hf l (j - m) u h
      rw [hf] at hj
      exact ⟨i + 1, x, r, by rw [Nat.add_mul]; omega, by simpa using h2, h3⟩
theorem flat_len {α : Type} {f : α → List Value} {m : Nat} (hf : ∀ x, (f x).length = m) : ∀ l : List α, (l.flatMap f).length = l.length * m
  | [] => by simp
  | y :: l => by rw [List.flatMap_cons, List.length_append, flat_len hf l, hf, List.length_cons, Nat.add_mul]; omega
theorem plain_addr {W : World} {a : Addr} {u : Value} (h : W.cell? (a.add 0) = some u) : a.spot = none ∧ a.block < W.heap.size := by
  unfold World.cell? at h
  have e : (a.add 0).block = a.block ∧ (a.add 0).spot = a.spot := by unfold Addr.add; rw [if_pos rfl]; exact ⟨rfl, rfl⟩
  rw [e.1, e.2] at h
  split at h
  · rename_i c t fr hb
    constructor
    · cases hs : a.spot with
      | none => rfl
      | some x => rw [hs] at h; simp at h
    · rcases Nat.lt_or_ge a.block W.heap.size with hlt | hge
      · exact hlt
      · rw [Array.getElem?_eq_none hge] at hb; cases hb
  · cases h
theorem text_of {s : ByteArray} : ∃ l : List UInt8, Value.string s = tx l := ⟨s.data.toList, by unfold tx; cases s; simp⟩
set_option maxRecDepth 100000 in
theorem open_boxes {H : Type} {enc : TypeId × Value → H} {W : World} {base : Nat} {v : Value} {d : DataW H} {ps : List MemPlace} {sp : Nat → Bool} {hd : Bool} {b0 : Nat} (hval : Value.okWide Try.prog W .any base 22 v)
    (h : DataW.Trod enc Try.prog W b0 sp hd 22 v d ps) : ∃ l : List Bx, Sl W v 2 l.length (l.flatMap boxC) ∧ l.length ≤ maxLen := by
  obtain ⟨fuel, hf⟩ := h
  have hcs : v.cells.toList = [v] := by
    obtain ⟨a, n, c, rfl⟩ := okWide_slice Try.underlying22 hval
    rfl
  rw [hcs] at hf
  rcases Deep.open_slice Try.underlying22 hf with ⟨h1, _⟩ | ⟨a, len, cap, m, n, D, Pl, h1, _, hl, hm, hmm, _, hc⟩
  · injection h1 with h1
    subst h1
    exact ⟨[], ⟨by simp, .inl ⟨⟨_, _, rfl⟩, rfl⟩⟩, by simp⟩
  · injection h1 with h1
    subst h1
    have hlm : len ≤ m := by rw [hmm]; split <;> omega
    have hcell : Try.prog.cellsOf 29 = 2 := by kernel_rfl
    rw [hcell] at hc
    obtain ⟨l, hll, hlp⟩ := list_choice (p := fun i (x : Bx) => W.cell? ((a.add (i * 2)).add 0) = some (tx x.1) ∧ W.cell? ((a.add (i * 2)).add 1) = some (tx x.2)) len (fun i hi => by
      obtain ⟨cs, hcs, ht⟩ := hc i (by omega)
      obtain ⟨_, hcl, hat⟩ := World.cells?_some hcs
      obtain ⟨xs, n', _, _, _, _, hf⟩ := DataW.trod_struct Try.underlying29 ht
      have g0 := hat 0 (by omega)
      have g1 := hat 1 (by omega)
      match cs, hcl with
      | [c0, c1], _ =>
        have f0 := hf 0 _ rfl
        have f1 := hf 1 _ rfl
        have k1 : Try.prog.cellsOf 9 = 1 := by kernel_rfl
        have f0' : DataW.trod enc Try.prog W b0 sp hd n' 9 [c0] = xs[0]? := by simpa [k1] using f0
        have f1' : DataW.trod enc Try.prog W b0 sp hd n' 9 [c1] = xs[1]? := by simpa [k1] using f1
        have hx2 : xs.length = 2 := by assumption
        obtain ⟨y0, hy0⟩ : ∃ y, xs[0]? = some y := ⟨xs[0], by simp [hx2]⟩
        obtain ⟨y1, hy1⟩ : ∃ y, xs[1]? = some y := ⟨xs[1], by simp [hx2]⟩
        obtain ⟨s0, e0, _, _⟩ := DataW.trod_string Try.underlying9 (f0'.trans hy0)
        obtain ⟨s1, e1, _, _⟩ := DataW.trod_string Try.underlying9 (f1'.trans hy1)
        injection e0 with e0
        injection e1 with e1
        obtain ⟨l0, hl0⟩ := text_of (s := s0)
        obtain ⟨l1, hl1⟩ := text_of (s := s1)
        exact ⟨(l0, l1), by rw [g0, e0, hl0]; rfl, by rw [g1, e1, hl1]; rfl⟩)
    refine ⟨l, ⟨flat_len boxC_len l, ?_⟩, by omega⟩
    rcases Nat.eq_zero_or_pos len with h0 | h0
    · exact .inl ⟨⟨_, _, by rw [h0]⟩, by omega⟩
    · obtain ⟨x0, hx0⟩ : ∃ x, l[0]? = some x := ⟨l[0], by simp [show 0 < l.length by omega]⟩
      have c0 := (hlp 0 x0 hx0).1
      have e00 : (a.add (0 * 2)).add 0 = a.add 0 := by unfold Addr.add; simp
      rw [e00] at c0
      obtain ⟨hsp, hb⟩ := plain_addr c0
      obtain ⟨b, o, sp'⟩ := a
      simp only at hsp hb
      subst hsp
      refine .inr ⟨b, o, cap, by rw [hll], hb, fun j u hu => ?_⟩
      obtain ⟨i, x, r, rfl, hx, hr⟩ := flat_inv boxC_len l j u hu
      obtain ⟨q0, q1⟩ := hlp i x hx
      rw [addr_add, addr_add] at q0 q1
      match r, hr with
      | 0, hr => simp only [boxC, List.getElem?_cons_zero, Option.some.injEq] at hr; subst hr; rw [← q0]; rfl
      | 1, hr => simp only [boxC, List.getElem?_cons_succ, List.getElem?_cons_zero, Option.some.injEq] at hr; subst hr; rw [← q1]; rfl
      | r + 2, hr => simp [boxC] at hr
end Go.Proofs.Ytnkklogkjnfjgaa
