/- Plain: rings as bytes. -/
import Derived.Test.YtconhhhggckcbaaDoorClnQ
import Derived.Test.YtconhhhggckcbaaDoorNumTexts
namespace Go.Proofs.YtconhhhggckcbaaDoor
open Go.RowKit

/-- has a ring bytes? -/
def mayP (E : List Ep) : Prop := 1 ≤ E.length ∧ E.length ≤ 100 ∧ ∀ i, i < E.length → (i = 0 ↔ (E.getD i noEp).wr = [])
instance mayDec (E : List Ep) : Decidable (mayP E) := by unfold mayP; infer_instance
theorem mayP_bad {E : List Ep} {i : Nat} {e : Ep} (he : E[i]? = some e) (h : ¬ (i = 0 ↔ e.wr = [])) : ¬ mayP E := fun hm => h (by
  have := hm.2.2 i (List.getElem?_eq_some_iff.1 he).1
  rwa [List.getD_eq_getElem?_getD, he] at this)
/-- its texts. -/
def rtxT (E : List Ep) : List (List UInt8) := E.flatMap fun e => [e.c, e.wr]
theorem rtxT_cons (e : Ep) (E : List Ep) : rtxT (e :: E) = e.c :: e.wr :: rtxT E := rfl
theorem rtxT_len (E : List Ep) : (rtxT E).length = 2 * E.length := by
  induction E with
  | nil => rfl
  | cons e E ih => rw [rtxT_cons, List.length_cons, List.length_cons, ih, List.length_cons]; omega
theorem rtxT_take {E : List Ep} {i : Nat} {e : Ep} (he : E[i]? = some e) : rtxT (E.take i) ++ [e.c, e.wr] = rtxT (E.take (i + 1)) := by
  rw [List.take_add_one, he]
  unfold rtxT
  rw [List.flatMap_append]
  rfl
theorem rtxT_all {E : List Ep} {B : Nat} (hc : ∀ e ∈ E, e.c.length = 32) (hw : ∀ e ∈ E, e.wr.length ≤ B) (hB : 32 ≤ B) : ∀ s ∈ rtxT E, s.length ≤ B := by
  intro s hs
  obtain ⟨e, he, h⟩ := List.mem_flatMap.1 hs
  rcases List.mem_cons.1 h with rfl | h
  · rw [hc e he]; exact hB
  · rw [List.mem_singleton.1 h]; exact hw e he
theorem flatten_le {l : List (List UInt8)} {B : Nat} (h : ∀ s ∈ l, s.length ≤ B) : l.flatten.length ≤ l.length * B := by
  induction l with
  | nil => simp
  | cons s l ih =>
    rw [List.flatten_cons, List.length_append, List.length_cons, Nat.add_mul, Nat.one_mul]
    have h1 := h s (by simp)
    have h2 := ih fun x hx => h x (by simp [hx])
    omega
def ringB (E : List Ep) : List UInt8 × Int := if mayP E then (rowS (rtxT E), 0) else ([], 3)
/-- the epochs of texts. -/
def epsOf : List (List UInt8) → List Ep
  | c :: w :: l => ⟨c, w⟩ :: epsOf l
  | _ => []
theorem epsOf_ring : ∀ E : List Ep, epsOf (rtxT E) = E
  | [] => rfl
  | e :: E => by rw [rtxT_cons, epsOf, epsOf_ring E]
theorem rtxT_eps : ∀ l : List (List UInt8), l.length % 2 = 0 → rtxT (epsOf l) = l
  | [], _ => rfl
  | [_], h => by simp at h
  | c :: w :: l, h => by
    rw [epsOf, rtxT_cons, rtxT_eps l (by rw [List.length_cons, List.length_cons] at h; omega)]
theorem epsOf_len : ∀ l : List (List UInt8), (epsOf l).length = l.length / 2
  | [] => rfl
  | [x] => by rw [List.length_singleton]; rfl
  | c :: w :: l => by rw [epsOf, List.length_cons, epsOf_len l, List.length_cons, List.length_cons]; omega
theorem epsOf_at : ∀ {l : List (List UInt8)} {j : Nat} {c w : List UInt8}, l[2 * j]? = some c → l[2 * j + 1]? = some w → (epsOf l)[j]? = some ⟨c, w⟩
  | [], j, c, w, h, _ => by simp at h
  | [_], 0, c, w, _, h => by simp at h
  | [_], j + 1, c, w, h, _ => by rw [List.getElem?_eq_none (by simp; omega)] at h; cases h
  | c0 :: w0 :: l, 0, c, w, h1, h2 => by
    simp only [Nat.mul_zero, List.getElem?_cons_zero, Option.some.injEq, Nat.zero_add, List.getElem?_cons_succ] at h1 h2
    subst h1 h2
    rfl
  | c0 :: w0 :: l, j + 1, c, w, h1, h2 => by
    rw [epsOf, List.getElem?_cons_succ]
    refine epsOf_at ?_ ?_
    · rw [show 2 * (j + 1) = 2 * j + 1 + 1 by omega, List.getElem?_cons_succ, List.getElem?_cons_succ] at h1
      exact h1
    · rw [show 2 * (j + 1) + 1 = 2 * j + 1 + 1 + 1 by omega, List.getElem?_cons_succ, List.getElem?_cons_succ] at h2
      exact h2
/-- may these be a ring's texts? -/
def evenOk (l : List (List UInt8)) : Prop := l.length % 2 = 0 ∧ ∀ j, 2 * j < l.length → (l.getD (2 * j) []).length = 32
instance evenDec (l : List (List UInt8)) : Decidable (evenOk l) := by
  unfold evenOk
  have : (∀ j, 2 * j < l.length → (l.getD (2 * j) []).length = 32) ↔ ∀ j, j < l.length → 2 * j < l.length → (l.getD (2 * j) []).length = 32 := ⟨fun h j _ h2 => h j h2, fun h j h2 => h j (by omega) h2⟩
  exact decidable_of_iff (l.length % 2 = 0 ∧ ∀ j, j < l.length → 2 * j < l.length → (l.getD (2 * j) []).length = 32) ⟨fun h => ⟨h.1, this.2 h.2⟩, fun h => ⟨h.1, this.1 h.2⟩⟩
theorem even_bad {l : List (List UInt8)} {j : Nat} {c : List UInt8} (h : l[2 * j]? = some c) (hc : c.length ≠ 32) : ¬ evenOk l := fun he => hc (by
  have := he.2 j (List.getElem?_eq_some_iff.1 h).1
  rwa [List.getD_eq_getElem?_getD, h] at this)
theorem even_ring {E : List Ep} (hc : ∀ e ∈ E, e.c.length = 32) : evenOk (rtxT E) := by
  refine ⟨by rw [rtxT_len]; omega, ?_⟩
  induction E with
  | nil => intro j h; simp [rtxT] at h
  | cons e E ih =>
    intro j hj
    cases j with
    | zero => exact hc e (by simp)
    | succ j =>
      rw [rtxT_cons, List.getD_eq_getElem?_getD, show 2 * (j + 1) = 2 * j + 1 + 1 by omega, List.getElem?_cons_succ, List.getElem?_cons_succ, ← List.getD_eq_getElem?_getD]
      exact ih (fun x hx => hc x (by simp [hx])) j (by rw [rtxT_cons, List.length_cons, List.length_cons] at hj; omega)
theorem eps_c32 {l : List (List UInt8)} (h : evenOk l) : ∀ e ∈ epsOf l, e.c.length = 32 := by
  intro e he
  obtain ⟨j, hj⟩ := List.mem_iff_getElem?.1 he
  have hl := (List.getElem?_eq_some_iff.1 hj).1
  rw [epsOf_len] at hl
  have h1 : 2 * j < l.length := by omega
  have h2 : 2 * j + 1 < l.length := by have := h.1; omega
  have h3 := epsOf_at (List.getElem?_eq_getElem h1) (List.getElem?_eq_getElem h2)
  rw [hj] at h3
  injection h3 with h3
  rw [h3]
  have h4 := h.2 j h1
  rw [List.getD_eq_getElem?_getD, List.getElem?_eq_getElem h1] at h4
  exact h4
/-- the ring of bytes. -/
def ringO (b : List UInt8) : List Ep × Int := match textsS b with
  | .error e => ([], e)
  | .ok l => if evenOk l ∧ mayP (epsOf l) then (epsOf l, 0) else ([], 3)
theorem ringO_err {b : List UInt8} {e : Int} (h : textsS b = .error e) : ringO b = ([], e) := by unfold ringO; rw [h]
theorem ringO_no {b : List UInt8} {l : List (List UInt8)} (h : textsS b = .ok l) (hn : ¬ (evenOk l ∧ mayP (epsOf l))) : ringO b = ([], 3) := by
  unfold ringO; rw [h]; exact if_neg hn
theorem ringO_ok {b : List UInt8} {l : List (List UInt8)} (h : textsS b = .ok l) (hy : evenOk l ∧ mayP (epsOf l)) : ringO b = (epsOf l, 0) := by
  unfold ringO; rw [h]; exact if_pos hy
theorem ringO_ring {E : List Ep} (hm : mayP E) (hc : ∀ e ∈ E, e.c.length = 32) (hw : ∀ e ∈ E, e.wr.length ≤ 1048576) : ringO (rowS (rtxT E)) = (E, 0) := by
  have ht := textsS_row (rtxT E) fun s hs => by have := rtxT_all hc hw (by decide) s hs; omega
  rw [ringO_ok ht ⟨even_ring hc, by rw [epsOf_ring]; exact hm⟩, epsOf_ring]
theorem ringO_c32 (b : List UInt8) : ∀ e ∈ (ringO b).1, e.c.length = 32 := by
  cases h : textsS b with
  | error e => rw [ringO_err h]; intro e he; cases he
  | ok l =>
    by_cases hy : evenOk l ∧ mayP (epsOf l)
    · rw [ringO_ok h hy]; exact eps_c32 hy.1
    · rw [ringO_no h hy]; intro e he; cases he
theorem texts_err0 : ∀ (f : Nat) (b : List UInt8) (e : Int), b.length ≤ f → textsS b = .error e → e ≠ 0
  | 0, b, e, hb, h => by
    rw [List.eq_nil_of_length_eq_zero (by omega : b.length = 0)] at h; cases h
  | f + 1, b, e, hb, h => by
    by_cases hn : b = []
    · subst hn; cases h
    · rw [textsS_step hn] at h
      cases hl : lenP 0 b with
      | error e2 =>
        rw [hl] at h
        injection h with h
        subst h
        rcases lenP_err b 0 e2 hl with h | h <;> rw [h] <;> decide
      | ok p =>
        obtain ⟨n, x⟩ := p
        rw [hl] at h
        have hx := lenP_len (by omega) hl
        dsimp only at h
        split at h
        · injection h with h
          subst h
          decide
        · cases ht : textsS (x.drop n) with
          | error e2 =>
            rw [ht] at h
            injection h with h
            subst h
            exact texts_err0 f (x.drop n) e2 (by rw [List.length_drop]; omega) ht
          | ok l => rw [ht] at h; cases h
/-- what was taken has these bytes. -/
theorem ringO_back {b : List UInt8} (h : (ringO b).2 = 0) : mayP (ringO b).1 ∧ ringB (ringO b).1 = (b, 0) := by
  cases ht : textsS b with
  | error e =>
    rw [ringO_err ht] at h
    exact absurd h (texts_err0 b.length b e (Nat.le_refl _) ht)
  | ok l =>
    by_cases hy : evenOk l ∧ mayP (epsOf l)
    · rw [ringO_ok ht hy]
      refine ⟨hy.2, ?_⟩
      unfold ringB
      rw [if_pos hy.2, rtxT_eps l hy.1.1, (textsS_back b.length b l (Nat.le_refl _) ht).1]
    · rw [ringO_no ht hy] at h
      cases h
end Go.Proofs.YtconhhhggckcbaaDoor
