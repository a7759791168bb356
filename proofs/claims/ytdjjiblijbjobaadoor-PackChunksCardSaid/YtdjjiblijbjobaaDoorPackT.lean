/- Plain mathematics of packs that are read (layer 40); no program in sight. -/
import Derived.Test.YtdjjiblijbjobaaDoorPackS
namespace Go.Proofs.YtdjjiblijbjobaaDoor
open Go.RowKit

/-- the boxes of bytes. -/
def ofS (b : List UInt8) : Option (List Bx) := match textsS b with
  | .error _ => none
  | .ok X => if X.length < 3 ∨ X.length % 2 = 0 ∨ X.head? ≠ some hibp ∨ 65536 < b.length ∨ namesS (boxesOf X.tail) ≠ 0 then none else some (boxesOf X.tail)
theorem ofS_err {b : List UInt8} {e : Int} (h : textsS b = .error e) : ofS b = none := by unfold ofS; rw [h]
theorem ofS_no {b : List UInt8} {X : List (List UInt8)} (h : textsS b = .ok X) (hn : X.length < 3 ∨ X.length % 2 = 0 ∨ X.head? ≠ some hibp ∨ 65536 < b.length ∨ namesS (boxesOf X.tail) ≠ 0) : ofS b = none := by
  unfold ofS; rw [h]; exact if_pos hn
theorem ofS_ok {b : List UInt8} {X : List (List UInt8)} (h : textsS b = .ok X) (hn : ¬ (X.length < 3 ∨ X.length % 2 = 0 ∨ X.head? ≠ some hibp ∨ 65536 < b.length ∨ namesS (boxesOf X.tail) ≠ 0)) : ofS b = some (boxesOf X.tail) := by
  unfold ofS; rw [h]; exact if_neg hn
theorem ofS_long {b : List UInt8} (h : 65536 < b.length) : ofS b = none := by
  cases ht : textsS b with
  | error e => exact ofS_err ht
  | ok X => exact ofS_no ht (.inr (.inr (.inr (.inl h))))
/-- texts that begin with the mark are the mark and boxes. -/
theorem shape {X : List (List UInt8)} (h2 : X.length % 2 = 1) (h0 : X.head? = some hibp) : X = hibp :: textsB (boxesOf X.tail) := by
  cases X with
  | nil => simp at h0
  | cons m r =>
    simp only [List.head?_cons, Option.some.injEq] at h0
    subst h0
    rw [List.tail_cons, texts_boxesOf r (by simp only [List.length_cons] at h2; omega)]
theorem ofS_some {b : List UInt8} {l : List Bx} (h : ofS b = some l) : textsS b = .ok (hibp :: textsB l) ∧ bytesS l = b ∧ b.length ≤ 65536 ∧ namesS l = 0 ∧ l ≠ [] := by
  unfold ofS at h
  cases ht : textsS b with
  | error e => rw [ht] at h; cases h
  | ok X =>
    rw [ht] at h
    dsimp only at h
    split at h
    · cases h
    · rename_i hn
      injection h with h
      have hs := shape (X := X) (by omega) (Classical.byContradiction fun hc => hn (.inr (.inr (.inl hc))))
      rw [h] at hs
      have hb := (textsS_back b.length b X (Nat.le_refl _) ht).1
      refine ⟨by rw [← hs], by unfold bytesS; rw [← hs]; exact hb, Classical.byContradiction fun hc => hn (.inr (.inr (.inr (.inl (by omega))))), Classical.byContradiction fun hc => hn (.inr (.inr (.inr (.inr (by rw [h]; exact hc))))), fun e => ?_⟩
      subst e
      have := congrArg List.length hs
      have h3 : ¬ X.length < 3 := fun hc => hn (.inl hc)
      simp [textsB] at this
      omega
theorem textsS_err : ∀ (f : Nat) (b : List UInt8) (e : Int), b.length ≤ f → textsS b = .error e → e = 3 ∨ e = 4
  | 0, b, e, hf, h => by
    have : b = [] := List.eq_nil_of_length_eq_zero (by omega)
    subst this
    rw [textsS_nil] at h; cases h
  | f + 1, b, e, hf, h => by
    by_cases hb : b = []
    · subst hb; rw [textsS_nil] at h; cases h
    · rw [textsS_step hb] at h
      cases hl : lenP 0 b with
      | error e2 =>
        rw [hl] at h
        injection h with h
        subst h
        have key : ∀ (b : List UInt8) (k : Nat) (e : Int), lenP k b = .error e → e = 3 ∨ e = 4 := by
          intro b
          induction b with
          | nil => intro k e h; simp [lenP] at h; omega
          | cons c r ih =>
            intro k e h
            unfold lenP at h
            split at h
            · split at h
              · injection h with h; omega
              · cases h
            · split at h
              · injection h with h; omega
              · cases hq : lenP (k + 1) r with
                | ok p => rw [hq] at h; cases h
                | error e2 => rw [hq] at h; injection h with h; subst h; exact ih (k + 1) _ hq
        exact key b 0 _ hl
      | ok p =>
        obtain ⟨n, x⟩ := p
        rw [hl] at h
        dsimp only at h
        by_cases hn : x.length < n
        · rw [if_pos hn] at h; injection h with h; omega
        · rw [if_neg hn] at h
          have := lenP_len (by omega) hl
          cases ht : textsS (x.drop n) with
          | ok l => rw [ht] at h; cases h
          | error e2 =>
            rw [ht] at h
            injection h with h
            subst h
            exact textsS_err f (x.drop n) _ (by rw [List.length_drop]; omega) ht
/-- a place: a name, where the data stand, how many bytes they have. -/
abbrev Pl := List UInt8 × Nat × Nat
def placeC (p : Pl) : List Value := [tx p.1, .int .i64 (p.2.1 : Int), .int .i64 (p.2.2 : Int)]
theorem placeC_len (p : Pl) : (placeC p).length = 3 := rfl
def placeOf (l : List Bx) (k : Nat) (x : Bx) : Pl := (x.1, (bytesS (l.take (k + 1))).length - x.2.length, x.2.length)
def placesTo (l : List Bx) : Nat → List Pl
  | 0 => []
  | k + 1 => placesTo l k ++ (match l[k]? with | some x => [placeOf l k x] | none => [])
def placesS (l : List Bx) : List Pl := placesTo l l.length
theorem placesTo_snoc (l : List Bx) (k : Nat) {x : Bx} (hx : l[k]? = some x) : placesTo l (k + 1) = placesTo l k ++ [placeOf l k x] := by rw [placesTo, hx]
theorem placesTo_len (l : List Bx) : ∀ k, k ≤ l.length → (placesTo l k).length = k
  | 0, _ => rfl
  | k + 1, h => by
    have hx : l[k]? = some l[k] := by simp
    rw [placesTo_snoc l k hx, List.length_append, placesTo_len l k (by omega)]; rfl
theorem placesTo_at (l : List Bx) : ∀ k j x, j < k → k ≤ l.length → l[j]? = some x → (placesTo l k)[j]? = some (placeOf l j x)
  | 0, j, x, h, _, _ => by omega
  | k + 1, j, x, h, hk, hx => by
    have hy : l[k]? = some l[k] := by simp
    rw [placesTo_snoc l k hy]
    have hl := placesTo_len l k (by omega)
    by_cases hj : j < k
    · rw [List.getElem?_append_left (by omega)]; exact placesTo_at l k j x hj (by omega) hx
    · have : j = k := by omega
      subst this
      rw [List.getElem?_append_right (by omega), hl, Nat.sub_self]
      rw [hx] at hy
      injection hy with hy
      rw [← hy]; rfl
theorem bytes_step (l : List Bx) (k : Nat) {x : Bx} (hx : l[k]? = some x) : (bytesS (l.take (k + 1))).length = (bytesS (l.take k)).length + (rowedS x.1 + rowedS x.2) := by
  unfold bytesS
  rw [textsB_snoc l k hx, rowS_sum, rowS_sum]
  simp [Nat.add_assoc]
theorem rowS_append (a b : List (List UInt8)) : rowS (a ++ b) = rowS a ++ rowS b := by unfold rowS; rw [List.flatMap_append]
/-- what stands at a place is the data. -/
theorem place_cut (l : List Bx) (k : Nat) {x : Bx} (hx : l[k]? = some x) : x.2.length ≤ (bytesS (l.take (k + 1))).length ∧ (bytesS (l.take (k + 1))).length ≤ (bytesS l).length ∧ ((bytesS l).drop ((bytesS (l.take (k + 1))).length - x.2.length)).take x.2.length = x.2 := by
  have h1 : bytesS (l.take (k + 1)) = rowS (hibp :: textsB (l.take k)) ++ (lenB x.1.length ++ (x.1 ++ lenB x.2.length)) ++ x.2 := by
    unfold bytesS
    rw [textsB_snoc l k hx, ← List.cons_append, rowS_append, rowS_cons x.1, rowS_cons x.2, rowS_nil, List.append_nil]
    simp [List.append_assoc]
  have h2 : bytesS l = bytesS (l.take (k + 1)) ++ rowS (textsB (l.drop (k + 1))) := by
    unfold bytesS
    rw [← rowS_append, List.cons_append]
    congr 2
    unfold textsB
    rw [← List.flatMap_append, List.take_append_drop]
  obtain ⟨Y, hY⟩ : ∃ Y, rowS (hibp :: textsB (l.take k)) ++ (lenB x.1.length ++ (x.1 ++ lenB x.2.length)) = Y := ⟨_, rfl⟩
  rw [hY] at h1
  have h3 : (bytesS (l.take (k + 1))).length = Y.length + x.2.length := by rw [h1, List.length_append]
  refine ⟨by omega, by rw [h2, List.length_append]; omega, ?_⟩
  rw [h3, Nat.add_sub_cancel, h2, h1, List.append_assoc, List.drop_left, List.take_left]
/-- the box of a name in bytes, and the error. -/
def takeS (b nm : List UInt8) : Bx × Int := match ofS b with
  | none => (([], []), 3)
  | some l => match l.find? fun x => x.1 == nm with
    | some x => (x, 0)
    | none => (([], []), 9)
theorem find_step (l : List Bx) (nm : List UInt8) (i : Nat) {x : Bx} (hx : l[i]? = some x) : (l.drop i).find? (fun x => x.1 == nm) = if x.1 = nm then some x else (l.drop (i + 1)).find? fun x => x.1 == nm := by
  obtain ⟨hl, rfl⟩ := List.getElem?_eq_some_iff.1 hx
  rw [List.drop_eq_getElem_cons hl, List.find?_cons]
  by_cases h : l[i].1 = nm
  · rw [if_pos h]; simp [h]
  · rw [if_neg h, beq_eq_false_iff_ne.2 h]
end Go.Proofs.YtdjjiblijbjobaaDoor
