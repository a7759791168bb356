/- Plain mathematics of layer 8 (lz): the longest copy, tokens, what comes out; no program in sight. -/
import Derived.ProofKit
namespace Go.Proofs.YtpobmaklgnioeaaDoor

/-- how many of the first bytes of two texts are alike, at most m. -/
def alike : List UInt8 → List UInt8 → Nat → Nat
  | a :: x, b :: y, m + 1 => if a = b then alike x y m + 1 else 0
  | _, _, _ => 0
theorem alike_le : ∀ (x y : List UInt8) (m : Nat), alike x y m ≤ m ∧ alike x y m ≤ x.length ∧ alike x y m ≤ y.length
  | [], _, _ => by simp [alike]
  | _ :: _, [], _ => by simp [alike]
  | _ :: _, _ :: _, 0 => by simp [alike]
  | a :: x, b :: y, m + 1 => by
    have h := alike_le x y m
    unfold alike
    split <;> simp only [List.length_cons] <;> omega
theorem alike_get : ∀ (x y : List UInt8) (m i : Nat), i < alike x y m → x[i]? = y[i]?
  | [], _, _, _, h => by simp [alike] at h
  | _ :: _, [], _, _, h => by simp [alike] at h
  | _ :: _, _ :: _, 0, _, h => by simp [alike] at h
  | a :: x, b :: y, m + 1, i, h => by
    unfold alike at h
    split at h
    · rename_i e
      subst e
      cases i with
      | zero => rfl
      | succ i => simpa using alike_get x y m i (by omega)
    · omega
theorem alike_eq : ∀ (n : Nat) (x y : List UInt8) (m : Nat), n ≤ m → n ≤ x.length → n ≤ y.length → (∀ i, i < n → x[i]? = y[i]?) → (n = m ∨ n = x.length ∨ n = y.length ∨ x[n]? ≠ y[n]?) → alike x y m = n
  | 0, [], _, _, _, _, _, _, _ => by simp [alike]
  | 0, _ :: _, [], _, _, _, _, _, _ => by simp [alike]
  | 0, _ :: _, _ :: _, 0, _, _, _, _, _ => by simp [alike]
  | 0, a :: x, b :: y, m + 1, _, _, _, _, h => by
    simp at h
    simp [alike, h]
  | n + 1, [], _, _, _, h, _, _, _ => by simp at h
  | n + 1, _ :: _, [], _, _, _, h, _, _ => by simp at h
  | n + 1, _ :: _, _ :: _, 0, h, _, _, _, _ => by omega
  | n + 1, a :: x, b :: y, m + 1, h1, h2, h3, h4, h5 => by
    have e : a = b := by simpa using h4 0 (by omega)
    subst e
    unfold alike
    rw [if_pos rfl, alike_eq n x y m (by omega) (by simpa using h2) (by simpa using h3) (fun i hi => by simpa using h4 (i + 1) (by omega)) (by simpa using h5)]
theorem alike_ge {x y : List UInt8} {m n : Nat} (h1 : n ≤ m) (h2 : n ≤ x.length) (h3 : n ≤ y.length) (h4 : ∀ i, i < n → x[i]? = y[i]?) : n ≤ alike x y m := by
  rcases Nat.lt_or_ge (alike x y m) n with h | h
  · exfalso
    have hl := alike_le x y m
    have : alike x y m = m ∨ alike x y m = x.length ∨ alike x y m = y.length ∨ x[alike x y m]? ≠ y[alike x y m]? := by
      clear h1 h2 h3 h4 h hl
      induction x generalizing y m with
      | nil => simp [alike]
      | cons a x ih =>
        cases y with
        | nil => simp [alike]
        | cons b y =>
          cases m with
          | zero => simp [alike]
          | succ m =>
            by_cases e : a = b
            · subst e
              have := ih (y := y) (m := m)
              simp [alike] at this ⊢
              omega
            · simp [alike, e]
    rcases this with h5 | h5 | h5 | h5
    · omega
    · omega
    · omega
    · exact h5 (h4 _ h)
  · exact h
/-- how many bytes stand alike at a place and so far ahead of it, at most 131. -/
def sameS (s : List UInt8) (at' far : Nat) : Nat := alike (s.drop at') (s.drop (at' - far)) 131
def mostS (s : List UInt8) (at' : Nat) : Nat := min 131 (s.length - at')
theorem sameS_le (s : List UInt8) (at' far : Nat) : sameS s at' far ≤ mostS s at' := by
  have h := alike_le (s.drop at') (s.drop (at' - far)) 131
  unfold sameS mostS
  rw [List.length_drop] at h
  omega
theorem sameS_get {s : List UInt8} {at' far i : Nat} (h : i < sameS s at' far) : s[at' + i]? = s[at' - far + i]? := by
  have := alike_get _ _ _ _ h
  rwa [List.getElem?_drop, List.getElem?_drop] at this
theorem sameS_eq {s : List UInt8} {at' far n : Nat} (h1 : n ≤ mostS s at') (h4 : ∀ i, i < n → s[at' + i]? = s[at' - far + i]?) (h5 : n = mostS s at' ∨ s[at' + n]? ≠ s[at' - far + n]?) : sameS s at' far = n := by
  unfold mostS at h1 h5
  unfold sameS
  refine alike_eq n _ _ _ (by omega) (by rw [List.length_drop]; omega) (by rw [List.length_drop]; omega) (fun i hi => by rw [List.getElem?_drop, List.getElem?_drop]; exact h4 i hi) ?_
  rw [List.getElem?_drop, List.getElem?_drop, List.length_drop]
  rcases h5 with h5 | h5
  · omega
  · exact .inr (.inr (.inr h5))
theorem sameS_ge {s : List UInt8} {at' far n : Nat} (h1 : n ≤ mostS s at') (h4 : ∀ i, i < n → s[at' + i]? = s[at' - far + i]?) : n ≤ sameS s at' far := by
  unfold mostS at h1
  unfold sameS
  exact alike_ge (by omega) (by rw [List.length_drop]; omega) (by rw [List.length_drop]; omega) (fun i hi => by rw [List.getElem?_drop, List.getElem?_drop]; exact h4 i hi)

/-- the greatest number of bytes up to a distance, and the least distance of these. -/
def bestTo (s : List UInt8) (at' : Nat) : Nat → Nat × Nat
  | 0 => (0, 0)
  | k + 1 => if (bestTo s at' k).1 < sameS s at' (k + 1) then (sameS s at' (k + 1), k + 1) else bestTo s at' k
def bestS (s : List UInt8) (at' : Nat) : Nat × Nat := bestTo s at' (min at' 65535)
/-- .. of those of four bytes or more alone. -/
def best4 (s : List UInt8) (at' : Nat) : Nat → Nat × Nat
  | 0 => (0, 0)
  | k + 1 => if (best4 s at' k).1 < sameS s at' (k + 1) ∧ 4 ≤ sameS s at' (k + 1) then (sameS s at' (k + 1), k + 1) else best4 s at' k
theorem best4_eq (s : List UInt8) (at' : Nat) : ∀ k, best4 s at' k = if 4 ≤ (bestTo s at' k).1 then bestTo s at' k else (0, 0)
  | 0 => by simp [best4, bestTo]
  | k + 1 => by
    have ih := best4_eq s at' k
    unfold best4 bestTo
    rw [ih]
    by_cases h1 : 4 ≤ (bestTo s at' k).1
    · rw [if_pos h1]
      by_cases h2 : (bestTo s at' k).1 < sameS s at' (k + 1)
      · rw [if_pos h2, if_pos ⟨h2, by omega⟩, if_pos (by simp only; omega)]
      · rw [if_neg h2, if_neg (fun h => h2 h.1), if_pos h1]
    · rw [if_neg h1]
      by_cases h2 : 4 ≤ sameS s at' (k + 1)
      · rw [if_pos ⟨by simp only; omega, h2⟩, if_pos (show (bestTo s at' k).1 < sameS s at' (k + 1) by omega), if_pos h2]
      · rw [if_neg (fun h => h2 h.2)]
        split <;> rfl
theorem best4_le (s : List UInt8) (at' : Nat) : ∀ k, (best4 s at' k).1 ≤ mostS s at'
  | 0 => by simp [best4]
  | k + 1 => by
    have := best4_le s at' k
    have h := sameS_le s at' (k + 1)
    unfold best4
    split
    · exact h
    · exact this
theorem best4_skip (s : List UInt8) (at' k : Nat) : ∀ d, (∀ j, k < j → j ≤ k + d → sameS s at' j ≤ (best4 s at' k).1 ∨ sameS s at' j < 4) → best4 s at' (k + d) = best4 s at' k
  | 0, _ => rfl
  | d + 1, h => by
    have ih := best4_skip s at' k d fun j h1 h2 => h j h1 (by omega)
    have := h (k + d + 1) (by omega) (by omega)
    have e : best4 s at' (k + (d + 1)) = if (best4 s at' (k + d)).1 < sameS s at' (k + d + 1) ∧ 4 ≤ sameS s at' (k + d + 1) then (sameS s at' (k + d + 1), k + d + 1) else best4 s at' (k + d) := rfl
    rw [e, ih, if_neg (by omega)]
theorem bestTo_spec (s : List UInt8) (at' : Nat) : ∀ k, (bestTo s at' k).1 = 0 ∨ (0 < (bestTo s at' k).2 ∧ (bestTo s at' k).2 ≤ k ∧ (bestTo s at' k).1 = sameS s at' (bestTo s at' k).2)
  | 0 => .inl rfl
  | k + 1 => by
    have ih := bestTo_spec s at' k
    unfold bestTo
    split
    · exact .inr ⟨by simp, by simp, rfl⟩
    · rcases ih with h | h
      · exact .inl h
      · exact .inr ⟨h.1, by omega, h.2.2⟩
theorem bestTo_le (s : List UInt8) (at' : Nat) : ∀ k, (bestTo s at' k).1 ≤ mostS s at'
  | 0 => by simp [bestTo]
  | k + 1 => by
    have := bestTo_le s at' k
    have h := sameS_le s at' (k + 1)
    unfold bestTo
    split
    · exact h
    · exact this
theorem bestTo_ge (s : List UInt8) (at' : Nat) : ∀ k j, 0 < j → j ≤ k → sameS s at' j ≤ (bestTo s at' k).1
  | 0, j, h1, h2 => by omega
  | k + 1, j, h1, h2 => by
    unfold bestTo
    rcases Nat.lt_or_ge k j with h | h
    · obtain rfl : j = k + 1 := by omega
      split
      · exact Nat.le_refl _
      · omega
    · have := bestTo_ge s at' k j h1 h
      split
      · simp only; omega
      · exact this

/-- bytes that stand for themselves, as runs. -/
def runF : Nat → List UInt8 → List UInt8
  | 0, _ => []
  | f + 1, s => if s = [] then [] else UInt8.ofNat (min s.length 128 - 1) :: s.take 128 ++ runF f (s.drop 128)
def runS (s : List UInt8) : List UInt8 := runF s.length s
theorem runF_more : ∀ (f g : Nat) (s : List UInt8), s.length ≤ f → s.length ≤ g → runF f s = runF g s
  | 0, 0, _, _, _ => rfl
  | 0, g + 1, s, h, _ => by
    have : s = [] := List.length_eq_zero_iff.1 (by omega)
    subst this
    simp [runF]
  | f + 1, 0, s, _, h => by
    have : s = [] := List.length_eq_zero_iff.1 (by omega)
    subst this
    simp [runF]
  | f + 1, g + 1, s, h1, h2 => by
    unfold runF
    by_cases e : s = []
    · rw [if_pos e, if_pos e]
    · have : 0 < s.length := List.length_pos_iff.2 e
      rw [if_neg e, if_neg e, runF_more f g (s.drop 128) (by rw [List.length_drop]; omega) (by rw [List.length_drop]; omega)]
theorem runS_nil : runS [] = [] := rfl
theorem runS_cons {s : List UInt8} (h : s ≠ []) : runS s = UInt8.ofNat (min s.length 128 - 1) :: s.take 128 ++ runS (s.drop 128) := by
  have h0 : 0 < s.length := List.length_pos_iff.2 h
  have e : runS s = runF (s.length - 1 + 1) s := by unfold runS; congr 1; omega
  rw [e]
  unfold runF
  rw [if_neg h]
  unfold runS
  rw [runF_more (s.length - 1) (s.drop 128).length (s.drop 128) (by rw [List.length_drop]; omega) (Nat.le_refl _)]

/-- a copy's token. -/
def copyT (n far : Nat) : List UInt8 := [UInt8.ofNat (n + 124), UInt8.ofNat (far % 256), UInt8.ofNat (far / 256)]
/-- what stands for the bytes of s from alone on, where those ahead of a place were looked at. -/
def packF (s : List UInt8) : Nat → Nat → Nat → List UInt8
  | 0, alone, _ => runS (s.drop alone)
  | f + 1, alone, at' => if at' < s.length then (if (bestS s at').1 < 4 then packF s f alone (at' + 1) else runS ((s.drop alone).take (at' - alone)) ++ copyT (bestS s at').1 (bestS s at').2 ++ packF s f (at' + (bestS s at').1) (at' + (bestS s at').1)) else runS (s.drop alone)
def packT (s : List UInt8) (alone at' : Nat) : List UInt8 := packF s (s.length - at') alone at'
def packS (s : List UInt8) : List UInt8 := packT s 0 0
theorem packF_more (s : List UInt8) : ∀ (f g alone at' : Nat), s.length - at' ≤ f → s.length - at' ≤ g → packF s f alone at' = packF s g alone at'
  | 0, 0, _, _, _, _ => rfl
  | 0, g + 1, _, at', h, _ => by
    unfold packF
    rw [if_neg (by omega)]
  | f + 1, 0, _, at', _, h => by
    unfold packF
    rw [if_neg (by omega)]
  | f + 1, g + 1, alone, at', h1, h2 => by
    unfold packF
    by_cases e : at' < s.length
    · rw [if_pos e, if_pos e]
      by_cases e4 : (bestS s at').1 < 4
      · rw [if_pos e4, if_pos e4, packF_more s f g alone (at' + 1) (by omega) (by omega)]
      · rw [if_neg e4, if_neg e4, packF_more s f g _ (at' + (bestS s at').1) (by omega) (by omega)]
    · rw [if_neg e, if_neg e]
theorem packT_step {s : List UInt8} {at' : Nat} (alone : Nat) (h : at' < s.length) : packT s alone at' = if (bestS s at').1 < 4 then packT s alone (at' + 1) else runS ((s.drop alone).take (at' - alone)) ++ copyT (bestS s at').1 (bestS s at').2 ++ packT s (at' + (bestS s at').1) (at' + (bestS s at').1) := by
  have e : packT s alone at' = packF s (s.length - at' - 1 + 1) alone at' := by unfold packT; congr 1; omega
  rw [e]
  unfold packF
  rw [if_pos h]
  unfold packT
  by_cases e4 : (bestS s at').1 < 4
  · rw [if_pos e4, if_pos e4, packF_more s _ (s.length - (at' + 1)) alone (at' + 1) (by omega) (by omega)]
  · rw [if_neg e4, if_neg e4, packF_more s _ (s.length - (at' + (bestS s at').1)) _ (at' + (bestS s at').1) (by omega) (by omega)]
theorem packT_end {s : List UInt8} {at' : Nat} (alone : Nat) (h : s.length ≤ at') : packT s alone at' = runS (s.drop alone) := by
  unfold packT
  rw [show s.length - at' = 0 by omega]
  rfl

/-- n bytes more, each the one so far ahead. -/
def copyS (out : List UInt8) (far : Nat) : Nat → List UInt8
  | 0 => out
  | n + 1 => copyS out far n ++ [(copyS out far n).getD ((copyS out far n).length - far) 0]
theorem copyS_len (out : List UInt8) (far : Nat) : ∀ n, (copyS out far n).length = out.length + n
  | 0 => rfl
  | n + 1 => by rw [copyS, List.length_append, copyS_len out far n]; simp; omega
/-- the token that b begins with: an error, what came out, how many bytes it has. -/
def tokS (out b : List UInt8) (most : Int) : Int × List UInt8 × Nat :=
  if (b.getD 0 0).toNat < 128 then
    (if b.length < (b.getD 0 0).toNat + 2 then (4, [], 0) else if most < out.length + (b.getD 0 0).toNat + 1 then (6, [], 0) else (0, out ++ (b.drop 1).take ((b.getD 0 0).toNat + 1), (b.getD 0 0).toNat + 2))
  else if b.length < 3 then (4, [], 0)
  else if (b.getD 1 0).toNat + 256 * (b.getD 2 0).toNat = 0 ∨ out.length < (b.getD 1 0).toNat + 256 * (b.getD 2 0).toNat then (3, [], 0)
  else if most < out.length + ((b.getD 0 0).toNat - 124 : Nat) then (6, [], 0)
  else (0, copyS out ((b.getD 1 0).toNat + 256 * (b.getD 2 0).toNat) ((b.getD 0 0).toNat - 124), 3)
def unpF : Nat → List UInt8 → List UInt8 → Int → List UInt8 × Int
  | 0, out, _, _ => (out, 0)
  | f + 1, out, b, most => if b = [] then (out, 0) else if (tokS out b most).1 ≠ 0 then ([], (tokS out b most).1) else unpF f (tokS out b most).2.1 (b.drop (tokS out b most).2.2) most
def unpT (out b : List UInt8) (most : Int) : List UInt8 × Int := unpF b.length out b most
/-- what comes out of bytes, or the error. -/
def unpS (b : List UInt8) (most : Int) : List UInt8 × Int := if most < 0 ∧ b = [] then ([], 6) else unpT [] b (max most 0)
theorem tokS_used (out b : List UInt8) (most : Int) (h : (tokS out b most).1 = 0) : 0 < (tokS out b most).2.2 ∧ (tokS out b most).2.2 ≤ b.length := by
  unfold tokS at h ⊢
  repeat' split at h
  all_goals first | (exfalso; revert h; decide) | skip
  all_goals (simp only [*, ↓reduceIte]; constructor <;> omega)
theorem unpF_more : ∀ (f g : Nat) (out b : List UInt8) (most : Int), b.length ≤ f → b.length ≤ g → unpF f out b most = unpF g out b most
  | 0, 0, _, _, _, _, _ => rfl
  | 0, g + 1, out, b, _, h, _ => by
    have : b = [] := List.length_eq_zero_iff.1 (by omega)
    subst this
    simp [unpF]
  | f + 1, 0, out, b, _, _, h => by
    have : b = [] := List.length_eq_zero_iff.1 (by omega)
    subst this
    simp [unpF]
  | f + 1, g + 1, out, b, most, h1, h2 => by
    unfold unpF
    by_cases e : b = []
    · rw [if_pos e, if_pos e]
    · rw [if_neg e, if_neg e]
      by_cases e2 : (tokS out b most).1 = 0
      · have hu := tokS_used out b most e2
        rw [if_neg (fun h => h e2), if_neg (fun h => h e2), unpF_more f g _ _ most (by rw [List.length_drop]; omega) (by rw [List.length_drop]; omega)]
      · rw [if_pos e2, if_pos e2]
theorem unpT_nil (out : List UInt8) (most : Int) : unpT out [] most = (out, 0) := rfl
theorem unpT_step {b : List UInt8} (out : List UInt8) (most : Int) (h : b ≠ []) : unpT out b most = if (tokS out b most).1 ≠ 0 then ([], (tokS out b most).1) else unpT (tokS out b most).2.1 (b.drop (tokS out b most).2.2) most := by
  have h0 : 0 < b.length := List.length_pos_iff.2 h
  have e : unpT out b most = unpF (b.length - 1 + 1) out b most := by unfold unpT; congr 1; omega
  rw [e]
  unfold unpF
  rw [if_neg h]
  by_cases e2 : (tokS out b most).1 = 0
  · have hu := tokS_used out b most e2
    rw [if_neg (fun h => h e2), if_neg (fun h => h e2)]
    unfold unpT
    rw [unpF_more (b.length - 1) (b.drop (tokS out b most).2.2).length _ _ most (by rw [List.length_drop]; omega) (Nat.le_refl _)]
  · rw [if_pos e2, if_pos e2]
end Go.Proofs.YtpobmaklgnioeaaDoor
