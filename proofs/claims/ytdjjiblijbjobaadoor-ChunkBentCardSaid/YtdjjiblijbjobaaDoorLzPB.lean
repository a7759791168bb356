/- Laws and walks that many claims share: LzS, LzL. -/
import Derived.ProofKit
/- Plain mathematics of layer 8 (lz): the longest copy, tokens, what comes out; no program in sight. -/
namespace Go.Proofs.YtdjjiblijbjobaaDoor

/-- how many of the first bytes of two texts are alike, at most m. -/
def alike : List UInt8 → List UInt8 → Nat → Nat
  | a :: x, b :: y, m + 1 => if a = b then alike x y m + 1 else 0
  | _, _, _ => 0
theorem alike_le : ∀ (x y : List UInt8) (m : Nat), alike x y m ≤ m ∧ alike x y m ≤ x.length ∧ alike x y m ≤ y.length
  | [], _, _ => by simp [alike]
  | _ :: _, [], _ => by simp [alike]
  | _ :: _, _ :: _, 0 => by simp [alike]
  | a :: x, b :: y, m + 1 => by
    have h := alike_le x y m
    unfold alike
    split <;> simp only [List.length_cons] <;> omega
theorem alike_get : ∀ (x y : List UInt8) (m i : Nat), i < alike x y m → x[i]? = y[i]?
  | [], _, _, _, h => by simp [alike] at h
  | _ :: _, [], _, _, h => by simp [alike] at h
  | _ :: _, _ :: _, 0, _, h => by simp [alike] at h
  | a :: x, b :: y, m + 1, i, h => by
    unfold alike at h
    split at h
    · rename_i e
      subst e
      cases i with
      | zero => rfl
      | succ i => simpa using alike_get x y m i (by omega)
    · omega
theorem alike_eq : ∀ (n : Nat) (x y : List UInt8) (m : Nat), n ≤ m → n ≤ x.length → n ≤ y.length → (∀ i, i < n → x[i]? = y[i]?) → (n = m ∨ n = x.length ∨ n = y.length ∨ x[n]? ≠ y[n]?) → alike x y m = n
  | 0, [], _, _, _, _, _, _, _ => by simp [alike]
  | 0, _ :: _, [], _, _, _, _, _, _ => by simp [alike]
  | 0, _ :: _, _ :: _, 0, _, _, _, _, _ => by simp [alike]
  | 0, a :: x, b :: y, m + 1, _, _, _, _, h => by
    simp at h
    simp [alike, h]
  | n + 1, [], _, _, _, h, _, _, _ => by simp at h
  | n + 1, _ :: _, [], _, _, _, h, _, _ => by simp at h
  | n + 1, _ :: _, _ :: _, 0, h, _, _, _, _ => by omega
  | n + 1, a :: x, b :: y, m + 1, h1, h2, h3, h4, h5 => by
    have e : a = b := by simpa using h4 0 (by omega)
    subst e
    unfold alike
    rw [if_pos rfl, alike_eq n x y m (by omega) (by simpa using h2) (by simpa using h3) (fun i hi => by simpa using h4 (i + 1) (by omega)) (by simpa using h5)]
theorem alike_ge {x y : List UInt8} {m n : Nat} (h1 : n ≤ m) (h2 : n ≤ x.length) (h3 : n ≤ y.length) (h4 : ∀ i, i < n → x[i]? = y[i]?) : n ≤ alike x y m := by
  rcases Nat.lt_or_ge (alike x y m) n with h | h
  · exfalso
    have hl := alike_le x y m
    have : alike x y m = m ∨ alike x y m = x.length ∨ alike x y m = y.length ∨ x[alike x y m]? ≠ y[alike x y m]? := by
      clear h1 h2 h3 h4 h hl
      induction x generalizing y m with
      | nil => simp [alike]
      | cons a x ih =>
        cases y with
        | nil => simp [alike]
        | cons b y =>
          cases m with
          | zero => simp [alike]
          | succ m =>
            by_cases e : a = b
            · subst e
              have := ih (y := y) (m := m)
              simp [alike] at this ⊢
              omega
            · simp [alike, e]
    rcases this with h5 | h5 | h5 | h5
    · omega
    · omega
    · omega
    · exact h5 (h4 _ h)
  · exact h
/-- how many bytes stand alike at a place and so far ahead of it, at most 131. -/
def sameS (s : List UInt8) (at' far : Nat) : Nat := alike (s.drop at') (s.drop (at' - far)) 131
def mostS (s : List UInt8) (at' : Nat) : Nat := min 131 (s.length - at')
theorem sameS_le (s : List UInt8) (at' far : Nat) : sameS s at' far ≤ mostS s at' := by
  have h := alike_le (s.drop at') (s.drop (at' - far)) 131
  unfold sameS mostS
  rw [List.length_drop] at h
  omega
theorem sameS_get {s : List UInt8} {at' far i : Nat} (h : i < sameS s at' far) : s[at' + i]? = s[at' - far + i]? := by
  have := alike_get _ _ _ _ h
  rwa [List.getElem?_drop, List.getElem?_drop] at this
theorem sameS_eq {s : List UInt8} {at' far n : Nat} (h1 : n ≤ mostS s at') (h4 : ∀ i, i < n → s[at' + i]? = s[at' - far + i]?) (h5 : n = mostS s at' ∨ s[at' + n]? ≠ s[at' - far + n]?) : sameS s at' far = n := by
  unfold mostS at h1 h5
  unfold sameS
  refine alike_eq n _ _ _ (by omega) (by rw [List.length_drop]; omega) (by rw [List.length_drop]; omega) (fun i hi => by rw [List.getElem?_drop, List.getElem?_drop]; exact h4 i hi) ?_
  rw [List.getElem?_drop, List.getElem?_drop, List.length_drop]
  rcases h5 with h5 | h5
  · omega
  · exact .inr (.inr (.inr h5))
theorem sameS_ge {s : List UInt8} {at' far n : Nat} (h1 : n ≤ mostS s at') (h4 : ∀ i, i < n → s[at' + i]? = s[at' - far + i]?) : n ≤ sameS s at' far := by
  unfold mostS at h1
  unfold sameS
  exact alike_ge (by omega) (by rw [List.length_drop]; omega) (by rw [List.length_drop]; omega) (fun i hi => by rw [List.getElem?_drop, List.getElem?_drop]; exact h4 i hi)

/-- the greatest number of bytes up to a distance, and the least distance of these. -/
def bestTo (s : List UInt8) (at' : Nat) : Nat → Nat × Nat
  | 0 => (0, 0)
  | k + 1 => if (bestTo s at' k).1 < sameS s at' (k + 1) then (sameS s at' (k + 1), k + 1) else bestTo s at' k
def bestS (s : List UInt8) (at' : Nat) : Nat × Nat := bestTo s at' (min at' 65535)
/-- .. of those of four bytes or more alone. -/
def best4 (s : List UInt8) (at' : Nat) : Nat → Nat × Nat
  | 0 => (0, 0)
  | k + 1 => if (best4 s at' k).1 < sameS s at' (k + 1) ∧ 4 ≤ sameS s at' (k + 1) then (sameS s at' (k + 1), k + 1) else best4 s at' k
theorem best4_eq (s : List UInt8) (at' : Nat) : ∀ k, best4 s at' k = if 4 ≤ (bestTo s at' k).1 then bestTo s at' k else (0, 0)
  | 0 => by simp [best4, bestTo]
  | k + 1 => by
    have ih := best4_eq s at' k
    unfold best4 bestTo
    rw [ih]
    by_cases h1 : 4 ≤ (bestTo s at' k).1
    · rw [if_pos h1]
      by_cases h2 : (bestTo s at' k).1 < sameS s at' (k + 1)
      · rw [if_pos h2, if_pos ⟨h2, by omega⟩, if_pos (by simp only; omega)]
      · rw [if_neg h2, if_neg (fun h => h2 h.1), if_pos h1]
    · rw [if_neg h1]
      by_cases h2 : 4 ≤ sameS s at' (k + 1)
      · rw [if_pos ⟨by simp only; omega, h2⟩, if_pos (show (bestTo s at' k).1 < sameS s at' (k + 1) by omega), if_pos h2]
      · rw [if_neg (fun h => h2 h.2)]
        split <;> rfl
theorem best4_le (s : List UInt8) (at' : Nat) : ∀ k, (best4 s at' k).1 ≤ mostS s at'
  | 0 => by simp [best4]
  | k + 1 => by
    have := best4_le s at' k
    have h := sameS_le s at' (k + 1)
    unfold best4
    split
    · exact h
    · exact this
theorem best4_skip (s : List UInt8) (at' k : Nat) : ∀ d, (∀ j, k < j → j ≤ k + d → sameS s at' j ≤ (best4 s at' k).1 ∨ sameS s at' j < 4) → best4 s at' (k + d) = best4 s at' k
  | 0, _ => rfl
  | d + 1, h => by
    have ih := best4_skip s at' k d fun j h1 h2 => h j h1 (by omega)
    have := h (k + d + 1) (by omega) (by omega)
    have e : best4 s at' (k + (d + 1)) = if (best4 s at' (k + d)).1 < sameS s at' (k + d + 1) ∧ 4 ≤ sameS s at' (k + d + 1) then (sameS s at' (k + d + 1), k + d + 1) else best4 s at' (k + d) := rfl
    rw [e, ih, if_neg (by omega)]
theorem bestTo_spec (s : List UInt8) (at' : Nat) : ∀ k, (bestTo s at' k).1 = 0 ∨ (0 < (bestTo s at' k).2 ∧ (bestTo s at' k).2 ≤ k ∧ (bestTo s at' k).1 = sameS s at' (bestTo s at' k).2)
  | 0 => .inl rfl
  | k + 1 => by
    have ih := bestTo_spec s at' k
    unfold bestTo
    split
    · exact .inr ⟨by simp, by simp, rfl⟩
    · rcases ih with h | h
      · exact .inl h
      · exact .inr ⟨h.1, by omega, h.2.2⟩
theorem bestTo_le (s : List UInt8) (at' : Nat) : ∀ k, (bestTo s at' k).1 ≤ mostS s at'
  | 0 => by simp [bestTo]
  | k + 1 => by
    have := bestTo_le s at' k
    have h := sameS_le s at' (k + 1)
    unfold bestTo
    split
    · exact h
    · exact this
/-- bytes that stand for themselves, as runs. -/
def runF : Nat → List UInt8 → List UInt8
  | 0, _ => []
  | f + 1, s => if s = [] then [] else UInt8.ofNat (min s.length 128 - 1) :: s.take 128 ++ runF f (s.drop 128)
def runS (s : List UInt8) : List UInt8 := runF s.length s
theorem runF_more : ∀ (f g : Nat) (s : List UInt8), s.length ≤ f → s.length ≤ g → runF f s = runF g s
  | 0, 0, _, _, _ => rfl
  | 0, g + 1, s, h, _ => by
    have : s = [] := List.length_eq_zero_iff.1 (by omega)
    subst this
    simp [runF]
  | f + 1, 0, s, _, h => by
    have : s = [] := List.length_eq_zero_iff.1 (by omega)
    subst this
    simp [runF]
  | f + 1, g + 1, s, h1, h2 => by
    unfold runF
    by_cases e : s = []
    · rw [if_pos e, if_pos e]
    · have : 0 < s.length := List.length_pos_iff.2 e
      rw [if_neg e, if_neg e, runF_more f g (s.drop 128) (by rw [List.length_drop]; omega) (by rw [List.length_drop]; omega)]
theorem runS_nil : runS [] = [] := rfl
theorem runS_cons {s : List UInt8} (h : s ≠ []) : runS s = UInt8.ofNat (min s.length 128 - 1) :: s.take 128 ++ runS (s.drop 128) := by
  have h0 : 0 < s.length := List.length_pos_iff.2 h
  have e : runS s = runF (s.length - 1 + 1) s := by unfold runS; congr 1; omega
  rw [e]
  unfold runF
  rw [if_neg h]
  unfold runS
  rw [runF_more (s.length - 1) (s.drop 128).length (s.drop 128) (by rw [List.length_drop]; omega) (Nat.le_refl _)]

/-- a copy's token. -/
def copyT (n far : Nat) : List UInt8 := [UInt8.ofNat (n + 124), UInt8.ofNat (far % 256), UInt8.ofNat (far / 256)]
/-- what stands for the bytes of s from alone on, where those ahead of a place were looked at. -/
def packF (s : List UInt8) : Nat → Nat → Nat → List UInt8
  | 0, alone, _ => runS (s.drop alone)
  | f + 1, alone, at' => if at' < s.length then (if (bestS s at').1 < 4 then packF s f alone (at' + 1) else runS ((s.drop alone).take (at' - alone)) ++ copyT (bestS s at').1 (bestS s at').2 ++ packF s f (at' + (bestS s at').1) (at' + (bestS s at').1)) else runS (s.drop alone)
def packT (s : List UInt8) (alone at' : Nat) : List UInt8 := packF s (s.length - at') alone at'
def packS (s : List UInt8) : List UInt8 := packT s 0 0
theorem packF_more (s : List UInt8) : ∀ (f g alone at' : Nat), s.length - at' ≤ f → s.length - at' ≤ g → packF s f alone at' = packF s g alone at'
  | 0, 0, _, _, _, _ => rfl
  | 0, g + 1, _, at', h, _ => by
    unfold packF
    rw [if_neg (by omega)]
  | f + 1, 0, _, at', _, h => by
    unfold packF
    rw [if_neg (by omega)]
  | f + 1, g + 1, alone, at', h1, h2 => by
    unfold packF
    by_cases e : at' < s.length
    · rw [if_pos e, if_pos e]
      by_cases e4 : (bestS s at').1 < 4
      · rw [if_pos e4, if_pos e4, packF_more s f g alone (at' + 1) (by omega) (by omega)]
      · rw [if_neg e4, if_neg e4, packF_more s f g _ (at' + (bestS s at').1) (by omega) (by omega)]
    · rw [if_neg e, if_neg e]
theorem packT_step {s : List UInt8} {at' : Nat} (alone : Nat) (h : at' < s.length) : packT s alone at' = if (bestS s at').1 < 4 then packT s alone (at' + 1) else runS ((s.drop alone).take (at' - alone)) ++ copyT (bestS s at').1 (bestS s at').2 ++ packT s (at' + (bestS s at').1) (at' + (bestS s at').1) := by
  have e : packT s alone at' = packF s (s.length - at' - 1 + 1) alone at' := by unfold packT; congr 1; omega
  rw [e]
  unfold packF
  rw [if_pos h]
  unfold packT
  by_cases e4 : (bestS s at').1 < 4
  · rw [if_pos e4, if_pos e4, packF_more s _ (s.length - (at' + 1)) alone (at' + 1) (by omega) (by omega)]
  · rw [if_neg e4, if_neg e4, packF_more s _ (s.length - (at' + (bestS s at').1)) _ (at' + (bestS s at').1) (by omega) (by omega)]
theorem packT_end {s : List UInt8} {at' : Nat} (alone : Nat) (h : s.length ≤ at') : packT s alone at' = runS (s.drop alone) := by
  unfold packT
  rw [show s.length - at' = 0 by omega]
  rfl

/-- n bytes more, each the one so far ahead. -/
def copyS (out : List UInt8) (far : Nat) : Nat → List UInt8
  | 0 => out
  | n + 1 => copyS out far n ++ [(copyS out far n).getD ((copyS out far n).length - far) 0]
theorem copyS_len (out : List UInt8) (far : Nat) : ∀ n, (copyS out far n).length = out.length + n
  | 0 => rfl
  | n + 1 => by rw [copyS, List.length_append, copyS_len out far n]; simp; omega
/-- the token that b begins with: an error, what came out, how many bytes it has. -/
def tokS (out b : List UInt8) (most : Int) : Int × List UInt8 × Nat :=
  if (b.getD 0 0).toNat < 128 then
    (if b.length < (b.getD 0 0).toNat + 2 then (4, [], 0) else if most < out.length + (b.getD 0 0).toNat + 1 then (6, [], 0) else (0, out ++ (b.drop 1).take ((b.getD 0 0).toNat + 1), (b.getD 0 0).toNat + 2))
  else if b.length < 3 then (4, [], 0)
  else if (b.getD 1 0).toNat + 256 * (b.getD 2 0).toNat = 0 ∨ out.length < (b.getD 1 0).toNat + 256 * (b.getD 2 0).toNat then (3, [], 0)
  else if most < out.length + ((b.getD 0 0).toNat - 124 : Nat) then (6, [], 0)
  else (0, copyS out ((b.getD 1 0).toNat + 256 * (b.getD 2 0).toNat) ((b.getD 0 0).toNat - 124), 3)
def unpF : Nat → List UInt8 → List UInt8 → Int → List UInt8 × Int
  | 0, out, _, _ => (out, 0)
  | f + 1, out, b, most => if b = [] then (out, 0) else if (tokS out b most).1 ≠ 0 then ([], (tokS out b most).1) else unpF f (tokS out b most).2.1 (b.drop (tokS out b most).2.2) most
def unpT (out b : List UInt8) (most : Int) : List UInt8 × Int := unpF b.length out b most
/-- what comes out of bytes, or the error. -/
def unpS (b : List UInt8) (most : Int) : List UInt8 × Int := if most < 0 ∧ b = [] then ([], 6) else unpT [] b (max most 0)
theorem tokS_used (out b : List UInt8) (most : Int) (h : (tokS out b most).1 = 0) : 0 < (tokS out b most).2.2 ∧ (tokS out b most).2.2 ≤ b.length := by
  unfold tokS at h ⊢
  repeat' split at h
  all_goals first | (exfalso; revert h; decide) | skip
  all_goals (simp only [*, ↓reduceIte]; constructor <;> omega)
theorem unpF_more : ∀ (f g : Nat) (out b : List UInt8) (most : Int), b.length ≤ f → b.length ≤ g → unpF f out b most = unpF g out b most
  | 0, 0, _, _, _, _, _ => rfl
  | 0, g + 1, out, b, _, h, _ => by
    have : b = [] := List.length_eq_zero_iff.1 (by omega)
    subst this
    simp [unpF]
  | f + 1, 0, out, b, _, _, h => by
    have : b = [] := List.length_eq_zero_iff.1 (by omega)
    subst this
    simp [unpF]
  | f + 1, g + 1, out, b, most, h1, h2 => by
    unfold unpF
    by_cases e : b = []
    · rw [if_pos e, if_pos e]
    · rw [if_neg e, if_neg e]
      by_cases e2 : (tokS out b most).1 = 0
      · have hu := tokS_used out b most e2
        rw [if_neg (fun h => h e2), if_neg (fun h => h e2), unpF_more f g _ _ most (by rw [List.length_drop]; omega) (by rw [List.length_drop]; omega)]
      · rw [if_pos e2, if_pos e2]
theorem unpT_nil (out : List UInt8) (most : Int) : unpT out [] most = (out, 0) := rfl
theorem unpT_step {b : List UInt8} (out : List UInt8) (most : Int) (h : b ≠ []) : unpT out b most = if (tokS out b most).1 ≠ 0 then ([], (tokS out b most).1) else unpT (tokS out b most).2.1 (b.drop (tokS out b most).2.2) most := by
  have h0 : 0 < b.length := List.length_pos_iff.2 h
  have e : unpT out b most = unpF (b.length - 1 + 1) out b most := by unfold unpT; congr 1; omega
  rw [e]
  unfold unpF
  rw [if_neg h]
  by_cases e2 : (tokS out b most).1 = 0
  · have hu := tokS_used out b most e2
    rw [if_neg (fun h => h e2), if_neg (fun h => h e2)]
    unfold unpT
    rw [unpF_more (b.length - 1) (b.drop (tokS out b most).2.2).length _ _ most (by rw [List.length_drop]; omega) (Nat.le_refl _)]
  · rw [if_pos e2, if_pos e2]
end Go.Proofs.YtdjjiblijbjobaaDoor
/- Plain laws of layer 8 (lz): what was packed comes out again, how long it is, what of it, cut short, comes out. -/
namespace Go.Proofs.YtdjjiblijbjobaaDoor

theorem tokS_run {x : List UInt8} (out rest : List UInt8) (most : Int) (hx : x ≠ []) (hm : (out.length : Int) + x.length ≤ most) :
    tokS out (UInt8.ofNat (min x.length 128 - 1) :: x.take 128 ++ rest) most = (0, out ++ x.take 128, (x.take 128).length + 1) := by
  have h0 : 0 < x.length := List.length_pos_iff.2 hx
  have hc : (UInt8.ofNat (min x.length 128 - 1)).toNat = min x.length 128 - 1 := by
    rw [UInt8.toNat_ofNat']; omega
  have ht : (x.take 128).length = min x.length 128 := by rw [List.length_take]; omega
  unfold tokS
  rw [List.cons_append, List.getD_cons_zero, hc, if_pos (by omega), if_neg (by rw [List.length_cons, List.length_append, ht]; omega), if_neg (by omega), List.drop_succ_cons, List.drop_zero]
  rw [show min x.length 128 - 1 + 1 = (x.take 128).length by rw [ht]; omega, List.take_left', show min x.length 128 - 1 + 2 = (x.take 128).length + 1 by rw [ht]; omega]
  rfl
theorem unpT_run : ∀ (k : Nat) (x out rest : List UInt8) (most : Int), x.length ≤ k → (out.length : Int) + x.length ≤ most → unpT out (runS x ++ rest) most = unpT (out ++ x) rest most
  | 0, x, out, rest, most, hk, _ => by
    obtain rfl : x = [] := List.length_eq_zero_iff.1 (by omega)
    rw [runS_nil, List.nil_append, List.append_nil]
  | k + 1, x, out, rest, most, hk, hm => by
    by_cases hx : x = []
    · subst hx; rw [runS_nil, List.nil_append, List.append_nil]
    · have h0 : 0 < x.length := List.length_pos_iff.2 hx
      rw [runS_cons hx, List.append_assoc, unpT_step _ _ (by simp), tokS_run out _ most hx hm, if_neg (by simp)]
      rw [show (UInt8.ofNat (min x.length 128 - 1) :: List.take 128 x ++ (runS (List.drop 128 x) ++ rest)).drop ((x.take 128).length + 1) = runS (x.drop 128) ++ rest by
        rw [List.cons_append, List.drop_succ_cons, List.drop_left']; rfl]
      rw [unpT_run k (x.drop 128) (out ++ x.take 128) rest most (by rw [List.length_drop]; omega) (by rw [List.length_append, List.length_take, List.length_drop]; omega)]
      rw [List.append_assoc, List.take_append_drop]
theorem tokS_copy {n far : Nat} (out rest : List UInt8) (most : Int) (h4 : 4 ≤ n) (hn : n ≤ 131) (hf : 0 < far) (hf2 : far ≤ 65535) (hfo : far ≤ out.length) (hm : (out.length : Int) + n ≤ most) : tokS out (copyT n far ++ rest) most = (0, copyS out far n, 3) := by
  have h1 : (UInt8.ofNat (n + 124)).toNat = n + 124 := by rw [UInt8.toNat_ofNat']; omega
  have h2 : (UInt8.ofNat (far % 256)).toNat = far % 256 := by rw [UInt8.toNat_ofNat']; omega
  have h3 : (UInt8.ofNat (far / 256)).toNat = far / 256 := by rw [UInt8.toNat_ofNat']; omega
  have e : far % 256 + 256 * (far / 256) = far := by omega
  unfold tokS copyT
  simp only [List.cons_append, List.nil_append, List.getD_cons_zero, List.getD_cons_succ, h1, h2, h3, e, List.length_cons]
  rw [if_neg (by omega), if_neg (by omega), if_neg (by omega), if_neg (by omega), show n + 124 - 124 = n by omega]
theorem copyS_front {s : List UInt8} {at' far : Nat} (pre : List UInt8) (hf : 0 < far) (hfa : far ≤ at') : ∀ n, n ≤ sameS s at' far → copyS (pre ++ s.take at') far n = pre ++ s.take (at' + n)
  | 0, _ => rfl
  | n + 1, h => by
    have hl := sameS_le s at' far
    unfold mostS at hl
    rw [copyS, copyS_front pre hf hfa n (by omega)]
    have hlen : (pre ++ s.take (at' + n)).length = pre.length + (at' + n) := by rw [List.length_append, List.length_take]; omega
    have hg := sameS_get (s := s) (at' := at') (far := far) (i := n) (by omega)
    have hlt : at' + n < s.length := by omega
    have hb : (pre ++ s.take (at' + n)).getD ((pre ++ s.take (at' + n)).length - far) 0 = s[at' + n] := by
      rw [hlen, List.getD_eq_getElem?_getD, List.getElem?_append_right (by omega), List.getElem?_take_of_lt (by omega), show pre.length + (at' + n) - far - pre.length = at' - far + n by omega, ← hg, List.getElem?_eq_getElem hlt]
      rfl
    rw [hb, List.append_assoc, ← List.take_succ_eq_append_getElem hlt]
    rfl
theorem bestS_spec {s : List UInt8} {at' : Nat} (h : 4 ≤ (bestS s at').1) : 0 < (bestS s at').2 ∧ (bestS s at').2 ≤ at' ∧ (bestS s at').2 ≤ 65535 ∧ (bestS s at').1 = sameS s at' (bestS s at').2 ∧ (bestS s at').1 ≤ mostS s at' := by
  have h1 := bestTo_spec s at' (min at' 65535)
  have h2 := bestTo_le s at' (min at' 65535)
  unfold bestS at h ⊢
  rcases h1 with h1 | h1
  · omega
  · exact ⟨h1.1, by omega, by omega, h1.2.2, h2⟩
/-- WHAT WAS PACKED COMES OUT, whatever is ahead of it or behind it. -/
theorem unpT_pack (s pre rest : List UInt8) (most : Int) (hm : (pre.length : Int) + s.length ≤ most) : ∀ (k alone at' : Nat), s.length - at' ≤ k → alone ≤ at' → at' ≤ s.length → unpT (pre ++ s.take alone) (packT s alone at' ++ rest) most = unpT (pre ++ s) rest most := by
  have hend : ∀ alone, alone ≤ s.length → unpT (pre ++ s.take alone) (runS (s.drop alone) ++ rest) most = unpT (pre ++ s) rest most := by
    intro alone ha
    rw [unpT_run _ _ _ _ _ (Nat.le_refl _) (by rw [List.length_append, List.length_take, List.length_drop]; omega), List.append_assoc, List.take_append_drop]
  intro k
  induction k with
  | zero =>
    intro alone at' h1 h2 h3
    rw [packT_end alone (by omega)]
    exact hend alone (by omega)
  | succ k ih =>
    intro alone at' h1 h2 h3
    rcases Nat.lt_or_ge at' s.length with h | h
    · rw [packT_step alone h]
      by_cases h4 : (bestS s at').1 < 4
      · rw [if_pos h4]
        exact ih alone (at' + 1) (by omega) (by omega) (by omega)
      · rw [if_neg h4]
        obtain ⟨g1, g2, g3, g4, g5⟩ := bestS_spec (s := s) (at' := at') (by omega)
        generalize hn : (bestS s at').1 = n at *
        generalize hf : (bestS s at').2 = far at *
        have hms : n ≤ 131 ∧ at' + n ≤ s.length := by unfold mostS at g5; omega
        have ht : s.take alone ++ (s.drop alone).take (at' - alone) = s.take at' := by
          conv => rhs; rw [show at' = alone + (at' - alone) by omega]
          rw [List.take_add]
        have hta : (s.take at').length = at' := by rw [List.length_take]; omega
        rw [List.append_assoc, List.append_assoc, unpT_run _ _ _ _ _ (Nat.le_refl _) (by rw [List.length_append, List.length_take, List.length_take, List.length_drop]; omega), List.append_assoc, ht]
        rw [unpT_step _ _ (by simp [copyT]), tokS_copy _ _ most (by omega) hms.1 g1 g3 (by rw [List.length_append, hta]; omega) (by rw [List.length_append, hta]; omega), if_neg (by simp)]
        rw [show (copyT n far ++ (packT s (at' + n) (at' + n) ++ rest)).drop 3 = packT s (at' + n) (at' + n) ++ rest from rfl]
        show unpT (copyS (pre ++ s.take at') far n) _ _ = _
        rw [copyS_front pre g1 g2 n (by omega)]
        exact ih (at' + n) (at' + n) (by omega) (Nat.le_refl _) hms.2
    · rw [packT_end alone h]
      exact hend alone (by omega)
theorem unp_pack (s : List UInt8) (most : Int) (hm : (s.length : Int) ≤ most) : unpT [] (packS s) most = (s, 0) := by
  have h := unpT_pack s [] [] most (by simpa using hm) s.length 0 0 (by omega) (by omega) (by omega)
  simpa [packS, unpT_nil] using h
/-- HOW LONG IT IS. -/
theorem runS_len : ∀ (k : Nat) (x : List UInt8), x.length ≤ k → (runS x).length = x.length + (x.length + 127) / 128
  | 0, x, hk => by
    obtain rfl : x = [] := List.length_eq_zero_iff.1 (by omega)
    rfl
  | k + 1, x, hk => by
    by_cases hx : x = []
    · subst hx; rfl
    · have h0 : 0 < x.length := List.length_pos_iff.2 hx
      rw [runS_cons hx, List.length_append, List.length_cons, List.length_take, runS_len k (x.drop 128) (by rw [List.length_drop]; omega), List.length_drop]
      omega
theorem packT_len (s : List UInt8) : ∀ (k alone at' : Nat), s.length - at' ≤ k → alone ≤ at' → at' ≤ s.length → (packT s alone at').length ≤ s.length - alone + (s.length - alone + 127) / 128 := by
  intro k
  induction k with
  | zero =>
    intro alone at' h1 h2 h3
    rw [packT_end alone (by omega), runS_len _ _ (Nat.le_refl _), List.length_drop]
    omega
  | succ k ih =>
    intro alone at' h1 h2 h3
    rcases Nat.lt_or_ge at' s.length with h | h
    · rw [packT_step alone h]
      by_cases h4 : (bestS s at').1 < 4
      · rw [if_pos h4]
        exact ih alone (at' + 1) (by omega) (by omega) (by omega)
      · rw [if_neg h4]
        obtain ⟨g1, g2, g3, g4, g5⟩ := bestS_spec (s := s) (at' := at') (by omega)
        generalize hn : (bestS s at').1 = n at *
        have hms : n ≤ 131 ∧ at' + n ≤ s.length := by unfold mostS at g5; omega
        have := ih (at' + n) (at' + n) (by omega) (Nat.le_refl _) hms.2
        rw [List.length_append, List.length_append, runS_len _ _ (Nat.le_refl _), List.length_take, List.length_drop, show (copyT n (bestS s at').2).length = 3 from rfl]
        omega
    · rw [packT_end alone h, runS_len _ _ (Nat.le_refl _), List.length_drop]
      omega
theorem pack_len (s : List UInt8) : (packS s).length ≤ s.length + (s.length + 127) / 128 := by
  have h := packT_len s s.length 0 0 (by omega) (by omega) (by omega)
  rw [Nat.sub_zero] at h
  exact h
/-- CUT SHORT. -/
def cutOk (s : List UInt8) (r : List UInt8 × Int) : Prop := r = ([], 4) ∨ ∃ j, r = (s.take j, 0)
end Go.Proofs.YtdjjiblijbjobaaDoor
