/- Plain laws of layer 8 (lz): what was packed comes out again, how long it is, what of it, cut short, comes out. -/
import Derived.Test.YtpobmaklgnioeaaDoorLzS
namespace Go.Proofs.YtpobmaklgnioeaaDoor

theorem tokS_run {x : List UInt8} (out rest : List UInt8) (most : Int) (hx : x ≠ []) (hm : (out.length : Int) + x.length ≤ most) :
    tokS out (UInt8.ofNat (min x.length 128 - 1) :: x.take 128 ++ rest) most = (0, out ++ x.take 128, (x.take 128).length + 1) := by
  have h0 : 0 < x.length := List.length_pos_iff.2 hx
  have hc : (UInt8.ofNat (min x.length 128 - 1)).toNat = min x.length 128 - 1 := by
    rw [UInt8.toNat_ofNat']; omega
  have ht : (x.take 128).length = min x.length 128 := by rw [List.length_take]; omega
  unfold tokS
  rw [List.cons_append, List.getD_cons_zero, hc, if_pos (by omega), if_neg (by rw [List.length_cons, List.length_append, ht]; omega), if_neg (by omega), List.drop_succ_cons, List.drop_zero]
  rw [show min x.length 128 - 1 + 1 = (x.take 128).length by rw [ht]; omega, List.take_left', show min x.length 128 - 1 + 2 = (x.take 128).length + 1 by rw [ht]; omega]
  rfl
theorem unpT_run : ∀ (k : Nat) (x out rest : List UInt8) (most : Int), x.length ≤ k → (out.length : Int) + x.length ≤ most → unpT out (runS x ++ rest) most = unpT (out ++ x) rest most
  | 0, x, out, rest, most, hk, _ => by
    obtain rfl : x = [] := List.length_eq_zero_iff.1 (by omega)
    rw [runS_nil, List.nil_append, List.append_nil]
  | k + 1, x, out, rest, most, hk, hm => by
    by_cases hx : x = []
    · subst hx; rw [runS_nil, List.nil_append, List.append_nil]
    · have h0 : 0 < x.length := List.length_pos_iff.2 hx
      rw [runS_cons hx, List.append_assoc, unpT_step _ _ (by simp), tokS_run out _ most hx hm, if_neg (by simp)]
      rw [show (UInt8.ofNat (min x.length 128 - 1) :: List.take 128 x ++ (runS (List.drop 128 x) ++ rest)).drop ((x.take 128).length + 1) = runS (x.drop 128) ++ rest by
        rw [List.cons_append, List.drop_succ_cons, List.drop_left']; rfl]
      rw [unpT_run k (x.drop 128) (out ++ x.take 128) rest most (by rw [List.length_drop]; omega) (by rw [List.length_append, List.length_take, List.length_drop]; omega)]
      rw [List.append_assoc, List.take_append_drop]
theorem tokS_copy {n far : Nat} (out rest : List UInt8) (most : Int) (h4 : 4 ≤ n) (hn : n ≤ 131) (hf : 0 < far) (hf2 : far ≤ 65535) (hfo : far ≤ out.length) (hm : (out.length : Int) + n ≤ most) : tokS out (copyT n far ++ rest) most = (0, copyS out far n, 3) := by
  have h1 : (UInt8.ofNat (n + 124)).toNat = n + 124 := by rw [UInt8.toNat_ofNat']; omega
  have h2 : (UInt8.ofNat (far % 256)).toNat = far % 256 := by rw [UInt8.toNat_ofNat']; omega
  have h3 : (UInt8.ofNat (far / 256)).toNat = far / 256 := by rw [UInt8.toNat_ofNat']; omega
  have e : far % 256 + 256 * (far / 256) = far := by omega
  unfold tokS copyT
  simp only [List.cons_append, List.nil_append, List.getD_cons_zero, List.getD_cons_succ, h1, h2, h3, e, List.length_cons]
  rw [if_neg (by omega), if_neg (by omega), if_neg (by omega), if_neg (by omega), show n + 124 - 124 = n by omega]
theorem copyS_front {s : List UInt8} {at' far : Nat} (pre : List UInt8) (hf : 0 < far) (hfa : far ≤ at') : ∀ n, n ≤ sameS s at' far → copyS (pre ++ s.take at') far n = pre ++ s.take (at' + n)
  | 0, _ => rfl
  | n + 1, h => by
    have hl := sameS_le s at' far
    unfold mostS at hl
    rw [copyS, copyS_front pre hf hfa n (by omega)]
    have hlen : (pre ++ s.take (at' + n)).length = pre.length + (at' + n) := by rw [List.length_append, List.length_take]; omega
    have hg := sameS_get (s := s) (at' := at') (far := far) (i := n) (by omega)
    have hlt : at' + n < s.length := by omega
    have hb : (pre ++ s.take (at' + n)).getD ((pre ++ s.take (at' + n)).length - far) 0 = s[at' + n] := by
      rw [hlen, List.getD_eq_getElem?_getD, List.getElem?_append_right (by omega), List.getElem?_take_of_lt (by omega), show pre.length + (at' + n) - far - pre.length = at' - far + n by omega, ← hg, List.getElem?_eq_getElem hlt]
      rfl
    rw [hb, List.append_assoc, ← List.take_succ_eq_append_getElem hlt]
    rfl
theorem bestS_spec {s : List UInt8} {at' : Nat} (h : 4 ≤ (bestS s at').1) : 0 < (bestS s at').2 ∧ (bestS s at').2 ≤ at' ∧ (bestS s at').2 ≤ 65535 ∧ (bestS s at').1 = sameS s at' (bestS s at').2 ∧ (bestS s at').1 ≤ mostS s at' := by
  have h1 := bestTo_spec s at' (min at' 65535)
  have h2 := bestTo_le s at' (min at' 65535)
  unfold bestS at h ⊢
  rcases h1 with h1 | h1
  · omega
  · exact ⟨h1.1, by omega, by omega, h1.2.2, h2⟩
/-- WHAT WAS PACKED COMES OUT, whatever is ahead of it or behind it. -/
theorem unpT_pack (s pre rest : List UInt8) (most : Int) (hm : (pre.length : Int) + s.length ≤ most) : ∀ (k alone at' : Nat), s.length - at' ≤ k → alone ≤ at' → at' ≤ s.length → unpT (pre ++ s.take alone) (packT s alone at' ++ rest) most = unpT (pre ++ s) rest most := by
  have hend : ∀ alone, alone ≤ s.length → unpT (pre ++ s.take alone) (runS (s.drop alone) ++ rest) most = unpT (pre ++ s) rest most := by
    intro alone ha
    rw [unpT_run _ _ _ _ _ (Nat.le_refl _) (by rw [List.length_append, List.length_take, List.length_drop]; omega), List.append_assoc, List.take_append_drop]
  intro k
  induction k with
  | zero =>
    intro alone at' h1 h2 h3
    rw [packT_end alone (by omega)]
    exact hend alone (by omega)
  | succ k ih =>
    intro alone at' h1 h2 h3
    rcases Nat.lt_or_ge at' s.length with h | h
    · rw [packT_step alone h]
      by_cases h4 : (bestS s at').1 < 4
      · rw [if_pos h4]
        exact ih alone (at' + 1) (by omega) (by omega) (by omega)
      · rw [if_neg h4]
        obtain ⟨g1, g2, g3, g4, g5⟩ := bestS_spec (s := s) (at' := at') (by omega)
        generalize hn : (bestS s at').1 = n at *
        generalize hf : (bestS s at').2 = far at *
        have hms : n ≤ 131 ∧ at' + n ≤ s.length := by unfold mostS at g5; omega
        have ht : s.take alone ++ (s.drop alone).take (at' - alone) = s.take at' := by
          conv => rhs; rw [show at' = alone + (at' - alone) by omega]
          rw [List.take_add]
        have hta : (s.take at').length = at' := by rw [List.length_take]; omega
        rw [List.append_assoc, List.append_assoc, unpT_run _ _ _ _ _ (Nat.le_refl _) (by rw [List.length_append, List.length_take, List.length_take, List.length_drop]; omega), List.append_assoc, ht]
        rw [unpT_step _ _ (by simp [copyT]), tokS_copy _ _ most (by omega) hms.1 g1 g3 (by rw [List.length_append, hta]; omega) (by rw [List.length_append, hta]; omega), if_neg (by simp)]
        rw [show (copyT n far ++ (packT s (at' + n) (at' + n) ++ rest)).drop 3 = packT s (at' + n) (at' + n) ++ rest from rfl]
        show unpT (copyS (pre ++ s.take at') far n) _ _ = _
        rw [copyS_front pre g1 g2 n (by omega)]
        exact ih (at' + n) (at' + n) (by omega) (Nat.le_refl _) hms.2
    · rw [packT_end alone h]
      exact hend alone (by omega)
theorem unp_pack (s : List UInt8) (most : Int) (hm : (s.length : Int) ≤ most) : unpT [] (packS s) most = (s, 0) := by
  have h := unpT_pack s [] [] most (by simpa using hm) s.length 0 0 (by omega) (by omega) (by omega)
  simpa [packS, unpT_nil] using h
theorem unp_join (a b : List UInt8) (most : Int) (hm : (a.length : Int) + b.length ≤ most) : unpT [] (packS a ++ packS b) most = (a ++ b, 0) := by
  have h := unpT_pack a [] (packS b) most (by simp; omega) a.length 0 0 (by omega) (by omega) (by omega)
  have h2 := unpT_pack b a [] most (by omega) b.length 0 0 (by omega) (by omega) (by omega)
  simp only [List.take_zero, List.append_nil, List.nil_append, unpT_nil] at h h2
  show unpT [] (packT a 0 0 ++ packS b) most = _
  rw [h]
  exact h2
/-- where less may come out than was packed, that is told. -/
theorem tokS_limit {x : List UInt8} (out rest : List UInt8) (most : Int) (hx : x ≠ []) (hm : most < (out.length : Int) + (x.take 128).length) :
    (tokS out (UInt8.ofNat (min x.length 128 - 1) :: x.take 128 ++ rest) most).1 = 6 := by
  have h0 : 0 < x.length := List.length_pos_iff.2 hx
  have hc : (UInt8.ofNat (min x.length 128 - 1)).toNat = min x.length 128 - 1 := by
    rw [UInt8.toNat_ofNat']; omega
  have ht : (x.take 128).length = min x.length 128 := by rw [List.length_take]; omega
  unfold tokS
  rw [List.cons_append, List.getD_cons_zero, hc, if_pos (by omega), if_neg (by rw [List.length_cons, List.length_append, ht]; omega), if_pos (by omega)]
theorem tokS_run2 {x : List UInt8} (out rest : List UInt8) (most : Int) (hx : x ≠ []) (hm : (out.length : Int) + (x.take 128).length ≤ most) :
    tokS out (UInt8.ofNat (min x.length 128 - 1) :: x.take 128 ++ rest) most = (0, out ++ x.take 128, (x.take 128).length + 1) := by
  have h0 : 0 < x.length := List.length_pos_iff.2 hx
  have hc : (UInt8.ofNat (min x.length 128 - 1)).toNat = min x.length 128 - 1 := by
    rw [UInt8.toNat_ofNat']; omega
  have ht : (x.take 128).length = min x.length 128 := by rw [List.length_take]; omega
  unfold tokS
  rw [List.cons_append, List.getD_cons_zero, hc, if_pos (by omega), if_neg (by rw [List.length_cons, List.length_append, ht]; omega), if_neg (by omega), List.drop_succ_cons, List.drop_zero]
  rw [show min x.length 128 - 1 + 1 = (x.take 128).length by rw [ht]; omega, List.take_left', show min x.length 128 - 1 + 2 = (x.take 128).length + 1 by rw [ht]; omega]
  rfl
theorem unpT_runLimit : ∀ (k : Nat) (x out rest : List UInt8) (most : Int), x.length ≤ k → (out.length : Int) ≤ most → most < (out.length : Int) + x.length → unpT out (runS x ++ rest) most = ([], 6)
  | 0, x, out, rest, most, hk, h1, h2 => by omega
  | k + 1, x, out, rest, most, hk, h1, h2 => by
    have hx : x ≠ [] := by
      intro e; subst e; simp at h2; omega
    have h0 : 0 < x.length := List.length_pos_iff.2 hx
    rw [runS_cons hx, List.append_assoc, unpT_step _ _ (by simp)]
    by_cases hc : most < (out.length : Int) + (x.take 128).length
    · rw [tokS_limit out _ most hx hc, if_pos (by decide)]
    · rw [tokS_run2 out _ most hx (by omega), if_neg (by simp)]
      rw [show (UInt8.ofNat (min x.length 128 - 1) :: List.take 128 x ++ (runS (List.drop 128 x) ++ rest)).drop ((x.take 128).length + 1) = runS (x.drop 128) ++ rest by
        rw [List.cons_append, List.drop_succ_cons, List.drop_left']; rfl]
      rw [List.length_take] at hc
      exact unpT_runLimit k (x.drop 128) (out ++ x.take 128) rest most (by rw [List.length_drop]; omega) (by rw [List.length_append, List.length_take]; omega) (by rw [List.length_append, List.length_take, List.length_drop]; omega)
theorem tokS_copyLimit {n far : Nat} (out rest : List UInt8) (most : Int) (h4 : 4 ≤ n) (hn : n ≤ 131) (hf : 0 < far) (hf2 : far ≤ 65535) (hfo : far ≤ out.length) (hm : most < (out.length : Int) + n) : (tokS out (copyT n far ++ rest) most).1 = 6 := by
  have h1 : (UInt8.ofNat (n + 124)).toNat = n + 124 := by rw [UInt8.toNat_ofNat']; omega
  have h2 : (UInt8.ofNat (far % 256)).toNat = far % 256 := by rw [UInt8.toNat_ofNat']; omega
  have h3 : (UInt8.ofNat (far / 256)).toNat = far / 256 := by rw [UInt8.toNat_ofNat']; omega
  have e : far % 256 + 256 * (far / 256) = far := by omega
  unfold tokS copyT
  simp only [List.cons_append, List.nil_append, List.getD_cons_zero, List.getD_cons_succ, h1, h2, h3, e, List.length_cons]
  rw [if_neg (by omega), if_neg (by omega), if_neg (by omega), if_pos (by omega)]
theorem unpT_limit (s : List UInt8) (most : Int) (hm : most < s.length) : ∀ (k alone at' : Nat), s.length - at' ≤ k → alone ≤ at' → at' ≤ s.length → (alone : Int) ≤ most → unpT (s.take alone) (packT s alone at') most = ([], 6) := by
  have hend : ∀ alone, alone ≤ s.length → (alone : Int) ≤ most → unpT (s.take alone) (runS (s.drop alone)) most = ([], 6) := by
    intro alone ha hb
    have := unpT_runLimit _ (s.drop alone) (s.take alone) [] most (Nat.le_refl _) (by rw [List.length_take]; omega) (by rw [List.length_take, List.length_drop]; omega)
    rwa [List.append_nil] at this
  intro k
  induction k with
  | zero =>
    intro alone at' h1 h2 h3 h5
    rw [packT_end alone (by omega)]
    exact hend alone (by omega) h5
  | succ k ih =>
    intro alone at' h1 h2 h3 h5
    rcases Nat.lt_or_ge at' s.length with h | h
    · rw [packT_step alone h]
      by_cases h4 : (bestS s at').1 < 4
      · rw [if_pos h4]
        exact ih alone (at' + 1) (by omega) (by omega) (by omega) h5
      · rw [if_neg h4]
        obtain ⟨g1, g2, g3, g4, g5⟩ := bestS_spec (s := s) (at' := at') (by omega)
        generalize hn : (bestS s at').1 = n at *
        generalize hf : (bestS s at').2 = far at *
        have hms : n ≤ 131 ∧ at' + n ≤ s.length := by unfold mostS at g5; omega
        have ht : s.take alone ++ (s.drop alone).take (at' - alone) = s.take at' := by
          conv => rhs; rw [show at' = alone + (at' - alone) by omega]
          rw [List.take_add]
        have hta : (s.take at').length = at' := by rw [List.length_take]; omega
        rw [List.append_assoc]
        by_cases hr : most < at'
        · exact unpT_runLimit _ _ _ _ _ (Nat.le_refl _) (by rw [List.length_take]; omega) (by rw [List.length_take, List.length_take, List.length_drop]; omega)
        · rw [unpT_run _ _ _ _ _ (Nat.le_refl _) (by rw [List.length_take, List.length_take, List.length_drop]; omega), ht]
          by_cases hc : most < ((at' + n : Nat) : Int)
          · rw [unpT_step _ _ (by simp [copyT]), tokS_copyLimit _ _ most (by omega) hms.1 g1 g3 (by rw [hta]; omega) (by rw [hta]; omega), if_pos (by decide)]
          · rw [unpT_step _ _ (by simp [copyT]), tokS_copy _ _ most (by omega) hms.1 g1 g3 (by rw [hta]; omega) (by rw [hta]; omega), if_neg (by simp)]
            rw [show (copyT n far ++ packT s (at' + n) (at' + n)).drop 3 = packT s (at' + n) (at' + n) from rfl]
            show unpT (copyS (s.take at') far n) _ _ = _
            have := copyS_front (s := s) [] g1 g2 n (by omega)
            rw [List.nil_append, List.nil_append] at this
            rw [this]
            exact ih (at' + n) (at' + n) (by omega) (Nat.le_refl _) hms.2 (by omega)
    · rw [packT_end alone h]
      exact hend alone (by omega) h5
/-- HOW LONG IT IS. -/
theorem runS_len : ∀ (k : Nat) (x : List UInt8), x.length ≤ k → (runS x).length = x.length + (x.length + 127) / 128
  | 0, x, hk => by
    obtain rfl : x = [] := List.length_eq_zero_iff.1 (by omega)
    rfl
  | k + 1, x, hk => by
    by_cases hx : x = []
    · subst hx; rfl
    · have h0 : 0 < x.length := List.length_pos_iff.2 hx
      rw [runS_cons hx, List.length_append, List.length_cons, List.length_take, runS_len k (x.drop 128) (by rw [List.length_drop]; omega), List.length_drop]
      omega
theorem packT_len (s : List UInt8) : ∀ (k alone at' : Nat), s.length - at' ≤ k → alone ≤ at' → at' ≤ s.length → (packT s alone at').length ≤ s.length - alone + (s.length - alone + 127) / 128 := by
  intro k
  induction k with
  | zero =>
    intro alone at' h1 h2 h3
    rw [packT_end alone (by omega), runS_len _ _ (Nat.le_refl _), List.length_drop]
    omega
  | succ k ih =>
    intro alone at' h1 h2 h3
    rcases Nat.lt_or_ge at' s.length with h | h
    · rw [packT_step alone h]
      by_cases h4 : (bestS s at').1 < 4
      · rw [if_pos h4]
        exact ih alone (at' + 1) (by omega) (by omega) (by omega)
      · rw [if_neg h4]
        obtain ⟨g1, g2, g3, g4, g5⟩ := bestS_spec (s := s) (at' := at') (by omega)
        generalize hn : (bestS s at').1 = n at *
        have hms : n ≤ 131 ∧ at' + n ≤ s.length := by unfold mostS at g5; omega
        have := ih (at' + n) (at' + n) (by omega) (Nat.le_refl _) hms.2
        rw [List.length_append, List.length_append, runS_len _ _ (Nat.le_refl _), List.length_take, List.length_drop, show (copyT n (bestS s at').2).length = 3 from rfl]
        omega
    · rw [packT_end alone h, runS_len _ _ (Nat.le_refl _), List.length_drop]
      omega
theorem pack_len (s : List UInt8) : (packS s).length ≤ s.length + (s.length + 127) / 128 := by
  have h := packT_len s s.length 0 0 (by omega) (by omega) (by omega)
  rw [Nat.sub_zero] at h
  exact h
/-- CUT SHORT. -/
def cutOk (s : List UInt8) (r : List UInt8 × Int) : Prop := r = ([], 4) ∨ ∃ j, r = (s.take j, 0)
theorem tokS_short {x : List UInt8} (out rest : List UInt8) (most : Int) (n : Nat) (hx : x ≠ []) (hn : n < (x.take 128).length) :
    (tokS out ((UInt8.ofNat (min x.length 128 - 1) :: x.take 128 ++ rest).take (n + 1)) most).1 = 4 := by
  have h0 : 0 < x.length := List.length_pos_iff.2 hx
  have hc : (UInt8.ofNat (min x.length 128 - 1)).toNat = min x.length 128 - 1 := by
    rw [UInt8.toNat_ofNat']; omega
  have ht : (x.take 128).length = min x.length 128 := by rw [List.length_take]; omega
  unfold tokS
  rw [List.cons_append, List.take_succ_cons, List.getD_cons_zero, hc, if_pos (by omega), if_pos (by rw [List.length_cons, List.length_take, List.length_append, ht]; omega)]
theorem unpT_runCut : ∀ (k : Nat) (x out rest : List UInt8) (most : Int) (n : Nat), x.length ≤ k → (out.length : Int) + x.length ≤ most →
    (unpT out ((runS x ++ rest).take n) most = ([], 4)) ∨ (∃ j, j ≤ x.length ∧ unpT out ((runS x ++ rest).take n) most = (out ++ x.take j, 0)) ∨ (∃ m, unpT out ((runS x ++ rest).take n) most = unpT (out ++ x) (rest.take m) most)
  | 0, x, out, rest, most, n, hk, _ => by
    obtain rfl : x = [] := List.length_eq_zero_iff.1 (by omega)
    exact .inr (.inr ⟨n, by rw [runS_nil, List.nil_append, List.append_nil]⟩)
  | k + 1, x, out, rest, most, n, hk, hm => by
    by_cases hx : x = []
    · subst hx; exact .inr (.inr ⟨n, by rw [runS_nil, List.nil_append, List.append_nil]⟩)
    · have h0 : 0 < x.length := List.length_pos_iff.2 hx
      rw [runS_cons hx, List.append_assoc]
      cases n with
      | zero => exact .inr (.inl ⟨0, by omega, by rw [List.take_zero, unpT_nil, List.take_zero, List.append_nil]⟩)
      | succ n =>
        by_cases hn : n < (x.take 128).length
        · left
          rw [unpT_step _ _ (by simp), tokS_short out _ most n hx hn, if_pos (by decide)]
        · have e : (UInt8.ofNat (min x.length 128 - 1) :: List.take 128 x ++ (runS (List.drop 128 x) ++ rest)).take (n + 1) = UInt8.ofNat (min x.length 128 - 1) :: List.take 128 x ++ (runS (List.drop 128 x) ++ rest).take (n - (x.take 128).length) := by
            rw [List.cons_append, List.take_succ_cons, List.take_append, List.take_of_length_le (by omega), List.cons_append]
          rw [e, unpT_step _ _ (by simp), tokS_run out _ most hx hm, if_neg (by simp)]
          have e2 : ∀ r : List UInt8, (UInt8.ofNat (min x.length 128 - 1) :: List.take 128 x ++ r).drop ((x.take 128).length + 1) = r := by
            intro r; rw [List.cons_append, List.drop_succ_cons, List.drop_left']; rfl
          simp only [e2]
          rcases unpT_runCut k (x.drop 128) (out ++ x.take 128) rest most (n - (x.take 128).length) (by rw [List.length_drop]; omega) (by rw [List.length_append, List.length_take, List.length_drop]; omega) with h | ⟨j, hj, h⟩ | ⟨m, h⟩
          · exact .inl h
          · rw [List.length_drop] at hj
            refine .inr (.inl ⟨min x.length 128 + j, by omega, ?_⟩)
            rw [h, List.append_assoc]
            congr 2
            rcases Nat.lt_or_ge x.length 128 with hs | hs
            · rw [List.take_of_length_le (Nat.le_of_lt hs), List.drop_eq_nil_of_le (Nat.le_of_lt hs), List.take_nil, List.append_nil, List.take_of_length_le (by omega)]
            · rw [show min x.length 128 = 128 by omega, List.take_add]
          · exact .inr (.inr ⟨m, by rw [h, List.append_assoc, List.take_append_drop]⟩)
theorem unpT_cut (s : List UInt8) (most : Int) (hm : (s.length : Int) ≤ most) : ∀ (k alone at' n : Nat), s.length - at' ≤ k → alone ≤ at' → at' ≤ s.length → cutOk s (unpT (s.take alone) ((packT s alone at').take n) most) := by
  have key : ∀ (alone at' n : Nat) (rest : List UInt8), alone ≤ at' → at' ≤ s.length → (∀ m, cutOk s (unpT (s.take at') (rest.take m) most)) → cutOk s (unpT (s.take alone) ((runS ((s.drop alone).take (at' - alone)) ++ rest).take n) most) := by
    intro alone at' n rest h1 h2 hr
    have ht : s.take alone ++ (s.drop alone).take (at' - alone) = s.take at' := by
      conv => rhs; rw [show at' = alone + (at' - alone) by omega]
      rw [List.take_add]
    rcases unpT_runCut _ ((s.drop alone).take (at' - alone)) (s.take alone) rest most n (Nat.le_refl _) (by rw [List.length_take, List.length_take, List.length_drop]; omega) with h | ⟨j, hj, h⟩ | ⟨m, h⟩
    · exact .inl h
    · refine .inr ⟨alone + j, ?_⟩
      rw [List.length_take, List.length_drop] at hj
      rw [h, List.take_take, Nat.min_eq_left (by omega), List.take_add]
    · rw [h, ht]; exact hr m
  have hend : ∀ alone n, alone ≤ s.length → cutOk s (unpT (s.take alone) ((runS (s.drop alone)).take n) most) := by
    intro alone n ha
    have := key alone s.length n [] ha (Nat.le_refl _) (fun m => .inr ⟨s.length, by rw [List.take_nil, unpT_nil]⟩)
    rwa [List.append_nil, List.take_of_length_le (i := s.length - alone) (l := s.drop alone) (by rw [List.length_drop]; omega)] at this
  intro k
  induction k with
  | zero =>
    intro alone at' n h1 h2 h3
    rw [packT_end alone (by omega)]
    exact hend alone n (by omega)
  | succ k ih =>
    intro alone at' n h1 h2 h3
    rcases Nat.lt_or_ge at' s.length with h | h
    · rw [packT_step alone h]
      by_cases h4 : (bestS s at').1 < 4
      · rw [if_pos h4]
        exact ih alone (at' + 1) n (by omega) (by omega) (by omega)
      · rw [if_neg h4]
        obtain ⟨g1, g2, g3, g4, g5⟩ := bestS_spec (s := s) (at' := at') (by omega)
        generalize hn : (bestS s at').1 = c at *
        generalize hf : (bestS s at').2 = far at *
        have hms : c ≤ 131 ∧ at' + c ≤ s.length := by unfold mostS at g5; omega
        have hta : (s.take at').length = at' := by rw [List.length_take]; omega
        rw [List.append_assoc]
        refine key alone at' n _ h2 h3 fun m => ?_
        have h124 : (UInt8.ofNat (c + 124)).toNat = c + 124 := by rw [UInt8.toNat_ofNat']; omega
        match m with
        | 0 => exact .inr ⟨at', by rw [List.take_zero, unpT_nil]⟩
        | 1 =>
          left
          rw [unpT_step _ _ (by simp [copyT])]
          have : (tokS (s.take at') ((copyT c far ++ packT s (at' + c) (at' + c)).take 1) most).1 = 4 := by
            have e : (copyT c far ++ packT s (at' + c) (at' + c)).take 1 = [UInt8.ofNat (c + 124)] := rfl
            rw [e]
            unfold tokS
            rw [List.getD_cons_zero, h124, if_neg (by omega), if_pos (by simp)]
          rw [this, if_pos (by decide)]
        | 2 =>
          left
          rw [unpT_step _ _ (by simp [copyT])]
          have : (tokS (s.take at') ((copyT c far ++ packT s (at' + c) (at' + c)).take 2) most).1 = 4 := by
            have e : (copyT c far ++ packT s (at' + c) (at' + c)).take 2 = [UInt8.ofNat (c + 124), UInt8.ofNat (far % 256)] := rfl
            rw [e]
            unfold tokS
            rw [List.getD_cons_zero, h124, if_neg (by omega), if_pos (by simp)]
          rw [this, if_pos (by decide)]
        | m + 3 =>
          rw [show (copyT c far ++ packT s (at' + c) (at' + c)).take (m + 3) = copyT c far ++ (packT s (at' + c) (at' + c)).take m from rfl]
          rw [unpT_step _ _ (by simp [copyT]), tokS_copy _ _ most (by omega) hms.1 g1 g3 (by rw [hta]; omega) (by rw [hta]; omega), if_neg (by simp)]
          rw [show (copyT c far ++ (packT s (at' + c) (at' + c)).take m).drop 3 = (packT s (at' + c) (at' + c)).take m from rfl]
          show cutOk s (unpT (copyS (s.take at') far c) _ _)
          have := copyS_front (s := s) [] g1 g2 c (by omega)
          rw [List.nil_append, List.nil_append] at this
          rw [this]
          exact ih (at' + c) (at' + c) m (by omega) (Nat.le_refl _) hms.2
    · rw [packT_end alone h]
      exact hend alone n (by omega)
/-- A BYTE SO MANY TIMES OVER. -/
theorem packT_few (s : List UInt8) : ∀ (k alone at' : Nat), s.length - at' ≤ k → s.length - at' < 4 → packT s alone at' = runS (s.drop alone)
  | 0, alone, at', h1, _ => packT_end alone (by omega)
  | k + 1, alone, at', h1, h2 => by
    rcases Nat.lt_or_ge at' s.length with h | h
    · have hl := bestTo_le s at' (min at' 65535)
      rw [packT_step alone h, if_pos (by unfold bestS; unfold mostS at hl; omega)]
      exact packT_few s k alone (at' + 1) (by omega) (by omega)
    · exact packT_end alone h
theorem best_rep (c : UInt8) (n at' : Nat) (h : 0 < at') : (bestS (List.replicate n c) at').1 = mostS (List.replicate n c) at' := by
  have h1 := bestTo_le (List.replicate n c) at' (min at' 65535)
  have h2 := bestTo_ge (List.replicate n c) at' (min at' 65535) 1 (by omega) (by omega)
  have h3 : mostS (List.replicate n c) at' ≤ sameS (List.replicate n c) at' 1 := by
    refine sameS_ge (Nat.le_refl _) fun i hi => ?_
    unfold mostS at hi
    rw [List.length_replicate] at hi
    rw [List.getElem?_replicate, List.getElem?_replicate, if_pos (by omega), if_pos (by omega)]
  unfold bestS
  omega
theorem rep_tail (c : UInt8) (n : Nat) : ∀ (k at' : Nat), n - at' ≤ k → 0 < at' → at' ≤ n → (packT (List.replicate n c) at' at').length ≤ 3 * ((n - at') / 131) + 4
  | 0, at', h1, _, h3 => by
    rw [packT_end at' (by rw [List.length_replicate]; omega), runS_len _ _ (Nat.le_refl _), List.length_drop, List.length_replicate]
    omega
  | k + 1, at', h1, h2, h3 => by
    by_cases h4 : n - at' < 4
    · rw [packT_few _ 4 at' at' (by rw [List.length_replicate]; omega) (by rw [List.length_replicate]; omega), runS_len _ _ (Nat.le_refl _), List.length_drop, List.length_replicate]
      omega
    · have hb := best_rep c n at' h2
      unfold mostS at hb
      rw [List.length_replicate] at hb
      rw [packT_step at' (by rw [List.length_replicate]; omega), if_neg (by omega), Nat.sub_self, List.take_zero, runS_nil, List.nil_append, List.length_append, show (copyT (bestS (List.replicate n c) at').1 (bestS (List.replicate n c) at').2).length = 3 from rfl]
      have := rep_tail c n k (at' + (bestS (List.replicate n c) at').1) (by omega) (by omega) (by omega)
      rw [hb] at this ⊢
      by_cases h5 : 131 ≤ n - at'
      · rw [show min 131 (n - at') = 131 by omega] at this ⊢
        omega
      · rw [show at' + min 131 (n - at') = n by omega] at this ⊢
        rw [packT_end n (by rw [List.length_replicate]; omega), List.drop_eq_nil_of_le (by rw [List.length_replicate]; omega), runS_nil]
        simp
theorem pack_rep (c : UInt8) (n : Nat) (h : 0 < n) : (packS (List.replicate n c)).length ≤ 8 + 3 * ((n + 129) / 131) := by
  have h0 : (bestS (List.replicate n c) 0).1 = 0 := rfl
  unfold packS
  rw [packT_step 0 (by rw [List.length_replicate]; omega), h0, if_pos (by omega)]
  by_cases h4 : n - 1 < 4
  · rw [packT_few _ 4 0 (0 + 1) (by rw [List.length_replicate]; omega) (by rw [List.length_replicate]; omega), runS_len _ _ (Nat.le_refl _), List.length_drop, List.length_replicate]
    omega
  · have hb := best_rep c n (0 + 1) (by omega)
    unfold mostS at hb
    rw [List.length_replicate] at hb
    rw [packT_step 0 (by rw [List.length_replicate]; omega), if_neg (by omega), List.length_append, List.length_append, runS_len _ _ (Nat.le_refl _), List.length_take, List.length_drop, List.length_replicate, show (copyT (bestS (List.replicate n c) (0 + 1)).1 (bestS (List.replicate n c) (0 + 1)).2).length = 3 from rfl]
    have := rep_tail c n n (0 + 1 + (bestS (List.replicate n c) (0 + 1)).1) (by omega) (by omega) (by omega)
    rw [hb] at this ⊢
    omega
/-- the reference's way to end: a least number below nought is told at the end. -/
theorem unp_neg (b : List UInt8) (most : Int) (hb : b ≠ []) (hm : most < 0) : unpT [] b most = unpT [] b 0 ∧ (unpT [] b most).2 ≠ 0 := by
  have h : (tokS [] b most).1 = (tokS [] b 0).1 ∧ (tokS [] b most).1 ≠ 0 := by
    unfold tokS
    by_cases h1 : (b.getD 0 0).toNat < 128
    · rw [if_pos h1, if_pos h1]
      by_cases h2 : b.length < (b.getD 0 0).toNat + 2
      · rw [if_pos h2, if_pos h2]; simp
      · rw [if_neg h2, if_neg h2, if_pos (by simp only [List.length_nil]; omega), if_pos (by simp only [List.length_nil]; omega)]; simp
    · rw [if_neg h1, if_neg h1]
      by_cases h2 : b.length < 3
      · rw [if_pos h2, if_pos h2]; simp
      · rw [if_neg h2, if_neg h2, if_pos (by simp only [List.length_nil]; omega), if_pos (by simp only [List.length_nil]; omega)]; simp
  rw [unpT_step _ _ hb, unpT_step _ _ hb, if_pos h.2, if_pos (by rw [← h.1]; exact h.2), h.1]
  exact ⟨rfl, by rw [← h.1]; exact h.2⟩
end Go.Proofs.YtpobmaklgnioeaaDoor
