/- Plain mathematics of digests' texts: a digest's text is one, and tells the digest again. -/
import Derived.Test.YthimejahpgihkaaDoorOf
namespace Go.Proofs.YthimejahpgihkaaDoor
open Go.RowKit

theorem hxd_is : ∀ n : Fin 16, isH (hxd n.val) = true ∧ hvl (hxd n.val) = n.val := by decide
theorem hxd_hvl (c : UInt8) (h : isH c = true) : hxd (hvl c) = c := by
  have key : ∀ n : Fin 256, isH (UInt8.ofNat n.val) = true → hxd (hvl (UInt8.ofNat n.val)) = UInt8.ofNat n.val := by decide +kernel
  have e : UInt8.ofNat c.toNat = c := UInt8.ofNat_toNat
  have := key ⟨c.toNat, c.toNat_lt⟩
  simp only [e] at this
  exact this h
theorem hexS_bt (d : List UInt8) : ∀ i, i < d.length → bt (hexS d) (2 * i) = hxd ((bt d i).toNat / 16) ∧ bt (hexS d) (2 * i + 1) = hxd ((bt d i).toNat % 16) := by
  induction d with
  | nil => intro i hi; simp at hi
  | cons b d ih =>
    intro i hi
    have e : hexS (b :: d) = hxd (b.toNat / 16) :: hxd (b.toNat % 16) :: hexS d := by
      unfold hexS; rw [List.flatMap_cons]; rfl
    rw [e]
    cases i with
    | zero => exact ⟨rfl, rfl⟩
    | succ i =>
      have := ih i (by simpa using hi)
      have e1 : 2 * (i + 1) = 2 * i + 2 := by omega
      rw [e1]
      exact this
theorem two_hex (d : List UInt8) (i : Nat) (hi : i < d.length) : two (hexS d) i = bt d i := by
  obtain ⟨h1, h2⟩ := hexS_bt d i hi
  have hb := (bt d i).toNat_lt
  have k1 := (hxd_is ⟨(bt d i).toNat / 16, by omega⟩).2
  have k2 := (hxd_is ⟨(bt d i).toNat % 16, by omega⟩).2
  simp only at k1 k2
  unfold two
  rw [h1, h2, k1, k2]
  have : 16 * ((bt d i).toNat / 16) + (bt d i).toNat % 16 = (bt d i).toNat := by omega
  rw [this, UInt8.ofNat_toNat]
theorem ofTo_at (s : List UInt8) (i j : Nat) (hi : i ≤ 32) (hj : j < i) : bt (ofTo s i) j = two s j := by
  induction i with
  | zero => omega
  | succ i ih =>
    rw [ofTo, bt_set _ _ _ _ (by rw [ofTo_len]; omega)]
    by_cases h : i = j
    · subst h; rw [if_pos rfl]
    · rw [if_neg h]; exact ih (by omega) (by omega)
theorem hex_ok (d : List UInt8) (hd : d.length = 32) : ofOk (hexS d) = true := by
  rw [ofOk_iff]
  refine ⟨by rw [hexS_len, hd], fun i hi => ?_⟩
  obtain ⟨h1, h2⟩ := hexS_bt d (i / 2) (by omega)
  have hb := (bt d (i / 2)).toNat_lt
  have k1 := (hxd_is ⟨(bt d (i / 2)).toNat / 16, by omega⟩).1
  have k2 := (hxd_is ⟨(bt d (i / 2)).toNat % 16, by omega⟩).1
  rcases Nat.mod_two_eq_zero_or_one i with h | h
  · rw [show i = 2 * (i / 2) by omega, h1]; exact k1
  · rw [show i = 2 * (i / 2) + 1 by omega, h2]; exact k2
theorem hex_back (d : List UInt8) (hd : d.length = 32) : ofD (hexS d) = d := by
  unfold ofD
  rw [hex_ok d hd]
  refine ext_bt (by simp [ofTo_len, hd]) (fun i hi => ?_)
  have hi' : i < 32 := by simpa [ofTo_len] using hi
  show bt (ofTo (hexS d) 32) i = bt d i
  rw [ofTo_at _ _ _ (Nat.le_refl _) hi', two_hex d i (by omega)]
theorem hex_inj (d e : List UInt8) (hd : d.length = 32) (he : e.length = 32) : (hexS d == hexS e) = (d == e) := by
  rw [Bool.eq_iff_iff]
  simp only [beq_iff_eq]
  constructor
  · intro h
    rw [← hex_back d hd, h, hex_back e he]
  · intro h; rw [h]
theorem of_back (s : List UInt8) (h : ofOk s = true) : hexS (ofD s) = s := by
  obtain ⟨hl, ha⟩ := (ofOk_iff s).1 h
  have hd : (ofD s).length = 32 := ofD_len s
  have hb : ∀ i, i < 32 → bt (ofD s) i = two s i := by
    intro i hi
    unfold ofD; rw [h]
    exact ofTo_at s 32 i (Nat.le_refl _) hi
  refine ext_bt (by rw [hexS_len, hd, hl]) (fun i hi => ?_)
  rw [hexS_len, hd] at hi
  obtain ⟨h1, h2⟩ := hexS_bt (ofD s) (i / 2) (by omega)
  rw [hb (i / 2) (by omega)] at h1 h2
  have e0 : (two s (i / 2)).toNat = 16 * hvl (bt s (2 * (i / 2))) + hvl (bt s (2 * (i / 2) + 1)) := by
    have := two_nat s (i / 2)
    exact_mod_cast this
  have l1 := hvl_lt (bt s (2 * (i / 2)))
  have l2 := hvl_lt (bt s (2 * (i / 2) + 1))
  rw [e0, show (16 * hvl (bt s (2 * (i / 2))) + hvl (bt s (2 * (i / 2) + 1))) / 16 = hvl (bt s (2 * (i / 2))) by omega] at h1
  rw [e0, show (16 * hvl (bt s (2 * (i / 2))) + hvl (bt s (2 * (i / 2) + 1))) % 16 = hvl (bt s (2 * (i / 2) + 1)) by omega] at h2
  rcases Nat.mod_two_eq_zero_or_one i with h | h
  · have e : 2 * (i / 2) = i := by omega
    rw [e] at h1
    rw [h1, hxd_hvl _ (ha i (by omega))]
  · have e : 2 * (i / 2) + 1 = i := by omega
    rw [e] at h2
    rw [h2, hxd_hvl _ (ha i (by omega))]
end Go.Proofs.YthimejahpgihkaaDoor
