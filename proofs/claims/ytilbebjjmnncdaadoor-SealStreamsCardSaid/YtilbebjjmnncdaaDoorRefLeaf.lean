/- The walks of the reference's small functions for words: a sum that goes round, a turning, the exclusive or bit by bit, a word of four bytes of a text. -/
import Derived.Test.YtilbebjjmnncdaaDoorRot
import Derived.LoopTactic
import Derived.IntWalk
namespace Go.Proofs.YtilbebjjmnncdaaDoor
open Go.RowKit

theorem xor_step (a b j : Nat) : (a ^^^ b) % 2 ^ (j + 1) = (a ^^^ b) % 2 ^ j + (if (a / 2 ^ j) % 2 = (b / 2 ^ j) % 2 then 0 else 2 ^ j) := by
  rw [Nat.mod_pow_succ]
  have h : (a ^^^ b) / 2 ^ j = (a / 2 ^ j) ^^^ (b / 2 ^ j) := by
    rw [← Nat.shiftRight_eq_div_pow, ← Nat.shiftRight_eq_div_pow, ← Nat.shiftRight_eq_div_pow, Nat.shiftRight_xor_distrib]
  have hx : ∀ x y : Nat, (x ^^^ y) % 2 = (x + y) % 2 := by
    intro x y
    have e := Nat.xor_mod_two_pow (a := x) (b := y) (n := 1)
    rw [show (2 : Nat) ^ 1 = 2 from rfl] at e
    rw [e, Nat.add_mod]
    rcases Nat.mod_two_eq_zero_or_one x with h1 | h1 <;> rcases Nat.mod_two_eq_zero_or_one y with h2 | h2 <;> rw [h1, h2] <;> rfl
  rw [h, hx]
  split
  · rw [show (a / 2 ^ j + b / 2 ^ j) % 2 = 0 by omega]; simp
  · rw [show (a / 2 ^ j + b / 2 ^ j) % 2 = 1 by omega]; simp

set_option maxHeartbeats 400000 in
theorem radd_any (x y : Wd) (w : World) :
    Calls Tryd.prog 72 #[.int .u64 (nm x), .int .u64 (nm y)] w fun e w' => e = .returned (.int .u64 (nm (x + y))) ∧ w' = w := by
  have h1 := nm_nonneg x; have h2 := nm_lt x; have h3 := nm_nonneg y; have h4 := nm_lt y
  have H := Lib.hid (nm_add' x y)
  go_enter Tryd.func72, Tryd.ntmps72
  go_wp2
  go_ret
  exact ⟨ret_int H.out, rfl⟩

set_option maxHeartbeats 400000 in
theorem rturn_any (x : Wd) (k : Nat) (hk : k < 32) (u : Int) (hu : u = 2 ^ k) (w : World) :
    Calls Tryd.prog 83 #[.int .u64 (nm x), .int .u64 u] w fun e w' => e = .returned (.int .u64 (nm (rl x k))) ∧ w' = w := by
  have h1 := nm_nonneg x; have h2 := nm_lt x
  have hu2 : u ≤ 2147483648 := by
    have : (2 : Nat) ^ k ≤ 2 ^ 31 := Nat.pow_le_pow_right (by omega) (by omega)
    have e : (2 : Int) ^ k = ((2 ^ k : Nat) : Int) := by rw [Int.natCast_pow]; rfl
    rw [hu, e]; omega
  have hu1 : 0 ≤ u := by
    have e : (2 : Int) ^ k = ((2 ^ k : Nat) : Int) := by rw [Int.natCast_pow]; rfl
    rw [hu, e]; exact Int.natCast_nonneg _
  have H := Lib.hid (nm_turn x k hk)
  rw [← hu] at H
  have hm0 : 0 ≤ nm x * u := Int.mul_nonneg h1 hu1
  have hm1 : nm x * u ≤ 9223372036854775808 := by
    have := Int.mul_le_mul (Int.le_of_lt_add_one (show nm x < 4294967295 + 1 by omega)) hu2 hu1 (by omega)
    omega
  clear hu
  go_enter Tryd.func83, Tryd.ntmps83
  go_wp2
  go_ret
  exact ⟨ret_int H.out, rfl⟩

set_option maxHeartbeats 400000 in
theorem rxor_any (a b : Nat) (ha : a < 4294967296) (hb : b < 4294967296) (w : World) :
    Calls Tryd.prog 56 #[.int .u64 a, .int .u64 b] w fun e w' => e = .returned (.int .u64 ((a ^^^ b : Nat) : Int)) ∧ w' = w := by
  have HX : Hid ((a ^^^ b) % 2 ^ 32 = a ^^^ b) := Lib.hid (Nat.mod_eq_of_lt (Nat.xor_lt_two_pow (by omega) (by omega)))
  go_enter Tryd.func56, Tryd.ntmps56
  go_wp2
  go_loop [0, 1, 5, 6, 7] (fun p q o u i => ∃ j : Nat, j ≤ 32 ∧ i = .int .i64 j ∧ p = .int .u64 ((a / 2 ^ j : Nat) : Int) ∧ q = .int .u64 ((b / 2 ^ j : Nat) : Int) ∧ o = .int .u64 (((a ^^^ b) % 2 ^ j : Nat) : Int) ∧ u = .int .u64 ((2 ^ j : Nat) : Int)) (fun _ _ _ _ i => 32 - (intOf i).toNat)
  case atStart => exact ⟨0, by omega, rfl, by simp, by simp, by simp [Nat.mod_one], by simp⟩
  case round =>
    obtain ⟨j, hj, rfl, rfl, rfl, rfl, rfl⟩ := hrel
    have hA : a / 2 ^ j < 4294967296 := Nat.lt_of_le_of_lt (Nat.div_le_self _ _) ha
    have hB : b / 2 ^ j < 4294967296 := Nat.lt_of_le_of_lt (Nat.div_le_self _ _) hb
    have hO : (a ^^^ b) % 2 ^ j < 2 ^ j := Nat.mod_lt _ (Nat.two_pow_pos j)
    have hU : 2 ^ j ≤ 4294967296 := Nat.pow_le_pow_right (n := 2) (by omega) hj
    have hstep := xor_step a b j
    have hA2 : a / 2 ^ (j + 1) = a / 2 ^ j / 2 := by rw [Nat.pow_succ, Nat.div_div_eq_div_mul]
    have hB2 : b / 2 ^ (j + 1) = b / 2 ^ j / 2 := by rw [Nat.pow_succ, Nat.div_div_eq_div_mul]
    have hU2 : 2 ^ (j + 1) = 2 * 2 ^ j := by rw [Nat.pow_succ, Nat.mul_comm]
    have h32 : j = 32 → (a ^^^ b) % 2 ^ j = a ^^^ b := fun e => by rw [e]; exact HX.out
    generalize (a ^^^ b) % 2 ^ j = O at *
    generalize a / 2 ^ j = A at *
    generalize b / 2 ^ j = B at *
    generalize 2 ^ j = U at *
    have HA2 := Lib.hid hA2; have HB2 := Lib.hid hB2; have HU2 := Lib.hid hU2; have HS := Lib.hid hstep; have H32 := Lib.hid h32
    clear hA2 hB2 hU2 hstep h32
    by_cases hlt : j < 32
    · have hlt' : (j : Int) < 32 := by omega
      by_cases hp : A % 2 = B % 2
      · have HP := Lib.hid hp
        have ht : ((A : Int) % 2 != (B : Int) % 2) = false := by simp; omega
        clear hp
        go_wp2
        go_round
        case rel => exact ⟨j + 1, by omega, by go_num, by rw [HA2.out]; go_num, by rw [HB2.out]; go_num, by rw [HS.out, if_pos HP.out]; go_num, by rw [HU2.out]; go_num⟩
        case measure => simp [intOf]; omega
      · have HP := Lib.hid hp
        have ht : ((A : Int) % 2 != (B : Int) % 2) = true := by simp; omega
        clear hp
        go_wp2
        go_round
        case rel => exact ⟨j + 1, by omega, by go_num, by rw [HA2.out]; go_num, by rw [HB2.out]; go_num, by rw [HS.out, if_neg HP.out]; go_num, by rw [HU2.out]; go_num⟩
        case measure => simp [intOf]; omega
    · go_wp2
      go_ret
      exact ⟨ret_int (by rw [H32.out (by omega)]), rfl⟩
/-- a text's bytes as the walk reads them. -/
theorem str_at (l : List UInt8) (i : Nat) (h : i < (⟨l.toArray⟩ : ByteArray).size) : (⟨l.toArray⟩ : ByteArray)[i]'h = bt l i := by
  have hl : i < l.length := h
  show l.toArray[i] = bt l i
  simp [bt, hl]

theorem rword_eq (b0 b1 b2 b3 : UInt8) : IntKind.u64.wrap (IntKind.u64.wrap (IntKind.u64.wrap (IntKind.u64.wrap b0.toNat + IntKind.u64.wrap (256 * IntKind.u64.wrap b1.toNat)) + IntKind.u64.wrap (65536 * IntKind.u64.wrap b2.toNat)) +
    IntKind.u64.wrap (16777216 * IntKind.u64.wrap b3.toNat)) = nm (wd b0 b1 b2 b3) := by
  have h0 := b0.toNat_lt; have h1 := b1.toNat_lt; have h2 := b2.toNat_lt; have h3 := b3.toNat_lt
  rw [nm_wd]; simp only [wrap_u64]; omega
attribute [local go_sem] str_at
set_option maxRecDepth 100000 in
set_option maxHeartbeats 400000 in
theorem rword_any (l : List UInt8) (p : Nat) (hp : p + 4 ≤ l.length) (hl : l.length < 4294967296) (w : World) :
    Calls Tryd.prog 70 #[.string ⟨l.toArray⟩, .int .i64 p] w fun e w' => e = .returned (.int .u64 (nm (wdAt l p))) ∧ w' = w.drew := by
  have h0 : p < l.length := by omega
  have h1 : p + 1 < l.length := by omega
  have h2 : p + 2 < l.length := by omega
  have h3 : p + 3 < l.length := by omega
  have w1 : IntKind.i64.wrap ((p : Int) + 1) = (p : Int) + 1 := IntWalk.i64_in _ (by omega)
  have w2 : IntKind.i64.wrap ((p : Int) + 2) = (p : Int) + 2 := IntWalk.i64_in _ (by omega)
  have w3 : IntKind.i64.wrap ((p : Int) + 3) = (p : Int) + 3 := IntWalk.i64_in _ (by omega)
  have n1 : ((p : Int) + 1).toNat = p + 1 := by omega
  have n2 : ((p : Int) + 2).toNat = p + 2 := by omega
  have n3 : ((p : Int) + 3).toNat = p + 3 := by omega
  have q1 : (p : Int) + 1 < (l.length : Int) := by omega
  have q2 : (p : Int) + 2 < (l.length : Int) := by omega
  have q3 : (p : Int) + 3 < (l.length : Int) := by omega
  have z1 : 0 ≤ (p : Int) + 1 := by omega
  have z2 : 0 ≤ (p : Int) + 2 := by omega
  have z3 : 0 ≤ (p : Int) + 3 := by omega
  go_enter Tryd.func70, Tryd.ntmps70
  go_wp2
  refine wp_region_still_lit (by kernel_rfl) (by kernel_rfl) ?_
  change wpStill _ _ w.drew _ _ _
  repeat still_step
  refine wpStill_nil ?_
  go_wp2
  go_ret
  exact ⟨ret_int (rword_eq _ _ _ _), rfl⟩
end Go.Proofs.YtilbebjjmnncdaaDoor
