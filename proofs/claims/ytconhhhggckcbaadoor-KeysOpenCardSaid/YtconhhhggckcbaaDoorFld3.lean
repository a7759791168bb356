/- The walks of the reference's Mul, Inv, Eval and At (layer 5). Printed by gen_key3.py. -/
import Derived.Test.YtconhhhggckcbaaDoorFldP
import Derived.Test.YtconhhhggckcbaaDoorFldQ
namespace Go.Proofs.YtconhhhggckcbaaDoor
open Go.RowKit

theorem shr_nat2 (b i : Nat) (j : Int) (h : j = (i : Int)) : (b : Int) / 2 ^ (j).toNat = ((b / 2 ^ i : Nat) : Int) := by subst h; exact shr_nat b i
theorem shl_nat16 (b i : Nat) (j : Int) (h : j = (i : Int)) (hl : b * 2 ^ i < 65536) : IntKind.u16.wrap ((b : Int) * 2 ^ (j).toNat) = ((b * 2 ^ i : Nat) : Int) := by
  subst h
  rw [Int.toNat_natCast, IntKind.wrap_u16]
  have : (b : Int) * 2 ^ i = ((b * 2 ^ i : Nat) : Int) := by rw [Int.natCast_mul, Int.natCast_pow]; rfl
  rw [this]; omega
theorem and1_16 (n : Nat) (h : n < 65536) : bits .and .u16 (n : Int) 1 = ((n % 2 : Nat) : Int) := by
  have := u16_and_nat n 1 h (by decide)
  rw [Nat.and_one_is_mod] at this; exact this
theorem mul_pow16 {a i : Nat} (h : a < 256) (hi : i < 8) : a * 2 ^ i < 65536 := by
  have h2 : 2 ^ i ≤ 2 ^ 7 := Nat.pow_le_pow_right (by decide) (by omega)
  have := Nat.mul_le_mul (Nat.le_of_lt h) h2
  omega
theorem rxT_lt {a b : Nat} (h : a < 256) : ∀ {i}, i ≤ 8 → rxT a b i < 65536
  | 0, _ => by simp [rxT]
  | i + 1, hi => by
    rw [rxT]
    have h1 := rxT_lt h (b := b) (i := i) (by omega)
    split
    · exact Nat.xor_lt_two_pow (n := 16) h1 (mul_pow16 h (by omega))
    · exact h1
theorem red_pow {k : Nat} : 285 * 2 ^ (6 - k) < 65536 := by
  have h2 : 2 ^ (6 - k) ≤ 2 ^ 6 := Nat.pow_le_pow_right (by decide) (by omega)
  omega
theorem redT_lt {x : Nat} (h : x < 65536) : ∀ k, redT x k < 65536
  | 0 => h
  | k + 1 => by
    rw [redT]
    split
    · exact Nat.xor_lt_two_pow (n := 16) (redT_lt h k) red_pow
    · exact redT_lt h k
set_option maxRecDepth 100000 in
set_option maxHeartbeats 1000000 in
theorem rmul5_any (a b : UInt8) (w : World) : Calls Tryd.prog 84 #[.int .u8 (a.toNat : Int), .int .u8 (b.toNat : Int)] w fun e w' => e = .returned (.int .u8 ((mulS a b).toNat : Int)) ∧ Below w.heap.size w w' := by
  refine walk_enter Tryd.func84 rfl rfl rfl fun a0 F0 => ?_
  have M0 := Mem.new w
  refine wsl ?_
  refine sr (v := (.int .u8 0)) F0 (run_as rfl rfl) rfl rfl rfl fun a1 F1 => ?_
  refine sn ?_
  clear F0
  refine wsl ?_
  refine sr (v := (.int .u16 0)) F1 (run_as rfl rfl) rfl rfl rfl fun a2 F2 => ?_
  refine sn ?_
  clear F1
  refine wp_seq ?_
  refine wsl ?_
  refine sr (v := (.int .i64 0)) F2 (run_as rfl rfl) rfl rfl rfl fun a3 F3 => ?_
  refine sn ?_
  clear F2
  refine wp_block ?_
  refine wkLoop (fun m a0 w2 => ∃ i : Nat, i ≤ 8 ∧ m = 8 - i ∧ Fr a0 39 [(0, .int .u8 (a.toNat : Int)), (1, .int .u8 (b.toNat : Int)), (5, .int .u16 ((rxT a.toNat b.toNat i : Nat) : Int)), (6, .int .i64 (i : Int))] ∧ Mem w [] w2) 8 ⟨0, Nat.zero_le _, rfl, F3.sub ⟨rfl, rfl, rfl, rfl, trivial⟩, M0⟩ ?_
  rintro m a0 w1 ⟨i, hi, rfl, F0, M0⟩
  have hb := b.toNat_lt
  have ha := a.toNat_lt
  obtain ⟨X, hX⟩ : ∃ X, rxT a.toNat b.toNat i = X := ⟨_, rfl⟩
  have hXl : X < 65536 := by rw [← hX]; exact rxT_lt ha hi
  have hd : b.toNat / 2 ^ i < 256 := Nat.lt_of_le_of_lt (Nat.div_le_self _ _) hb
  rw [hX] at F0
  by_cases h1 : i < 8
  · have hm : a.toNat * 2 ^ i < 65536 := mul_pow16 ha h1
    by_cases h2 : b.toNat / 2 ^ i % 2 = 1
    · have hP : rxT a.toNat b.toNat (i + 1) = X ^^^ (a.toNat * 2 ^ i) := by rw [rxT, hX, if_pos h2]
      refine wp_seq ?_
      refine wsl ?_
      refine mvS F0 rfl rfl rfl rfl rfl fun a1 F1 => ?_
      refine sr (v := (.bool true)) F1 (run_lss rfl (F1.ev 8 rfl) rfl (decide_eq_true (by omega))) rfl rfl rfl fun a2 F2 => ?_
      refine sn ?_
      clear F0 F1
      refine cts (F2.ev 9 rfl) ?_
      refine wp_seq ?_
      refine wp_block ?_
      refine wsl ?_
      refine mvS F2 rfl rfl rfl rfl rfl fun a3 F3 => ?_
      refine mvS F3 rfl rfl rfl rfl rfl fun a4 F4 => ?_
      refine sr (v := (.int .u8 ((b.toNat / 2 ^ i : Nat) : Int))) F4 (run_shr (r := ((b.toNat / 2 ^ i : Nat) : Int)) rfl (F4.ev 12 rfl) (F4.ev 13 rfl) (by omega) (by first | decide | (simp [IntKind.bits]; omega)) (shr_nat _ _)) rfl rfl rfl fun a5 F5 => ?_
      refine sr (v := (.int .u8 ((b.toNat / 2 ^ i % 2 : Nat) : Int))) F5 (run_and (r := ((b.toNat / 2 ^ i % 2 : Nat) : Int)) rfl (F5.ev 14 rfl) rfl (and1 _ hd)) rfl rfl rfl fun a6 F6 => ?_
      refine sr (v := (.bool true)) F6 (run_eqi rfl (F6.ev 15 rfl) rfl (beq_iff_eq.2 (by omega))) rfl rfl rfl fun a7 F7 => ?_
      refine sn ?_
      clear F2 F3 F4 F5 F6
      refine wp_cond_true (F7.ev 16 rfl) ?_
      refine wp_region_lit ?_
      refine mvS F7 rfl rfl rfl rfl rfl fun a8 F8 => ?_
      refine mvS F8 rfl rfl rfl rfl rfl fun a9 F9 => ?_
      refine sr F9 (run_cvI (r := (a.toNat : Int)) rfl (F9.ev 18 rfl) Tryd.underlying5 Tryd.underlying143 (by rw [IntKind.wrap_u16]; omega)) rfl rfl rfl fun a10 F10 => ?_
      refine mvS F10 rfl rfl rfl rfl rfl fun a11 F11 => ?_
      refine sr (v := (.int .u16 ((a.toNat * 2 ^ i : Nat) : Int))) F11 (run_shl (r := ((a.toNat * 2 ^ i : Nat) : Int)) rfl (F11.ev 19 rfl) (F11.ev 20 rfl) (by omega) (by first | decide | (simp [IntKind.bits]; omega)) (shl_nat16 _ _ _ rfl hm)) rfl rfl rfl fun a12 F12 => ?_
      refine sr (v := (.int .u16 ((X ^^^ (a.toNat * 2 ^ i) : Nat) : Int))) F12 (run_xor (r := ((X ^^^ (a.toNat * 2 ^ i) : Nat) : Int)) rfl (F12.ev 17 rfl) (F12.ev 21 rfl) (u16_xor_nat _ _ hXl hm)) rfl rfl rfl fun a13 F13 => ?_
      refine asS F13 rfl rfl rfl rfl rfl fun a14 F14 => ?_
      refine sqEnd ?_
      clear F7 F8 F9 F10 F11 F12 F13
      refine bkEnd ?_
      refine nx ?_
      refine wp_region_lit ?_
      refine mvS F14 rfl rfl rfl rfl rfl fun a15 F15 => ?_
      refine sr F15 (run_add (r := ((i + 1 : Nat) : Int)) rfl (F15.ev 10 rfl) rfl (by rw [IntKind.wrap_i64]; omega)) rfl rfl rfl fun a16 F16 => ?_
      refine asS F16 rfl rfl rfl rfl rfl fun a17 F17 => ?_
      refine sn ?_
      clear F14 F15 F16
      exact ⟨_, by omega, i + 1, by omega, rfl, by rw [hP]; exact F17.sub ⟨rfl, rfl, rfl, rfl, trivial⟩, M0⟩
    · have hP : rxT a.toNat b.toNat (i + 1) = X := by rw [rxT, hX, if_neg h2]
      refine wp_seq ?_
      refine wsl ?_
      refine mvS F0 rfl rfl rfl rfl rfl fun a1 F1 => ?_
      refine sr (v := (.bool true)) F1 (run_lss rfl (F1.ev 8 rfl) rfl (decide_eq_true (by omega))) rfl rfl rfl fun a2 F2 => ?_
      refine sn ?_
      clear F0 F1
      refine cts (F2.ev 9 rfl) ?_
      refine wp_seq ?_
      refine wp_block ?_
      refine wsl ?_
      refine mvS F2 rfl rfl rfl rfl rfl fun a3 F3 => ?_
      refine mvS F3 rfl rfl rfl rfl rfl fun a4 F4 => ?_
      refine sr (v := (.int .u8 ((b.toNat / 2 ^ i : Nat) : Int))) F4 (run_shr (r := ((b.toNat / 2 ^ i : Nat) : Int)) rfl (F4.ev 12 rfl) (F4.ev 13 rfl) (by omega) (by first | decide | (simp [IntKind.bits]; omega)) (shr_nat _ _)) rfl rfl rfl fun a5 F5 => ?_
      refine sr (v := (.int .u8 ((b.toNat / 2 ^ i % 2 : Nat) : Int))) F5 (run_and (r := ((b.toNat / 2 ^ i % 2 : Nat) : Int)) rfl (F5.ev 14 rfl) rfl (and1 _ hd)) rfl rfl rfl fun a6 F6 => ?_
      refine sr (v := (.bool false)) F6 (run_eqi rfl (F6.ev 15 rfl) rfl (beq_eq_false_iff_ne.2 (by omega))) rfl rfl rfl fun a7 F7 => ?_
      refine sn ?_
      clear F2 F3 F4 F5 F6
      refine wp_cond_false (F7.ev 16 rfl) ?_
      refine wp_skip ?_
      refine bkEnd ?_
      refine nx ?_
      refine wp_region_lit ?_
      refine mvS F7 rfl rfl rfl rfl rfl fun a8 F8 => ?_
      refine sr F8 (run_add (r := ((i + 1 : Nat) : Int)) rfl (F8.ev 10 rfl) rfl (by rw [IntKind.wrap_i64]; omega)) rfl rfl rfl fun a9 F9 => ?_
      refine asS F9 rfl rfl rfl rfl rfl fun a10 F10 => ?_
      refine sn ?_
      clear F7 F8 F9
      exact ⟨_, by omega, i + 1, by omega, rfl, by rw [hP]; exact F10.sub ⟨rfl, rfl, rfl, rfl, trivial⟩, M0⟩
  · have hie : i = 8 := by omega
    have hX8 : rxT a.toNat b.toNat 8 = X := by rw [← hX, hie]
    refine wp_seq ?_
    refine wsl ?_
    refine mvS F0 rfl rfl rfl rfl rfl fun a1 F1 => ?_
    refine sr (v := (.bool false)) F1 (run_lss rfl (F1.ev 8 rfl) rfl (decide_eq_false (by omega))) rfl rfl rfl fun a2 F2 => ?_
    refine sn ?_
    clear F0 F1
    refine wp_cond_false (F2.ev 9 rfl) ?_
    refine wp_exit ?_
    refine nxExit ?_
    refine nxExit ?_
    refine bkHere ?_
    refine nx ?_
    refine wp_seq ?_
    refine wsl ?_
    refine sr (v := (.int .i64 14)) F2 (run_as rfl rfl) rfl rfl rfl fun a3 F3 => ?_
    refine sn ?_
    clear F2
    refine wp_block ?_
    refine wkLoop (fun m a0 w2 => ∃ k : Nat, k ≤ 7 ∧ m = 7 - k ∧ Fr a0 39 [(5, .int .u16 ((redT X k : Nat) : Int)), (7, .int .i64 ((14 - k : Nat) : Int))] ∧ Mem w [] w2) 7 ⟨0, Nat.zero_le _, rfl, F3.sub ⟨rfl, rfl, trivial⟩, M0⟩ ?_
    rintro m a0 w1 ⟨k, hk, rfl, F0, M0⟩
    obtain ⟨Y, hY⟩ : ∃ Y, redT X k = Y := ⟨_, rfl⟩
    have hYl : Y < 65536 := by rw [← hY]; exact redT_lt hXl k
    have hd2 : Y / 2 ^ (14 - k) < 65536 := Nat.lt_of_le_of_lt (Nat.div_le_self _ _) hYl
    rw [hY] at F0
    by_cases h3 : k < 7
    · skip
      by_cases h4 : Y / 2 ^ (14 - k) % 2 = 1
      · have hP : redT X (k + 1) = Y ^^^ (285 * 2 ^ (6 - k)) := by rw [redT, hY, if_pos h4]
        refine wp_seq ?_
        refine wsl ?_
        refine mvS F0 rfl rfl rfl rfl rfl fun a1 F1 => ?_
        refine sr (v := (.bool true)) F1 (run_geq rfl (F1.ev 23 rfl) rfl (decide_eq_true (by omega))) rfl rfl rfl fun a2 F2 => ?_
        refine sn ?_
        clear F0 F1
        refine cts (F2.ev 24 rfl) ?_
        refine wp_seq ?_
        refine wp_block ?_
        refine wsl ?_
        refine mvS F2 rfl rfl rfl rfl rfl fun a3 F3 => ?_
        refine mvS F3 rfl rfl rfl rfl rfl fun a4 F4 => ?_
        refine sr (v := (.int .u16 ((Y / 2 ^ (14 - k) : Nat) : Int))) F4 (run_shr (r := ((Y / 2 ^ (14 - k) : Nat) : Int)) rfl (F4.ev 27 rfl) (F4.ev 28 rfl) (by omega) (by first | decide | (simp [IntKind.bits]; omega)) (shr_nat2 _ _ _ rfl)) rfl rfl rfl fun a5 F5 => ?_
        refine sr (v := (.int .u16 ((Y / 2 ^ (14 - k) % 2 : Nat) : Int))) F5 (run_and (r := ((Y / 2 ^ (14 - k) % 2 : Nat) : Int)) rfl (F5.ev 29 rfl) rfl (and1_16 _ hd2)) rfl rfl rfl fun a6 F6 => ?_
        refine sr (v := (.bool true)) F6 (run_eqi rfl (F6.ev 30 rfl) rfl (beq_iff_eq.2 (by omega))) rfl rfl rfl fun a7 F7 => ?_
        refine sn ?_
        clear F2 F3 F4 F5 F6
        refine wp_cond_true (F7.ev 31 rfl) ?_
        refine wp_region_lit ?_
        refine mvS F7 rfl rfl rfl rfl rfl fun a8 F8 => ?_
        refine mvS F8 rfl rfl rfl rfl rfl fun a9 F9 => ?_
        refine sr F9 (run_sub (r := ((6 - k : Nat) : Int)) rfl (F9.ev 33 rfl) rfl (by rw [IntKind.wrap_i64]; omega)) rfl rfl rfl fun a10 F10 => ?_
        refine sr (v := (.int .u16 ((285 * 2 ^ (6 - k) : Nat) : Int))) F10 (run_shl (r := ((285 * 2 ^ (6 - k) : Nat) : Int)) rfl rfl (F10.ev 34 rfl) (by omega) (by first | decide | (simp [IntKind.bits]; omega)) (shl_nat16 285 _ _ rfl red_pow)) rfl rfl rfl fun a11 F11 => ?_
        refine sr (v := (.int .u16 ((Y ^^^ (285 * 2 ^ (6 - k)) : Nat) : Int))) F11 (run_xor (r := ((Y ^^^ (285 * 2 ^ (6 - k)) : Nat) : Int)) rfl (F11.ev 32 rfl) (F11.ev 35 rfl) (u16_xor_nat _ _ hYl red_pow)) rfl rfl rfl fun a12 F12 => ?_
        refine asS F12 rfl rfl rfl rfl rfl fun a13 F13 => ?_
        refine sqEnd ?_
        clear F7 F8 F9 F10 F11 F12
        refine bkEnd ?_
        refine nx ?_
        refine wp_region_lit ?_
        refine mvS F13 rfl rfl rfl rfl rfl fun a14 F14 => ?_
        refine sr F14 (run_sub (r := ((14 - (k + 1) : Nat) : Int)) rfl (F14.ev 25 rfl) rfl (by rw [IntKind.wrap_i64]; omega)) rfl rfl rfl fun a15 F15 => ?_
        refine asS F15 rfl rfl rfl rfl rfl fun a16 F16 => ?_
        refine sn ?_
        clear F13 F14 F15
        exact ⟨_, by omega, k + 1, by omega, rfl, by rw [hP]; exact F16.sub ⟨rfl, rfl, trivial⟩, M0⟩
      · have hP : redT X (k + 1) = Y := by rw [redT, hY, if_neg h4]
        refine wp_seq ?_
        refine wsl ?_
        refine mvS F0 rfl rfl rfl rfl rfl fun a1 F1 => ?_
        refine sr (v := (.bool true)) F1 (run_geq rfl (F1.ev 23 rfl) rfl (decide_eq_true (by omega))) rfl rfl rfl fun a2 F2 => ?_
        refine sn ?_
        clear F0 F1
        refine cts (F2.ev 24 rfl) ?_
        refine wp_seq ?_
        refine wp_block ?_
        refine wsl ?_
        refine mvS F2 rfl rfl rfl rfl rfl fun a3 F3 => ?_
        refine mvS F3 rfl rfl rfl rfl rfl fun a4 F4 => ?_
        refine sr (v := (.int .u16 ((Y / 2 ^ (14 - k) : Nat) : Int))) F4 (run_shr (r := ((Y / 2 ^ (14 - k) : Nat) : Int)) rfl (F4.ev 27 rfl) (F4.ev 28 rfl) (by omega) (by first | decide | (simp [IntKind.bits]; omega)) (shr_nat2 _ _ _ rfl)) rfl rfl rfl fun a5 F5 => ?_
        refine sr (v := (.int .u16 ((Y / 2 ^ (14 - k) % 2 : Nat) : Int))) F5 (run_and (r := ((Y / 2 ^ (14 - k) % 2 : Nat) : Int)) rfl (F5.ev 29 rfl) rfl (and1_16 _ hd2)) rfl rfl rfl fun a6 F6 => ?_
        refine sr (v := (.bool false)) F6 (run_eqi rfl (F6.ev 30 rfl) rfl (beq_eq_false_iff_ne.2 (by omega))) rfl rfl rfl fun a7 F7 => ?_
        refine sn ?_
        clear F2 F3 F4 F5 F6
        refine wp_cond_false (F7.ev 31 rfl) ?_
        refine wp_skip ?_
        refine bkEnd ?_
        refine nx ?_
        refine wp_region_lit ?_
        refine mvS F7 rfl rfl rfl rfl rfl fun a8 F8 => ?_
        refine sr F8 (run_sub (r := ((14 - (k + 1) : Nat) : Int)) rfl (F8.ev 25 rfl) rfl (by rw [IntKind.wrap_i64]; omega)) rfl rfl rfl fun a9 F9 => ?_
        refine asS F9 rfl rfl rfl rfl rfl fun a10 F10 => ?_
        refine sn ?_
        clear F7 F8 F9
        exact ⟨_, by omega, k + 1, by omega, rfl, by rw [hP]; exact F10.sub ⟨rfl, rfl, trivial⟩, M0⟩
    · have hke : k = 7 := by omega
      have hres : Y = (mulS a b).toNat := by rw [← mulR_eq, mulR, hX8, ← hke, hY]
      have hrl := (mulS a b).toNat_lt
      refine wp_seq ?_
      refine wsl ?_
      refine mvS F0 rfl rfl rfl rfl rfl fun a1 F1 => ?_
      refine sr (v := (.bool false)) F1 (run_geq rfl (F1.ev 23 rfl) rfl (decide_eq_false (by omega))) rfl rfl rfl fun a2 F2 => ?_
      refine sn ?_
      clear F0 F1
      refine wp_cond_false (F2.ev 24 rfl) ?_
      refine wp_exit ?_
      refine nxExit ?_
      refine nxExit ?_
      refine bkHere ?_
      refine nx ?_
      refine wsl ?_
      refine mvS F2 rfl rfl rfl rfl rfl fun a3 F3 => ?_
      refine sr F3 (run_cvI (r := ((mulS a b).toNat : Int)) rfl (F3.ev 37 rfl) Tryd.underlying143 Tryd.underlying5 (by rw [hres, IntKind.wrap_u8]; omega)) rfl rfl rfl fun a4 F4 => ?_
      refine asS F4 rfl rfl rfl rfl rfl fun a5 F5 => ?_
      refine sn ?_
      clear F2 F3 F4
      refine wp_ret ?_
      exact ret1 F5 rfl rfl ⟨rfl, M0.below⟩
set_option maxRecDepth 100000 in
set_option maxHeartbeats 1000000 in
theorem rinv5_any (a : UInt8) (w : World) : Calls Tryd.prog 85 #[.int .u8 (a.toNat : Int)] w fun e w' => e = .returned (.int .u8 ((invS a).toNat : Int)) ∧ Below w.heap.size w w' := by
  refine walk_enter Tryd.func85 rfl rfl rfl fun a0 F0 => ?_
  have M0 := Mem.new w
  refine wsl ?_
  refine sr (v := (.int .u8 0)) F0 (run_as rfl rfl) rfl rfl rfl fun a1 F1 => ?_
  refine sn ?_
  clear F0
  refine wp_seq ?_
  refine wsl ?_
  refine sr (v := (.int .i64 0)) F1 (run_as rfl rfl) rfl rfl rfl fun a2 F2 => ?_
  refine sn ?_
  clear F1
  refine wp_block ?_
  refine wkLoop (fun m a0 w2 => ∃ i : Nat, i ≤ 256 ∧ m = 256 - i ∧ (∀ n, n < i → mulS a (UInt8.ofNat n) ≠ 1) ∧ Fr a0 15 [(0, .int .u8 (a.toNat : Int)), (3, .int .i64 (i : Int))] ∧ Mem w [] w2) 256 ⟨0, Nat.zero_le _, rfl, fun n h => absurd h (Nat.not_lt_zero n), F2.sub ⟨rfl, rfl, trivial⟩, M0⟩ ?_
  rintro m a0 w1 ⟨i, hi, rfl, hno, F0, M0⟩
  by_cases h1 : i < 256
  · by_cases h2 : mulS a (UInt8.ofNat i) = 1
    · have hres : invS a = UInt8.ofNat i := (inv_uniq h2).symm
      refine wp_seq ?_
      refine wsl ?_
      refine mvS F0 rfl rfl rfl rfl rfl fun a1 F1 => ?_
      refine sr (v := (.bool true)) F1 (run_lss rfl (F1.ev 4 rfl) rfl (decide_eq_true (by omega))) rfl rfl rfl fun a2 F2 => ?_
      refine sn ?_
      clear F0 F1
      refine cts (F2.ev 5 rfl) ?_
      refine wp_seq ?_
      refine wp_block ?_
      refine wsl ?_
      refine mvS F2 rfl rfl rfl rfl rfl fun a3 F3 => ?_
      refine mvS F3 rfl rfl rfl rfl rfl fun a4 F4 => ?_
      refine sr F4 (run_cvI (r := ((UInt8.ofNat i).toNat : Int)) rfl (F4.ev 9 rfl) Tryd.underlying3 Tryd.underlying5 (by rw [UInt8.toNat_ofNat', IntKind.wrap_u8]; omega)) rfl rfl rfl fun a5 F5 => ?_
      refine sqC (v := (.int .u8 ((mulS a (UInt8.ofNat i)).toNat : Int))) F5 M0 (wantedS rfl) (run_call rfl Tryd.func84 (by kernel_rfl) rfl (mapE2 (F5.ev 8 rfl) (F5.ev 10 rfl))) rfl (by decide) (rmul5_any a (UInt8.ofNat i) w1) fun a6 w2 hb2 F6 M1 => ?_
      refine sr (v := (.bool true)) F6 (run_eqi rfl (F6.ev 11 rfl) rfl (by rw [h2]; rfl)) rfl rfl rfl fun a7 F7 => ?_
      refine sn ?_
      clear F2 F3 F4 F5 F6 M0
      refine wp_cond_true (F7.ev 12 rfl) ?_
      refine wsl ?_
      refine mvS F7 rfl rfl rfl rfl rfl fun a8 F8 => ?_
      refine sr F8 (run_cvI (r := ((UInt8.ofNat i).toNat : Int)) rfl (F8.ev 13 rfl) Tryd.underlying3 Tryd.underlying5 (by rw [UInt8.toNat_ofNat', IntKind.wrap_u8]; omega)) rfl rfl rfl fun a9 F9 => ?_
      refine asS F9 rfl rfl rfl rfl rfl fun a10 F10 => ?_
      refine sn ?_
      clear F7 F8 F9
      refine wp_ret ?_
      refine bkRet ?_
      refine nxRet ?_
      refine nxRet ?_
      refine bkRet ?_
      refine nxRet ?_
      exact ret1 F10 rfl rfl ⟨by rw [hres], M1.below⟩
    · have h2n : (mulS a (UInt8.ofNat i)).toNat ≠ 1 := fun h => h2 (UInt8.toNat_inj.1 h)
      refine wp_seq ?_
      refine wsl ?_
      refine mvS F0 rfl rfl rfl rfl rfl fun a1 F1 => ?_
      refine sr (v := (.bool true)) F1 (run_lss rfl (F1.ev 4 rfl) rfl (decide_eq_true (by omega))) rfl rfl rfl fun a2 F2 => ?_
      refine sn ?_
      clear F0 F1
      refine cts (F2.ev 5 rfl) ?_
      refine wp_seq ?_
      refine wp_block ?_
      refine wsl ?_
      refine mvS F2 rfl rfl rfl rfl rfl fun a3 F3 => ?_
      refine mvS F3 rfl rfl rfl rfl rfl fun a4 F4 => ?_
      refine sr F4 (run_cvI (r := ((UInt8.ofNat i).toNat : Int)) rfl (F4.ev 9 rfl) Tryd.underlying3 Tryd.underlying5 (by rw [UInt8.toNat_ofNat', IntKind.wrap_u8]; omega)) rfl rfl rfl fun a5 F5 => ?_
      refine sqC (v := (.int .u8 ((mulS a (UInt8.ofNat i)).toNat : Int))) F5 M0 (wantedS rfl) (run_call rfl Tryd.func84 (by kernel_rfl) rfl (mapE2 (F5.ev 8 rfl) (F5.ev 10 rfl))) rfl (by decide) (rmul5_any a (UInt8.ofNat i) w1) fun a6 w2 hb2 F6 M1 => ?_
      refine sr (v := (.bool false)) F6 (run_eqi rfl (F6.ev 11 rfl) rfl (beq_eq_false_iff_ne.2 (by omega))) rfl rfl rfl fun a7 F7 => ?_
      refine sn ?_
      clear F2 F3 F4 F5 F6 M0
      refine wp_cond_false (F7.ev 12 rfl) ?_
      refine wp_skip ?_
      refine bkEnd ?_
      refine nx ?_
      refine wp_region_lit ?_
      refine mvS F7 rfl rfl rfl rfl rfl fun a8 F8 => ?_
      refine sr F8 (run_add (r := ((i + 1 : Nat) : Int)) rfl (F8.ev 6 rfl) rfl (by rw [IntKind.wrap_i64]; omega)) rfl rfl rfl fun a9 F9 => ?_
      refine asS F9 rfl rfl rfl rfl rfl fun a10 F10 => ?_
      refine sn ?_
      clear F7 F8 F9
      exact ⟨_, by omega, i + 1, by omega, rfl, fun n hn => (Nat.lt_succ_iff_lt_or_eq.1 hn).elim (hno n) (fun h => h ▸ h2), F10.sub ⟨rfl, rfl, trivial⟩, M1⟩
  · have hie : i = 256 := by omega
    have hres : invS a = 0 := inv_none (by rw [← hie]; exact hno)
    refine wp_seq ?_
    refine wsl ?_
    refine mvS F0 rfl rfl rfl rfl rfl fun a1 F1 => ?_
    refine sr (v := (.bool false)) F1 (run_lss rfl (F1.ev 4 rfl) rfl (decide_eq_false (by omega))) rfl rfl rfl fun a2 F2 => ?_
    refine sn ?_
    clear F0 F1
    refine wp_cond_false (F2.ev 5 rfl) ?_
    refine wp_exit ?_
    refine nxExit ?_
    refine nxExit ?_
    refine bkHere ?_
    refine nx ?_
    refine wsl ?_
    refine sr (v := (.int .u8 0)) F2 (run_as rfl rfl) rfl rfl rfl fun a3 F3 => ?_
    refine sn ?_
    clear F2
    refine wp_ret ?_
    exact ret1 F3 rfl rfl ⟨by rw [hres]; rfl, M0.below⟩
set_option maxRecDepth 100000 in
set_option maxHeartbeats 1000000 in
theorem rat5_any (X Y : List UInt8) (vx vy : Value) (z : UInt8) (w : World) (hVx : Sl w vx 1 X.length (X.map cb)) (hVy : Sl w vy 1 Y.length (Y.map cb)) (hl : X.length = Y.length) (_hl : X.length < 2 ^ 40) (hn : ∀ i j, i < X.length → j < X.length → X.getD i 0 = X.getD j 0 → i = j) : Calls Tryd.prog 55 #[vx, vy, .int .u8 (z.toNat : Int)] w fun e w' => e = .returned (.tuple #[.int .u8 ((sumA X Y z X.length).toNat : Int), .bool true]) ∧ Below w.heap.size w w' := by
  refine walk_enter Tryd.func55 rfl rfl rfl fun a0 F0 => ?_
  have M0 := Mem.new w
  refine wsl ?_
  refine sr (v := (.int .u8 0)) F0 (run_as rfl rfl) rfl rfl rfl fun a1 F1 => ?_
  refine sr (v := (.bool false)) F1 (run_as rfl rfl) rfl rfl rfl fun a2 F2 => ?_
  refine sn ?_
  clear F0 F1
  refine wp_seq ?_
  refine wsl ?_
  refine mvS F2 rfl rfl rfl rfl rfl fun a3 F3 => ?_
  refine sr F3 (run_lenS rfl (F3.ev 12 rfl) (hVx.below M0.below) rfl Tryd.underlying52) rfl rfl rfl fun a4 F4 => ?_
  refine mvS F4 rfl rfl rfl rfl rfl fun a5 F5 => ?_
  refine sr F5 (run_lenS rfl (F5.ev 14 rfl) (hVy.below M0.below) rfl Tryd.underlying52) rfl rfl rfl fun a6 F6 => ?_
  refine sr (v := (.bool false)) F6 (run_nei rfl (F6.ev 13 rfl) (F6.ev 15 rfl) (bne_eq_false_iff_eq.2 (by omega))) rfl rfl rfl fun a7 F7 => ?_
  refine sn ?_
  clear F2 F3 F4 F5 F6
  refine cfs (F7.ev 16 rfl) ?_
  refine wsl ?_
  refine sr (v := (.int .u8 0)) F7 (run_as rfl rfl) rfl rfl rfl fun a8 F8 => ?_
  refine sn ?_
  clear F7
  refine wp_seq ?_
  refine wsl ?_
  refine mvS F8 rfl rfl rfl rfl rfl fun a9 F9 => ?_
  refine sr F9 (run_lenS rfl (F9.ev 17 rfl) (hVx.below M0.below) rfl Tryd.underlying52) rfl rfl rfl fun a10 F10 => ?_
  refine sr (v := (.int .i64 0)) F10 (run_mv rfl rfl) rfl rfl rfl fun a11 F11 => ?_
  refine sn ?_
  clear F8 F9 F10
  refine wp_block ?_
  refine wkLoop (fun m a0 w2 => ∃ i : Nat, i ≤ X.length ∧ m = X.length - i ∧ Fr a0 73 [(0, vx), (1, vy), (2, .int .u8 (z.toNat : Int)), (8, .int .u8 ((sumA X Y z i).toNat : Int)), (18, .int .i64 (X.length : Int)), (19, .int .i64 (i : Int))] ∧ Mem w [] w2) X.length ⟨0, Nat.zero_le _, rfl, F11.sub ⟨rfl, rfl, rfl, rfl, rfl, rfl, trivial⟩, M0⟩ ?_
  rintro m a0 w1 ⟨i, hi, rfl, F0, M0⟩
  have hst : sumA X Y z (i + 1) = sumA X Y z i ^^^ parT X z (Y.getD i 0) i X.length := rfl
  obtain ⟨Q, hQ⟩ : ∃ Q, sumA X Y z i = Q := ⟨_, rfl⟩
  rw [hQ] at F0 hst
  by_cases h1 : i < X.length
  · obtain ⟨x, hx⟩ : ∃ x, X[i]? = some x := ⟨_, List.getElem?_eq_getElem h1⟩
    obtain ⟨y, hy⟩ : ∃ y, Y[i]? = some y := ⟨_, List.getElem?_eq_getElem (by omega)⟩
    have hyD : Y.getD i 0 = y := by rw [List.getD_eq_getElem?_getD, hy]; rfl
    rw [hyD] at hst
    refine wsl ?_
    refine sr (v := (.bool true)) F0 (run_lss rfl (F0.ev 19 rfl) (F0.ev 18 rfl) (decide_eq_true (by omega))) rfl rfl rfl fun a1 F1 => ?_
    refine sn ?_
    clear F0
    refine wp_seq ?_
    refine cts (F1.ev 20 rfl) ?_
    refine wp_seq ?_
    refine wp_block ?_
    refine wsl ?_
    refine mvS F1 rfl rfl rfl rfl rfl fun a2 F2 => ?_
    refine asS F2 rfl rfl rfl rfl rfl fun a3 F3 => ?_
    refine sn ?_
    clear F1 F2
    refine wsl ?_
    refine mvS F3 rfl rfl rfl rfl rfl fun a4 F4 => ?_
    refine mvS F4 rfl rfl rfl rfl rfl fun a5 F5 => ?_
    refine sr (v := (slPtr vy (i * 1))) F5 (run_atP (i := i) rfl (F5.ev 22 rfl) (F5.ev 23 rfl) rfl (hVy.below M0.below) (by omega) elU8.un (by kernel_rfl)) rfl rfl rfl fun a6 F6 => ?_
    refine sr (v := (.int .u8 (y.toNat : Int))) F6 (run_ldP (u := cb y) rfl (F6.ev 24 rfl) (hVy.below M0.below) (map_atB hy) (by kernel_rfl)) rfl rfl rfl fun a7 F7 => ?_
    refine asS F7 rfl rfl rfl rfl rfl fun a8 F8 => ?_
    refine sn ?_
    clear F3 F4 F5 F6 F7
    refine wp_seq ?_
    refine wsl ?_
    refine mvS F8 rfl rfl rfl rfl rfl fun a9 F9 => ?_
    refine sr F9 (run_lenS rfl (F9.ev 26 rfl) (hVx.below M0.below) rfl Tryd.underlying52) rfl rfl rfl fun a10 F10 => ?_
    refine sr (v := (.int .i64 0)) F10 (run_mv rfl rfl) rfl rfl rfl fun a11 F11 => ?_
    refine sn ?_
    clear F8 F9 F10
    refine wp_block ?_
    refine wkLoop (fun m a0 w2 => ∃ j : Nat, j ≤ X.length ∧ m = X.length - j ∧ Fr a0 73 [(0, vx), (1, vy), (2, .int .u8 (z.toNat : Int)), (8, .int .u8 (Q.toNat : Int)), (18, .int .i64 (X.length : Int)), (19, .int .i64 (i : Int)), (9, .int .i64 (i : Int)), (10, .int .u8 ((parT X z y i j).toNat : Int)), (27, .int .i64 (X.length : Int)), (28, .int .i64 (j : Int))] ∧ Mem w [] w2) X.length ⟨0, Nat.zero_le _, rfl, F11.sub ⟨rfl, rfl, rfl, rfl, rfl, rfl, rfl, rfl, rfl, rfl, trivial⟩, M0⟩ ?_
    rintro m a0 w1 ⟨j, hj, rfl, F0, M0⟩
    have sa : parT X z y i (j + 1) = if j = i then parT X z y i j else mulS (parT X z y i j) (mulS (z ^^^ X.getD j 0) (invS (X.getD i 0 ^^^ X.getD j 0))) := rfl
    obtain ⟨A, hA⟩ : ∃ A, parT X z y i j = A := ⟨_, rfl⟩
    rw [hA] at F0 sa
    by_cases h2 : j < X.length
    · obtain ⟨q, hq⟩ : ∃ q, X[j]? = some q := ⟨_, List.getElem?_eq_getElem h2⟩
      have hqD : X.getD j 0 = q := by rw [List.getD_eq_getElem?_getD, hq]; rfl
      have hxD : X.getD i 0 = x := by rw [List.getD_eq_getElem?_getD, hx]; rfl
      rw [hqD, hxD] at sa
      by_cases h3 : j = i
      · rw [if_pos h3] at sa
        refine wsl ?_
        refine sr (v := (.bool true)) F0 (run_lss rfl (F0.ev 28 rfl) (F0.ev 27 rfl) (decide_eq_true (by omega))) rfl rfl rfl fun a1 F1 => ?_
        refine sn ?_
        clear F0
        refine wp_seq ?_
        refine cts (F1.ev 29 rfl) ?_
        refine wp_seq ?_
        refine wp_block ?_
        refine wsl ?_
        refine mvS F1 rfl rfl rfl rfl rfl fun a2 F2 => ?_
        refine asS F2 rfl rfl rfl rfl rfl fun a3 F3 => ?_
        refine sn ?_
        clear F1 F2
        refine wp_seq ?_
        refine wp_seq ?_
        obtain ⟨KL, hKL⟩ : ∃ KL, KL = [kval (.int .i64 (j : Int)), kval (.int .i64 (i : Int)), kval (.bool false), kval (.bool false), kval undef, kval undef, kval undef, kval undef, kval undef, kval undef, kval undef, kval undef, kval undef, kval (.bool false)] := ⟨_, rfl⟩
        have K0 := getK hKL 0
        have K1 := getK hKL 1
        have K2 := getK hKL 2
        have K3 := getK hKL 3
        have K4 := getK hKL 4
        have K5 := getK hKL 5
        have K6 := getK hKL 6
        have K7 := getK hKL 7
        have K8 := getK hKL 8
        have K9 := getK hKL 9
        have K10 := getK hKL 10
        have K11 := getK hKL 11
        have K12 := getK hKL 12
        have K13 := getK hKL 13
        clear hKL
        refine wp_region_kd 73 (by kernel_rfl) (by kernel_rfl) (by kernel_rfl) F3.size KL ?_ ?_
        · refine ⟨?_, ?_, ?_, ?_, ?_, ?_, ?_, ?_, ?_, ?_, ?_, ?_, ?_, ?_, trivial⟩
          · exact asksY rfl fun a W hS hh hd => giv_run (run_mv rfl (eval_tmp (hh 11 _ rfl (F3.at 11 rfl)))) K0
          · exact asksY rfl fun a W hS hh hd => giv_run (run_mv rfl (eval_tmp (hh 9 _ rfl (F3.at 9 rfl)))) K1
          · exact asksY rfl fun a W hS hh hd => giv_run (run_nei rfl (eval_tmp (hd.vl 0 31 (by kernel_rfl) K0)) (eval_tmp (hd.vl 1 32 (by kernel_rfl) K1)) (bne_eq_false_iff_eq.2 (by omega))) K2
          · exact asksY rfl fun a W hS hh hd => giv_run (run_mv rfl (eval_tmp (hd.vl 2 33 (by kernel_rfl) K2))) K3
          · exact asks_skip fun a W hS hh hd => ⟨unwanted_of (j := 3) (s := 34) (want := true) (by kernel_rfl) (hd.vl 3 34 (by kernel_rfl) K3), show kT KL 4 undef W by unfold kT; rw [K4]; rfl⟩
          · exact asks_skip fun a W hS hh hd => ⟨unwanted_of (j := 3) (s := 34) (want := true) (by kernel_rfl) (hd.vl 3 34 (by kernel_rfl) K3), show kT KL 5 undef W by unfold kT; rw [K5]; rfl⟩
          · exact asks_skip fun a W hS hh hd => ⟨unwanted_of (j := 3) (s := 34) (want := true) (by kernel_rfl) (hd.vl 3 34 (by kernel_rfl) K3), show kT KL 6 undef W by unfold kT; rw [K6]; rfl⟩
          · exact asks_skip fun a W hS hh hd => ⟨unwanted_of (j := 3) (s := 34) (want := true) (by kernel_rfl) (hd.vl 3 34 (by kernel_rfl) K3), show kT KL 7 undef W by unfold kT; rw [K7]; rfl⟩
          · exact asks_skip fun a W hS hh hd => ⟨unwanted_of (j := 3) (s := 34) (want := true) (by kernel_rfl) (hd.vl 3 34 (by kernel_rfl) K3), show kT KL 8 undef W by unfold kT; rw [K8]; rfl⟩
          · exact asks_skip fun a W hS hh hd => ⟨unwanted_of (j := 3) (s := 34) (want := true) (by kernel_rfl) (hd.vl 3 34 (by kernel_rfl) K3), show kT KL 9 undef W by unfold kT; rw [K9]; rfl⟩
          · exact asks_skip fun a W hS hh hd => ⟨unwanted_of (j := 3) (s := 34) (want := true) (by kernel_rfl) (hd.vl 3 34 (by kernel_rfl) K3), show kT KL 10 undef W by unfold kT; rw [K10]; rfl⟩
          · exact asks_skip fun a W hS hh hd => ⟨unwanted_of (j := 3) (s := 34) (want := true) (by kernel_rfl) (hd.vl 3 34 (by kernel_rfl) K3), show kT KL 11 undef W by unfold kT; rw [K11]; rfl⟩
          · exact asks_skip fun a W hS hh hd => ⟨unwanted_of (j := 3) (s := 34) (want := true) (by kernel_rfl) (hd.vl 3 34 (by kernel_rfl) K3), show kT KL 12 undef W by unfold kT; rw [K12]; rfl⟩
          · exact asksY rfl fun a W hS hh hd => giv_run (run_pick rfl (eval_tmp (hd.vl 3 34 (by kernel_rfl) K3)) (eval_tmp (hd.vl 12 43 (by kernel_rfl) K12)) rfl) K13
        · intro a4 w2 hb2 hK
          have e0 := hK.vl 0 31 (by kernel_rfl) K0
          have e1 := hK.vl 1 32 (by kernel_rfl) K1
          have e2 := hK.vl 2 33 (by kernel_rfl) K2
          have e3 := hK.vl 3 34 (by kernel_rfl) K3
          have e4 := hK.vl 4 35 (by kernel_rfl) K4
          have e5 := hK.vl 5 36 (by kernel_rfl) K5
          have e6 := hK.vl 6 37 (by kernel_rfl) K6
          have e7 := hK.vl 7 38 (by kernel_rfl) K7
          have e8 := hK.vl 8 39 (by kernel_rfl) K8
          have e9 := hK.vl 9 40 (by kernel_rfl) K9
          have e10 := hK.vl 10 41 (by kernel_rfl) K10
          have e11 := hK.vl 11 42 (by kernel_rfl) K11
          have e12 := hK.vl 12 43 (by kernel_rfl) K12
          have e13 := hK.vl 13 44 (by kernel_rfl) K13
          have F4 : Fr a4 73 [(0, vx), (1, vy), (2, (.int .u8 (z.toNat : Int))), (8, (.int .u8 (Q.toNat : Int))), (9, (.int .i64 (i : Int))), (10, (.int .u8 (A.toNat : Int))), (11, (.int .i64 (j : Int))), (18, (.int .i64 (X.length : Int))), (19, (.int .i64 (i : Int))), (27, (.int .i64 (X.length : Int))), (28, (.int .i64 (j : Int))), (29, (.bool true)), (30, (.int .i64 (j : Int))), (44, (.bool false))] := (hK.fr F3 [_, _, _, _, _, _, _, _, _, _, _, _, _, _] ⟨e0, e1, e2, e3, e4, e5, e6, e7, e8, e9, e10, e11, e12, e13, trivial⟩).sub ⟨rfl, rfl, rfl, rfl, rfl, rfl, rfl, rfl, rfl, rfl, rfl, rfl, rfl, rfl, trivial⟩
          have M1 := M0.grow hb2
          clear hK K0 e0 K1 e1 K2 e2 K3 e3 K4 e4 K5 e5 K6 e6 K7 e7 K8 e8 K9 e9 K10 e10 K11 e11 K12 e12 K13 e13
          clear F3 M0
          refine nx ?_
          refine cfs (F4.ev 44 rfl) ?_
          refine wsl ?_
          refine mvS F4 rfl rfl rfl rfl rfl fun a5 F5 => ?_
          refine mvS F5 rfl rfl rfl rfl rfl fun a6 F6 => ?_
          refine sr (v := (.bool false)) F6 (run_nei rfl (F6.ev 45 rfl) (F6.ev 46 rfl) (bne_eq_false_iff_eq.2 (by omega))) rfl rfl rfl fun a7 F7 => ?_
          refine sn ?_
          clear F4 F5 F6
          refine wp_cond_false (F7.ev 47 rfl) ?_
          refine wp_skip ?_
          refine bkEnd ?_
          refine nx ?_
          refine wp_region_lit ?_
          refine sr F7 (run_add (r := ((j + 1 : Nat) : Int)) rfl (F7.ev 28 rfl) rfl (by rw [IntKind.wrap_i64]; omega)) rfl rfl rfl fun a8 F8 => ?_
          refine mvS F8 rfl rfl rfl rfl rfl fun a9 F9 => ?_
          refine sn ?_
          clear F7 F8
          exact ⟨_, by omega, j + 1, by omega, rfl, by rw [sa]; exact F9.sub ⟨rfl, rfl, rfl, rfl, rfl, rfl, rfl, rfl, rfl, rfl, trivial⟩, M1⟩
      · rw [if_neg h3] at sa
        have hne : q ≠ x := fun h => h3 (hn j i h2 h1 (by rw [hqD, hxD, h]))
        have hnn : q.toNat ≠ x.toNat := fun h => hne (UInt8.toNat_inj.1 h)
        refine wsl ?_
        refine sr (v := (.bool true)) F0 (run_lss rfl (F0.ev 28 rfl) (F0.ev 27 rfl) (decide_eq_true (by omega))) rfl rfl rfl fun a1 F1 => ?_
        refine sn ?_
        clear F0
        refine wp_seq ?_
        refine cts (F1.ev 29 rfl) ?_
        refine wp_seq ?_
        refine wp_block ?_
        refine wsl ?_
        refine mvS F1 rfl rfl rfl rfl rfl fun a2 F2 => ?_
        refine asS F2 rfl rfl rfl rfl rfl fun a3 F3 => ?_
        refine sn ?_
        clear F1 F2
        refine wp_seq ?_
        refine wp_seq ?_
        obtain ⟨KL, hKL⟩ : ∃ KL, KL = [kval (.int .i64 (j : Int)), kval (.int .i64 (i : Int)), kval (.bool true), kval (.bool true), kval vx, kval (.int .i64 (j : Int)), kval (slPtr vx (j * 1)), kval (.int .u8 (q.toNat : Int)), kval vx, kval (.int .i64 (i : Int)), kval (slPtr vx (i * 1)), kval (.int .u8 (x.toNat : Int)), kval (.bool false), kval (.bool false)] := ⟨_, rfl⟩
        have K0 := getK hKL 0
        have K1 := getK hKL 1
        have K2 := getK hKL 2
        have K3 := getK hKL 3
        have K4 := getK hKL 4
        have K5 := getK hKL 5
        have K6 := getK hKL 6
        have K7 := getK hKL 7
        have K8 := getK hKL 8
        have K9 := getK hKL 9
        have K10 := getK hKL 10
        have K11 := getK hKL 11
        have K12 := getK hKL 12
        have K13 := getK hKL 13
        clear hKL
        refine wp_region_kd 73 (by kernel_rfl) (by kernel_rfl) (by kernel_rfl) F3.size KL ?_ ?_
        · refine ⟨?_, ?_, ?_, ?_, ?_, ?_, ?_, ?_, ?_, ?_, ?_, ?_, ?_, ?_, trivial⟩
          · exact asksY rfl fun a W hS hh hd => giv_run (run_mv rfl (eval_tmp (hh 11 _ rfl (F3.at 11 rfl)))) K0
          · exact asksY rfl fun a W hS hh hd => giv_run (run_mv rfl (eval_tmp (hh 9 _ rfl (F3.at 9 rfl)))) K1
          · exact asksY rfl fun a W hS hh hd => giv_run (run_nei rfl (eval_tmp (hd.vl 0 31 (by kernel_rfl) K0)) (eval_tmp (hd.vl 1 32 (by kernel_rfl) K1)) (bne_iff_ne.2 (by omega))) K2
          · exact asksY rfl fun a W hS hh hd => giv_run (run_mv rfl (eval_tmp (hd.vl 2 33 (by kernel_rfl) K2))) K3
          · refine asks_mk fun a W hS hh hd => ⟨wanted_of (j := 3) (s := 34) (by kernel_rfl) (hd.vl 3 34 (by kernel_rfl) K3), ?_⟩
            exact giv_run (run_mv rfl (eval_tmp (hh 0 _ rfl (F3.at 0 rfl)))) K4
          · refine asks_mk fun a W hS hh hd => ⟨wanted_of (j := 3) (s := 34) (by kernel_rfl) (hd.vl 3 34 (by kernel_rfl) K3), ?_⟩
            exact giv_run (run_mv rfl (eval_tmp (hh 11 _ rfl (F3.at 11 rfl)))) K5
          · refine asks_mk fun a W hS hh hd => ⟨wanted_of (j := 3) (s := 34) (by kernel_rfl) (hd.vl 3 34 (by kernel_rfl) K3), ?_⟩
            exact giv_run (run_atP (i := j) rfl (eval_tmp (hd.vl 4 35 (by kernel_rfl) K4)) (eval_tmp (hd.vl 5 36 (by kernel_rfl) K5)) rfl (hVx.below (M0.grow hS).below) (by omega) elU8.un (by kernel_rfl)) K6
          · refine asks_mk fun a W hS hh hd => ⟨wanted_of (j := 3) (s := 34) (by kernel_rfl) (hd.vl 3 34 (by kernel_rfl) K3), ?_⟩
            exact giv_run (run_ldP (u := cb q) rfl (eval_tmp (hd.vl 6 37 (by kernel_rfl) K6)) (hVx.below (M0.grow hS).below) (map_atB hq) (by kernel_rfl)) K7
          · refine asks_mk fun a W hS hh hd => ⟨wanted_of (j := 3) (s := 34) (by kernel_rfl) (hd.vl 3 34 (by kernel_rfl) K3), ?_⟩
            exact giv_run (run_mv rfl (eval_tmp (hh 0 _ rfl (F3.at 0 rfl)))) K8
          · refine asks_mk fun a W hS hh hd => ⟨wanted_of (j := 3) (s := 34) (by kernel_rfl) (hd.vl 3 34 (by kernel_rfl) K3), ?_⟩
            exact giv_run (run_mv rfl (eval_tmp (hh 9 _ rfl (F3.at 9 rfl)))) K9
          · refine asks_mk fun a W hS hh hd => ⟨wanted_of (j := 3) (s := 34) (by kernel_rfl) (hd.vl 3 34 (by kernel_rfl) K3), ?_⟩
            exact giv_run (run_atP (i := i) rfl (eval_tmp (hd.vl 8 39 (by kernel_rfl) K8)) (eval_tmp (hd.vl 9 40 (by kernel_rfl) K9)) rfl (hVx.below (M0.grow hS).below) (by omega) elU8.un (by kernel_rfl)) K10
          · refine asks_mk fun a W hS hh hd => ⟨wanted_of (j := 3) (s := 34) (by kernel_rfl) (hd.vl 3 34 (by kernel_rfl) K3), ?_⟩
            exact giv_run (run_ldP (u := cb x) rfl (eval_tmp (hd.vl 10 41 (by kernel_rfl) K10)) (hVx.below (M0.grow hS).below) (map_atB hx) (by kernel_rfl)) K11
          · refine asks_mk fun a W hS hh hd => ⟨wanted_of (j := 3) (s := 34) (by kernel_rfl) (hd.vl 3 34 (by kernel_rfl) K3), ?_⟩
            exact giv_run (run_eqi rfl (eval_tmp (hd.vl 7 38 (by kernel_rfl) K7)) (eval_tmp (hd.vl 11 42 (by kernel_rfl) K11)) (beq_eq_false_iff_ne.2 (by omega))) K12
          · exact asksY rfl fun a W hS hh hd => giv_run (run_pick rfl (eval_tmp (hd.vl 3 34 (by kernel_rfl) K3)) (eval_tmp (hd.vl 12 43 (by kernel_rfl) K12)) rfl) K13
        · intro a4 w2 hb2 hK
          have e0 := hK.vl 0 31 (by kernel_rfl) K0
          have e1 := hK.vl 1 32 (by kernel_rfl) K1
          have e2 := hK.vl 2 33 (by kernel_rfl) K2
          have e3 := hK.vl 3 34 (by kernel_rfl) K3
          have e4 := hK.vl 4 35 (by kernel_rfl) K4
          have e5 := hK.vl 5 36 (by kernel_rfl) K5
          have e6 := hK.vl 6 37 (by kernel_rfl) K6
          have e7 := hK.vl 7 38 (by kernel_rfl) K7
          have e8 := hK.vl 8 39 (by kernel_rfl) K8
          have e9 := hK.vl 9 40 (by kernel_rfl) K9
          have e10 := hK.vl 10 41 (by kernel_rfl) K10
          have e11 := hK.vl 11 42 (by kernel_rfl) K11
          have e12 := hK.vl 12 43 (by kernel_rfl) K12
          have e13 := hK.vl 13 44 (by kernel_rfl) K13
          have F4 : Fr a4 73 [(0, vx), (1, vy), (2, (.int .u8 (z.toNat : Int))), (8, (.int .u8 (Q.toNat : Int))), (9, (.int .i64 (i : Int))), (10, (.int .u8 (A.toNat : Int))), (11, (.int .i64 (j : Int))), (18, (.int .i64 (X.length : Int))), (19, (.int .i64 (i : Int))), (27, (.int .i64 (X.length : Int))), (28, (.int .i64 (j : Int))), (29, (.bool true)), (30, (.int .i64 (j : Int))), (44, (.bool false))] := (hK.fr F3 [_, _, _, _, _, _, _, _, _, _, _, _, _, _] ⟨e0, e1, e2, e3, e4, e5, e6, e7, e8, e9, e10, e11, e12, e13, trivial⟩).sub ⟨rfl, rfl, rfl, rfl, rfl, rfl, rfl, rfl, rfl, rfl, rfl, rfl, rfl, rfl, trivial⟩
          have M1 := M0.grow hb2
          clear hK K0 e0 K1 e1 K2 e2 K3 e3 K4 e4 K5 e5 K6 e6 K7 e7 K8 e8 K9 e9 K10 e10 K11 e11 K12 e12 K13 e13
          clear F3 M0
          refine nx ?_
          refine cfs (F4.ev 44 rfl) ?_
          refine wsl ?_
          refine mvS F4 rfl rfl rfl rfl rfl fun a5 F5 => ?_
          refine mvS F5 rfl rfl rfl rfl rfl fun a6 F6 => ?_
          refine sr (v := (.bool true)) F6 (run_nei rfl (F6.ev 45 rfl) (F6.ev 46 rfl) (bne_iff_ne.2 (by omega))) rfl rfl rfl fun a7 F7 => ?_
          refine sn ?_
          clear F4 F5 F6
          refine wp_cond_true (F7.ev 47 rfl) ?_
          obtain ⟨KL, hKL⟩ : ∃ KL, KL = [kval (.int .u8 (A.toNat : Int)), kval (.int .u8 (z.toNat : Int)), kval vx, kval (.int .i64 (j : Int)), kval (slPtr vx (j * 1)), kval (.int .u8 (q.toNat : Int)), kval (.int .u8 ((z ^^^ q).toNat : Int)), kval vx, kval (.int .i64 (i : Int)), kval (slPtr vx (i * 1)), kval (.int .u8 (x.toNat : Int)), kval vx, kval (.int .i64 (j : Int)), kval (slPtr vx (j * 1)), kval (.int .u8 (q.toNat : Int)), kval (.int .u8 ((x ^^^ q).toNat : Int)), kval (.int .u8 ((invS (x ^^^ q)).toNat : Int)), kval (.int .u8 ((mulS (z ^^^ q) (invS (x ^^^ q))).toNat : Int)), kval (.int .u8 ((mulS A (mulS (z ^^^ q) (invS (x ^^^ q)))).toNat : Int))] := ⟨_, rfl⟩
          have K0 := getK hKL 0
          have K1 := getK hKL 1
          have K2 := getK hKL 2
          have K3 := getK hKL 3
          have K4 := getK hKL 4
          have K5 := getK hKL 5
          have K6 := getK hKL 6
          have K7 := getK hKL 7
          have K8 := getK hKL 8
          have K9 := getK hKL 9
          have K10 := getK hKL 10
          have K11 := getK hKL 11
          have K12 := getK hKL 12
          have K13 := getK hKL 13
          have K14 := getK hKL 14
          have K15 := getK hKL 15
          have K16 := getK hKL 16
          have K17 := getK hKL 17
          have K18 := getK hKL 18
          have HKL : KL.length ≤ 19 := by rw [hKL]; exact Nat.le_refl _
          clear hKL
          refine wp_region_kdTail2 73 19 (by kernel_rfl) (by kernel_rfl) (by kernel_rfl) (by kernel_rfl) F7.size KL HKL ?_ ?_
          · refine ⟨?_, ?_, ?_, ?_, ?_, ?_, ?_, ?_, ?_, ?_, ?_, ?_, ?_, ?_, ?_, ?_, ?_, ?_, ?_, trivial⟩
            · exact asksHY rfl fun a W hS hh hd => giv_run (run_mv rfl (eval_tmp (hh 10 _ rfl (F7.at 10 rfl)))) K0
            · exact asksHY rfl fun a W hS hh hd => giv_run (run_mv rfl (eval_tmp (hh 2 _ rfl (F7.at 2 rfl)))) K1
            · exact asksHY rfl fun a W hS hh hd => giv_run (run_mv rfl (eval_tmp (hh 0 _ rfl (F7.at 0 rfl)))) K2
            · exact asksHY rfl fun a W hS hh hd => giv_run (run_mv rfl (eval_tmp (hh 11 _ rfl (F7.at 11 rfl)))) K3
            · exact asksHY rfl fun a W hS hh hd => giv_run (run_atP (i := j) rfl (eval_tmp (hd.vl 2 50 (by kernel_rfl) K2)) (eval_tmp (hd.vl 3 51 (by kernel_rfl) K3)) rfl (hVx.below (M1.grow hS).below) (by omega) elU8.un (by kernel_rfl)) K4
            · exact asksHY rfl fun a W hS hh hd => giv_run (run_ldP (u := cb q) rfl (eval_tmp (hd.vl 4 52 (by kernel_rfl) K4)) (hVx.below (M1.grow hS).below) (map_atB hq) (by kernel_rfl)) K5
            · exact asksHY rfl fun a W hS hh hd => giv_run (run_xor8 rfl (eval_tmp (hd.vl 1 49 (by kernel_rfl) K1)) (eval_tmp (hd.vl 5 53 (by kernel_rfl) K5))) K6
            · exact asksHY rfl fun a W hS hh hd => giv_run (run_mv rfl (eval_tmp (hh 0 _ rfl (F7.at 0 rfl)))) K7
            · exact asksHY rfl fun a W hS hh hd => giv_run (run_mv rfl (eval_tmp (hh 9 _ rfl (F7.at 9 rfl)))) K8
            · exact asksHY rfl fun a W hS hh hd => giv_run (run_atP (i := i) rfl (eval_tmp (hd.vl 7 55 (by kernel_rfl) K7)) (eval_tmp (hd.vl 8 56 (by kernel_rfl) K8)) rfl (hVx.below (M1.grow hS).below) (by omega) elU8.un (by kernel_rfl)) K9
            · exact asksHY rfl fun a W hS hh hd => giv_run (run_ldP (u := cb x) rfl (eval_tmp (hd.vl 9 57 (by kernel_rfl) K9)) (hVx.below (M1.grow hS).below) (map_atB hx) (by kernel_rfl)) K10
            · exact asksHY rfl fun a W hS hh hd => giv_run (run_mv rfl (eval_tmp (hh 0 _ rfl (F7.at 0 rfl)))) K11
            · exact asksHY rfl fun a W hS hh hd => giv_run (run_mv rfl (eval_tmp (hh 11 _ rfl (F7.at 11 rfl)))) K12
            · exact asksHY rfl fun a W hS hh hd => giv_run (run_atP (i := j) rfl (eval_tmp (hd.vl 11 59 (by kernel_rfl) K11)) (eval_tmp (hd.vl 12 60 (by kernel_rfl) K12)) rfl (hVx.below (M1.grow hS).below) (by omega) elU8.un (by kernel_rfl)) K13
            · exact asksHY rfl fun a W hS hh hd => giv_run (run_ldP (u := cb q) rfl (eval_tmp (hd.vl 13 61 (by kernel_rfl) K13)) (hVx.below (M1.grow hS).below) (map_atB hq) (by kernel_rfl)) K14
            · exact asksHY rfl fun a W hS hh hd => giv_run (run_xor8 rfl (eval_tmp (hd.vl 10 58 (by kernel_rfl) K10)) (eval_tmp (hd.vl 14 62 (by kernel_rfl) K14))) K15
            · exact asksHY rfl fun a W hS hh hd => giv_call (run_call rfl Tryd.func85 (by kernel_rfl) rfl (mapE1 (eval_tmp (hd.vl 15 63 (by kernel_rfl) K15)))) (rinv5_any (x ^^^ q) W) K16
            · exact asksHY rfl fun a W hS hh hd => giv_call (run_call rfl Tryd.func84 (by kernel_rfl) rfl (mapE2 (eval_tmp (hd.vl 6 54 (by kernel_rfl) K6)) (eval_tmp (hd.vl 16 64 (by kernel_rfl) K16)))) (rmul5_any (z ^^^ q) (invS (x ^^^ q)) W) K17
            · exact asksHY rfl fun a W hS hh hd => giv_call (run_call rfl Tryd.func84 (by kernel_rfl) rfl (mapE2 (eval_tmp (hd.vl 0 48 (by kernel_rfl) K0)) (eval_tmp (hd.vl 17 65 (by kernel_rfl) K17)))) (rmul5_any A (mulS (z ^^^ q) (invS (x ^^^ q))) W) K18
          · intro a8 w3 hb3 hK
            have e0 := hK.hvl 0 48 rfl (by kernel_rfl) K0
            have e1 := hK.hvl 1 49 rfl (by kernel_rfl) K1
            have e2 := hK.hvl 2 50 rfl (by kernel_rfl) K2
            have e3 := hK.hvl 3 51 rfl (by kernel_rfl) K3
            have e4 := hK.hvl 4 52 rfl (by kernel_rfl) K4
            have e5 := hK.hvl 5 53 rfl (by kernel_rfl) K5
            have e6 := hK.hvl 6 54 rfl (by kernel_rfl) K6
            have e7 := hK.hvl 7 55 rfl (by kernel_rfl) K7
            have e8 := hK.hvl 8 56 rfl (by kernel_rfl) K8
            have e9 := hK.hvl 9 57 rfl (by kernel_rfl) K9
            have e10 := hK.hvl 10 58 rfl (by kernel_rfl) K10
            have e11 := hK.hvl 11 59 rfl (by kernel_rfl) K11
            have e12 := hK.hvl 12 60 rfl (by kernel_rfl) K12
            have e13 := hK.hvl 13 61 rfl (by kernel_rfl) K13
            have e14 := hK.hvl 14 62 rfl (by kernel_rfl) K14
            have e15 := hK.hvl 15 63 rfl (by kernel_rfl) K15
            have e16 := hK.hvl 16 64 rfl (by kernel_rfl) K16
            have e17 := hK.hvl 17 65 rfl (by kernel_rfl) K17
            have e18 := hK.hvl 18 66 rfl (by kernel_rfl) K18
            have F8 : Fr a8 73 [(0, vx), (1, vy), (2, (.int .u8 (z.toNat : Int))), (8, (.int .u8 (Q.toNat : Int))), (9, (.int .i64 (i : Int))), (10, (.int .u8 (A.toNat : Int))), (11, (.int .i64 (j : Int))), (18, (.int .i64 (X.length : Int))), (19, (.int .i64 (i : Int))), (27, (.int .i64 (X.length : Int))), (28, (.int .i64 (j : Int))), (29, (.bool true)), (30, (.int .i64 (j : Int))), (44, (.bool false)), (45, (.int .i64 (j : Int))), (46, (.int .i64 (i : Int))), (47, (.bool true)), (66, (.int .u8 ((mulS A (mulS (z ^^^ q) (invS (x ^^^ q)))).toNat : Int)))] := (hK.hfr F7 [_, _, _, _, _, _, _, _, _, _, _, _, _, _, _, _, _, _, _] ⟨e0, e1, e2, e3, e4, e5, e6, e7, e8, e9, e10, e11, e12, e13, e14, e15, e16, e17, e18, trivial⟩).sub ⟨rfl, rfl, rfl, rfl, rfl, rfl, rfl, rfl, rfl, rfl, rfl, rfl, rfl, rfl, rfl, rfl, rfl, rfl, trivial⟩
            have M2 := M1.grow hb3
            clear hK K0 e0 K1 e1 K2 e2 K3 e3 K4 e4 K5 e5 K6 e6 K7 e7 K8 e8 K9 e9 K10 e10 K11 e11 K12 e12 K13 e13 K14 e14 K15 e15 K16 e16 K17 e17 K18 e18 HKL
            simp only [List.drop_succ_cons, List.drop_zero]
            refine asS F8 rfl rfl rfl rfl rfl fun a9 F9 => ?_
            refine sqEnd ?_
            clear F7 F8 M1
            refine bkEnd ?_
            refine nx ?_
            refine wp_region_lit ?_
            refine sr F9 (run_add (r := ((j + 1 : Nat) : Int)) rfl (F9.ev 28 rfl) rfl (by rw [IntKind.wrap_i64]; omega)) rfl rfl rfl fun a10 F10 => ?_
            refine mvS F10 rfl rfl rfl rfl rfl fun a11 F11 => ?_
            refine sn ?_
            clear F9 F10
            exact ⟨_, by omega, j + 1, by omega, rfl, by rw [sa]; exact F11.sub ⟨rfl, rfl, rfl, rfl, rfl, rfl, rfl, rfl, rfl, rfl, trivial⟩, M2⟩
    · have hje : j = X.length := by omega
      have hAA : parT X z y i X.length = A := by rw [← hA, hje]
      rw [hAA] at hst
      refine wsl ?_
      refine sr (v := (.bool false)) F0 (run_lss rfl (F0.ev 28 rfl) (F0.ev 27 rfl) (decide_eq_false (by omega))) rfl rfl rfl fun a1 F1 => ?_
      refine sn ?_
      clear F0
      refine wp_seq ?_
      refine wp_cond_false (F1.ev 29 rfl) ?_
      refine wp_exit ?_
      refine nxExit ?_
      refine nxExit ?_
      refine bkHere ?_
      refine nx ?_
      refine wp_region_lit ?_
      refine mvS F1 rfl rfl rfl rfl rfl fun a2 F2 => ?_
      refine mvS F2 rfl rfl rfl rfl rfl fun a3 F3 => ?_
      refine sr (v := (.int .u8 ((Q ^^^ A).toNat : Int))) F3 (run_xor8 rfl (F3.ev 68 rfl) (F3.ev 69 rfl)) rfl rfl rfl fun a4 F4 => ?_
      refine asS F4 rfl rfl rfl rfl rfl fun a5 F5 => ?_
      refine sqEnd ?_
      clear F1 F2 F3 F4
      refine bkEnd ?_
      refine nx ?_
      refine wp_region_lit ?_
      refine sr F5 (run_add (r := ((i + 1 : Nat) : Int)) rfl (F5.ev 19 rfl) rfl (by rw [IntKind.wrap_i64]; omega)) rfl rfl rfl fun a6 F6 => ?_
      refine mvS F6 rfl rfl rfl rfl rfl fun a7 F7 => ?_
      refine sn ?_
      clear F5 F6
      exact ⟨_, by omega, i + 1, by omega, rfl, by rw [hst]; exact F7.sub ⟨rfl, rfl, rfl, rfl, rfl, rfl, trivial⟩, M0⟩
  · have hie : i = X.length := by omega
    have hres : sumA X Y z X.length = Q := by rw [← hQ, hie]
    refine wsl ?_
    refine sr (v := (.bool false)) F0 (run_lss rfl (F0.ev 19 rfl) (F0.ev 18 rfl) (decide_eq_false (by omega))) rfl rfl rfl fun a1 F1 => ?_
    refine sn ?_
    clear F0
    refine wp_seq ?_
    refine wp_cond_false (F1.ev 20 rfl) ?_
    refine wp_exit ?_
    refine nxExit ?_
    refine nxExit ?_
    refine bkHere ?_
    refine nx ?_
    refine wsl ?_
    refine mvS F1 rfl rfl rfl rfl rfl fun a2 F2 => ?_
    refine asS F2 rfl rfl rfl rfl rfl fun a3 F3 => ?_
    refine sr (v := (.bool true)) F3 (run_as rfl rfl) rfl rfl rfl fun a4 F4 => ?_
    refine sn ?_
    clear F1 F2 F3
    refine wp_ret ?_
    exact ret2 F4 rfl rfl rfl ⟨by rw [hres], M0.below⟩
end Go.Proofs.YtconhhhggckcbaaDoor
