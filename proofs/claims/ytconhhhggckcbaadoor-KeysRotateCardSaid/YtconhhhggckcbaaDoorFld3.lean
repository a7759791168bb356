/- The walks of the reference's Mul, Inv, Eval and At (layer 5). Printed by gen_key3.py. -/
import Derived.Test.YtconhhhggckcbaaDoorFldP
import Derived.Test.YtconhhhggckcbaaDoorFldQ
namespace Go.Proofs.YtconhhhggckcbaaDoor
open Go.RowKit

theorem shr_nat2 (b i : Nat) (j : Int) (h : j = (i : Int)) : (b : Int) / 2 ^ (j).toNat = ((b / 2 ^ i : Nat) : Int) := by subst h; exact shr_nat b i
theorem shl_nat16 (b i : Nat) (j : Int) (h : j = (i : Int)) (hl : b * 2 ^ i < 65536) : IntKind.u16.wrap ((b : Int) * 2 ^ (j).toNat) = ((b * 2 ^ i : Nat) : Int) := by
  subst h
  rw [Int.toNat_natCast, IntKind.wrap_u16]
  have : (b : Int) * 2 ^ i = ((b * 2 ^ i : Nat) : Int) := by rw [Int.natCast_mul, Int.natCast_pow]; rfl
  rw [this]; omega
theorem and1_16 (n : Nat) (h : n < 65536) : bits .and .u16 (n : Int) 1 = ((n % 2 : Nat) : Int) := by
  have := u16_and_nat n 1 h (by decide)
  rw [Nat.and_one_is_mod] at this; exact this
theorem mul_pow16 {a i : Nat} (h : a < 256) (hi : i < 8) : a * 2 ^ i < 65536 := by
  have h2 : 2 ^ i ≤ 2 ^ 7 := Nat.pow_le_pow_right (by decide) (by omega)
  have := Nat.mul_le_mul (Nat.le_of_lt h) h2
  omega
theorem rxT_lt {a b : Nat} (h : a < 256) : ∀ {i}, i ≤ 8 → rxT a b i < 65536
  | 0, _ => by simp [rxT]
  | i + 1, hi => by
    rw [rxT]
    have h1 := rxT_lt h (b := b) (i := i) (by omega)
    split
    · exact Nat.xor_lt_two_pow (n := 16) h1 (mul_pow16 h (by omega))
    · exact h1
theorem red_pow {k : Nat} : 285 * 2 ^ (6 - k) < 65536 := by
  have h2 : 2 ^ (6 - k) ≤ 2 ^ 6 := Nat.pow_le_pow_right (by decide) (by omega)
  omega
theorem redT_lt {x : Nat} (h : x < 65536) : ∀ k, redT x k < 65536
  | 0 => h
  | k + 1 => by
    rw [redT]
    split
    · exact Nat.xor_lt_two_pow (n := 16) (redT_lt h k) red_pow
    · exact redT_lt h k
set_option maxRecDepth 100000 in
set_option maxHeartbeats 1000000 in
theorem rmul5_any (a b : UInt8) (w : World) : Calls Tryd.prog 84 #[.int .u8 (a.toNat : Int), .int .u8 (b.toNat : Int)] w fun e w' => e = .returned (.int .u8 ((mulS a b).toNat : Int)) ∧ Below w.heap.size w w' := by
  refine walk_enter Tryd.func84 rfl rfl rfl fun a0 F0 => ?_
  have M0 := Mem.new w
  refine wsl ?_
  refine sr (v := (.int .u8 0)) F0 (run_as rfl rfl) rfl rfl rfl fun a1 F1 => ?_
  refine sn ?_
  clear F0
  refine wsl ?_
  refine sr (v := (.int .u16 0)) F1 (run_as rfl rfl) rfl rfl rfl fun a2 F2 => ?_
  refine sn ?_
  clear F1
  refine wp_seq ?_
  refine wsl ?_
  refine sr (v := (.int .i64 0)) F2 (run_as rfl rfl) rfl rfl rfl fun a3 F3 => ?_
  refine sn ?_
  clear F2
  refine wp_block ?_
  refine wkLoop (fun m a0 w2 => ∃ i : Nat, i ≤ 8 ∧ m = 8 - i ∧ Fr a0 39 [(0, .int .u8 (a.toNat : Int)), (1, .int .u8 (b.toNat : Int)), (5, .int .u16 ((rxT a.toNat b.toNat i : Nat) : Int)), (6, .int .i64 (i : Int))] ∧ Mem w [] w2) 8 ⟨0, Nat.zero_le _, rfl, F3.sub ⟨rfl, rfl, rfl, rfl, trivial⟩, M0⟩ ?_
  rintro m a0 w1 ⟨i, hi, rfl, F0, M0⟩
  have hb := b.toNat_lt
  have ha := a.toNat_lt
  obtain ⟨X, hX⟩ : ∃ X, rxT a.toNat b.toNat i = X := ⟨_, rfl⟩
  have hXl : X < 65536 := by rw [← hX]; exact rxT_lt ha hi
  have hd : b.toNat / 2 ^ i < 256 := Nat.lt_of_le_of_lt (Nat.div_le_self _ _) hb
  rw [hX] at F0
  by_cases h1 : i < 8
  · have hm : a.toNat * 2 ^ i < 65536 := mul_pow16 ha h1
    by_cases h2 : b.toNat / 2 ^ i % 2 = 1
    · have hP : rxT a.toNat b.toNat (i + 1) = X ^^^ (a.toNat * 2 ^ i) := by rw [rxT, hX, if_pos h2]
      refine wp_seq ?_
      refine wsl ?_
      refine mvS F0 rfl rfl rfl rfl rfl fun a1 F1 => ?_
      refine sr (v := (.bool true)) F1 (run_lss rfl (F1.ev 8 rfl) rfl (decide_eq_true (by omega))) rfl rfl rfl fun a2 F2 => ?_
      refine sn ?_
      clear F0 F1
      refine cts (F2.ev 9 rfl) ?_
      refine wp_seq ?_
      refine wp_block ?_
      refine wsl ?_
      refine mvS F2 rfl rfl rfl rfl rfl fun a3 F3 => ?_
      refine mvS F3 rfl rfl rfl rfl rfl fun a4 F4 => ?_
      refine sr (v := (.int .u8 ((b.toNat / 2 ^ i : Nat) : Int))) F4 (run_shr (r := ((b.toNat / 2 ^ i : Nat) : Int)) rfl (F4.ev 12 rfl) (F4.ev 13 rfl) (by omega) (by first | decide | (simp [IntKind.bits]; omega)) (shr_nat _ _)) rfl rfl rfl fun a5 F5 => ?_
      refine sr (v := (.int .u8 ((b.toNat / 2 ^ i % 2 : Nat) : Int))) F5 (run_and (r := ((b.toNat / 2 ^ i % 2 : Nat) : Int)) rfl (F5.ev 14 rfl) rfl (and1 _ hd)) rfl rfl rfl fun a6 F6 => ?_
      refine sr (v := (.bool true)) F6 (run_eqi rfl (F6.ev 15 rfl) rfl (beq_iff_eq.2 (by omega))) rfl rfl rfl fun a7 F7 => ?_
      refine sn ?_
      clear F2 F3 F4 F5 F6
      refine wp_cond_true (F7.ev 16 rfl) ?_
      refine wp_region_lit ?_
      refine mvS F7 rfl rfl rfl rfl rfl fun a8 F8 => ?_
      refine mvS F8 rfl rfl rfl rfl rfl fun a9 F9 => ?_
      refine sr F9 (run_cvI (r := (a.toNat : Int)) rfl (F9.ev 18 rfl) Tryd.underlying5 Tryd.underlying143 (by rw [IntKind.wrap_u16]; omega)) rfl rfl rfl fun a10 F10 => ?_
      refine mvS F10 rfl rfl rfl rfl rfl fun a11 F11 => ?_
      refine sr (v := (.int .u16 ((a.toNat * 2 ^ i : Nat) : Int))) F11 (run_shl (r := ((a.toNat * 2 ^ i : Nat) : Int)) rfl (F11.ev 19 rfl) (F11.ev 20 rfl) (by omega) (by first | decide | (simp [IntKind.bits]; omega)) (shl_nat16 _ _ _ rfl hm)) rfl rfl rfl fun a12 F12 => ?_
      refine sr (v := (.int .u16 ((X ^^^ (a.toNat * 2 ^ i) : Nat) : Int))) F12 (run_xor (r := ((X ^^^ (a.toNat * 2 ^ i) : Nat) : Int)) rfl (F12.ev 17 rfl) (F12.ev 21 rfl) (u16_xor_nat _ _ hXl hm)) rfl rfl rfl fun a13 F13 => ?_
      refine asS F13 rfl rfl rfl rfl rfl fun a14 F14 => ?_
      refine sqEnd ?_
      clear F7 F8 F9 F10 F11 F12 F13
      refine bkEnd ?_
      refine nx ?_
      refine wp_region_lit ?_
      refine mvS F14 rfl rfl rfl rfl rfl fun a15 F15 => ?_
      refine sr F15 (run_add (r := ((i + 1 : Nat) : Int)) rfl (F15.ev 10 rfl) rfl (by rw [IntKind.wrap_i64]; omega)) rfl rfl rfl fun a16 F16 => ?_
      refine asS F16 rfl rfl rfl rfl rfl fun a17 F17 => ?_
      refine sn ?_
      clear F14 F15 F16
      exact ⟨_, by omega, i + 1, by omega, rfl, by rw [hP]; exact F17.sub ⟨rfl, rfl, rfl, rfl, trivial⟩, M0⟩
    · have hP : rxT a.toNat b.toNat (i + 1) = X := by rw [rxT, hX, if_neg h2]
      refine wp_seq ?_
      refine wsl ?_
      refine mvS F0 rfl rfl rfl rfl rfl fun a1 F1 => ?_
      refine sr (v := (.bool true)) F1 (run_lss rfl (F1.ev 8 rfl) rfl (decide_eq_true (by omega))) rfl rfl rfl fun a2 F2 => ?_
      refine sn ?_
      clear F0 F1
      refine cts (F2.ev 9 rfl) ?_
      refine wp_seq ?_
      refine wp_block ?_
      refine wsl ?_
      refine mvS F2 rfl rfl rfl rfl rfl fun a3 F3 => ?_
      refine mvS F3 rfl rfl rfl rfl rfl fun a4 F4 => ?_
      refine sr (v := (.int .u8 ((b.toNat / 2 ^ i : Nat) : Int))) F4 (run_shr (r := ((b.toNat / 2 ^ i : Nat) : Int)) rfl (F4.ev 12 rfl) (F4.ev 13 rfl) (by omega) (by first | decide | (simp [IntKind.bits]; omega)) (shr_nat _ _)) rfl rfl rfl fun a5 F5 => ?_
      refine sr (v := (.int .u8 ((b.toNat / 2 ^ i % 2 : Nat) : Int))) F5 (run_and (r := ((b.toNat / 2 ^ i % 2 : Nat) : Int)) rfl (F5.ev 14 rfl) rfl (and1 _ hd)) rfl rfl rfl fun a6 F6 => ?_
      refine sr (v := (.bool false)) F6 (run_eqi rfl (F6.ev 15 rfl) rfl (beq_eq_false_iff_ne.2 (by omega))) rfl rfl rfl fun a7 F7 => ?_
      refine sn ?_
      clear F2 F3 F4 F5 F6
      refine wp_cond_false (F7.ev 16 rfl) ?_
      refine wp_skip ?_
      refine bkEnd ?_
      refine nx ?_
      refine wp_region_lit ?_
      refine mvS F7 rfl rfl rfl rfl rfl fun a8 F8 => ?_
      refine sr F8 (run_add (r := ((i + 1 : Nat) : Int)) rfl (F8.ev 10 rfl) rfl (by rw [IntKind.wrap_i64]; omega)) rfl rfl rfl fun a9 F9 => ?_
      refine asS F9 rfl rfl rfl rfl rfl fun a10 F10 => ?_
      refine sn ?_
      clear F7 F8 F9
      exact ⟨_, by omega, i + 1, by omega, rfl, by rw [hP]; exact F10.sub ⟨rfl, rfl, rfl, rfl, trivial⟩, M0⟩
  · have hie : i = 8 := by omega
    have hX8 : rxT a.toNat b.toNat 8 = X := by rw [← hX, hie]
    refine wp_seq ?_
    refine wsl ?_
    refine mvS F0 rfl rfl rfl rfl rfl fun a1 F1 => ?_
    refine sr (v := (.bool false)) F1 (run_lss rfl (F1.ev 8 rfl) rfl (decide_eq_false (by omega))) rfl rfl rfl fun a2 F2 => ?_
    refine sn ?_
    clear F0 F1
    refine wp_cond_false (F2.ev 9 rfl) ?_
    refine wp_exit ?_
    refine nxExit ?_
    refine nxExit ?_
    refine bkHere ?_
    refine nx ?_
    refine wp_seq ?_
    refine wsl ?_
    refine sr (v := (.int .i64 14)) F2 (run_as rfl rfl) rfl rfl rfl fun a3 F3 => ?_
    refine sn ?_
    clear F2
    refine wp_block ?_
    refine wkLoop (fun m a0 w2 => ∃ k : Nat, k ≤ 7 ∧ m = 7 - k ∧ Fr a0 39 [(5, .int .u16 ((redT X k : Nat) : Int)), (7, .int .i64 ((14 - k : Nat) : Int))] ∧ Mem w [] w2) 7 ⟨0, Nat.zero_le _, rfl, F3.sub ⟨rfl, rfl, trivial⟩, M0⟩ ?_
    rintro m a0 w1 ⟨k, hk, rfl, F0, M0⟩
    obtain ⟨Y, hY⟩ : ∃ Y, redT X k = Y := ⟨_, rfl⟩
    have hYl : Y < 65536 := by rw [← hY]; exact redT_lt hXl k
    have hd2 : Y / 2 ^ (14 - k) < 65536 := Nat.lt_of_le_of_lt (Nat.div_le_self _ _) hYl
    rw [hY] at F0
    by_cases h3 : k < 7
    · skip
      by_cases h4 : Y / 2 ^ (14 - k) % 2 = 1
      · have hP : redT X (k + 1) = Y ^^^ (285 * 2 ^ (6 - k)) := by rw [redT, hY, if_pos h4]
        refine wp_seq ?_
        refine wsl ?_
        refine mvS F0 rfl rfl rfl rfl rfl fun a1 F1 => ?_
        refine sr (v := (.bool true)) F1 (run_geq rfl (F1.ev 23 rfl) rfl (decide_eq_true (by omega))) rfl rfl rfl fun a2 F2 => ?_
        refine sn ?_
        clear F0 F1
        refine cts (F2.ev 24 rfl) ?_
        refine wp_seq ?_
        refine wp_block ?_
        refine wsl ?_
        refine mvS F2 rfl rfl rfl rfl rfl fun a3 F3 => ?_
        refine mvS F3 rfl rfl rfl rfl rfl fun a4 F4 => ?_
        refine sr (v := (.int .u16 ((Y / 2 ^ (14 - k) : Nat) : Int))) F4 (run_shr (r := ((Y / 2 ^ (14 - k) : Nat) : Int)) rfl (F4.ev 27 rfl) (F4.ev 28 rfl) (by omega) (by first | decide | (simp [IntKind.bits]; omega)) (shr_nat2 _ _ _ rfl)) rfl rfl rfl fun a5 F5 => ?_
        refine sr (v := (.int .u16 ((Y / 2 ^ (14 - k) % 2 : Nat) : Int))) F5 (run_and (r := ((Y / 2 ^ (14 - k) % 2 : Nat) : Int)) rfl (F5.ev 29 rfl) rfl (and1_16 _ hd2)) rfl rfl rfl fun a6 F6 => ?_
        refine sr (v := (.bool true)) F6 (run_eqi rfl (F6.ev 30 rfl) rfl (beq_iff_eq.2 (by omega))) rfl rfl rfl fun a7 F7 => ?_
        refine sn ?_
        clear F2 F3 F4 F5 F6
        refine wp_cond_true (F7.ev 31 rfl) ?_
        refine wp_region_lit ?_
        refine mvS F7 rfl rfl rfl rfl rfl fun a8 F8 => ?_
        refine mvS F8 rfl rfl rfl rfl rfl fun a9 F9 => ?_
        refine sr F9 (run_sub (r := ((6 - k : Nat) : Int)) rfl (F9.ev 33 rfl) rfl (by rw [IntKind.wrap_i64]; omega)) rfl rfl rfl fun a10 F10 => ?_
        refine sr (v := (.int .u16 ((285 * 2 ^ (6 - k) : Nat) : Int))) F10 (run_shl (r := ((285 * 2 ^ (6 - k) : Nat) : Int)) rfl rfl (F10.ev 34 rfl) (by omega) (by first | decide | (simp [IntKind.bits]; omega)) (shl_nat16 285 _ _ rfl red_pow)) rfl rfl rfl fun a11 F11 => ?_
        refine sr (v := (.int .u16 ((Y ^^^ (285 * 2 ^ (6 - k)) : Nat) : Int))) F11 (run_xor (r := ((Y ^^^ (285 * 2 ^ (6 - k)) : Nat) : Int)) rfl (F11.ev 32 rfl) (F11.ev 35 rfl) (u16_xor_nat _ _ hYl red_pow)) rfl rfl rfl fun a12 F12 => ?_
        refine asS F12 rfl rfl rfl rfl rfl fun a13 F13 => ?_
        refine sqEnd ?_
        clear F7 F8 F9 F10 F11 F12
        refine bkEnd ?_
        refine nx ?_
        refine wp_region_lit ?_
        refine mvS F13 rfl rfl rfl rfl rfl fun a14 F14 => ?_
        refine sr F14 (run_sub (r := ((14 - (k + 1) : Nat) : Int)) rfl (F14.ev 25 rfl) rfl (by rw [IntKind.wrap_i64]; omega)) rfl rfl rfl fun a15 F15 => ?_
        refine asS F15 rfl rfl rfl rfl rfl fun a16 F16 => ?_
        refine sn ?_
        clear F13 F14 F15
        exact ⟨_, by omega, k + 1, by omega, rfl, by rw [hP]; exact F16.sub ⟨rfl, rfl, trivial⟩, M0⟩
      · have hP : redT X (k + 1) = Y := by rw [redT, hY, if_neg h4]
        refine wp_seq ?_
        refine wsl ?_
        refine mvS F0 rfl rfl rfl rfl rfl fun a1 F1 => ?_
        refine sr (v := (.bool true)) F1 (run_geq rfl (F1.ev 23 rfl) rfl (decide_eq_true (by omega))) rfl rfl rfl fun a2 F2 => ?_
        refine sn ?_
        clear F0 F1
        refine cts (F2.ev 24 rfl) ?_
        refine wp_seq ?_
        refine wp_block ?_
        refine wsl ?_
        refine mvS F2 rfl rfl rfl rfl rfl fun a3 F3 => ?_
        refine mvS F3 rfl rfl rfl rfl rfl fun a4 F4 => ?_
        refine sr (v := (.int .u16 ((Y / 2 ^ (14 - k) : Nat) : Int))) F4 (run_shr (r := ((Y / 2 ^ (14 - k) : Nat) : Int)) rfl (F4.ev 27 rfl) (F4.ev 28 rfl) (by omega) (by first | decide | (simp [IntKind.bits]; omega)) (shr_nat2 _ _ _ rfl)) rfl rfl rfl fun a5 F5 => ?_
        refine sr (v := (.int .u16 ((Y / 2 ^ (14 - k) % 2 : Nat) : Int))) F5 (run_and (r := ((Y / 2 ^ (14 - k) % 2 : Nat) : Int)) rfl (F5.ev 29 rfl) rfl (and1_16 _ hd2)) rfl rfl rfl fun a6 F6 => ?_
        refine sr (v := (.bool false)) F6 (run_eqi rfl (F6.ev 30 rfl) rfl (beq_eq_false_iff_ne.2 (by omega))) rfl rfl rfl fun a7 F7 => ?_
        refine sn ?_
        clear F2 F3 F4 F5 F6
        refine wp_cond_false (F7.ev 31 rfl) ?_
        refine wp_skip ?_
        refine bkEnd ?_
        refine nx ?_
        refine wp_region_lit ?_
        refine mvS F7 rfl rfl rfl rfl rfl fun a8 F8 => ?_
        refine sr F8 (run_sub (r := ((14 - (k + 1) : Nat) : Int)) rfl (F8.ev 25 rfl) rfl (by rw [IntKind.wrap_i64]; omega)) rfl rfl rfl fun a9 F9 => ?_
        refine asS F9 rfl rfl rfl rfl rfl fun a10 F10 => ?_
        refine sn ?_
        clear F7 F8 F9
        exact ⟨_, by omega, k + 1, by omega, rfl, by rw [hP]; exact F10.sub ⟨rfl, rfl, trivial⟩, M0⟩
    · have hke : k = 7 := by omega
      have hres : Y = (mulS a b).toNat := by rw [← mulR_eq, mulR, hX8, ← hke, hY]
      have hrl := (mulS a b).toNat_lt
      refine wp_seq ?_
      refine wsl ?_
      refine mvS F0 rfl rfl rfl rfl rfl fun a1 F1 => ?_
      refine sr (v := (.bool false)) F1 (run_geq rfl (F1.ev 23 rfl) rfl (decide_eq_false (by omega))) rfl rfl rfl fun a2 F2 => ?_
      refine sn ?_
      clear F0 F1
      refine wp_cond_false (F2.ev 24 rfl) ?_
      refine wp_exit ?_
      refine nxExit ?_
      refine nxExit ?_
      refine bkHere ?_
      refine nx ?_
      refine wsl ?_
      refine mvS F2 rfl rfl rfl rfl rfl fun a3 F3 => ?_
      refine sr F3 (run_cvI (r := ((mulS a b).toNat : Int)) rfl (F3.ev 37 rfl) Tryd.underlying143 Tryd.underlying5 (by rw [hres, IntKind.wrap_u8]; omega)) rfl rfl rfl fun a4 F4 => ?_
      refine asS F4 rfl rfl rfl rfl rfl fun a5 F5 => ?_
      refine sn ?_
      clear F2 F3 F4
      refine wp_ret ?_
      exact ret1 F5 rfl rfl ⟨rfl, M0.below⟩
set_option maxRecDepth 100000 in
set_option maxHeartbeats 1000000 in
theorem reval5_any (l : List UInt8) (v : Value) (x : UInt8) (w : World) (hV : Sl w v 1 l.length (l.map cb)) (_hl : l.length < 2 ^ 40) : Calls Tryd.prog 66 #[v, .int .u8 (x.toNat : Int)] w fun e w' => e = .returned (.int .u8 ((sumE l x l.length).1.toNat : Int)) ∧ Below w.heap.size w w' := by
  refine walk_enter Tryd.func66 rfl rfl rfl fun a0 F0 => ?_
  have M0 := Mem.new w
  refine wsl ?_
  refine sr (v := (.int .u8 0)) F0 (run_as rfl rfl) rfl rfl rfl fun a1 F1 => ?_
  refine sn ?_
  clear F0
  refine wsl ?_
  refine sr (v := (.int .u8 0)) F1 (run_as rfl rfl) rfl rfl rfl fun a2 F2 => ?_
  refine sn ?_
  clear F1
  refine wsl ?_
  refine sr (v := (.int .u8 1)) F2 (run_as rfl rfl) rfl rfl rfl fun a3 F3 => ?_
  refine sn ?_
  clear F2
  refine wp_seq ?_
  refine wsl ?_
  refine mvS F3 rfl rfl rfl rfl rfl fun a4 F4 => ?_
  refine sr F4 (run_lenS rfl (F4.ev 9 rfl) (hV.below M0.below) rfl Tryd.underlying52) rfl rfl rfl fun a5 F5 => ?_
  refine sr (v := (.int .i64 0)) F5 (run_mv rfl rfl) rfl rfl rfl fun a6 F6 => ?_
  refine sn ?_
  clear F3 F4 F5
  refine wp_block ?_
  refine wkLoop (fun m a0 w2 => ∃ i : Nat, i ≤ l.length ∧ m = l.length - i ∧ Fr a0 25 [(1, .int .u8 (x.toNat : Int)), (5, .int .u8 ((sumE l x i).1.toNat : Int)), (6, .int .u8 ((sumE l x i).2.toNat : Int)), (9, v), (10, .int .i64 (l.length : Int)), (11, .int .i64 (i : Int))] ∧ Mem w [] w2) l.length ⟨0, Nat.zero_le _, rfl, F6.sub ⟨rfl, rfl, rfl, rfl, rfl, rfl, trivial⟩, M0⟩ ?_
  rintro m a0 w1 ⟨i, hi, rfl, F0, M0⟩
  have hst : sumE l x (i + 1) = ((sumE l x i).1 ^^^ mulS (l.getD i 0) (sumE l x i).2, mulS (sumE l x i).2 x) := rfl
  obtain ⟨A, hA⟩ : ∃ A, (sumE l x i).1 = A := ⟨_, rfl⟩
  obtain ⟨B, hB⟩ : ∃ B, (sumE l x i).2 = B := ⟨_, rfl⟩
  rw [hA, hB] at F0 hst
  by_cases h1 : i < l.length
  · obtain ⟨q, hq⟩ : ∃ q, l[i]? = some q := ⟨_, List.getElem?_eq_getElem h1⟩
    rw [List.getD_eq_getElem?_getD, hq, Option.getD_some] at hst
    refine wsl ?_
    refine sr (v := (.bool true)) F0 (run_lss rfl (F0.ev 11 rfl) (F0.ev 10 rfl) (decide_eq_true (by omega))) rfl rfl rfl fun a1 F1 => ?_
    refine sn ?_
    clear F0
    refine wp_seq ?_
    refine cts (F1.ev 12 rfl) ?_
    refine wp_seq ?_
    refine wp_block ?_
    refine wsl ?_
    refine sr (v := (slPtr v (i * 1))) F1 (run_atP (i := i) rfl (F1.ev 9 rfl) (F1.ev 11 rfl) rfl (hV.below M0.below) (by omega) elU8.un (by kernel_rfl)) rfl rfl rfl fun a2 F2 => ?_
    refine sr (v := (.int .u8 (q.toNat : Int))) F2 (run_ldP (u := cb q) rfl (F2.ev 13 rfl) (hV.below M0.below) (map_atB hq) (by kernel_rfl)) rfl rfl rfl fun a3 F3 => ?_
    refine asS F3 rfl rfl rfl rfl rfl fun a4 F4 => ?_
    refine sn ?_
    clear F1 F2 F3
    refine wsl ?_
    refine mvS F4 rfl rfl rfl rfl rfl fun a5 F5 => ?_
    refine mvS F5 rfl rfl rfl rfl rfl fun a6 F6 => ?_
    refine mvS F6 rfl rfl rfl rfl rfl fun a7 F7 => ?_
    refine sqC (v := (.int .u8 ((mulS q B).toNat : Int))) F7 M0 (wantedS rfl) (run_call rfl Tryd.func84 (by kernel_rfl) rfl (mapE2 (F7.ev 16 rfl) (F7.ev 17 rfl))) rfl (by decide) (rmul5_any q B w1) fun a8 w2 hb2 F8 M1 => ?_
    refine sr (v := (.int .u8 ((A ^^^ (mulS q B)).toNat : Int))) F8 (run_xor8 rfl (F8.ev 15 rfl) (F8.ev 18 rfl)) rfl rfl rfl fun a9 F9 => ?_
    refine asS F9 rfl rfl rfl rfl rfl fun a10 F10 => ?_
    refine sn ?_
    clear F4 F5 F6 F7 F8 F9 M0
    refine wp_region_lit ?_
    refine mvS F10 rfl rfl rfl rfl rfl fun a11 F11 => ?_
    refine mvS F11 rfl rfl rfl rfl rfl fun a12 F12 => ?_
    refine sqC (v := (.int .u8 ((mulS B x).toNat : Int))) F12 M1 (wantedS rfl) (run_call rfl Tryd.func84 (by kernel_rfl) rfl (mapE2 (F12.ev 20 rfl) (F12.ev 21 rfl))) rfl (by decide) (rmul5_any B x w2) fun a13 w3 hb3 F13 M2 => ?_
    refine asS F13 rfl rfl rfl rfl rfl fun a14 F14 => ?_
    refine sqEnd ?_
    clear F10 F11 F12 F13 M1
    refine bkEnd ?_
    refine nx ?_
    refine wp_region_lit ?_
    refine sr F14 (run_add (r := ((i + 1 : Nat) : Int)) rfl (F14.ev 11 rfl) rfl (by rw [IntKind.wrap_i64]; omega)) rfl rfl rfl fun a15 F15 => ?_
    refine mvS F15 rfl rfl rfl rfl rfl fun a16 F16 => ?_
    refine sn ?_
    clear F14 F15
    exact ⟨_, by omega, i + 1, by omega, rfl, by rw [hst]; exact F16.sub ⟨rfl, rfl, rfl, rfl, rfl, rfl, trivial⟩, M2⟩
  · have hie : i = l.length := by omega
    have hres : (sumE l x l.length).1 = A := by rw [← hA, hie]
    refine wsl ?_
    refine sr (v := (.bool false)) F0 (run_lss rfl (F0.ev 11 rfl) (F0.ev 10 rfl) (decide_eq_false (by omega))) rfl rfl rfl fun a1 F1 => ?_
    refine sn ?_
    clear F0
    refine wp_seq ?_
    refine wp_cond_false (F1.ev 12 rfl) ?_
    refine wp_exit ?_
    refine nxExit ?_
    refine nxExit ?_
    refine bkHere ?_
    refine nx ?_
    refine wsl ?_
    refine mvS F1 rfl rfl rfl rfl rfl fun a2 F2 => ?_
    refine asS F2 rfl rfl rfl rfl rfl fun a3 F3 => ?_
    refine sn ?_
    clear F1 F2
    refine wp_ret ?_
    exact ret1 F3 rfl rfl ⟨by rw [hres], M0.below⟩
end Go.Proofs.YtconhhhggckcbaaDoor
