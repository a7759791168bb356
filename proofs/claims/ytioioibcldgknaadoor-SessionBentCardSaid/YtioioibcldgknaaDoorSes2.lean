/- The walks of package session's small functions and of the reference's. Printed by gen_ses2.py. -/
import Derived.Test.YtioioibcldgknaaDoorSesV
import Derived.Test.YtioioibcldgknaaDoorSes1
import Derived.Test.YtioioibcldgknaaDoorLate
namespace Go.Proofs.YtioioibcldgknaaDoor
open Go.RowKit

attribute [local simp] xorS_len tagS_len keyedS_len nonceS_len
/-- the number of the bytes from i on. -/
def getFrom (s : List UInt8) (i : Nat) : Nat := if i < min s.length 8 then getFrom s (i + 1) * 256 + (s.getD i 0).toNat else 0
termination_by s.length - i
theorem getFrom_end (s : List UInt8) : getFrom s s.length = 0 := by rw [getFrom, if_neg (by omega)]
theorem getFrom_high (s : List UInt8) (m : Nat) (h : 0 < m) (h8 : 8 ≤ m - 1) : getFrom s (m - 1) = getFrom s m := by
  rw [getFrom, if_neg (by omega), getFrom, if_neg (by omega)]
theorem getFrom_low (s : List UInt8) (m : Nat) (h : 0 < m) (h8 : m - 1 < 8) (hm : m ≤ s.length) : getFrom s (m - 1) = getFrom s m * 256 + (bt s (m - 1)).toNat := by
  rw [getFrom, if_pos (by omega), show m - 1 + 1 = m by omega]
  rfl
theorem getFrom_to (s : List UInt8) : ∀ j i, i + j = min s.length 8 → getTo s i + 256 ^ i * getFrom s i = getS s
  | 0, i, h => by rw [getFrom, if_neg (by omega)]; unfold getS; rw [show i = min s.length 8 by omega]; simp
  | j + 1, i, h => by
    rw [getFrom, if_pos (by omega), ← getFrom_to s j (i + 1) (by omega), getTo, Nat.pow_succ, Nat.mul_add, Nat.mul_assoc, Nat.mul_comm 256]
    rw [Nat.mul_comm (256 ^ i) (s.getD i 0).toNat]
    omega
theorem getFrom_zero (s : List UInt8) : getFrom s 0 = getS s := by
  have h := getFrom_to s (min s.length 8) 0 (by omega)
  simpa [getTo] using h
theorem getFrom_bound (s : List UInt8) : ∀ j i, i + j = 8 → getFrom s i < 256 ^ j
  | 0, i, h => by rw [getFrom, if_neg (by omega)]; simp
  | j + 1, i, h => by
    rw [getFrom]
    split
    · have := getFrom_bound s j (i + 1) (by omega)
      have hb := (s.getD i 0).toNat_lt
      rw [Nat.pow_succ]
      omega
    · exact Nat.pow_pos (by decide)
theorem getFrom_lt (s : List UInt8) (m : Nat) : getFrom s m < 256 ^ 8 := by
  by_cases h : m < 8
  · have := getFrom_bound s (8 - m) m (by omega)
    exact Nat.lt_of_lt_of_le this (Nat.pow_le_pow_right (by decide) (by omega))
  · rw [getFrom, if_neg (by omega)]; decide
theorem getFrom_small (s : List UInt8) (m : Nat) (h : 1 ≤ m) : getFrom s m < 256 ^ 7 := by
  by_cases h : m < 8
  · have := getFrom_bound s (8 - m) m (by omega)
    exact Nat.lt_of_lt_of_le this (Nat.pow_le_pow_right (by decide) (by omega))
  · rw [getFrom, if_neg (by omega)]; decide
set_option maxRecDepth 100000 in
set_option maxHeartbeats 1000000 in
theorem rget_any (s : List UInt8) (w : World) (_hs : s.length < 2 ^ 40) : Calls Tryd.prog 41 #[.string ⟨s.toArray⟩] w fun e w' => e = .returned (.int .u64 (getS s : Int)) ∧ Below w.heap.size w w' := by
  refine walk_enter Tryd.func41 rfl rfl rfl fun a0 hF0 => ?_
  have hM0 := Mem.new w
  refine wp_seq ?_
  refine wp_region_lit ?_
  refine sq (v := (.int .u64 0)) hF0 (wantedS rfl) (run_as rfl rfl) rfl (by decide) fun a1 hF1 => ?_
  refine sqEnd ?_
  clear hF0
  refine nx ?_
  refine wp_seq ?_
  refine wp_region_lit ?_
  refine sq (v := (.int .u64 0)) hF1 (wantedS rfl) (run_as rfl rfl) rfl (by decide) fun a2 hF2 => ?_
  refine sqEnd ?_
  clear hF1
  refine nx ?_
  refine wp_seq ?_
  refine wp_seq ?_
  refine wp_region_lit ?_
  refine sq (v := (.string ⟨s.toArray⟩)) hF2 (wantedS rfl) (run_mv rfl (hF2.ev 0 rfl)) rfl (by decide) fun a3 hF3 => ?_
  refine sq (v := (.int .i64 (s.length : Int))) hF3 (wantedS rfl) (run_len rfl (hF3.ev 5 rfl) rfl Tryd.underlying9) rfl (by decide) fun a4 hF4 => ?_
  refine sq (v := (.int .i64 ((s.length : Int) - 1))) hF4 (wantedS rfl) (run_sub (r := (s.length : Int) - 1) rfl (hF4.ev 6 rfl) rfl (by rw [IntKind.wrap_i64]; omega)) rfl (by decide) fun a5 hF5 => ?_
  refine sq (v := (.int .i64 ((s.length : Int) - 1))) hF5 (wantedS rfl) (run_as rfl (hF5.ev 7 rfl)) rfl (by decide) fun a6 hF6 => ?_
  refine sqEnd ?_
  clear hF2 hF3 hF4 hF5
  refine nx ?_
  refine wp_block ?_
  refine wkLoop (fun m a w2 => ∃ i : Nat, i ≤ s.length ∧ m = i ∧ Fr a 22 [(0, .string ⟨s.toArray⟩), (3, .int .u64 (getFrom s i : Int)), (4, .int .i64 ((i : Int) - 1))] ∧ Mem w [] w2) s.length ⟨s.length, Nat.le_refl _, rfl, by rw [getFrom_end]; exact hF6.sub ⟨rfl, rfl, rfl, trivial⟩, hM0⟩ ?_
  rintro m a0 w1 ⟨i, hi, rfl, hF0, hM0⟩
  by_cases h1 : 0 < m
  · have hb := (bt s (m - 1)).toNat_lt
    have hg := getFrom_lt s m
    by_cases h8 : m - 1 < 8
    · have hst : getFrom s (m - 1) = getFrom s m * 256 + (bt s (m - 1)).toNat := getFrom_low s m h1 h8 (by omega)
      have hbd := getFrom_small s m (by omega)
      refine wp_seq ?_
      refine wp_seq ?_
      refine wp_region_lit ?_
      refine sq (v := (.int .i64 ((m : Int) - 1))) hF0 (wantedS rfl) (run_mv rfl (hF0.ev 4 rfl)) rfl (by decide) fun a1 hF1 => ?_
      refine sq (v := (.bool true)) hF1 (wantedS rfl) (run_geq rfl (hF1.ev 8 rfl) rfl (decide_eq_true (by omega))) rfl (by decide) fun a2 hF2 => ?_
      refine sqEnd ?_
      clear hF0 hF1
      refine nx ?_
      refine wp_cond_true (hF2.ev 9 rfl) ?_
      refine wp_skip ?_
      refine nx ?_
      refine wp_seq ?_
      refine wp_block ?_
      refine wp_seq ?_
      refine wp_region_lit ?_
      refine sq (v := (.int .i64 ((m : Int) - 1))) hF2 (wantedS rfl) (run_mv rfl (hF2.ev 4 rfl)) rfl (by decide) fun a3 hF3 => ?_
      refine sq (v := (.bool true)) hF3 (wantedS rfl) (run_lss rfl (hF3.ev 12 rfl) rfl (decide_eq_true (by omega))) rfl (by decide) fun a4 hF4 => ?_
      refine sqEnd ?_
      clear hF2 hF3
      refine nx ?_
      refine wp_cond_true (hF4.ev 13 rfl) ?_
      refine wp_region_lit ?_
      refine sq (v := (.int .u64 (getFrom s m : Int))) hF4 (wantedS rfl) (run_mv rfl (hF4.ev 3 rfl)) rfl (by decide) fun a5 hF5 => ?_
      refine sq (v := (.int .u64 ((getFrom s m * 256 : Nat) : Int))) hF5 (wantedS rfl) (run_mul (r := ((getFrom s m * 256 : Nat) : Int)) rfl (hF5.ev 14 rfl) rfl (by rw [IntKind.wrap_u64]; omega)) rfl (by decide) fun a6 hF6 => ?_
      refine sq (v := (.string ⟨s.toArray⟩)) hF6 (wantedS rfl) (run_mv rfl (hF6.ev 0 rfl)) rfl (by decide) fun a7 hF7 => ?_
      refine sq (v := (.int .i64 ((m : Int) - 1))) hF7 (wantedS rfl) (run_mv rfl (hF7.ev 4 rfl)) rfl (by decide) fun a8 hF8 => ?_
      refine sq (v := (.int .u8 ((bt s (m - 1)).toNat : Int))) hF8 (wantedS rfl) (run_sAt (n := m - 1) rfl (hF8.ev 16 rfl) (hF8.ev 17 rfl) Tryd.underlying9 (by omega) (by omega)) rfl (by decide) fun a9 hF9 => ?_
      refine sq (v := (.int .u64 ((bt s (m - 1)).toNat : Int))) hF9 (wantedS rfl) (run_cvI (r := ((bt s (m - 1)).toNat : Int)) rfl (hF9.ev 18 rfl) Tryd.underlying5 Tryd.underlying22 (by rw [IntKind.wrap_u64]; omega)) rfl (by decide) fun a10 hF10 => ?_
      refine sq (v := (.int .u64 ((getFrom s m * 256 + (bt s (m - 1)).toNat : Nat) : Int))) hF10 (wantedS rfl) (run_add (r := ((getFrom s m * 256 + (bt s (m - 1)).toNat : Nat) : Int)) rfl (hF10.ev 15 rfl) (hF10.ev 19 rfl) (by rw [IntKind.wrap_u64]; omega)) rfl (by decide) fun a11 hF11 => ?_
      refine sq (v := (.int .u64 ((getFrom s m * 256 + (bt s (m - 1)).toNat : Nat) : Int))) hF11 (wantedS rfl) (run_as rfl (hF11.ev 20 rfl)) rfl (by decide) fun a12 hF12 => ?_
      refine sqEnd ?_
      clear hF4 hF5 hF6 hF7 hF8 hF9 hF10 hF11
      refine bkEnd ?_
      refine nx ?_
      refine wp_region_lit ?_
      refine sq (v := (.int .i64 ((m : Int) - 1))) hF12 (wantedS rfl) (run_mv rfl (hF12.ev 4 rfl)) rfl (by decide) fun a13 hF13 => ?_
      refine sq (v := (.int .i64 (((m - 1 : Nat) : Int) - 1))) hF13 (wantedS rfl) (run_sub (r := ((m - 1 : Nat) : Int) - 1) rfl (hF13.ev 10 rfl) rfl (by rw [IntKind.wrap_i64]; omega)) rfl (by decide) fun a14 hF14 => ?_
      refine sq (v := (.int .i64 (((m - 1 : Nat) : Int) - 1))) hF14 (wantedS rfl) (run_as rfl (hF14.ev 11 rfl)) rfl (by decide) fun a15 hF15 => ?_
      refine sqEnd ?_
      clear hF12 hF13 hF14
      refine nx ?_
      exact ⟨m - 1, by omega, m - 1, by omega, rfl, by rw [hst]; exact hF15.sub ⟨rfl, rfl, rfl, trivial⟩, hM0⟩
    · have hst : getFrom s (m - 1) = getFrom s m := getFrom_high s m h1 (by omega)
      refine wp_seq ?_
      refine wp_seq ?_
      refine wp_region_lit ?_
      refine sq (v := (.int .i64 ((m : Int) - 1))) hF0 (wantedS rfl) (run_mv rfl (hF0.ev 4 rfl)) rfl (by decide) fun a1 hF1 => ?_
      refine sq (v := (.bool true)) hF1 (wantedS rfl) (run_geq rfl (hF1.ev 8 rfl) rfl (decide_eq_true (by omega))) rfl (by decide) fun a2 hF2 => ?_
      refine sqEnd ?_
      clear hF0 hF1
      refine nx ?_
      refine wp_cond_true (hF2.ev 9 rfl) ?_
      refine wp_skip ?_
      refine nx ?_
      refine wp_seq ?_
      refine wp_block ?_
      refine wp_seq ?_
      refine wp_region_lit ?_
      refine sq (v := (.int .i64 ((m : Int) - 1))) hF2 (wantedS rfl) (run_mv rfl (hF2.ev 4 rfl)) rfl (by decide) fun a3 hF3 => ?_
      refine sq (v := (.bool false)) hF3 (wantedS rfl) (run_lss rfl (hF3.ev 12 rfl) rfl (decide_eq_false (by omega))) rfl (by decide) fun a4 hF4 => ?_
      refine sqEnd ?_
      clear hF2 hF3
      refine nx ?_
      refine wp_cond_false (hF4.ev 13 rfl) ?_
      refine wp_skip ?_
      refine bkEnd ?_
      refine nx ?_
      refine wp_region_lit ?_
      refine sq (v := (.int .i64 ((m : Int) - 1))) hF4 (wantedS rfl) (run_mv rfl (hF4.ev 4 rfl)) rfl (by decide) fun a5 hF5 => ?_
      refine sq (v := (.int .i64 (((m - 1 : Nat) : Int) - 1))) hF5 (wantedS rfl) (run_sub (r := ((m - 1 : Nat) : Int) - 1) rfl (hF5.ev 10 rfl) rfl (by rw [IntKind.wrap_i64]; omega)) rfl (by decide) fun a6 hF6 => ?_
      refine sq (v := (.int .i64 (((m - 1 : Nat) : Int) - 1))) hF6 (wantedS rfl) (run_as rfl (hF6.ev 11 rfl)) rfl (by decide) fun a7 hF7 => ?_
      refine sqEnd ?_
      clear hF4 hF5 hF6
      refine nx ?_
      exact ⟨m - 1, by omega, m - 1, by omega, rfl, by rw [hst]; exact hF7.sub ⟨rfl, rfl, rfl, trivial⟩, hM0⟩
  · have hie : m = 0 := by omega
    refine wp_seq ?_
    refine wp_seq ?_
    refine wp_region_lit ?_
    refine sq (v := (.int .i64 ((m : Int) - 1))) hF0 (wantedS rfl) (run_mv rfl (hF0.ev 4 rfl)) rfl (by decide) fun a1 hF1 => ?_
    refine sq (v := (.bool false)) hF1 (wantedS rfl) (run_geq rfl (hF1.ev 8 rfl) rfl (decide_eq_false (by omega))) rfl (by decide) fun a2 hF2 => ?_
    refine sqEnd ?_
    clear hF0 hF1
    refine nx ?_
    refine wp_cond_false (hF2.ev 9 rfl) ?_
    refine wp_exit ?_
    refine nxExit ?_
    refine nxExit ?_
    refine bkHere ?_
    refine nx ?_
    refine wp_seq ?_
    refine wp_region_lit ?_
    refine sq (v := (.int .u64 (getFrom s m : Int))) hF2 (wantedS rfl) (run_mv rfl (hF2.ev 3 rfl)) rfl (by decide) fun a3 hF3 => ?_
    refine sq (v := (.int .u64 (getFrom s m : Int))) hF3 (wantedS rfl) (run_as rfl (hF3.ev 21 rfl)) rfl (by decide) fun a4 hF4 => ?_
    refine sqEnd ?_
    clear hF2 hF3
    refine nx ?_
    refine wp_ret ?_
    exact ret1 hF4 rfl rfl ⟨by rw [hie, getFrom_zero], hM0.below⟩
set_option maxRecDepth 100000 in
set_option maxHeartbeats 1000000 in
theorem sesnonce_any (n : Nat) (w : World) : Calls Tryd.prog 29 #[.int .u64 (n : Int)] w fun e w' => e = .returned (.agg (cells8 (nonceS (putS n)))) ∧ Below w.heap.size w w' := by
  refine walk_enter Tryd.func29 rfl rfl rfl fun a0 hF0 => ?_
  have hM0 := Mem.new w
  refine wp_seq ?_
  refine wp_region_lit ?_
  refine sqNew (cs := (cells8 (List.replicate 12 0))) (t := 56) hF0 hM0 (wantedS rfl) (run_alloc rfl (by kernel_rfl)) rfl (by decide) fun g0 a1 w1 hgg0 hb1 hF1 hM1 => ?_
  refine sqEnd ?_
  clear hF0 hM0
  refine nx ?_
  refine wp_seq ?_
  refine wp_region_lit ?_
  refine sq (v := (.int .u64 (n : Int))) hF1 (wantedS rfl) (run_mv rfl (hF1.ev 0 rfl)) rfl (by decide) fun a2 hF2 => ?_
  refine sqC (v := (.string ⟨(putS n).toArray⟩)) hF2 hM1 (wantedS rfl) (run_call rfl Tryd.func32 (by kernel_rfl) rfl (mapE2 (hF2.ev 3 rfl) rfl)) rfl (by decide) (nput_any n w1) fun a3 w2 hb2 hF3 hM2 => ?_
  refine sqC (v := (.agg (cells8 (nonceS (putS n))))) hF3 hM2 (wantedS rfl) (run_call rfl Tryd.func51 (by kernel_rfl) rfl (mapE1 (hF3.ev 4 rfl))) rfl (by decide) (snonce_any (putS n) w2) fun a4 w3 hb3 hF4 hM3 => ?_
  refine sqStore (i := 0) hF4 hM3 rfl rfl rfl (hF4.ev 2 rfl) (hF4.ev 5 rfl) rfl sz12q (szOf (nonceS_len _)) (szOf List.length_replicate) (cells8_one _) fun a5 w4 hF5 hM4 => ?_
  refine sqEnd ?_
  clear hF1 hF2 hF3 hF4 hM1 hM2 hM3
  refine nx ?_
  refine wp_ret ?_
  exact retB hF5 rfl rfl (hM4.at 0 rfl) Tryd.underlying56 rfl sz12q (szOf (nonceS_len _)) ⟨rfl, hM4.below⟩
set_option maxRecDepth 100000 in
set_option maxHeartbeats 1000000 in
theorem rsesnonce_any (n : Nat) (w : World) (_hn : n < 2 ^ 64) : Calls Tryd.prog 44 #[.int .u64 (n : Int)] w fun e w' => e = .returned (.agg (cells8 (nonceS (putS n)))) ∧ Below w.heap.size w w' := by
  refine walk_enter Tryd.func44 rfl rfl rfl fun a0 hF0 => ?_
  have hM0 := Mem.new w
  refine wp_seq ?_
  refine wp_region_lit ?_
  refine sqNew (cs := (cells8 (List.replicate 12 0))) (t := 56) hF0 hM0 (wantedS rfl) (run_alloc rfl (by kernel_rfl)) rfl (by decide) fun g0 a1 w1 hgg0 hb1 hF1 hM1 => ?_
  refine sqEnd ?_
  clear hF0 hM0
  refine nx ?_
  refine wp_seq ?_
  refine wp_region_lit ?_
  refine sq (v := (.int .u64 (n : Int))) hF1 (wantedS rfl) (run_mv rfl (hF1.ev 0 rfl)) rfl (by decide) fun a2 hF2 => ?_
  refine sqC (v := (.string ⟨(putS n).toArray⟩)) hF2 hM1 (wantedS rfl) (run_call rfl Tryd.func37 (by kernel_rfl) rfl (mapE2 (hF2.ev 3 rfl) rfl)) rfl (by decide) (rput_any n w1 (by omega)) fun a3 w2 hb2 hF3 hM2 => ?_
  refine sqC (v := (.agg (cells8 (nonceS (putS n))))) hF3 hM2 (wantedS rfl) (run_call rfl Tryd.func64 (by kernel_rfl) rfl (mapE1 (hF3.ev 4 rfl))) rfl (by decide) (rnonce_any (putS n) w2 (by rw [putS_len]; decide)) fun a4 w3 hb3 hF4 hM3 => ?_
  refine sqStore (i := 0) hF4 hM3 rfl rfl rfl (hF4.ev 2 rfl) (hF4.ev 5 rfl) rfl sz12q (szOf (nonceS_len _)) (szOf List.length_replicate) (cells8_one _) fun a5 w4 hF5 hM4 => ?_
  refine sqEnd ?_
  clear hF1 hF2 hF3 hF4 hM1 hM2 hM3
  refine nx ?_
  refine wp_ret ?_
  exact retB hF5 rfl rfl (hM4.at 0 rfl) Tryd.underlying56 rfl sz12q (szOf (nonceS_len _)) ⟨rfl, hM4.below⟩
set_option maxRecDepth 100000 in
set_option maxHeartbeats 1000000 in
theorem head_any (m : List UInt8) (n : Nat) (w : World) (hm : m.length < 2 ^ 40) : Calls Tryd.prog 30 #[.string ⟨m.toArray⟩, .int .u64 (n : Int)] w fun e w' => e = .returned (.string ⟨(headS m n).toArray⟩) ∧ Below w.heap.size w w' := by
  refine walk_enter Tryd.func30 rfl rfl rfl fun a0 hF0 => ?_
  have hM0 := Mem.new w
  refine wp_seq ?_
  refine wp_region_lit ?_
  refine sq (v := (.string ⟨List.toArray []⟩)) hF0 (wantedS rfl) (run_as rfl rfl) rfl (by decide) fun a1 hF1 => ?_
  refine sqEnd ?_
  clear hF0
  refine nx ?_
  refine wp_seq ?_
  refine wp_region_lit ?_
  refine sq (v := (.string ⟨m.toArray⟩)) hF1 (wantedS rfl) (run_mv rfl (hF1.ev 0 rfl)) rfl (by decide) fun a2 hF2 => ?_
  refine sq (v := (.int .u64 (n : Int))) hF2 (wantedS rfl) (run_mv rfl (hF2.ev 1 rfl)) rfl (by decide) fun a3 hF3 => ?_
  refine sqC (v := (.string ⟨(putS n).toArray⟩)) hF3 hM0 (wantedS rfl) (run_call rfl Tryd.func32 (by kernel_rfl) rfl (mapE2 (hF3.ev 6 rfl) rfl)) rfl (by decide) (nput_any n w) fun a4 w1 hb1 hF4 hM1 => ?_
  refine sqStrs [m, (putS n)] hF4 hM1 (wantedS rfl) (run_strs2 rfl (hF4.ev 5 rfl) (hF4.ev 7 rfl)) rfl (by decide) fun v0 a5 w2 hsv0 hb2 hF5 hM2 => ?_
  refine sqC (v := (.string ⟨(rowS [m, (putS n)]).toArray⟩)) hF5 hM2 (wantedS rfl) (run_call rfl Tryd.func31 (by kernel_rfl) rfl (mapE1 (hF5.ev 8 rfl))) rfl (by decide) (nrow_any [m, (putS n)] _ w2 hsv0 (by simp [putS_len]; omega) (by simp)) fun a6 w3 hb3 hF6 hM3 => ?_
  have hS1 := hsv0.below hb3
  refine sq (v := (.string ⟨(rowS [m, (putS n)]).toArray⟩)) hF6 (wantedS rfl) (run_as rfl (hF6.ev 9 rfl)) rfl (by decide) fun a7 hF7 => ?_
  refine sqEnd ?_
  clear hF1 hF2 hF3 hF4 hF5 hF6 hM0 hM1 hM2
  refine nx ?_
  refine wp_ret ?_
  exact ret1 hF7 rfl rfl ⟨rfl, hM3.below⟩
set_option maxRecDepth 100000 in
set_option maxHeartbeats 1000000 in
theorem rhead_any (m : List UInt8) (n : Nat) (w : World) (hm : m.length < 2 ^ 40) (_hn : n < 2 ^ 64) : Calls Tryd.prog 15 #[.string ⟨m.toArray⟩, .int .u64 (n : Int)] w fun e w' => e = .returned (.string ⟨(headS m n).toArray⟩) ∧ Below w.heap.size w w' := by
  refine walk_enter Tryd.func15 rfl rfl rfl fun a0 hF0 => ?_
  have hM0 := Mem.new w
  refine wp_seq ?_
  refine wp_region_lit ?_
  refine sq (v := (.string ⟨List.toArray []⟩)) hF0 (wantedS rfl) (run_as rfl rfl) rfl (by decide) fun a1 hF1 => ?_
  refine sqEnd ?_
  clear hF0
  refine nx ?_
  refine wp_seq ?_
  refine wp_region_lit ?_
  refine sq (v := (.string ⟨m.toArray⟩)) hF1 (wantedS rfl) (run_mv rfl (hF1.ev 0 rfl)) rfl (by decide) fun a2 hF2 => ?_
  refine sq (v := (.int .u64 (n : Int))) hF2 (wantedS rfl) (run_mv rfl (hF2.ev 1 rfl)) rfl (by decide) fun a3 hF3 => ?_
  refine sqC (v := (.string ⟨(putS n).toArray⟩)) hF3 hM0 (wantedS rfl) (run_call rfl Tryd.func37 (by kernel_rfl) rfl (mapE2 (hF3.ev 6 rfl) rfl)) rfl (by decide) (rput_any n w (by omega)) fun a4 w1 hb1 hF4 hM1 => ?_
  refine sqStrs [m, (putS n)] hF4 hM1 (wantedS rfl) (run_strs2 rfl (hF4.ev 5 rfl) (hF4.ev 7 rfl)) rfl (by decide) fun v0 a5 w2 hsv0 hb2 hF5 hM2 => ?_
  refine sqC (v := (.string ⟨(rowS [m, (putS n)]).toArray⟩)) hF5 hM2 (wantedS rfl) (run_call rfl Tryd.func17 (by kernel_rfl) rfl (mapE1 (hF5.ev 8 rfl))) rfl (by decide) (rrow_any [m, (putS n)] _ w2 hsv0 (by simp [putS_len]; omega) (by simp)) fun a6 w3 hb3 hF6 hM3 => ?_
  have hS1 := hsv0.below hb3
  refine sq (v := (.string ⟨(rowS [m, (putS n)]).toArray⟩)) hF6 (wantedS rfl) (run_as rfl (hF6.ev 9 rfl)) rfl (by decide) fun a7 hF7 => ?_
  refine sqEnd ?_
  clear hF1 hF2 hF3 hF4 hF5 hF6 hM0 hM1 hM2
  refine nx ?_
  refine wp_ret ?_
  exact ret1 hF7 rfl rfl ⟨rfl, hM3.below⟩
set_option maxRecDepth 100000 in
set_option maxHeartbeats 1000000 in
theorem next_any (k : List UInt8) (w : World) (HG : Glob w) (hLk : k.length = 32) : Calls Tryd.prog 21 #[.agg (cells8 k)] w fun e w' => e = .returned (.agg (cells8 (nextS k))) ∧ Below w.heap.size w w' := by
  refine walk_enter Tryd.func21 rfl rfl rfl fun a0 hF0 => ?_
  have hM0 := Mem.new w
  refine wp_seq ?_
  refine wp_region_lit ?_
  refine sqNew (cs := (cells8 k)) (t := 24) hF0 hM0 (wantedS rfl) (run_box rfl (hF0.ev 0 rfl)) rfl (by decide) fun g0 a1 w1 hgg0 hb1 hF1 hM1 => ?_
  refine sqNew (cs := (cells8 (List.replicate 32 0))) (t := 24) hF1 hM1 (wantedS rfl) (run_alloc rfl (by kernel_rfl)) rfl (by decide) fun g1 a2 w2 hgg1 hb2 hF2 hM2 => ?_
  refine sqEnd ?_
  clear hF0 hF1 hM0 hM1
  refine nx ?_
  refine wp_seq ?_
  refine wp_region_lit ?_
  refine sq (v := (.agg (cells8 k))) hF2 (wantedS rfl) (run_ldB rfl (hF2.ev 1 rfl) (hM2.at 1 rfl) Tryd.underlying24 rfl sz32k (szOf hLk)) rfl (by decide) fun a3 hF3 => ?_
  refine sqStrs [[110, 101, 120, 116]] hF3 hM2 (wantedS rfl) (run_strs1 rfl rfl) rfl (by decide) fun v2 a4 w3 hsv2 hb3 hF4 hM3 => ?_
  refine sqC (v := (.agg (cells8 (keyedS k [110, 101, 120, 116])))) hF4 hM3 (wantedS rfl) (run_call rfl Tryd.func28 (by kernel_rfl) rfl (mapE2 (hF4.ev 3 rfl) (hF4.ev 4 rfl))) rfl (by decide) (keyed1 k [110, 101, 120, 116] _ w3 hLk (HG.below hM3.below) hsv2 (by first | omega | decide | (simp; done) | (simp; omega))) fun a5 w4 hb4 hF5 hM4 => ?_
  have hS1 := hsv2.below hb4
  refine sqStore (i := 0) hF5 hM4 rfl rfl rfl (hF5.ev 2 rfl) (hF5.ev 5 rfl) rfl sz32k (szOf (keyedS_len _ _)) (szOf List.length_replicate) (cells8_one _) fun a6 w5 hF6 hM5 => ?_
  refine sqEnd ?_
  clear hF2 hF3 hF4 hF5 hM2 hM3 hM4
  refine nx ?_
  refine wp_ret ?_
  exact retB hF6 rfl rfl (hM5.at 0 rfl) Tryd.underlying24 rfl sz32k (szOf (keyedS_len _ _)) ⟨rfl, hM5.below⟩
set_option maxRecDepth 100000 in
set_option maxHeartbeats 1000000 in
theorem rof43_any (k x : List UInt8) (w : World) (hLk : k.length = 32) (hx : x.length < 2 ^ 40) : Calls Tryd.prog 16 #[.agg (cells8 k), .string ⟨x.toArray⟩] w fun e w' => e = .returned (.agg (cells8 (keyedS k x))) ∧ Below w.heap.size w w' := by
  refine walk_enter Tryd.func16 rfl rfl rfl fun a0 hF0 => ?_
  have hM0 := Mem.new w
  refine wp_seq ?_
  refine wp_region_lit ?_
  refine sqNew (cs := (cells8 k)) (t := 24) hF0 hM0 (wantedS rfl) (run_box rfl (hF0.ev 0 rfl)) rfl (by decide) fun g0 a1 w1 hgg0 hb1 hF1 hM1 => ?_
  refine sqNew (cs := (cells8 (List.replicate 32 0))) (t := 24) hF1 hM1 (wantedS rfl) (run_alloc rfl (by kernel_rfl)) rfl (by decide) fun g1 a2 w2 hgg1 hb2 hF2 hM2 => ?_
  refine sqEnd ?_
  clear hF0 hF1 hM0 hM1
  refine nx ?_
  refine wp_seq ?_
  refine wp_region_lit ?_
  refine sq (v := (.agg (cells8 k))) hF2 (wantedS rfl) (run_ldB rfl (hF2.ev 2 rfl) (hM2.at 1 rfl) Tryd.underlying24 rfl sz32k (szOf hLk)) rfl (by decide) fun a3 hF3 => ?_
  refine sq (v := (.string ⟨x.toArray⟩)) hF3 (wantedS rfl) (run_mv rfl (hF3.ev 1 rfl)) rfl (by decide) fun a4 hF4 => ?_
  refine sqStrs [x] hF4 hM2 (wantedS rfl) (run_strs1 rfl (hF4.ev 6 rfl)) rfl (by decide) fun v2 a5 w3 hsv2 hb3 hF5 hM3 => ?_
  refine sqC (v := (.agg (cells8 (keyedS k x)))) hF5 hM3 (wantedS rfl) (run_call rfl Tryd.func38 (by kernel_rfl) rfl (mapE2 (hF5.ev 5 rfl) (hF5.ev 7 rfl))) rfl (by decide) (rkeyed1 k x _ w3 hLk hsv2 (by first | omega | decide | (simp; done) | (simp; omega))) fun a6 w4 hb4 hF6 hM4 => ?_
  have hS1 := hsv2.below hb4
  refine sqStore (i := 0) hF6 hM4 rfl rfl rfl (hF6.ev 4 rfl) (hF6.ev 8 rfl) rfl sz32k (szOf (keyedS_len _ _)) (szOf List.length_replicate) (cells8_one _) fun a7 w5 hF7 hM5 => ?_
  refine sqEnd ?_
  clear hF2 hF3 hF4 hF5 hF6 hM2 hM3 hM4
  refine nx ?_
  refine wp_ret ?_
  exact retB hF7 rfl rfl (hM5.at 0 rfl) Tryd.underlying24 rfl sz32k (szOf (keyedS_len _ _)) ⟨rfl, hM5.below⟩
set_option maxRecDepth 100000 in
set_option maxHeartbeats 1000000 in
theorem rnext_any (k : List UInt8) (w : World) (hLk : k.length = 32) : Calls Tryd.prog 22 #[.agg (cells8 k)] w fun e w' => e = .returned (.agg (cells8 (nextS k))) ∧ Below w.heap.size w w' := by
  refine walk_enter Tryd.func22 rfl rfl rfl fun a0 hF0 => ?_
  have hM0 := Mem.new w
  refine wp_seq ?_
  refine wp_region_lit ?_
  refine sqNew (cs := (cells8 k)) (t := 24) hF0 hM0 (wantedS rfl) (run_box rfl (hF0.ev 0 rfl)) rfl (by decide) fun g0 a1 w1 hgg0 hb1 hF1 hM1 => ?_
  refine sqNew (cs := (cells8 (List.replicate 32 0))) (t := 24) hF1 hM1 (wantedS rfl) (run_alloc rfl (by kernel_rfl)) rfl (by decide) fun g1 a2 w2 hgg1 hb2 hF2 hM2 => ?_
  refine sqEnd ?_
  clear hF0 hF1 hM0 hM1
  refine nx ?_
  refine wp_seq ?_
  refine wp_region_lit ?_
  refine sq (v := (.agg (cells8 k))) hF2 (wantedS rfl) (run_ldB rfl (hF2.ev 1 rfl) (hM2.at 1 rfl) Tryd.underlying24 rfl sz32k (szOf hLk)) rfl (by decide) fun a3 hF3 => ?_
  refine sqC (v := (.agg (cells8 (keyedS k [110, 101, 120, 116])))) hF3 hM2 (wantedS rfl) (run_call rfl Tryd.func16 (by kernel_rfl) rfl (mapE2 (hF3.ev 3 rfl) rfl)) rfl (by decide) (rof43_any k [110, 101, 120, 116] w2 hLk (by first | omega | decide | (simp; done) | (simp; omega))) fun a4 w3 hb3 hF4 hM3 => ?_
  refine sqStore (i := 0) hF4 hM3 rfl rfl rfl (hF4.ev 2 rfl) (hF4.ev 4 rfl) rfl sz32k (szOf (keyedS_len _ _)) (szOf List.length_replicate) (cells8_one _) fun a5 w4 hF5 hM4 => ?_
  refine sqEnd ?_
  clear hF2 hF3 hF4 hM2 hM3
  refine nx ?_
  refine wp_ret ?_
  exact retB hF5 rfl rfl (hM4.at 0 rfl) Tryd.underlying24 rfl sz32k (szOf (keyedS_len _ _)) ⟨rfl, hM4.below⟩
set_option maxRecDepth 100000 in
set_option maxHeartbeats 1000000 in
theorem reply_any (k : List UInt8) (n : Nat) (d : List UInt8) (w : World) (HG : Glob w) (hLk : k.length = 32) (hd : d.length < 2 ^ 27) : Calls Tryd.prog 23 #[.agg (cells8 k), .int .u64 (n : Int), .string ⟨d.toArray⟩] w fun e w' => e = .returned (.string ⟨(replyS k n d).toArray⟩) ∧ Below w.heap.size w w' := by
  have hpl := putS_len n
  refine walk_enter Tryd.func23 rfl rfl rfl fun a0 hF0 => ?_
  have hM0 := Mem.new w
  refine wp_seq ?_
  refine wp_region_lit ?_
  refine sqNew (cs := (cells8 k)) (t := 24) hF0 hM0 (wantedS rfl) (run_box rfl (hF0.ev 0 rfl)) rfl (by decide) fun g0 a1 w1 hgg0 hb1 hF1 hM1 => ?_
  refine sq (v := (.string ⟨List.toArray []⟩)) hF1 (wantedS rfl) (run_as rfl rfl) rfl (by decide) fun a2 hF2 => ?_
  refine sqEnd ?_
  clear hF0 hF1 hM0
  refine nx ?_
  refine wp_seq ?_
  refine wp_region_lit ?_
  refine sq (v := (.agg (cells8 k))) hF2 (wantedS rfl) (run_ldB rfl (hF2.ev 3 rfl) (hM1.at 0 rfl) Tryd.underlying24 rfl sz32k (szOf hLk)) rfl (by decide) fun a3 hF3 => ?_
  refine sqStrs [[114, 101, 112, 108, 121]] hF3 hM1 (wantedS rfl) (run_strs1 rfl rfl) rfl (by decide) fun v1 a4 w2 hsv1 hb2 hF4 hM2 => ?_
  refine sqC (v := (.agg (cells8 (keyedS k [114, 101, 112, 108, 121])))) hF4 hM2 (wantedS rfl) (run_call rfl Tryd.func28 (by kernel_rfl) rfl (mapE2 (hF4.ev 7 rfl) (hF4.ev 8 rfl))) rfl (by decide) (keyed1 k [114, 101, 112, 108, 121] _ w2 hLk (HG.below hM2.below) hsv1 (by first | omega | decide | (simp; done) | (simp; omega))) fun a5 w3 hb3 hF5 hM3 => ?_
  have hS1 := hsv1.below hb3
  refine sq (v := (.int .u64 (n : Int))) hF5 (wantedS rfl) (run_mv rfl (hF5.ev 1 rfl)) rfl (by decide) fun a6 hF6 => ?_
  refine sqC (v := (.agg (cells8 (nonceS (putS n))))) hF6 hM3 (wantedS rfl) (run_call rfl Tryd.func29 (by kernel_rfl) rfl (mapE1 (hF6.ev 10 rfl))) rfl (by decide) (sesnonce_any n w3) fun a7 w4 hb4 hF7 hM4 => ?_
  have hS2 := hS1.below hb4
  refine sq (v := (.int .u64 (n : Int))) hF7 (wantedS rfl) (run_mv rfl (hF7.ev 1 rfl)) rfl (by decide) fun a8 hF8 => ?_
  refine sqC (v := (.string ⟨(putS n).toArray⟩)) hF8 hM4 (wantedS rfl) (run_call rfl Tryd.func32 (by kernel_rfl) rfl (mapE2 (hF8.ev 12 rfl) rfl)) rfl (by decide) (nput_any n w4) fun a9 w5 hb5 hF9 hM5 => ?_
  have hS3 := hS2.below hb5
  refine sq (v := (.string ⟨d.toArray⟩)) hF9 (wantedS rfl) (run_mv rfl (hF9.ev 2 rfl)) rfl (by decide) fun a10 hF10 => ?_
  refine sqC (v := (.string ⟨(sealS (keyedS k [114, 101, 112, 108, 121]) (nonceS (putS n)) (putS n) d).toArray⟩)) hF10 hM5 (wantedS rfl) (run_call rfl Tryd.func27 (by kernel_rfl) rfl (mapE4 (hF10.ev 9 rfl) (hF10.ev 11 rfl) (hF10.ev 13 rfl) (hF10.ev 14 rfl))) rfl (by decide) (sseal_any (keyedS k [114, 101, 112, 108, 121]) (nonceS (putS n)) (putS n) d w5 (HG.below hM5.below) (keyedS_len _ _) (nonceS_len _) (by first | omega | decide | (simp; done) | (simp; omega))) fun a11 w6 hb6 hF11 hM6 => ?_
  have hS4 := hS3.below hb6
  refine sq (v := (.string ⟨(sealS (keyedS k [114, 101, 112, 108, 121]) (nonceS (putS n)) (putS n) d).toArray⟩)) hF11 (wantedS rfl) (run_as rfl (hF11.ev 15 rfl)) rfl (by decide) fun a12 hF12 => ?_
  refine sqEnd ?_
  clear hF2 hF3 hF4 hF5 hF6 hF7 hF8 hF9 hF10 hF11 hM1 hM2 hM3 hM4 hM5
  refine nx ?_
  refine wp_ret ?_
  exact ret1 hF12 rfl rfl ⟨rfl, hM6.below⟩
set_option maxRecDepth 100000 in
set_option maxHeartbeats 1000000 in
theorem rreply_any (k : List UInt8) (n : Nat) (d : List UInt8) (w : World) (hLk : k.length = 32) (_hn : n < 2 ^ 64) (hd : d.length < 2 ^ 27) : Calls Tryd.prog 24 #[.agg (cells8 k), .int .u64 (n : Int), .string ⟨d.toArray⟩] w fun e w' => e = .returned (.string ⟨(replyS k n d).toArray⟩) ∧ Below w.heap.size w w' := by
  have hpl := putS_len n
  refine walk_enter Tryd.func24 rfl rfl rfl fun a0 hF0 => ?_
  have hM0 := Mem.new w
  refine wp_seq ?_
  refine wp_region_lit ?_
  refine sqNew (cs := (cells8 k)) (t := 24) hF0 hM0 (wantedS rfl) (run_box rfl (hF0.ev 0 rfl)) rfl (by decide) fun g0 a1 w1 hgg0 hb1 hF1 hM1 => ?_
  refine sq (v := (.string ⟨List.toArray []⟩)) hF1 (wantedS rfl) (run_as rfl rfl) rfl (by decide) fun a2 hF2 => ?_
  refine sqEnd ?_
  clear hF0 hF1 hM0
  refine nx ?_
  refine wp_seq ?_
  refine wp_region_lit ?_
  refine sq (v := (.agg (cells8 k))) hF2 (wantedS rfl) (run_ldB rfl (hF2.ev 3 rfl) (hM1.at 0 rfl) Tryd.underlying24 rfl sz32k (szOf hLk)) rfl (by decide) fun a3 hF3 => ?_
  refine sqC (v := (.agg (cells8 (keyedS k [114, 101, 112, 108, 121])))) hF3 hM1 (wantedS rfl) (run_call rfl Tryd.func16 (by kernel_rfl) rfl (mapE2 (hF3.ev 7 rfl) rfl)) rfl (by decide) (rof43_any k [114, 101, 112, 108, 121] w1 hLk (by first | omega | decide | (simp; done) | (simp; omega))) fun a4 w2 hb2 hF4 hM2 => ?_
  refine sq (v := (.int .u64 (n : Int))) hF4 (wantedS rfl) (run_mv rfl (hF4.ev 1 rfl)) rfl (by decide) fun a5 hF5 => ?_
  refine sqC (v := (.agg (cells8 (nonceS (putS n))))) hF5 hM2 (wantedS rfl) (run_call rfl Tryd.func44 (by kernel_rfl) rfl (mapE1 (hF5.ev 9 rfl))) rfl (by decide) (rsesnonce_any n w2 (by omega)) fun a6 w3 hb3 hF6 hM3 => ?_
  refine sq (v := (.int .u64 (n : Int))) hF6 (wantedS rfl) (run_mv rfl (hF6.ev 1 rfl)) rfl (by decide) fun a7 hF7 => ?_
  refine sqC (v := (.string ⟨(putS n).toArray⟩)) hF7 hM3 (wantedS rfl) (run_call rfl Tryd.func37 (by kernel_rfl) rfl (mapE2 (hF7.ev 11 rfl) rfl)) rfl (by decide) (rput_any n w3 (by omega)) fun a8 w4 hb4 hF8 hM4 => ?_
  refine sq (v := (.string ⟨d.toArray⟩)) hF8 (wantedS rfl) (run_mv rfl (hF8.ev 2 rfl)) rfl (by decide) fun a9 hF9 => ?_
  refine sqC (v := (.string ⟨(sealS (keyedS k [114, 101, 112, 108, 121]) (nonceS (putS n)) (putS n) d).toArray⟩)) hF9 hM4 (wantedS rfl) (run_call rfl Tryd.func43 (by kernel_rfl) rfl (mapE4 (hF9.ev 8 rfl) (hF9.ev 10 rfl) (hF9.ev 12 rfl) (hF9.ev 13 rfl))) rfl (by decide) (rseal_any (keyedS k [114, 101, 112, 108, 121]) (nonceS (putS n)) (putS n) d w4 (keyedS_len _ _) (nonceS_len _) (by first | omega | decide | (simp; done) | (simp; omega))) fun a10 w5 hb5 hF10 hM5 => ?_
  refine sq (v := (.string ⟨(sealS (keyedS k [114, 101, 112, 108, 121]) (nonceS (putS n)) (putS n) d).toArray⟩)) hF10 (wantedS rfl) (run_as rfl (hF10.ev 14 rfl)) rfl (by decide) fun a11 hF11 => ?_
  refine sqEnd ?_
  clear hF2 hF3 hF4 hF5 hF6 hF7 hF8 hF9 hF10 hM1 hM2 hM3 hM4
  refine nx ?_
  refine wp_ret ?_
  exact ret1 hF11 rfl rfl ⟨rfl, hM5.below⟩
set_option maxRecDepth 100000 in
set_option maxHeartbeats 1000000 in
theorem answer_any (k : List UInt8) (n : Nat) (x : List UInt8) (w : World) (HG : Glob w) (hLk : k.length = 32) (hx : x.length < 2 ^ 28) : Calls Tryd.prog 25 #[.agg (cells8 k), .int .u64 (n : Int), .string ⟨x.toArray⟩] w fun e w' => e = .returned (.tuple #[.string ⟨(answerS k n x).1.toArray⟩, .int .i64 (answerS k n x).2]) ∧ Below w.heap.size w w' := by
  have hpl := putS_len n
  by_cases hok : (openS (keyedS k [114, 101, 112, 108, 121]) (putS n) x).2 = 0
  · skip
    refine walk_enter Tryd.func25 rfl rfl rfl fun a0 hF0 => ?_
    have hM0 := Mem.new w
    refine wp_seq ?_
    refine wp_region_lit ?_
    refine sqNew (cs := (cells8 k)) (t := 24) hF0 hM0 (wantedS rfl) (run_box rfl (hF0.ev 0 rfl)) rfl (by decide) fun g0 a1 w1 hgg0 hb1 hF1 hM1 => ?_
    refine sq (v := (.string ⟨List.toArray []⟩)) hF1 (wantedS rfl) (run_as rfl rfl) rfl (by decide) fun a2 hF2 => ?_
    refine sq (v := (.int .i64 0)) hF2 (wantedS rfl) (run_as rfl rfl) rfl (by decide) fun a3 hF3 => ?_
    refine sqEnd ?_
    clear hF0 hF1 hF2 hM0
    refine nx ?_
    refine wp_seq ?_
    refine wp_region_lit ?_
    refine sq (v := (.agg (cells8 k))) hF3 (wantedS rfl) (run_ldB rfl (hF3.ev 3 rfl) (hM1.at 0 rfl) Tryd.underlying24 rfl sz32k (szOf hLk)) rfl (by decide) fun a4 hF4 => ?_
    refine sqStrs [[114, 101, 112, 108, 121]] hF4 hM1 (wantedS rfl) (run_strs1 rfl rfl) rfl (by decide) fun v1 a5 w2 hsv1 hb2 hF5 hM2 => ?_
    refine sqC (v := (.agg (cells8 (keyedS k [114, 101, 112, 108, 121])))) hF5 hM2 (wantedS rfl) (run_call rfl Tryd.func28 (by kernel_rfl) rfl (mapE2 (hF5.ev 11 rfl) (hF5.ev 12 rfl))) rfl (by decide) (keyed1 k [114, 101, 112, 108, 121] _ w2 hLk (HG.below hM2.below) hsv1 (by first | omega | decide | (simp; done) | (simp; omega))) fun a6 w3 hb3 hF6 hM3 => ?_
    have hS1 := hsv1.below hb3
    refine sq (v := (.int .u64 (n : Int))) hF6 (wantedS rfl) (run_mv rfl (hF6.ev 1 rfl)) rfl (by decide) fun a7 hF7 => ?_
    refine sqC (v := (.string ⟨(putS n).toArray⟩)) hF7 hM3 (wantedS rfl) (run_call rfl Tryd.func32 (by kernel_rfl) rfl (mapE2 (hF7.ev 14 rfl) rfl)) rfl (by decide) (nput_any n w3) fun a8 w4 hb4 hF8 hM4 => ?_
    have hS2 := hS1.below hb4
    refine sq (v := (.string ⟨x.toArray⟩)) hF8 (wantedS rfl) (run_mv rfl (hF8.ev 2 rfl)) rfl (by decide) fun a9 hF9 => ?_
    refine sqC (v := (.tuple #[(.string ⟨((openS (keyedS k [114, 101, 112, 108, 121]) (putS n) x).1).toArray⟩), (.int .i64 ((openS (keyedS k [114, 101, 112, 108, 121]) (putS n) x).2))])) hF9 hM4 (wantedS rfl) (run_call rfl Tryd.func36 (by kernel_rfl) rfl (mapE3 (hF9.ev 13 rfl) (hF9.ev 15 rfl) (hF9.ev 16 rfl))) rfl (by decide) (sopen_any (keyedS k [114, 101, 112, 108, 121]) (putS n) x w4 (HG.below hM4.below) (keyedS_len _ _) (by first | omega | decide | (simp; done) | (simp; omega))) fun a10 w5 hb5 hF10 hM5 => ?_
    have hS3 := hS2.below hb5
    refine sq (v := (.tuple #[(.string ⟨((openS (keyedS k [114, 101, 112, 108, 121]) (putS n) x).1).toArray⟩), (.int .i64 ((openS (keyedS k [114, 101, 112, 108, 121]) (putS n) x).2))])) hF10 (wantedS rfl) (run_mv rfl (hF10.ev 17 rfl)) rfl (by decide) fun a11 hF11 => ?_
    refine sq (v := (.string ⟨((openS (keyedS k [114, 101, 112, 108, 121]) (putS n) x).1).toArray⟩)) hF11 (wantedS rfl) (run_ext rfl (hF11.ev 10 rfl) rfl) rfl (by decide) fun a12 hF12 => ?_
    refine sq (v := (.int .i64 ((openS (keyedS k [114, 101, 112, 108, 121]) (putS n) x).2))) hF12 (wantedS rfl) (run_ext rfl (hF12.ev 10 rfl) rfl) rfl (by decide) fun a13 hF13 => ?_
    refine sq (v := (.string ⟨((openS (keyedS k [114, 101, 112, 108, 121]) (putS n) x).1).toArray⟩)) hF13 (wantedS rfl) (run_as rfl (hF13.ev 18 rfl)) rfl (by decide) fun a14 hF14 => ?_
    refine sq (v := (.int .i64 ((openS (keyedS k [114, 101, 112, 108, 121]) (putS n) x).2))) hF14 (wantedS rfl) (run_as rfl (hF14.ev 19 rfl)) rfl (by decide) fun a15 hF15 => ?_
    refine sqEnd ?_
    clear hF3 hF4 hF5 hF6 hF7 hF8 hF9 hF10 hF11 hF12 hF13 hF14 hM1 hM2 hM3 hM4
    refine nx ?_
    refine wp_seq ?_
    refine wp_seq ?_
    refine wp_region_lit ?_
    refine sq (v := (.int .i64 ((openS (keyedS k [114, 101, 112, 108, 121]) (putS n) x).2))) hF15 (wantedS rfl) (run_mv rfl (hF15.ev 9 rfl)) rfl (by decide) fun a16 hF16 => ?_
    refine sq (v := (.bool false)) hF16 (wantedS rfl) (run_nei rfl (hF16.ev 20 rfl) rfl (bne_eq_false_iff_eq.2 hok)) rfl (by decide) fun a17 hF17 => ?_
    refine sqEnd ?_
    clear hF15 hF16
    refine nx ?_
    refine wp_cond_false (hF17.ev 21 rfl) ?_
    refine wp_skip ?_
    refine nx ?_
    refine wp_seq ?_
    refine wp_region_lit ?_
    refine sq (v := (.string ⟨((openS (keyedS k [114, 101, 112, 108, 121]) (putS n) x).1).toArray⟩)) hF17 (wantedS rfl) (run_mv rfl (hF17.ev 8 rfl)) rfl (by decide) fun a18 hF18 => ?_
    refine sq (v := (.string ⟨((openS (keyedS k [114, 101, 112, 108, 121]) (putS n) x).1).toArray⟩)) hF18 (wantedS rfl) (run_as rfl (hF18.ev 23 rfl)) rfl (by decide) fun a19 hF19 => ?_
    refine sq (v := (.int .i64 0)) hF19 (wantedS rfl) (run_as rfl rfl) rfl (by decide) fun a20 hF20 => ?_
    refine sqEnd ?_
    clear hF17 hF18 hF19
    refine nx ?_
    refine wp_ret ?_
    exact ret2 hF20 rfl rfl rfl ⟨by unfold answerS replyT; rw [hok], hM5.below⟩
  · skip
    refine walk_enter Tryd.func25 rfl rfl rfl fun a0 hF0 => ?_
    have hM0 := Mem.new w
    refine wp_seq ?_
    refine wp_region_lit ?_
    refine sqNew (cs := (cells8 k)) (t := 24) hF0 hM0 (wantedS rfl) (run_box rfl (hF0.ev 0 rfl)) rfl (by decide) fun g0 a1 w1 hgg0 hb1 hF1 hM1 => ?_
    refine sq (v := (.string ⟨List.toArray []⟩)) hF1 (wantedS rfl) (run_as rfl rfl) rfl (by decide) fun a2 hF2 => ?_
    refine sq (v := (.int .i64 0)) hF2 (wantedS rfl) (run_as rfl rfl) rfl (by decide) fun a3 hF3 => ?_
    refine sqEnd ?_
    clear hF0 hF1 hF2 hM0
    refine nx ?_
    refine wp_seq ?_
    refine wp_region_lit ?_
    refine sq (v := (.agg (cells8 k))) hF3 (wantedS rfl) (run_ldB rfl (hF3.ev 3 rfl) (hM1.at 0 rfl) Tryd.underlying24 rfl sz32k (szOf hLk)) rfl (by decide) fun a4 hF4 => ?_
    refine sqStrs [[114, 101, 112, 108, 121]] hF4 hM1 (wantedS rfl) (run_strs1 rfl rfl) rfl (by decide) fun v1 a5 w2 hsv1 hb2 hF5 hM2 => ?_
    refine sqC (v := (.agg (cells8 (keyedS k [114, 101, 112, 108, 121])))) hF5 hM2 (wantedS rfl) (run_call rfl Tryd.func28 (by kernel_rfl) rfl (mapE2 (hF5.ev 11 rfl) (hF5.ev 12 rfl))) rfl (by decide) (keyed1 k [114, 101, 112, 108, 121] _ w2 hLk (HG.below hM2.below) hsv1 (by first | omega | decide | (simp; done) | (simp; omega))) fun a6 w3 hb3 hF6 hM3 => ?_
    have hS1 := hsv1.below hb3
    refine sq (v := (.int .u64 (n : Int))) hF6 (wantedS rfl) (run_mv rfl (hF6.ev 1 rfl)) rfl (by decide) fun a7 hF7 => ?_
    refine sqC (v := (.string ⟨(putS n).toArray⟩)) hF7 hM3 (wantedS rfl) (run_call rfl Tryd.func32 (by kernel_rfl) rfl (mapE2 (hF7.ev 14 rfl) rfl)) rfl (by decide) (nput_any n w3) fun a8 w4 hb4 hF8 hM4 => ?_
    have hS2 := hS1.below hb4
    refine sq (v := (.string ⟨x.toArray⟩)) hF8 (wantedS rfl) (run_mv rfl (hF8.ev 2 rfl)) rfl (by decide) fun a9 hF9 => ?_
    refine sqC (v := (.tuple #[(.string ⟨((openS (keyedS k [114, 101, 112, 108, 121]) (putS n) x).1).toArray⟩), (.int .i64 ((openS (keyedS k [114, 101, 112, 108, 121]) (putS n) x).2))])) hF9 hM4 (wantedS rfl) (run_call rfl Tryd.func36 (by kernel_rfl) rfl (mapE3 (hF9.ev 13 rfl) (hF9.ev 15 rfl) (hF9.ev 16 rfl))) rfl (by decide) (sopen_any (keyedS k [114, 101, 112, 108, 121]) (putS n) x w4 (HG.below hM4.below) (keyedS_len _ _) (by first | omega | decide | (simp; done) | (simp; omega))) fun a10 w5 hb5 hF10 hM5 => ?_
    have hS3 := hS2.below hb5
    refine sq (v := (.tuple #[(.string ⟨((openS (keyedS k [114, 101, 112, 108, 121]) (putS n) x).1).toArray⟩), (.int .i64 ((openS (keyedS k [114, 101, 112, 108, 121]) (putS n) x).2))])) hF10 (wantedS rfl) (run_mv rfl (hF10.ev 17 rfl)) rfl (by decide) fun a11 hF11 => ?_
    refine sq (v := (.string ⟨((openS (keyedS k [114, 101, 112, 108, 121]) (putS n) x).1).toArray⟩)) hF11 (wantedS rfl) (run_ext rfl (hF11.ev 10 rfl) rfl) rfl (by decide) fun a12 hF12 => ?_
    refine sq (v := (.int .i64 ((openS (keyedS k [114, 101, 112, 108, 121]) (putS n) x).2))) hF12 (wantedS rfl) (run_ext rfl (hF12.ev 10 rfl) rfl) rfl (by decide) fun a13 hF13 => ?_
    refine sq (v := (.string ⟨((openS (keyedS k [114, 101, 112, 108, 121]) (putS n) x).1).toArray⟩)) hF13 (wantedS rfl) (run_as rfl (hF13.ev 18 rfl)) rfl (by decide) fun a14 hF14 => ?_
    refine sq (v := (.int .i64 ((openS (keyedS k [114, 101, 112, 108, 121]) (putS n) x).2))) hF14 (wantedS rfl) (run_as rfl (hF14.ev 19 rfl)) rfl (by decide) fun a15 hF15 => ?_
    refine sqEnd ?_
    clear hF3 hF4 hF5 hF6 hF7 hF8 hF9 hF10 hF11 hF12 hF13 hF14 hM1 hM2 hM3 hM4
    refine nx ?_
    refine wp_seq ?_
    refine wp_seq ?_
    refine wp_region_lit ?_
    refine sq (v := (.int .i64 ((openS (keyedS k [114, 101, 112, 108, 121]) (putS n) x).2))) hF15 (wantedS rfl) (run_mv rfl (hF15.ev 9 rfl)) rfl (by decide) fun a16 hF16 => ?_
    refine sq (v := (.bool true)) hF16 (wantedS rfl) (run_nei rfl (hF16.ev 20 rfl) rfl (bne_iff_ne.2 hok)) rfl (by decide) fun a17 hF17 => ?_
    refine sqEnd ?_
    clear hF15 hF16
    refine nx ?_
    refine wp_cond_true (hF17.ev 21 rfl) ?_
    refine wp_seq ?_
    refine wp_region_lit ?_
    refine sq (v := (.int .i64 ((openS (keyedS k [114, 101, 112, 108, 121]) (putS n) x).2))) hF17 (wantedS rfl) (run_mv rfl (hF17.ev 9 rfl)) rfl (by decide) fun a18 hF18 => ?_
    refine sq (v := (.string ⟨List.toArray []⟩)) hF18 (wantedS rfl) (run_as rfl rfl) rfl (by decide) fun a19 hF19 => ?_
    refine sq (v := (.int .i64 ((openS (keyedS k [114, 101, 112, 108, 121]) (putS n) x).2))) hF19 (wantedS rfl) (run_as rfl (hF19.ev 22 rfl)) rfl (by decide) fun a20 hF20 => ?_
    refine sqEnd ?_
    clear hF17 hF18 hF19
    refine nx ?_
    refine wp_ret ?_
    refine nxRet ?_
    exact ret2 hF20 rfl rfl rfl ⟨by unfold answerS replyT; rw [openS_or _ _ _ hok], hM5.below⟩
set_option maxRecDepth 100000 in
set_option maxHeartbeats 1000000 in
theorem ranswer_any (k : List UInt8) (n : Nat) (x : List UInt8) (w : World) (hLk : k.length = 32) (_hn : n < 2 ^ 64) (hx : x.length < 2 ^ 28) : Calls Tryd.prog 26 #[.agg (cells8 k), .int .u64 (n : Int), .string ⟨x.toArray⟩] w fun e w' => e = .returned (.tuple #[.string ⟨(answerS k n x).1.toArray⟩, .int .i64 (answerS k n x).2]) ∧ Below w.heap.size w w' := by
  have hpl := putS_len n
  refine walk_enter Tryd.func26 rfl rfl rfl fun a0 hF0 => ?_
  have hM0 := Mem.new w
  refine wp_seq ?_
  refine wp_region_lit ?_
  refine sqNew (cs := (cells8 k)) (t := 24) hF0 hM0 (wantedS rfl) (run_box rfl (hF0.ev 0 rfl)) rfl (by decide) fun g0 a1 w1 hgg0 hb1 hF1 hM1 => ?_
  refine sq (v := (.string ⟨List.toArray []⟩)) hF1 (wantedS rfl) (run_as rfl rfl) rfl (by decide) fun a2 hF2 => ?_
  refine sq (v := (.int .i64 0)) hF2 (wantedS rfl) (run_as rfl rfl) rfl (by decide) fun a3 hF3 => ?_
  refine sqEnd ?_
  clear hF0 hF1 hF2 hM0
  refine nx ?_
  refine wp_seq ?_
  refine wp_region_lit ?_
  refine sq (v := (.agg (cells8 k))) hF3 (wantedS rfl) (run_ldB rfl (hF3.ev 3 rfl) (hM1.at 0 rfl) Tryd.underlying24 rfl sz32k (szOf hLk)) rfl (by decide) fun a4 hF4 => ?_
  refine sqC (v := (.agg (cells8 (keyedS k [114, 101, 112, 108, 121])))) hF4 hM1 (wantedS rfl) (run_call rfl Tryd.func16 (by kernel_rfl) rfl (mapE2 (hF4.ev 8 rfl) rfl)) rfl (by decide) (rof43_any k [114, 101, 112, 108, 121] w1 hLk (by first | omega | decide | (simp; done) | (simp; omega))) fun a5 w2 hb2 hF5 hM2 => ?_
  refine sq (v := (.int .u64 (n : Int))) hF5 (wantedS rfl) (run_mv rfl (hF5.ev 1 rfl)) rfl (by decide) fun a6 hF6 => ?_
  refine sqC (v := (.string ⟨(putS n).toArray⟩)) hF6 hM2 (wantedS rfl) (run_call rfl Tryd.func37 (by kernel_rfl) rfl (mapE2 (hF6.ev 10 rfl) rfl)) rfl (by decide) (rput_any n w2 (by omega)) fun a7 w3 hb3 hF7 hM3 => ?_
  refine sq (v := (.string ⟨x.toArray⟩)) hF7 (wantedS rfl) (run_mv rfl (hF7.ev 2 rfl)) rfl (by decide) fun a8 hF8 => ?_
  refine sqC (v := (.tuple #[(.string ⟨((openS (keyedS k [114, 101, 112, 108, 121]) (putS n) x).1).toArray⟩), (.int .i64 ((openS (keyedS k [114, 101, 112, 108, 121]) (putS n) x).2))])) hF8 hM3 (wantedS rfl) (run_call rfl Tryd.func42 (by kernel_rfl) rfl (mapE3 (hF8.ev 9 rfl) (hF8.ev 11 rfl) (hF8.ev 12 rfl))) rfl (by decide) (ropen_any (keyedS k [114, 101, 112, 108, 121]) (putS n) x w3 (keyedS_len _ _) (by first | omega | decide | (simp; done) | (simp; omega))) fun a9 w4 hb4 hF9 hM4 => ?_
  refine sq (v := (.string ⟨((openS (keyedS k [114, 101, 112, 108, 121]) (putS n) x).1).toArray⟩)) hF9 (wantedS rfl) (run_ext rfl (hF9.ev 13 rfl) rfl) rfl (by decide) fun a10 hF10 => ?_
  refine sq (v := (.int .i64 ((openS (keyedS k [114, 101, 112, 108, 121]) (putS n) x).2))) hF10 (wantedS rfl) (run_ext rfl (hF10.ev 13 rfl) rfl) rfl (by decide) fun a11 hF11 => ?_
  refine sq (v := (.string ⟨((openS (keyedS k [114, 101, 112, 108, 121]) (putS n) x).1).toArray⟩)) hF11 (wantedS rfl) (run_as rfl (hF11.ev 14 rfl)) rfl (by decide) fun a12 hF12 => ?_
  refine sq (v := (.int .i64 ((openS (keyedS k [114, 101, 112, 108, 121]) (putS n) x).2))) hF12 (wantedS rfl) (run_as rfl (hF12.ev 15 rfl)) rfl (by decide) fun a13 hF13 => ?_
  refine sqEnd ?_
  clear hF3 hF4 hF5 hF6 hF7 hF8 hF9 hF10 hF11 hF12 hM1 hM2 hM3
  refine nx ?_
  refine wp_ret ?_
  exact ret2 hF13 rfl rfl rfl ⟨rfl, hM4.below⟩
set_option maxRecDepth 100000 in
set_option maxHeartbeats 1000000 in
theorem send_any (c : Ch) (d : List UInt8) (w : World) (HG : Glob w) (hLc : c.k.length = 32) (hcn : c.n < 2 ^ 64) (hm : c.m.length < 2 ^ 27) : Calls Tryd.prog 12 #[.agg (chA c), .string ⟨d.toArray⟩] w fun e w' => e = .returned (.tuple #[.agg (chA (sendS c d).1), .string ⟨(sendS c d).2.1.toArray⟩, .int .i64 (sendS c d).2.2]) ∧ Below w.heap.size w w' := by
  by_cases h1 : 65536 < d.length
  · have hs : sendS c d = (noCh, [], 6) := by unfold sendS; rw [if_pos h1]
    refine walk_enter Tryd.func12 rfl rfl rfl fun a0 hF0 => ?_
    have hM0 := Mem.new w
    refine wp_seq ?_
    refine wp_region_lit ?_
    refine sqNew (cs := (chA c)) (t := 26) hF0 hM0 (wantedS rfl) (run_box rfl (hF0.ev 0 rfl)) rfl (by decide) fun g0 a1 w1 hgg0 hb1 hF1 hM1 => ?_
    refine sqNew (cs := (chA noCh)) (t := 26) hF1 hM1 (wantedS rfl) (run_alloc rfl (by kernel_rfl)) rfl (by decide) fun g1 a2 w2 hgg1 hb2 hF2 hM2 => ?_
    refine sq (v := (.string ⟨List.toArray []⟩)) hF2 (wantedS rfl) (run_as rfl rfl) rfl (by decide) fun a3 hF3 => ?_
    refine sq (v := (.int .i64 0)) hF3 (wantedS rfl) (run_as rfl rfl) rfl (by decide) fun a4 hF4 => ?_
    refine sqEnd ?_
    clear hF0 hF1 hF2 hF3 hM0 hM1
    refine nx ?_
    refine wp_seq ?_
    refine wp_seq ?_
    refine wp_region_lit ?_
    refine sq (v := (.string ⟨d.toArray⟩)) hF4 (wantedS rfl) (run_mv rfl (hF4.ev 1 rfl)) rfl (by decide) fun a5 hF5 => ?_
    refine sq (v := (.int .i64 (d.length : Int))) hF5 (wantedS rfl) (run_len rfl (hF5.ev 9 rfl) rfl Tryd.underlying9) rfl (by decide) fun a6 hF6 => ?_
    refine sq (v := (.bool true)) hF6 (wantedS rfl) (run_gtr rfl (hF6.ev 10 rfl) rfl (decide_eq_true (by omega))) rfl (by decide) fun a7 hF7 => ?_
    refine sqEnd ?_
    clear hF4 hF5 hF6
    refine nx ?_
    refine wp_cond_true (hF7.ev 11 rfl) ?_
    refine wp_seq ?_
    refine wp_region_lit ?_
    refine sq (v := (.agg (chA noCh))) hF7 (wantedS rfl) (run_blt (vs := #[]) (cs := chA noCh) rfl (by simp) built_ch0) rfl (by decide) fun a8 hF8 => ?_
    refine sqStore (i := 0) hF8 hM2 rfl rfl rfl (hF8.ev 4 rfl) (hF8.ev 12 rfl) rfl szCh (chA_size noCh_len) (chA_size noCh_len) (chA_one _) fun a9 w3 hF9 hM3 => ?_
    refine sq (v := (.string ⟨List.toArray []⟩)) hF9 (wantedS rfl) (run_as rfl rfl) rfl (by decide) fun a10 hF10 => ?_
    refine sq (v := (.int .i64 6)) hF10 (wantedS rfl) (run_as rfl rfl) rfl (by decide) fun a11 hF11 => ?_
    refine sqEnd ?_
    clear hF7 hF8 hF9 hF10 hM2
    refine nx ?_
    refine wp_ret ?_
    refine nxRet ?_
    exact retBTT hF11 rfl rfl (hM3.at 0 rfl) Tryd.underlying26 rfl szCh (chA_size noCh_len) rfl rfl ⟨by rw [hs], hM3.below⟩
  by_cases h2 : c.n = mostN
  · have hs : sendS c d = (noCh, [], 2) := by unfold sendS; rw [if_neg h1, if_pos h2]
    unfold mostN at h2
    refine walk_enter Tryd.func12 rfl rfl rfl fun a0 hF0 => ?_
    have hM0 := Mem.new w
    refine wp_seq ?_
    refine wp_region_lit ?_
    refine sqNew (cs := (chA c)) (t := 26) hF0 hM0 (wantedS rfl) (run_box rfl (hF0.ev 0 rfl)) rfl (by decide) fun g0 a1 w1 hgg0 hb1 hF1 hM1 => ?_
    refine sqNew (cs := (chA noCh)) (t := 26) hF1 hM1 (wantedS rfl) (run_alloc rfl (by kernel_rfl)) rfl (by decide) fun g1 a2 w2 hgg1 hb2 hF2 hM2 => ?_
    refine sq (v := (.string ⟨List.toArray []⟩)) hF2 (wantedS rfl) (run_as rfl rfl) rfl (by decide) fun a3 hF3 => ?_
    refine sq (v := (.int .i64 0)) hF3 (wantedS rfl) (run_as rfl rfl) rfl (by decide) fun a4 hF4 => ?_
    refine sqEnd ?_
    clear hF0 hF1 hF2 hF3 hM0 hM1
    refine nx ?_
    refine wp_seq ?_
    refine wp_seq ?_
    refine wp_region_lit ?_
    refine sq (v := (.string ⟨d.toArray⟩)) hF4 (wantedS rfl) (run_mv rfl (hF4.ev 1 rfl)) rfl (by decide) fun a5 hF5 => ?_
    refine sq (v := (.int .i64 (d.length : Int))) hF5 (wantedS rfl) (run_len rfl (hF5.ev 9 rfl) rfl Tryd.underlying9) rfl (by decide) fun a6 hF6 => ?_
    refine sq (v := (.bool false)) hF6 (wantedS rfl) (run_gtr rfl (hF6.ev 10 rfl) rfl (decide_eq_false (by omega))) rfl (by decide) fun a7 hF7 => ?_
    refine sqEnd ?_
    clear hF4 hF5 hF6
    refine nx ?_
    refine wp_cond_false (hF7.ev 11 rfl) ?_
    refine wp_skip ?_
    refine nx ?_
    refine wp_seq ?_
    refine wp_seq ?_
    refine wp_region_lit ?_
    refine sq (v := (.pointer (some ⟨g0, 1, none⟩))) hF7 (wantedS rfl) (run_fldA (m := 1) (s := 1) rfl (hF7.ev 2 rfl) Tryd.underlying26 rfl rfl (by kernel_rfl) (by decide)) rfl (by decide) fun a8 hF8 => ?_
    refine sq (v := (.int .u64 (c.n : Int))) hF8 (wantedS rfl) (run_ldF rfl (hF8.ev 13 rfl) (hM2.at 1 rfl) rfl (by kernel_rfl)) rfl (by decide) fun a9 hF9 => ?_
    refine sq (v := (.bool true)) hF9 (wantedS rfl) (run_eqi rfl (hF9.ev 14 rfl) rfl (beq_iff_eq.2 (by omega))) rfl (by decide) fun a10 hF10 => ?_
    refine sqEnd ?_
    clear hF7 hF8 hF9
    refine nx ?_
    refine wp_cond_true (hF10.ev 15 rfl) ?_
    refine wp_seq ?_
    refine wp_region_lit ?_
    refine sq (v := (.agg (chA noCh))) hF10 (wantedS rfl) (run_blt (vs := #[]) (cs := chA noCh) rfl (by simp) built_ch0) rfl (by decide) fun a11 hF11 => ?_
    refine sqStore (i := 0) hF11 hM2 rfl rfl rfl (hF11.ev 4 rfl) (hF11.ev 16 rfl) rfl szCh (chA_size noCh_len) (chA_size noCh_len) (chA_one _) fun a12 w3 hF12 hM3 => ?_
    refine sq (v := (.string ⟨List.toArray []⟩)) hF12 (wantedS rfl) (run_as rfl rfl) rfl (by decide) fun a13 hF13 => ?_
    refine sq (v := (.int .i64 2)) hF13 (wantedS rfl) (run_as rfl rfl) rfl (by decide) fun a14 hF14 => ?_
    refine sqEnd ?_
    clear hF10 hF11 hF12 hF13 hM2
    refine nx ?_
    refine wp_ret ?_
    refine nxRet ?_
    exact retBTT hF14 rfl rfl (hM3.at 0 rfl) Tryd.underlying26 rfl szCh (chA_size noCh_len) rfl rfl ⟨by rw [hs], hM3.below⟩
  have hs : sendS c d = (goS c, frameS c d, 0) := sendS_ok c d (by omega) h2
  unfold mostN at h2
  have hpl := putS_len c.n
  have hhl := headS_len c.m c.n (by omega)
  have hbl := boxS_len c d
  refine walk_enter Tryd.func12 rfl rfl rfl fun a0 hF0 => ?_
  have hM0 := Mem.new w
  refine wp_seq ?_
  refine wp_region_lit ?_
  refine sqNew (cs := (chA c)) (t := 26) hF0 hM0 (wantedS rfl) (run_box rfl (hF0.ev 0 rfl)) rfl (by decide) fun g0 a1 w1 hgg0 hb1 hF1 hM1 => ?_
  refine sqNew (cs := (chA noCh)) (t := 26) hF1 hM1 (wantedS rfl) (run_alloc rfl (by kernel_rfl)) rfl (by decide) fun g1 a2 w2 hgg1 hb2 hF2 hM2 => ?_
  refine sq (v := (.string ⟨List.toArray []⟩)) hF2 (wantedS rfl) (run_as rfl rfl) rfl (by decide) fun a3 hF3 => ?_
  refine sq (v := (.int .i64 0)) hF3 (wantedS rfl) (run_as rfl rfl) rfl (by decide) fun a4 hF4 => ?_
  refine sqEnd ?_
  clear hF0 hF1 hF2 hF3 hM0 hM1
  refine nx ?_
  refine wp_seq ?_
  refine wp_seq ?_
  refine wp_region_lit ?_
  refine sq (v := (.string ⟨d.toArray⟩)) hF4 (wantedS rfl) (run_mv rfl (hF4.ev 1 rfl)) rfl (by decide) fun a5 hF5 => ?_
  refine sq (v := (.int .i64 (d.length : Int))) hF5 (wantedS rfl) (run_len rfl (hF5.ev 9 rfl) rfl Tryd.underlying9) rfl (by decide) fun a6 hF6 => ?_
  refine sq (v := (.bool false)) hF6 (wantedS rfl) (run_gtr rfl (hF6.ev 10 rfl) rfl (decide_eq_false (by omega))) rfl (by decide) fun a7 hF7 => ?_
  refine sqEnd ?_
  clear hF4 hF5 hF6
  refine nx ?_
  refine wp_cond_false (hF7.ev 11 rfl) ?_
  refine wp_skip ?_
  refine nx ?_
  refine wp_seq ?_
  refine wp_seq ?_
  refine wp_region_lit ?_
  refine sq (v := (.pointer (some ⟨g0, 1, none⟩))) hF7 (wantedS rfl) (run_fldA (m := 1) (s := 1) rfl (hF7.ev 2 rfl) Tryd.underlying26 rfl rfl (by kernel_rfl) (by decide)) rfl (by decide) fun a8 hF8 => ?_
  refine sq (v := (.int .u64 (c.n : Int))) hF8 (wantedS rfl) (run_ldF rfl (hF8.ev 13 rfl) (hM2.at 1 rfl) rfl (by kernel_rfl)) rfl (by decide) fun a9 hF9 => ?_
  refine sq (v := (.bool false)) hF9 (wantedS rfl) (run_eqi rfl (hF9.ev 14 rfl) rfl (beq_eq_false_iff_ne.2 (by omega))) rfl (by decide) fun a10 hF10 => ?_
  refine sqEnd ?_
  clear hF7 hF8 hF9
  refine nx ?_
  refine wp_cond_false (hF10.ev 15 rfl) ?_
  refine wp_skip ?_
  refine nx ?_
  refine wp_seq ?_
  obtain ⟨KL, hKL⟩ : ∃ KL, KL = [kval (.pointer (some ⟨g0, 2, none⟩)), kval (.agg (cells8 c.k)), kstrs [[115, 101, 110, 100]], kval (.agg (cells8 (keyedS c.k [115, 101, 110, 100]))), kval (.pointer (some ⟨g0, 1, none⟩)), kval (.int .u64 (c.n : Int)), kval (.agg (cells8 (nonceS (putS c.n)))), kval (.pointer (some ⟨g0, 0, none⟩)), kval (.string ⟨c.m.toArray⟩), kval (.pointer (some ⟨g0, 1, none⟩)), kval (.int .u64 (c.n : Int)), kval (.string ⟨(headS c.m c.n).toArray⟩), kval (.string ⟨d.toArray⟩), kval (.string ⟨(boxS c d).toArray⟩), kval (.string ⟨(boxS c d).toArray⟩)] := ⟨_, rfl⟩
  have K0 : KL.getD 0 kany = kval (.pointer (some ⟨g0, 2, none⟩)) := by rw [hKL]; rfl
  have K1 : KL.getD 1 kany = kval (.agg (cells8 c.k)) := by rw [hKL]; rfl
  have K2 : KL.getD 2 kany = kstrs [[115, 101, 110, 100]] := by rw [hKL]; rfl
  have K3 : KL.getD 3 kany = kval (.agg (cells8 (keyedS c.k [115, 101, 110, 100]))) := by rw [hKL]; rfl
  have K4 : KL.getD 4 kany = kval (.pointer (some ⟨g0, 1, none⟩)) := by rw [hKL]; rfl
  have K5 : KL.getD 5 kany = kval (.int .u64 (c.n : Int)) := by rw [hKL]; rfl
  have K6 : KL.getD 6 kany = kval (.agg (cells8 (nonceS (putS c.n)))) := by rw [hKL]; rfl
  have K7 : KL.getD 7 kany = kval (.pointer (some ⟨g0, 0, none⟩)) := by rw [hKL]; rfl
  have K8 : KL.getD 8 kany = kval (.string ⟨c.m.toArray⟩) := by rw [hKL]; rfl
  have K9 : KL.getD 9 kany = kval (.pointer (some ⟨g0, 1, none⟩)) := by rw [hKL]; rfl
  have K10 : KL.getD 10 kany = kval (.int .u64 (c.n : Int)) := by rw [hKL]; rfl
  have K11 : KL.getD 11 kany = kval (.string ⟨(headS c.m c.n).toArray⟩) := by rw [hKL]; rfl
  have K12 : KL.getD 12 kany = kval (.string ⟨d.toArray⟩) := by rw [hKL]; rfl
  have K13 : KL.getD 13 kany = kval (.string ⟨(boxS c d).toArray⟩) := by rw [hKL]; rfl
  have K14 : KL.getD 14 kany = kval (.string ⟨(boxS c d).toArray⟩) := by rw [hKL]; rfl
  clear hKL
  refine wp_region_kd 49 (by kernel_rfl) (by kernel_rfl) (by kernel_rfl) hF10.size KL ?_ ?_
  · refine ⟨?_, ?_, ?_, ?_, ?_, ?_, ?_, ?_, ?_, ?_, ?_, ?_, ?_, ?_, ?_, trivial⟩
    · refine asks_mk fun a W hS hh hd => ⟨wanted_yes rfl, ?_⟩
      exact giv_run (run_fldA (m := 32) (s := 2) rfl (eval_tmp (hh 2 _ rfl (hF10.at 2 rfl))) Tryd.underlying26 rfl rfl (by kernel_rfl) (by decide)) K0
    · refine asks_mk fun a W hS hh hd => ⟨wanted_yes rfl, ?_⟩
      exact giv_run (run_ldK rfl (eval_tmp (hd.val (j := 0) (s := 17) (by kernel_rfl) K0)) ((hM2.grow hS).at 1 rfl) hLc) K1
    · refine asks_mk fun a W hS hh hd => ⟨wanted_yes rfl, ?_⟩
      exact giv_strs [[115, 101, 110, 100]] 9 (run_strs1 rfl rfl) K2
    · refine asks_mk fun a W hS hh hd => ⟨wanted_yes rfl, ?_⟩
      obtain ⟨v2, e2, s2⟩ := hd.strs (j := 2) (s := 19) (by kernel_rfl) K2
      exact giv_call (run_call rfl Tryd.func28 (by kernel_rfl) rfl (mapE2 (eval_tmp (hd.val (j := 1) (s := 18) (by kernel_rfl) K1)) (eval_tmp e2))) (keyed1 c.k [115, 101, 110, 100] _ W hLc (HG.below (hM2.grow hS).below) s2 (by first | omega | decide | (simp; done) | (simp; omega))) K3
    · refine asks_mk fun a W hS hh hd => ⟨wanted_yes rfl, ?_⟩
      exact giv_run (run_fldA (m := 1) (s := 1) rfl (eval_tmp (hh 2 _ rfl (hF10.at 2 rfl))) Tryd.underlying26 rfl rfl (by kernel_rfl) (by decide)) K4
    · refine asks_mk fun a W hS hh hd => ⟨wanted_yes rfl, ?_⟩
      exact giv_run (run_ldF rfl (eval_tmp (hd.val (j := 4) (s := 21) (by kernel_rfl) K4)) ((hM2.grow hS).at 1 rfl) rfl (by kernel_rfl)) K5
    · refine asks_mk fun a W hS hh hd => ⟨wanted_yes rfl, ?_⟩
      exact giv_call (run_call rfl Tryd.func29 (by kernel_rfl) rfl (mapE1 (eval_tmp (hd.val (j := 5) (s := 22) (by kernel_rfl) K5)))) (sesnonce_any c.n W) K6
    · refine asks_mk fun a W hS hh hd => ⟨wanted_yes rfl, ?_⟩
      exact giv_run (run_fldA (m := 1) (s := 0) rfl (eval_tmp (hh 2 _ rfl (hF10.at 2 rfl))) Tryd.underlying26 rfl rfl (by kernel_rfl) (by decide)) K7
    · refine asks_mk fun a W hS hh hd => ⟨wanted_yes rfl, ?_⟩
      exact giv_run (run_ldF rfl (eval_tmp (hd.val (j := 7) (s := 24) (by kernel_rfl) K7)) ((hM2.grow hS).at 1 rfl) rfl (by kernel_rfl)) K8
    · refine asks_mk fun a W hS hh hd => ⟨wanted_yes rfl, ?_⟩
      exact giv_run (run_fldA (m := 1) (s := 1) rfl (eval_tmp (hh 2 _ rfl (hF10.at 2 rfl))) Tryd.underlying26 rfl rfl (by kernel_rfl) (by decide)) K9
    · refine asks_mk fun a W hS hh hd => ⟨wanted_yes rfl, ?_⟩
      exact giv_run (run_ldF rfl (eval_tmp (hd.val (j := 9) (s := 26) (by kernel_rfl) K9)) ((hM2.grow hS).at 1 rfl) rfl (by kernel_rfl)) K10
    · refine asks_mk fun a W hS hh hd => ⟨wanted_yes rfl, ?_⟩
      exact giv_call (run_call rfl Tryd.func30 (by kernel_rfl) rfl (mapE2 (eval_tmp (hd.val (j := 8) (s := 25) (by kernel_rfl) K8)) (eval_tmp (hd.val (j := 10) (s := 27) (by kernel_rfl) K10)))) (head_any c.m c.n W (by first | omega | decide | (simp; done) | (simp; omega))) K11
    · refine asks_mk fun a W hS hh hd => ⟨wanted_yes rfl, ?_⟩
      exact giv_run (run_mv rfl (eval_tmp (hh 1 _ rfl (hF10.at 1 rfl)))) K12
    · refine asks_mk fun a W hS hh hd => ⟨wanted_yes rfl, ?_⟩
      exact giv_call (run_call rfl Tryd.func27 (by kernel_rfl) rfl (mapE4 (eval_tmp (hd.val (j := 3) (s := 20) (by kernel_rfl) K3)) (eval_tmp (hd.val (j := 6) (s := 23) (by kernel_rfl) K6)) (eval_tmp (hd.val (j := 11) (s := 28) (by kernel_rfl) K11)) (eval_tmp (hd.val (j := 12) (s := 29) (by kernel_rfl) K12)))) (sseal_any (keyedS c.k [115, 101, 110, 100]) (nonceS (putS c.n)) (headS c.m c.n) d W (HG.below (hM2.grow hS).below) (keyedS_len _ _) (nonceS_len _) (by omega)) K13
    · refine asks_mk fun a W hS hh hd => ⟨wanted_yes rfl, ?_⟩
      exact giv_run (run_as rfl (eval_tmp (hd.val (j := 13) (s := 30) (by kernel_rfl) K13))) K14
  · intro a11 w3 hb3 hK
    have e0 := hK.val (i := 0) (s := 17) (by kernel_rfl) K0
    have e1 := hK.val (i := 1) (s := 18) (by kernel_rfl) K1
    obtain ⟨v2, e2, hsv2⟩ := hK.strs (i := 2) (s := 19) (by kernel_rfl) K2
    have e3 := hK.val (i := 3) (s := 20) (by kernel_rfl) K3
    have e4 := hK.val (i := 4) (s := 21) (by kernel_rfl) K4
    have e5 := hK.val (i := 5) (s := 22) (by kernel_rfl) K5
    have e6 := hK.val (i := 6) (s := 23) (by kernel_rfl) K6
    have e7 := hK.val (i := 7) (s := 24) (by kernel_rfl) K7
    have e8 := hK.val (i := 8) (s := 25) (by kernel_rfl) K8
    have e9 := hK.val (i := 9) (s := 26) (by kernel_rfl) K9
    have e10 := hK.val (i := 10) (s := 27) (by kernel_rfl) K10
    have e11 := hK.val (i := 11) (s := 28) (by kernel_rfl) K11
    have e12 := hK.val (i := 12) (s := 29) (by kernel_rfl) K12
    have e13 := hK.val (i := 13) (s := 30) (by kernel_rfl) K13
    have e14 := hK.val (i := 14) (s := 7) (by kernel_rfl) K14
    have hF11 : Fr a11 49 [(0, (.agg (chA c))), (1, (.string ⟨d.toArray⟩)), (2, (.pointer (some ⟨g0, 0, none⟩))), (4, (.pointer (some ⟨g1, 0, none⟩))), (5, (.string ⟨List.toArray []⟩)), (6, (.int .i64 0)), (7, (.string ⟨(boxS c d).toArray⟩)), (9, (.string ⟨d.toArray⟩)), (10, (.int .i64 (d.length : Int))), (11, (.bool false)), (13, (.pointer (some ⟨g0, 1, none⟩))), (14, (.int .u64 (c.n : Int))), (15, (.bool false))] := (hK.fr hF10 [(.pointer (some ⟨g0, 2, none⟩)), (.agg (cells8 c.k)), v2, (.agg (cells8 (keyedS c.k [115, 101, 110, 100]))), (.pointer (some ⟨g0, 1, none⟩)), (.int .u64 (c.n : Int)), (.agg (cells8 (nonceS (putS c.n)))), (.pointer (some ⟨g0, 0, none⟩)), (.string ⟨c.m.toArray⟩), (.pointer (some ⟨g0, 1, none⟩)), (.int .u64 (c.n : Int)), (.string ⟨(headS c.m c.n).toArray⟩), (.string ⟨d.toArray⟩), (.string ⟨(boxS c d).toArray⟩), (.string ⟨(boxS c d).toArray⟩)] ⟨e0, e1, e2, e3, e4, e5, e6, e7, e8, e9, e10, e11, e12, e13, e14, trivial⟩).sub ⟨rfl, rfl, rfl, rfl, rfl, rfl, rfl, rfl, rfl, rfl, rfl, rfl, rfl, trivial⟩
    have hM3 := hM2.grow hb3
    clear hK K0 e0 K1 e1 K2 e2 K3 e3 K4 e4 K5 e5 K6 e6 K7 e7 K8 e8 K9 e9 K10 e10 K11 e11 K12 e12 K13 e13 K14 e14
    clear hF10 hM2
    refine nx ?_
    refine wp_seq ?_
    obtain ⟨KL, hKL⟩ : ∃ KL, KL = [kval (.pointer (some ⟨g0, 0, none⟩)), kval (.string ⟨c.m.toArray⟩), kval (.pointer (some ⟨g0, 1, none⟩)), kval (.int .u64 (c.n : Int)), kval (.string ⟨(putS c.n).toArray⟩), kval (.string ⟨(boxS c d).toArray⟩), kstrs [c.m, (putS c.n), (boxS c d)], kval (.string ⟨(rowS [c.m, (putS c.n), (boxS c d)]).toArray⟩), kval (.string ⟨(rowS [c.m, (putS c.n), (boxS c d)]).toArray⟩)] := ⟨_, rfl⟩
    have K0 : KL.getD 0 kany = kval (.pointer (some ⟨g0, 0, none⟩)) := by rw [hKL]; rfl
    have K1 : KL.getD 1 kany = kval (.string ⟨c.m.toArray⟩) := by rw [hKL]; rfl
    have K2 : KL.getD 2 kany = kval (.pointer (some ⟨g0, 1, none⟩)) := by rw [hKL]; rfl
    have K3 : KL.getD 3 kany = kval (.int .u64 (c.n : Int)) := by rw [hKL]; rfl
    have K4 : KL.getD 4 kany = kval (.string ⟨(putS c.n).toArray⟩) := by rw [hKL]; rfl
    have K5 : KL.getD 5 kany = kval (.string ⟨(boxS c d).toArray⟩) := by rw [hKL]; rfl
    have K6 : KL.getD 6 kany = kstrs [c.m, (putS c.n), (boxS c d)] := by rw [hKL]; rfl
    have K7 : KL.getD 7 kany = kval (.string ⟨(rowS [c.m, (putS c.n), (boxS c d)]).toArray⟩) := by rw [hKL]; rfl
    have K8 : KL.getD 8 kany = kval (.string ⟨(rowS [c.m, (putS c.n), (boxS c d)]).toArray⟩) := by rw [hKL]; rfl
    clear hKL
    refine wp_region_kd 49 (by kernel_rfl) (by kernel_rfl) (by kernel_rfl) hF11.size KL ?_ ?_
    · refine ⟨?_, ?_, ?_, ?_, ?_, ?_, ?_, ?_, ?_, trivial⟩
      · refine asks_mk fun a W hS hh hd => ⟨wanted_yes rfl, ?_⟩
        exact giv_run (run_fldA (m := 1) (s := 0) rfl (eval_tmp (hh 2 _ rfl (hF11.at 2 rfl))) Tryd.underlying26 rfl rfl (by kernel_rfl) (by decide)) K0
      · refine asks_mk fun a W hS hh hd => ⟨wanted_yes rfl, ?_⟩
        exact giv_run (run_ldF rfl (eval_tmp (hd.val (j := 0) (s := 31) (by kernel_rfl) K0)) ((hM3.grow hS).at 1 rfl) rfl (by kernel_rfl)) K1
      · refine asks_mk fun a W hS hh hd => ⟨wanted_yes rfl, ?_⟩
        exact giv_run (run_fldA (m := 1) (s := 1) rfl (eval_tmp (hh 2 _ rfl (hF11.at 2 rfl))) Tryd.underlying26 rfl rfl (by kernel_rfl) (by decide)) K2
      · refine asks_mk fun a W hS hh hd => ⟨wanted_yes rfl, ?_⟩
        exact giv_run (run_ldF rfl (eval_tmp (hd.val (j := 2) (s := 33) (by kernel_rfl) K2)) ((hM3.grow hS).at 1 rfl) rfl (by kernel_rfl)) K3
      · refine asks_mk fun a W hS hh hd => ⟨wanted_yes rfl, ?_⟩
        exact giv_call (run_call rfl Tryd.func32 (by kernel_rfl) rfl (mapE2 (eval_tmp (hd.val (j := 3) (s := 34) (by kernel_rfl) K3)) rfl)) (nput_any c.n W) K4
      · refine asks_mk fun a W hS hh hd => ⟨wanted_yes rfl, ?_⟩
        exact giv_run (run_mv rfl (eval_tmp (hh 7 _ rfl (hF11.at 7 rfl)))) K5
      · refine asks_mk fun a W hS hh hd => ⟨wanted_yes rfl, ?_⟩
        exact giv_strs [c.m, (putS c.n), (boxS c d)] 9 (run_strs3 rfl (eval_tmp (hd.val (j := 1) (s := 32) (by kernel_rfl) K1)) (eval_tmp (hd.val (j := 4) (s := 35) (by kernel_rfl) K4)) (eval_tmp (hd.val (j := 5) (s := 36) (by kernel_rfl) K5))) K6
      · refine asks_mk fun a W hS hh hd => ⟨wanted_yes rfl, ?_⟩
        obtain ⟨v6, e6, s6⟩ := hd.strs (j := 6) (s := 37) (by kernel_rfl) K6
        exact giv_call (run_call rfl Tryd.func31 (by kernel_rfl) rfl (mapE1 (eval_tmp e6))) (nrow_any [c.m, (putS c.n), (boxS c d)] _ W s6 (by simp [putS_len, hbl]; omega) (by simp)) K7
      · refine asks_mk fun a W hS hh hd => ⟨wanted_yes rfl, ?_⟩
        exact giv_run (run_as rfl (eval_tmp (hd.val (j := 7) (s := 38) (by kernel_rfl) K7))) K8
    · intro a12 w4 hb4 hK
      have e0 := hK.val (i := 0) (s := 31) (by kernel_rfl) K0
      have e1 := hK.val (i := 1) (s := 32) (by kernel_rfl) K1
      have e2 := hK.val (i := 2) (s := 33) (by kernel_rfl) K2
      have e3 := hK.val (i := 3) (s := 34) (by kernel_rfl) K3
      have e4 := hK.val (i := 4) (s := 35) (by kernel_rfl) K4
      have e5 := hK.val (i := 5) (s := 36) (by kernel_rfl) K5
      obtain ⟨v3, e6, hsv3⟩ := hK.strs (i := 6) (s := 37) (by kernel_rfl) K6
      have e7 := hK.val (i := 7) (s := 38) (by kernel_rfl) K7
      have e8 := hK.val (i := 8) (s := 8) (by kernel_rfl) K8
      have hF12 : Fr a12 49 [(0, (.agg (chA c))), (1, (.string ⟨d.toArray⟩)), (2, (.pointer (some ⟨g0, 0, none⟩))), (4, (.pointer (some ⟨g1, 0, none⟩))), (5, (.string ⟨List.toArray []⟩)), (6, (.int .i64 0)), (8, (.string ⟨(rowS [c.m, (putS c.n), (boxS c d)]).toArray⟩)), (9, (.string ⟨d.toArray⟩)), (10, (.int .i64 (d.length : Int))), (11, (.bool false)), (13, (.pointer (some ⟨g0, 1, none⟩))), (14, (.int .u64 (c.n : Int))), (15, (.bool false))] := (hK.fr hF11 [(.pointer (some ⟨g0, 0, none⟩)), (.string ⟨c.m.toArray⟩), (.pointer (some ⟨g0, 1, none⟩)), (.int .u64 (c.n : Int)), (.string ⟨(putS c.n).toArray⟩), (.string ⟨(boxS c d).toArray⟩), v3, (.string ⟨(rowS [c.m, (putS c.n), (boxS c d)]).toArray⟩), (.string ⟨(rowS [c.m, (putS c.n), (boxS c d)]).toArray⟩)] ⟨e0, e1, e2, e3, e4, e5, e6, e7, e8, trivial⟩).sub ⟨rfl, rfl, rfl, rfl, rfl, rfl, rfl, rfl, rfl, rfl, rfl, rfl, rfl, trivial⟩
      have hM4 := hM3.grow hb4
      have hS1 := hsv2.below hb4
      clear hK K0 e0 K1 e1 K2 e2 K3 e3 K4 e4 K5 e5 K6 e6 K7 e7 K8 e8
      clear hF11 hM3
      refine nx ?_
      refine wp_seq ?_
      obtain ⟨KL, hKL⟩ : ∃ KL : List (Kr w4.heap.size), KL = [krval (.pointer (some ⟨g0, 0, none⟩)), krval (.string ⟨c.m.toArray⟩), krval (.pointer (some ⟨g0, 1, none⟩)), krval (.int .u64 (c.n : Int)), krval (.int .u64 ((c.n + 1 : Nat) : Int)), krval (.pointer (some ⟨g0, 2, none⟩)), krval (.agg (cells8 c.k)), krval (.agg (cells8 (nextS c.k))), krval (.agg (chA (Ch.mk c.m (c.n + 1) (nextS c.k)))), krval (.string ⟨(rowS [c.m, (putS c.n), (boxS c d)]).toArray⟩), krblk g1 26 (chA (Ch.mk c.m (c.n + 1) (nextS c.k))), krval (.string ⟨(rowS [c.m, (putS c.n), (boxS c d)]).toArray⟩), krval (.int .i64 0)] := ⟨_, rfl⟩
      have K0 : KL.getD 0 krany = krval (.pointer (some ⟨g0, 0, none⟩)) := by rw [hKL]; rfl
      have K1 : KL.getD 1 krany = krval (.string ⟨c.m.toArray⟩) := by rw [hKL]; rfl
      have K2 : KL.getD 2 krany = krval (.pointer (some ⟨g0, 1, none⟩)) := by rw [hKL]; rfl
      have K3 : KL.getD 3 krany = krval (.int .u64 (c.n : Int)) := by rw [hKL]; rfl
      have K4 : KL.getD 4 krany = krval (.int .u64 ((c.n + 1 : Nat) : Int)) := by rw [hKL]; rfl
      have K5 : KL.getD 5 krany = krval (.pointer (some ⟨g0, 2, none⟩)) := by rw [hKL]; rfl
      have K6 : KL.getD 6 krany = krval (.agg (cells8 c.k)) := by rw [hKL]; rfl
      have K7 : KL.getD 7 krany = krval (.agg (cells8 (nextS c.k))) := by rw [hKL]; rfl
      have K8 : KL.getD 8 krany = krval (.agg (chA (Ch.mk c.m (c.n + 1) (nextS c.k)))) := by rw [hKL]; rfl
      have K9 : KL.getD 9 krany = krval (.string ⟨(rowS [c.m, (putS c.n), (boxS c d)]).toArray⟩) := by rw [hKL]; rfl
      have K10 : KL.getD 10 krany = krblk g1 26 (chA (Ch.mk c.m (c.n + 1) (nextS c.k))) := by rw [hKL]; rfl
      have K11 : KL.getD 11 krany = krval (.string ⟨(rowS [c.m, (putS c.n), (boxS c d)]).toArray⟩) := by rw [hKL]; rfl
      have K12 : KL.getD 12 krany = krval (.int .i64 0) := by rw [hKL]; rfl
      have hKR : KL.map (·.row) = List.replicate 10 none ++ some g1 :: List.replicate 2 none := by rw [hKL]; rfl
      clear hKL
      refine wp_region_k1 (j := 0) 49 10 2 (by kernel_rfl) (by kernel_rfl) (by kernel_rfl) hF12.size KL hM4 rfl (chA_size noCh_len) K10 hKR ?_ (by kernel_rfl) fun a13 w5 hgr5 hM5 hK => ?_
      · refine ⟨?_, ?_, ?_, ?_, ?_, ?_, ?_, ?_, ?_, ?_, ?_, ?_, ?_, trivial⟩
        · refine asksr_mk fun a W hS hh hd => ⟨wanted_yes rfl, ?_⟩
          exact givr_run (run_fldA (m := 1) (s := 0) rfl (eval_tmp (hh 2 _ rfl (hF12.at 2 rfl))) Tryd.underlying26 rfl rfl (by kernel_rfl) (by decide)) K0
        · refine asksr_mk fun a W hS hh hd => ⟨wanted_yes rfl, ?_⟩
          exact givr_run (run_ldF rfl (eval_tmp (hd.val (j := 0) (s := 39) (by kernel_rfl) K0)) ((hM4.alm 0 rfl hS).at 1 rfl) rfl (by kernel_rfl)) K1
        · refine asksr_mk fun a W hS hh hd => ⟨wanted_yes rfl, ?_⟩
          exact givr_run (run_fldA (m := 1) (s := 1) rfl (eval_tmp (hh 2 _ rfl (hF12.at 2 rfl))) Tryd.underlying26 rfl rfl (by kernel_rfl) (by decide)) K2
        · refine asksr_mk fun a W hS hh hd => ⟨wanted_yes rfl, ?_⟩
          exact givr_run (run_ldF rfl (eval_tmp (hd.val (j := 2) (s := 41) (by kernel_rfl) K2)) ((hM4.alm 0 rfl hS).at 1 rfl) rfl (by kernel_rfl)) K3
        · refine asksr_mk fun a W hS hh hd => ⟨wanted_yes rfl, ?_⟩
          exact givr_run (run_add (r := ((c.n + 1 : Nat) : Int)) rfl (eval_tmp (hd.val (j := 3) (s := 42) (by kernel_rfl) K3)) rfl (by rw [IntKind.wrap_u64]; omega)) K4
        · refine asksr_mk fun a W hS hh hd => ⟨wanted_yes rfl, ?_⟩
          exact givr_run (run_fldA (m := 32) (s := 2) rfl (eval_tmp (hh 2 _ rfl (hF12.at 2 rfl))) Tryd.underlying26 rfl rfl (by kernel_rfl) (by decide)) K5
        · refine asksr_mk fun a W hS hh hd => ⟨wanted_yes rfl, ?_⟩
          exact givr_run (run_ldK rfl (eval_tmp (hd.val (j := 5) (s := 44) (by kernel_rfl) K5)) ((hM4.alm 0 rfl hS).at 1 rfl) hLc) K6
        · refine asksr_mk fun a W hS hh hd => ⟨wanted_yes rfl, ?_⟩
          exact givr_call (run_call rfl Tryd.func21 (by kernel_rfl) rfl (mapE1 (eval_tmp (hd.val (j := 6) (s := 45) (by kernel_rfl) K6)))) (next_any c.k W (HG.below (hM4.alm 0 rfl hS).below) hLc) K7
        · refine asksr_mk fun a W hS hh hd => ⟨wanted_yes rfl, ?_⟩
          exact givr_run (run_blt (vs := #[(0, .string ⟨c.m.toArray⟩), (1, .int .u64 ((c.n + 1 : Nat) : Int)), (2, .agg (cells8 (nextS c.k)))]) (cs := chA (Ch.mk c.m (c.n + 1) (nextS c.k))) rfl (bltE3 (eval_tmp (hd.val (j := 1) (s := 40) (by kernel_rfl) K1)) (eval_tmp (hd.val (j := 4) (s := 43) (by kernel_rfl) K4)) (eval_tmp (hd.val (j := 7) (s := 46) (by kernel_rfl) K7))) (built_ch _ (c.n + 1) _ (nextS_len _))) K8
        · refine asksr_mk fun a W hS hh hd => ⟨wanted_yes rfl, ?_⟩
          exact givr_run (run_mv rfl (eval_tmp (hh 8 _ rfl (hF12.at 8 rfl)))) K9
        · refine asksr_mk fun a W hS hh hd => ⟨wanted_yes rfl, ?_⟩
          exact givr_store hS 26 _ _ rfl g1 34 26 (chA (Ch.mk c.m (c.n + 1) (nextS c.k))) (eval_tmp (hh 4 _ rfl (hF12.at 4 rfl))) (eval_tmp (hd.val (j := 8) (s := 47) (by kernel_rfl) K8)) (by simp) szCh (chA_sizeM (nextS_len _)) (chA_one _) K10
        · refine asksr_mk fun a W hS hh hd => ⟨wanted_yes rfl, ?_⟩
          exact givr_run (run_as rfl (eval_tmp (hd.val (j := 9) (s := 48) (by kernel_rfl) K9))) K11
        · refine asksr_mk fun a W hS hh hd => ⟨wanted_yes rfl, ?_⟩
          exact givr_run (run_as rfl rfl) K12
      have e0 := hK.rval (i := 0) (s := 39) (by kernel_rfl) K0
      have e1 := hK.rval (i := 1) (s := 40) (by kernel_rfl) K1
      have e2 := hK.rval (i := 2) (s := 41) (by kernel_rfl) K2
      have e3 := hK.rval (i := 3) (s := 42) (by kernel_rfl) K3
      have e4 := hK.rval (i := 4) (s := 43) (by kernel_rfl) K4
      have e5 := hK.rval (i := 5) (s := 44) (by kernel_rfl) K5
      have e6 := hK.rval (i := 6) (s := 45) (by kernel_rfl) K6
      have e7 := hK.rval (i := 7) (s := 46) (by kernel_rfl) K7
      have e8 := hK.rval (i := 8) (s := 47) (by kernel_rfl) K8
      have e9 := hK.rval (i := 9) (s := 48) (by kernel_rfl) K9
      have e10 : True := trivial
      have e11 := hK.rval (i := 11) (s := 5) (by kernel_rfl) K11
      have e12 := hK.rval (i := 12) (s := 6) (by kernel_rfl) K12
      have hF13 : Fr a13 49 [(0, (.agg (chA c))), (1, (.string ⟨d.toArray⟩)), (2, (.pointer (some ⟨g0, 0, none⟩))), (4, (.pointer (some ⟨g1, 0, none⟩))), (5, (.string ⟨(rowS [c.m, (putS c.n), (boxS c d)]).toArray⟩)), (6, (.int .i64 0)), (9, (.string ⟨d.toArray⟩)), (10, (.int .i64 (d.length : Int))), (11, (.bool false)), (13, (.pointer (some ⟨g0, 1, none⟩))), (14, (.int .u64 (c.n : Int))), (15, (.bool false)), (47, (.agg (chA (Ch.mk c.m (c.n + 1) (nextS c.k))))), (48, (.string ⟨(rowS [c.m, (putS c.n), (boxS c d)]).toArray⟩))] := (hK.fr hF12 [(.pointer (some ⟨g0, 0, none⟩)), (.string ⟨c.m.toArray⟩), (.pointer (some ⟨g0, 1, none⟩)), (.int .u64 (c.n : Int)), (.int .u64 ((c.n + 1 : Nat) : Int)), (.pointer (some ⟨g0, 2, none⟩)), (.agg (cells8 c.k)), (.agg (cells8 (nextS c.k))), (.agg (chA (Ch.mk c.m (c.n + 1) (nextS c.k)))), (.string ⟨(rowS [c.m, (putS c.n), (boxS c d)]).toArray⟩), undef, (.string ⟨(rowS [c.m, (putS c.n), (boxS c d)]).toArray⟩), (.int .i64 0)] ⟨e0, e1, e2, e3, e4, e5, e6, e7, e8, e9, e10, e11, e12, trivial⟩).sub ⟨rfl, rfl, rfl, rfl, rfl, rfl, rfl, rfl, rfl, rfl, rfl, rfl, rfl, rfl, trivial⟩
      clear hK hKR K0 e0 K1 e1 K2 e2 K3 e3 K4 e4 K5 e5 K6 e6 K7 e7 K8 e8 K9 e9 K10 e10 K11 e11 K12 e12
      clear hF12 hM4
      refine nx ?_
      refine wp_ret ?_
      exact retBTT hF13 rfl rfl (hM5.at 0 rfl) Tryd.underlying26 rfl szCh (chA_sizeM (nextS_len _)) rfl rfl ⟨by rw [hs]; simp only [frameS, goS], hM5.below⟩
set_option maxRecDepth 100000 in
set_option maxHeartbeats 1000000 in
theorem rsend_any (c : Ch) (d : List UInt8) (w : World) (hLc : c.k.length = 32) (hcn : c.n < 2 ^ 64) (hm : c.m.length < 2 ^ 27) : Calls Tryd.prog 20 #[.agg (chA c), .string ⟨d.toArray⟩] w fun e w' => e = .returned (.tuple #[.agg (chA (sendS c d).1), .string ⟨(sendS c d).2.1.toArray⟩, .int .i64 (sendS c d).2.2]) ∧ Below w.heap.size w w' := by
  by_cases h1 : 65536 < d.length
  · have hs : sendS c d = (noCh, [], 6) := by unfold sendS; rw [if_pos h1]
    refine walk_enter Tryd.func20 rfl rfl rfl fun a0 hF0 => ?_
    have hM0 := Mem.new w
    refine wp_seq ?_
    refine wp_region_lit ?_
    refine sqNew (cs := (chA c)) (t := 26) hF0 hM0 (wantedS rfl) (run_box rfl (hF0.ev 0 rfl)) rfl (by decide) fun g0 a1 w1 hgg0 hb1 hF1 hM1 => ?_
    refine sqNew (cs := (chA noCh)) (t := 26) hF1 hM1 (wantedS rfl) (run_alloc rfl (by kernel_rfl)) rfl (by decide) fun g1 a2 w2 hgg1 hb2 hF2 hM2 => ?_
    refine sq (v := (.string ⟨List.toArray []⟩)) hF2 (wantedS rfl) (run_as rfl rfl) rfl (by decide) fun a3 hF3 => ?_
    refine sq (v := (.int .i64 0)) hF3 (wantedS rfl) (run_as rfl rfl) rfl (by decide) fun a4 hF4 => ?_
    refine sqEnd ?_
    clear hF0 hF1 hF2 hF3 hM0 hM1
    refine nx ?_
    refine wp_seq ?_
    refine wp_seq ?_
    refine wp_region_lit ?_
    refine sq (v := (.string ⟨d.toArray⟩)) hF4 (wantedS rfl) (run_mv rfl (hF4.ev 1 rfl)) rfl (by decide) fun a5 hF5 => ?_
    refine sq (v := (.int .i64 (d.length : Int))) hF5 (wantedS rfl) (run_len rfl (hF5.ev 9 rfl) rfl Tryd.underlying9) rfl (by decide) fun a6 hF6 => ?_
    refine sq (v := (.bool true)) hF6 (wantedS rfl) (run_gtr rfl (hF6.ev 10 rfl) rfl (decide_eq_true (by omega))) rfl (by decide) fun a7 hF7 => ?_
    refine sqEnd ?_
    clear hF4 hF5 hF6
    refine nx ?_
    refine wp_cond_true (hF7.ev 11 rfl) ?_
    refine wp_seq ?_
    refine wp_region_lit ?_
    refine sq (v := (.agg (chA noCh))) hF7 (wantedS rfl) (run_blt (vs := #[]) (cs := chA noCh) rfl (by simp) built_ch0) rfl (by decide) fun a8 hF8 => ?_
    refine sqStore (i := 0) hF8 hM2 rfl rfl rfl (hF8.ev 4 rfl) (hF8.ev 12 rfl) rfl szCh (chA_size noCh_len) (chA_size noCh_len) (chA_one _) fun a9 w3 hF9 hM3 => ?_
    refine sq (v := (.string ⟨List.toArray []⟩)) hF9 (wantedS rfl) (run_as rfl rfl) rfl (by decide) fun a10 hF10 => ?_
    refine sq (v := (.int .i64 6)) hF10 (wantedS rfl) (run_as rfl rfl) rfl (by decide) fun a11 hF11 => ?_
    refine sqEnd ?_
    clear hF7 hF8 hF9 hF10 hM2
    refine nx ?_
    refine wp_ret ?_
    refine nxRet ?_
    exact retBTT hF11 rfl rfl (hM3.at 0 rfl) Tryd.underlying26 rfl szCh (chA_size noCh_len) rfl rfl ⟨by rw [hs], hM3.below⟩
  by_cases h2 : c.n = mostN
  · have hs : sendS c d = (noCh, [], 2) := by unfold sendS; rw [if_neg h1, if_pos h2]
    unfold mostN at h2
    refine walk_enter Tryd.func20 rfl rfl rfl fun a0 hF0 => ?_
    have hM0 := Mem.new w
    refine wp_seq ?_
    refine wp_region_lit ?_
    refine sqNew (cs := (chA c)) (t := 26) hF0 hM0 (wantedS rfl) (run_box rfl (hF0.ev 0 rfl)) rfl (by decide) fun g0 a1 w1 hgg0 hb1 hF1 hM1 => ?_
    refine sqNew (cs := (chA noCh)) (t := 26) hF1 hM1 (wantedS rfl) (run_alloc rfl (by kernel_rfl)) rfl (by decide) fun g1 a2 w2 hgg1 hb2 hF2 hM2 => ?_
    refine sq (v := (.string ⟨List.toArray []⟩)) hF2 (wantedS rfl) (run_as rfl rfl) rfl (by decide) fun a3 hF3 => ?_
    refine sq (v := (.int .i64 0)) hF3 (wantedS rfl) (run_as rfl rfl) rfl (by decide) fun a4 hF4 => ?_
    refine sqEnd ?_
    clear hF0 hF1 hF2 hF3 hM0 hM1
    refine nx ?_
    refine wp_seq ?_
    refine wp_seq ?_
    refine wp_region_lit ?_
    refine sq (v := (.string ⟨d.toArray⟩)) hF4 (wantedS rfl) (run_mv rfl (hF4.ev 1 rfl)) rfl (by decide) fun a5 hF5 => ?_
    refine sq (v := (.int .i64 (d.length : Int))) hF5 (wantedS rfl) (run_len rfl (hF5.ev 9 rfl) rfl Tryd.underlying9) rfl (by decide) fun a6 hF6 => ?_
    refine sq (v := (.bool false)) hF6 (wantedS rfl) (run_gtr rfl (hF6.ev 10 rfl) rfl (decide_eq_false (by omega))) rfl (by decide) fun a7 hF7 => ?_
    refine sqEnd ?_
    clear hF4 hF5 hF6
    refine nx ?_
    refine wp_cond_false (hF7.ev 11 rfl) ?_
    refine wp_skip ?_
    refine nx ?_
    refine wp_seq ?_
    refine wp_seq ?_
    refine wp_region_lit ?_
    refine sq (v := (.pointer (some ⟨g0, 1, none⟩))) hF7 (wantedS rfl) (run_fldA (m := 1) (s := 1) rfl (hF7.ev 2 rfl) Tryd.underlying26 rfl rfl (by kernel_rfl) (by decide)) rfl (by decide) fun a8 hF8 => ?_
    refine sq (v := (.int .u64 (c.n : Int))) hF8 (wantedS rfl) (run_ldF rfl (hF8.ev 13 rfl) (hM2.at 1 rfl) rfl (by kernel_rfl)) rfl (by decide) fun a9 hF9 => ?_
    refine sq (v := (.bool true)) hF9 (wantedS rfl) (run_eqi rfl (hF9.ev 14 rfl) rfl (beq_iff_eq.2 (by omega))) rfl (by decide) fun a10 hF10 => ?_
    refine sqEnd ?_
    clear hF7 hF8 hF9
    refine nx ?_
    refine wp_cond_true (hF10.ev 15 rfl) ?_
    refine wp_seq ?_
    refine wp_region_lit ?_
    refine sq (v := (.agg (chA noCh))) hF10 (wantedS rfl) (run_blt (vs := #[]) (cs := chA noCh) rfl (by simp) built_ch0) rfl (by decide) fun a11 hF11 => ?_
    refine sqStore (i := 0) hF11 hM2 rfl rfl rfl (hF11.ev 4 rfl) (hF11.ev 16 rfl) rfl szCh (chA_size noCh_len) (chA_size noCh_len) (chA_one _) fun a12 w3 hF12 hM3 => ?_
    refine sq (v := (.string ⟨List.toArray []⟩)) hF12 (wantedS rfl) (run_as rfl rfl) rfl (by decide) fun a13 hF13 => ?_
    refine sq (v := (.int .i64 2)) hF13 (wantedS rfl) (run_as rfl rfl) rfl (by decide) fun a14 hF14 => ?_
    refine sqEnd ?_
    clear hF10 hF11 hF12 hF13 hM2
    refine nx ?_
    refine wp_ret ?_
    refine nxRet ?_
    exact retBTT hF14 rfl rfl (hM3.at 0 rfl) Tryd.underlying26 rfl szCh (chA_size noCh_len) rfl rfl ⟨by rw [hs], hM3.below⟩
  have hs : sendS c d = (goS c, frameS c d, 0) := sendS_ok c d (by omega) h2
  unfold mostN at h2
  have hpl := putS_len c.n
  have hhl := headS_len c.m c.n (by omega)
  have hbl := boxS_len c d
  refine walk_enter Tryd.func20 rfl rfl rfl fun a0 hF0 => ?_
  have hM0 := Mem.new w
  refine wp_seq ?_
  refine wp_region_lit ?_
  refine sqNew (cs := (chA c)) (t := 26) hF0 hM0 (wantedS rfl) (run_box rfl (hF0.ev 0 rfl)) rfl (by decide) fun g0 a1 w1 hgg0 hb1 hF1 hM1 => ?_
  refine sqNew (cs := (chA noCh)) (t := 26) hF1 hM1 (wantedS rfl) (run_alloc rfl (by kernel_rfl)) rfl (by decide) fun g1 a2 w2 hgg1 hb2 hF2 hM2 => ?_
  refine sq (v := (.string ⟨List.toArray []⟩)) hF2 (wantedS rfl) (run_as rfl rfl) rfl (by decide) fun a3 hF3 => ?_
  refine sq (v := (.int .i64 0)) hF3 (wantedS rfl) (run_as rfl rfl) rfl (by decide) fun a4 hF4 => ?_
  refine sqEnd ?_
  clear hF0 hF1 hF2 hF3 hM0 hM1
  refine nx ?_
  refine wp_seq ?_
  refine wp_seq ?_
  refine wp_region_lit ?_
  refine sq (v := (.string ⟨d.toArray⟩)) hF4 (wantedS rfl) (run_mv rfl (hF4.ev 1 rfl)) rfl (by decide) fun a5 hF5 => ?_
  refine sq (v := (.int .i64 (d.length : Int))) hF5 (wantedS rfl) (run_len rfl (hF5.ev 9 rfl) rfl Tryd.underlying9) rfl (by decide) fun a6 hF6 => ?_
  refine sq (v := (.bool false)) hF6 (wantedS rfl) (run_gtr rfl (hF6.ev 10 rfl) rfl (decide_eq_false (by omega))) rfl (by decide) fun a7 hF7 => ?_
  refine sqEnd ?_
  clear hF4 hF5 hF6
  refine nx ?_
  refine wp_cond_false (hF7.ev 11 rfl) ?_
  refine wp_skip ?_
  refine nx ?_
  refine wp_seq ?_
  refine wp_seq ?_
  refine wp_region_lit ?_
  refine sq (v := (.pointer (some ⟨g0, 1, none⟩))) hF7 (wantedS rfl) (run_fldA (m := 1) (s := 1) rfl (hF7.ev 2 rfl) Tryd.underlying26 rfl rfl (by kernel_rfl) (by decide)) rfl (by decide) fun a8 hF8 => ?_
  refine sq (v := (.int .u64 (c.n : Int))) hF8 (wantedS rfl) (run_ldF rfl (hF8.ev 13 rfl) (hM2.at 1 rfl) rfl (by kernel_rfl)) rfl (by decide) fun a9 hF9 => ?_
  refine sq (v := (.bool false)) hF9 (wantedS rfl) (run_eqi rfl (hF9.ev 14 rfl) rfl (beq_eq_false_iff_ne.2 (by omega))) rfl (by decide) fun a10 hF10 => ?_
  refine sqEnd ?_
  clear hF7 hF8 hF9
  refine nx ?_
  refine wp_cond_false (hF10.ev 15 rfl) ?_
  refine wp_skip ?_
  refine nx ?_
  refine wp_seq ?_
  obtain ⟨KL, hKL⟩ : ∃ KL, KL = [kval (.pointer (some ⟨g0, 2, none⟩)), kval (.agg (cells8 c.k)), kval (.agg (cells8 (keyedS c.k [115, 101, 110, 100]))), kval (.pointer (some ⟨g0, 1, none⟩)), kval (.int .u64 (c.n : Int)), kval (.agg (cells8 (nonceS (putS c.n)))), kval (.pointer (some ⟨g0, 0, none⟩)), kval (.string ⟨c.m.toArray⟩), kval (.pointer (some ⟨g0, 1, none⟩)), kval (.int .u64 (c.n : Int)), kval (.string ⟨(headS c.m c.n).toArray⟩), kval (.string ⟨d.toArray⟩), kval (.string ⟨(boxS c d).toArray⟩), kval (.string ⟨(boxS c d).toArray⟩)] := ⟨_, rfl⟩
  have K0 : KL.getD 0 kany = kval (.pointer (some ⟨g0, 2, none⟩)) := by rw [hKL]; rfl
  have K1 : KL.getD 1 kany = kval (.agg (cells8 c.k)) := by rw [hKL]; rfl
  have K2 : KL.getD 2 kany = kval (.agg (cells8 (keyedS c.k [115, 101, 110, 100]))) := by rw [hKL]; rfl
  have K3 : KL.getD 3 kany = kval (.pointer (some ⟨g0, 1, none⟩)) := by rw [hKL]; rfl
  have K4 : KL.getD 4 kany = kval (.int .u64 (c.n : Int)) := by rw [hKL]; rfl
  have K5 : KL.getD 5 kany = kval (.agg (cells8 (nonceS (putS c.n)))) := by rw [hKL]; rfl
  have K6 : KL.getD 6 kany = kval (.pointer (some ⟨g0, 0, none⟩)) := by rw [hKL]; rfl
  have K7 : KL.getD 7 kany = kval (.string ⟨c.m.toArray⟩) := by rw [hKL]; rfl
  have K8 : KL.getD 8 kany = kval (.pointer (some ⟨g0, 1, none⟩)) := by rw [hKL]; rfl
  have K9 : KL.getD 9 kany = kval (.int .u64 (c.n : Int)) := by rw [hKL]; rfl
  have K10 : KL.getD 10 kany = kval (.string ⟨(headS c.m c.n).toArray⟩) := by rw [hKL]; rfl
  have K11 : KL.getD 11 kany = kval (.string ⟨d.toArray⟩) := by rw [hKL]; rfl
  have K12 : KL.getD 12 kany = kval (.string ⟨(boxS c d).toArray⟩) := by rw [hKL]; rfl
  have K13 : KL.getD 13 kany = kval (.string ⟨(boxS c d).toArray⟩) := by rw [hKL]; rfl
  clear hKL
  refine wp_region_kd 48 (by kernel_rfl) (by kernel_rfl) (by kernel_rfl) hF10.size KL ?_ ?_
  · refine ⟨?_, ?_, ?_, ?_, ?_, ?_, ?_, ?_, ?_, ?_, ?_, ?_, ?_, ?_, trivial⟩
    · refine asks_mk fun a W hS hh hd => ⟨wanted_yes rfl, ?_⟩
      exact giv_run (run_fldA (m := 32) (s := 2) rfl (eval_tmp (hh 2 _ rfl (hF10.at 2 rfl))) Tryd.underlying26 rfl rfl (by kernel_rfl) (by decide)) K0
    · refine asks_mk fun a W hS hh hd => ⟨wanted_yes rfl, ?_⟩
      exact giv_run (run_ldK rfl (eval_tmp (hd.val (j := 0) (s := 17) (by kernel_rfl) K0)) ((hM2.grow hS).at 1 rfl) hLc) K1
    · refine asks_mk fun a W hS hh hd => ⟨wanted_yes rfl, ?_⟩
      exact giv_call (run_call rfl Tryd.func16 (by kernel_rfl) rfl (mapE2 (eval_tmp (hd.val (j := 1) (s := 18) (by kernel_rfl) K1)) rfl)) (rof43_any c.k [115, 101, 110, 100] W hLc (by first | omega | decide | (simp; done) | (simp; omega))) K2
    · refine asks_mk fun a W hS hh hd => ⟨wanted_yes rfl, ?_⟩
      exact giv_run (run_fldA (m := 1) (s := 1) rfl (eval_tmp (hh 2 _ rfl (hF10.at 2 rfl))) Tryd.underlying26 rfl rfl (by kernel_rfl) (by decide)) K3
    · refine asks_mk fun a W hS hh hd => ⟨wanted_yes rfl, ?_⟩
      exact giv_run (run_ldF rfl (eval_tmp (hd.val (j := 3) (s := 20) (by kernel_rfl) K3)) ((hM2.grow hS).at 1 rfl) rfl (by kernel_rfl)) K4
    · refine asks_mk fun a W hS hh hd => ⟨wanted_yes rfl, ?_⟩
      exact giv_call (run_call rfl Tryd.func44 (by kernel_rfl) rfl (mapE1 (eval_tmp (hd.val (j := 4) (s := 21) (by kernel_rfl) K4)))) (rsesnonce_any c.n W (by omega)) K5
    · refine asks_mk fun a W hS hh hd => ⟨wanted_yes rfl, ?_⟩
      exact giv_run (run_fldA (m := 1) (s := 0) rfl (eval_tmp (hh 2 _ rfl (hF10.at 2 rfl))) Tryd.underlying26 rfl rfl (by kernel_rfl) (by decide)) K6
    · refine asks_mk fun a W hS hh hd => ⟨wanted_yes rfl, ?_⟩
      exact giv_run (run_ldF rfl (eval_tmp (hd.val (j := 6) (s := 23) (by kernel_rfl) K6)) ((hM2.grow hS).at 1 rfl) rfl (by kernel_rfl)) K7
    · refine asks_mk fun a W hS hh hd => ⟨wanted_yes rfl, ?_⟩
      exact giv_run (run_fldA (m := 1) (s := 1) rfl (eval_tmp (hh 2 _ rfl (hF10.at 2 rfl))) Tryd.underlying26 rfl rfl (by kernel_rfl) (by decide)) K8
    · refine asks_mk fun a W hS hh hd => ⟨wanted_yes rfl, ?_⟩
      exact giv_run (run_ldF rfl (eval_tmp (hd.val (j := 8) (s := 25) (by kernel_rfl) K8)) ((hM2.grow hS).at 1 rfl) rfl (by kernel_rfl)) K9
    · refine asks_mk fun a W hS hh hd => ⟨wanted_yes rfl, ?_⟩
      exact giv_call (run_call rfl Tryd.func15 (by kernel_rfl) rfl (mapE2 (eval_tmp (hd.val (j := 7) (s := 24) (by kernel_rfl) K7)) (eval_tmp (hd.val (j := 9) (s := 26) (by kernel_rfl) K9)))) (rhead_any c.m c.n W (by first | omega | decide | (simp; done) | (simp; omega)) (by omega)) K10
    · refine asks_mk fun a W hS hh hd => ⟨wanted_yes rfl, ?_⟩
      exact giv_run (run_mv rfl (eval_tmp (hh 1 _ rfl (hF10.at 1 rfl)))) K11
    · refine asks_mk fun a W hS hh hd => ⟨wanted_yes rfl, ?_⟩
      exact giv_call (run_call rfl Tryd.func43 (by kernel_rfl) rfl (mapE4 (eval_tmp (hd.val (j := 2) (s := 19) (by kernel_rfl) K2)) (eval_tmp (hd.val (j := 5) (s := 22) (by kernel_rfl) K5)) (eval_tmp (hd.val (j := 10) (s := 27) (by kernel_rfl) K10)) (eval_tmp (hd.val (j := 11) (s := 28) (by kernel_rfl) K11)))) (rseal_any (keyedS c.k [115, 101, 110, 100]) (nonceS (putS c.n)) (headS c.m c.n) d W (keyedS_len _ _) (nonceS_len _) (by omega)) K12
    · refine asks_mk fun a W hS hh hd => ⟨wanted_yes rfl, ?_⟩
      exact giv_run (run_as rfl (eval_tmp (hd.val (j := 12) (s := 29) (by kernel_rfl) K12))) K13
  · intro a11 w3 hb3 hK
    have e0 := hK.val (i := 0) (s := 17) (by kernel_rfl) K0
    have e1 := hK.val (i := 1) (s := 18) (by kernel_rfl) K1
    have e2 := hK.val (i := 2) (s := 19) (by kernel_rfl) K2
    have e3 := hK.val (i := 3) (s := 20) (by kernel_rfl) K3
    have e4 := hK.val (i := 4) (s := 21) (by kernel_rfl) K4
    have e5 := hK.val (i := 5) (s := 22) (by kernel_rfl) K5
    have e6 := hK.val (i := 6) (s := 23) (by kernel_rfl) K6
    have e7 := hK.val (i := 7) (s := 24) (by kernel_rfl) K7
    have e8 := hK.val (i := 8) (s := 25) (by kernel_rfl) K8
    have e9 := hK.val (i := 9) (s := 26) (by kernel_rfl) K9
    have e10 := hK.val (i := 10) (s := 27) (by kernel_rfl) K10
    have e11 := hK.val (i := 11) (s := 28) (by kernel_rfl) K11
    have e12 := hK.val (i := 12) (s := 29) (by kernel_rfl) K12
    have e13 := hK.val (i := 13) (s := 7) (by kernel_rfl) K13
    have hF11 : Fr a11 48 [(0, (.agg (chA c))), (1, (.string ⟨d.toArray⟩)), (2, (.pointer (some ⟨g0, 0, none⟩))), (4, (.pointer (some ⟨g1, 0, none⟩))), (5, (.string ⟨List.toArray []⟩)), (6, (.int .i64 0)), (7, (.string ⟨(boxS c d).toArray⟩)), (9, (.string ⟨d.toArray⟩)), (10, (.int .i64 (d.length : Int))), (11, (.bool false)), (13, (.pointer (some ⟨g0, 1, none⟩))), (14, (.int .u64 (c.n : Int))), (15, (.bool false))] := (hK.fr hF10 [(.pointer (some ⟨g0, 2, none⟩)), (.agg (cells8 c.k)), (.agg (cells8 (keyedS c.k [115, 101, 110, 100]))), (.pointer (some ⟨g0, 1, none⟩)), (.int .u64 (c.n : Int)), (.agg (cells8 (nonceS (putS c.n)))), (.pointer (some ⟨g0, 0, none⟩)), (.string ⟨c.m.toArray⟩), (.pointer (some ⟨g0, 1, none⟩)), (.int .u64 (c.n : Int)), (.string ⟨(headS c.m c.n).toArray⟩), (.string ⟨d.toArray⟩), (.string ⟨(boxS c d).toArray⟩), (.string ⟨(boxS c d).toArray⟩)] ⟨e0, e1, e2, e3, e4, e5, e6, e7, e8, e9, e10, e11, e12, e13, trivial⟩).sub ⟨rfl, rfl, rfl, rfl, rfl, rfl, rfl, rfl, rfl, rfl, rfl, rfl, rfl, trivial⟩
    have hM3 := hM2.grow hb3
    clear hK K0 e0 K1 e1 K2 e2 K3 e3 K4 e4 K5 e5 K6 e6 K7 e7 K8 e8 K9 e9 K10 e10 K11 e11 K12 e12 K13 e13
    clear hF10 hM2
    refine nx ?_
    refine wp_seq ?_
    obtain ⟨KL, hKL⟩ : ∃ KL, KL = [kval (.pointer (some ⟨g0, 0, none⟩)), kval (.string ⟨c.m.toArray⟩), kval (.pointer (some ⟨g0, 1, none⟩)), kval (.int .u64 (c.n : Int)), kval (.string ⟨(putS c.n).toArray⟩), kval (.string ⟨(boxS c d).toArray⟩), kstrs [c.m, (putS c.n), (boxS c d)], kval (.string ⟨(rowS [c.m, (putS c.n), (boxS c d)]).toArray⟩), kval (.string ⟨(rowS [c.m, (putS c.n), (boxS c d)]).toArray⟩)] := ⟨_, rfl⟩
    have K0 : KL.getD 0 kany = kval (.pointer (some ⟨g0, 0, none⟩)) := by rw [hKL]; rfl
    have K1 : KL.getD 1 kany = kval (.string ⟨c.m.toArray⟩) := by rw [hKL]; rfl
    have K2 : KL.getD 2 kany = kval (.pointer (some ⟨g0, 1, none⟩)) := by rw [hKL]; rfl
    have K3 : KL.getD 3 kany = kval (.int .u64 (c.n : Int)) := by rw [hKL]; rfl
    have K4 : KL.getD 4 kany = kval (.string ⟨(putS c.n).toArray⟩) := by rw [hKL]; rfl
    have K5 : KL.getD 5 kany = kval (.string ⟨(boxS c d).toArray⟩) := by rw [hKL]; rfl
    have K6 : KL.getD 6 kany = kstrs [c.m, (putS c.n), (boxS c d)] := by rw [hKL]; rfl
    have K7 : KL.getD 7 kany = kval (.string ⟨(rowS [c.m, (putS c.n), (boxS c d)]).toArray⟩) := by rw [hKL]; rfl
    have K8 : KL.getD 8 kany = kval (.string ⟨(rowS [c.m, (putS c.n), (boxS c d)]).toArray⟩) := by rw [hKL]; rfl
    clear hKL
    refine wp_region_kd 48 (by kernel_rfl) (by kernel_rfl) (by kernel_rfl) hF11.size KL ?_ ?_
    · refine ⟨?_, ?_, ?_, ?_, ?_, ?_, ?_, ?_, ?_, trivial⟩
      · refine asks_mk fun a W hS hh hd => ⟨wanted_yes rfl, ?_⟩
        exact giv_run (run_fldA (m := 1) (s := 0) rfl (eval_tmp (hh 2 _ rfl (hF11.at 2 rfl))) Tryd.underlying26 rfl rfl (by kernel_rfl) (by decide)) K0
      · refine asks_mk fun a W hS hh hd => ⟨wanted_yes rfl, ?_⟩
        exact giv_run (run_ldF rfl (eval_tmp (hd.val (j := 0) (s := 30) (by kernel_rfl) K0)) ((hM3.grow hS).at 1 rfl) rfl (by kernel_rfl)) K1
      · refine asks_mk fun a W hS hh hd => ⟨wanted_yes rfl, ?_⟩
        exact giv_run (run_fldA (m := 1) (s := 1) rfl (eval_tmp (hh 2 _ rfl (hF11.at 2 rfl))) Tryd.underlying26 rfl rfl (by kernel_rfl) (by decide)) K2
      · refine asks_mk fun a W hS hh hd => ⟨wanted_yes rfl, ?_⟩
        exact giv_run (run_ldF rfl (eval_tmp (hd.val (j := 2) (s := 32) (by kernel_rfl) K2)) ((hM3.grow hS).at 1 rfl) rfl (by kernel_rfl)) K3
      · refine asks_mk fun a W hS hh hd => ⟨wanted_yes rfl, ?_⟩
        exact giv_call (run_call rfl Tryd.func37 (by kernel_rfl) rfl (mapE2 (eval_tmp (hd.val (j := 3) (s := 33) (by kernel_rfl) K3)) rfl)) (rput_any c.n W (by omega)) K4
      · refine asks_mk fun a W hS hh hd => ⟨wanted_yes rfl, ?_⟩
        exact giv_run (run_mv rfl (eval_tmp (hh 7 _ rfl (hF11.at 7 rfl)))) K5
      · refine asks_mk fun a W hS hh hd => ⟨wanted_yes rfl, ?_⟩
        exact giv_strs [c.m, (putS c.n), (boxS c d)] 9 (run_strs3 rfl (eval_tmp (hd.val (j := 1) (s := 31) (by kernel_rfl) K1)) (eval_tmp (hd.val (j := 4) (s := 34) (by kernel_rfl) K4)) (eval_tmp (hd.val (j := 5) (s := 35) (by kernel_rfl) K5))) K6
      · refine asks_mk fun a W hS hh hd => ⟨wanted_yes rfl, ?_⟩
        obtain ⟨v6, e6, s6⟩ := hd.strs (j := 6) (s := 36) (by kernel_rfl) K6
        exact giv_call (run_call rfl Tryd.func17 (by kernel_rfl) rfl (mapE1 (eval_tmp e6))) (rrow_any [c.m, (putS c.n), (boxS c d)] _ W s6 (by simp [putS_len, hbl]; omega) (by simp)) K7
      · refine asks_mk fun a W hS hh hd => ⟨wanted_yes rfl, ?_⟩
        exact giv_run (run_as rfl (eval_tmp (hd.val (j := 7) (s := 37) (by kernel_rfl) K7))) K8
    · intro a12 w4 hb4 hK
      have e0 := hK.val (i := 0) (s := 30) (by kernel_rfl) K0
      have e1 := hK.val (i := 1) (s := 31) (by kernel_rfl) K1
      have e2 := hK.val (i := 2) (s := 32) (by kernel_rfl) K2
      have e3 := hK.val (i := 3) (s := 33) (by kernel_rfl) K3
      have e4 := hK.val (i := 4) (s := 34) (by kernel_rfl) K4
      have e5 := hK.val (i := 5) (s := 35) (by kernel_rfl) K5
      obtain ⟨v2, e6, hsv2⟩ := hK.strs (i := 6) (s := 36) (by kernel_rfl) K6
      have e7 := hK.val (i := 7) (s := 37) (by kernel_rfl) K7
      have e8 := hK.val (i := 8) (s := 8) (by kernel_rfl) K8
      have hF12 : Fr a12 48 [(0, (.agg (chA c))), (1, (.string ⟨d.toArray⟩)), (2, (.pointer (some ⟨g0, 0, none⟩))), (4, (.pointer (some ⟨g1, 0, none⟩))), (5, (.string ⟨List.toArray []⟩)), (6, (.int .i64 0)), (8, (.string ⟨(rowS [c.m, (putS c.n), (boxS c d)]).toArray⟩)), (9, (.string ⟨d.toArray⟩)), (10, (.int .i64 (d.length : Int))), (11, (.bool false)), (13, (.pointer (some ⟨g0, 1, none⟩))), (14, (.int .u64 (c.n : Int))), (15, (.bool false))] := (hK.fr hF11 [(.pointer (some ⟨g0, 0, none⟩)), (.string ⟨c.m.toArray⟩), (.pointer (some ⟨g0, 1, none⟩)), (.int .u64 (c.n : Int)), (.string ⟨(putS c.n).toArray⟩), (.string ⟨(boxS c d).toArray⟩), v2, (.string ⟨(rowS [c.m, (putS c.n), (boxS c d)]).toArray⟩), (.string ⟨(rowS [c.m, (putS c.n), (boxS c d)]).toArray⟩)] ⟨e0, e1, e2, e3, e4, e5, e6, e7, e8, trivial⟩).sub ⟨rfl, rfl, rfl, rfl, rfl, rfl, rfl, rfl, rfl, rfl, rfl, rfl, rfl, trivial⟩
      have hM4 := hM3.grow hb4
      clear hK K0 e0 K1 e1 K2 e2 K3 e3 K4 e4 K5 e5 K6 e6 K7 e7 K8 e8
      clear hF11 hM3
      refine nx ?_
      refine wp_seq ?_
      obtain ⟨KL, hKL⟩ : ∃ KL : List (Kr w4.heap.size), KL = [krval (.pointer (some ⟨g0, 0, none⟩)), krval (.string ⟨c.m.toArray⟩), krval (.pointer (some ⟨g0, 1, none⟩)), krval (.int .u64 (c.n : Int)), krval (.int .u64 ((c.n + 1 : Nat) : Int)), krval (.pointer (some ⟨g0, 2, none⟩)), krval (.agg (cells8 c.k)), krval (.agg (cells8 (nextS c.k))), krval (.agg (chA (Ch.mk c.m (c.n + 1) (nextS c.k)))), krval (.string ⟨(rowS [c.m, (putS c.n), (boxS c d)]).toArray⟩), krblk g1 26 (chA (Ch.mk c.m (c.n + 1) (nextS c.k))), krval (.string ⟨(rowS [c.m, (putS c.n), (boxS c d)]).toArray⟩), krval (.int .i64 0)] := ⟨_, rfl⟩
      have K0 : KL.getD 0 krany = krval (.pointer (some ⟨g0, 0, none⟩)) := by rw [hKL]; rfl
      have K1 : KL.getD 1 krany = krval (.string ⟨c.m.toArray⟩) := by rw [hKL]; rfl
      have K2 : KL.getD 2 krany = krval (.pointer (some ⟨g0, 1, none⟩)) := by rw [hKL]; rfl
      have K3 : KL.getD 3 krany = krval (.int .u64 (c.n : Int)) := by rw [hKL]; rfl
      have K4 : KL.getD 4 krany = krval (.int .u64 ((c.n + 1 : Nat) : Int)) := by rw [hKL]; rfl
      have K5 : KL.getD 5 krany = krval (.pointer (some ⟨g0, 2, none⟩)) := by rw [hKL]; rfl
      have K6 : KL.getD 6 krany = krval (.agg (cells8 c.k)) := by rw [hKL]; rfl
      have K7 : KL.getD 7 krany = krval (.agg (cells8 (nextS c.k))) := by rw [hKL]; rfl
      have K8 : KL.getD 8 krany = krval (.agg (chA (Ch.mk c.m (c.n + 1) (nextS c.k)))) := by rw [hKL]; rfl
      have K9 : KL.getD 9 krany = krval (.string ⟨(rowS [c.m, (putS c.n), (boxS c d)]).toArray⟩) := by rw [hKL]; rfl
      have K10 : KL.getD 10 krany = krblk g1 26 (chA (Ch.mk c.m (c.n + 1) (nextS c.k))) := by rw [hKL]; rfl
      have K11 : KL.getD 11 krany = krval (.string ⟨(rowS [c.m, (putS c.n), (boxS c d)]).toArray⟩) := by rw [hKL]; rfl
      have K12 : KL.getD 12 krany = krval (.int .i64 0) := by rw [hKL]; rfl
      have hKR : KL.map (·.row) = List.replicate 10 none ++ some g1 :: List.replicate 2 none := by rw [hKL]; rfl
      clear hKL
      refine wp_region_k1 (j := 0) 48 10 2 (by kernel_rfl) (by kernel_rfl) (by kernel_rfl) hF12.size KL hM4 rfl (chA_size noCh_len) K10 hKR ?_ (by kernel_rfl) fun a13 w5 hgr5 hM5 hK => ?_
      · refine ⟨?_, ?_, ?_, ?_, ?_, ?_, ?_, ?_, ?_, ?_, ?_, ?_, ?_, trivial⟩
        · refine asksr_mk fun a W hS hh hd => ⟨wanted_yes rfl, ?_⟩
          exact givr_run (run_fldA (m := 1) (s := 0) rfl (eval_tmp (hh 2 _ rfl (hF12.at 2 rfl))) Tryd.underlying26 rfl rfl (by kernel_rfl) (by decide)) K0
        · refine asksr_mk fun a W hS hh hd => ⟨wanted_yes rfl, ?_⟩
          exact givr_run (run_ldF rfl (eval_tmp (hd.val (j := 0) (s := 38) (by kernel_rfl) K0)) ((hM4.alm 0 rfl hS).at 1 rfl) rfl (by kernel_rfl)) K1
        · refine asksr_mk fun a W hS hh hd => ⟨wanted_yes rfl, ?_⟩
          exact givr_run (run_fldA (m := 1) (s := 1) rfl (eval_tmp (hh 2 _ rfl (hF12.at 2 rfl))) Tryd.underlying26 rfl rfl (by kernel_rfl) (by decide)) K2
        · refine asksr_mk fun a W hS hh hd => ⟨wanted_yes rfl, ?_⟩
          exact givr_run (run_ldF rfl (eval_tmp (hd.val (j := 2) (s := 40) (by kernel_rfl) K2)) ((hM4.alm 0 rfl hS).at 1 rfl) rfl (by kernel_rfl)) K3
        · refine asksr_mk fun a W hS hh hd => ⟨wanted_yes rfl, ?_⟩
          exact givr_run (run_add (r := ((c.n + 1 : Nat) : Int)) rfl (eval_tmp (hd.val (j := 3) (s := 41) (by kernel_rfl) K3)) rfl (by rw [IntKind.wrap_u64]; omega)) K4
        · refine asksr_mk fun a W hS hh hd => ⟨wanted_yes rfl, ?_⟩
          exact givr_run (run_fldA (m := 32) (s := 2) rfl (eval_tmp (hh 2 _ rfl (hF12.at 2 rfl))) Tryd.underlying26 rfl rfl (by kernel_rfl) (by decide)) K5
        · refine asksr_mk fun a W hS hh hd => ⟨wanted_yes rfl, ?_⟩
          exact givr_run (run_ldK rfl (eval_tmp (hd.val (j := 5) (s := 43) (by kernel_rfl) K5)) ((hM4.alm 0 rfl hS).at 1 rfl) hLc) K6
        · refine asksr_mk fun a W hS hh hd => ⟨wanted_yes rfl, ?_⟩
          exact givr_call (run_call rfl Tryd.func22 (by kernel_rfl) rfl (mapE1 (eval_tmp (hd.val (j := 6) (s := 44) (by kernel_rfl) K6)))) (rnext_any c.k W hLc) K7
        · refine asksr_mk fun a W hS hh hd => ⟨wanted_yes rfl, ?_⟩
          exact givr_run (run_blt (vs := #[(0, .string ⟨c.m.toArray⟩), (1, .int .u64 ((c.n + 1 : Nat) : Int)), (2, .agg (cells8 (nextS c.k)))]) (cs := chA (Ch.mk c.m (c.n + 1) (nextS c.k))) rfl (bltE3 (eval_tmp (hd.val (j := 1) (s := 39) (by kernel_rfl) K1)) (eval_tmp (hd.val (j := 4) (s := 42) (by kernel_rfl) K4)) (eval_tmp (hd.val (j := 7) (s := 45) (by kernel_rfl) K7))) (built_ch _ (c.n + 1) _ (nextS_len _))) K8
        · refine asksr_mk fun a W hS hh hd => ⟨wanted_yes rfl, ?_⟩
          exact givr_run (run_mv rfl (eval_tmp (hh 8 _ rfl (hF12.at 8 rfl)))) K9
        · refine asksr_mk fun a W hS hh hd => ⟨wanted_yes rfl, ?_⟩
          exact givr_store hS 26 _ _ rfl g1 34 26 (chA (Ch.mk c.m (c.n + 1) (nextS c.k))) (eval_tmp (hh 4 _ rfl (hF12.at 4 rfl))) (eval_tmp (hd.val (j := 8) (s := 46) (by kernel_rfl) K8)) (by simp) szCh (chA_sizeM (nextS_len _)) (chA_one _) K10
        · refine asksr_mk fun a W hS hh hd => ⟨wanted_yes rfl, ?_⟩
          exact givr_run (run_as rfl (eval_tmp (hd.val (j := 9) (s := 47) (by kernel_rfl) K9))) K11
        · refine asksr_mk fun a W hS hh hd => ⟨wanted_yes rfl, ?_⟩
          exact givr_run (run_as rfl rfl) K12
      have e0 := hK.rval (i := 0) (s := 38) (by kernel_rfl) K0
      have e1 := hK.rval (i := 1) (s := 39) (by kernel_rfl) K1
      have e2 := hK.rval (i := 2) (s := 40) (by kernel_rfl) K2
      have e3 := hK.rval (i := 3) (s := 41) (by kernel_rfl) K3
      have e4 := hK.rval (i := 4) (s := 42) (by kernel_rfl) K4
      have e5 := hK.rval (i := 5) (s := 43) (by kernel_rfl) K5
      have e6 := hK.rval (i := 6) (s := 44) (by kernel_rfl) K6
      have e7 := hK.rval (i := 7) (s := 45) (by kernel_rfl) K7
      have e8 := hK.rval (i := 8) (s := 46) (by kernel_rfl) K8
      have e9 := hK.rval (i := 9) (s := 47) (by kernel_rfl) K9
      have e10 : True := trivial
      have e11 := hK.rval (i := 11) (s := 5) (by kernel_rfl) K11
      have e12 := hK.rval (i := 12) (s := 6) (by kernel_rfl) K12
      have hF13 : Fr a13 48 [(0, (.agg (chA c))), (1, (.string ⟨d.toArray⟩)), (2, (.pointer (some ⟨g0, 0, none⟩))), (4, (.pointer (some ⟨g1, 0, none⟩))), (5, (.string ⟨(rowS [c.m, (putS c.n), (boxS c d)]).toArray⟩)), (6, (.int .i64 0)), (9, (.string ⟨d.toArray⟩)), (10, (.int .i64 (d.length : Int))), (11, (.bool false)), (13, (.pointer (some ⟨g0, 1, none⟩))), (14, (.int .u64 (c.n : Int))), (15, (.bool false)), (46, (.agg (chA (Ch.mk c.m (c.n + 1) (nextS c.k))))), (47, (.string ⟨(rowS [c.m, (putS c.n), (boxS c d)]).toArray⟩))] := (hK.fr hF12 [(.pointer (some ⟨g0, 0, none⟩)), (.string ⟨c.m.toArray⟩), (.pointer (some ⟨g0, 1, none⟩)), (.int .u64 (c.n : Int)), (.int .u64 ((c.n + 1 : Nat) : Int)), (.pointer (some ⟨g0, 2, none⟩)), (.agg (cells8 c.k)), (.agg (cells8 (nextS c.k))), (.agg (chA (Ch.mk c.m (c.n + 1) (nextS c.k)))), (.string ⟨(rowS [c.m, (putS c.n), (boxS c d)]).toArray⟩), undef, (.string ⟨(rowS [c.m, (putS c.n), (boxS c d)]).toArray⟩), (.int .i64 0)] ⟨e0, e1, e2, e3, e4, e5, e6, e7, e8, e9, e10, e11, e12, trivial⟩).sub ⟨rfl, rfl, rfl, rfl, rfl, rfl, rfl, rfl, rfl, rfl, rfl, rfl, rfl, rfl, trivial⟩
      clear hK hKR K0 e0 K1 e1 K2 e2 K3 e3 K4 e4 K5 e5 K6 e6 K7 e7 K8 e8 K9 e9 K10 e10 K11 e11 K12 e12
      clear hF12 hM4
      refine nx ?_
      refine wp_ret ?_
      exact retBTT hF13 rfl rfl (hM5.at 0 rfl) Tryd.underlying26 rfl szCh (chA_sizeM (nextS_len _)) rfl rfl ⟨by rw [hs]; simp only [frameS, goS], hM5.below⟩
end Go.Proofs.YtioioibcldgknaaDoor
