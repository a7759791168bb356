/- The walks of num.Put, num.Get and of the reference's. Printed by gen_ses1.py. -/
import Derived.Test.YtioioibcldgknaaDoorSesW
namespace Go.Proofs.YtioioibcldgknaaDoor
open Go.RowKit

theorem sz8q : (Tryd.prog.info? 91).map (·.size) = some 8 := by kernel_rfl
theorem put_step (n i : Nat) (h : i < 8) (l : List UInt8) (hl : (putS n).take i ++ List.replicate (8 - i) 0 = l) : (putS n).take (i + 1) ++ List.replicate (8 - (i + 1)) 0 = l.set i (UInt8.ofNat (n / 256 ^ i)) := by
  have hp := putS_len n
  have e0 : List.replicate (8 - i) (0 : UInt8) = 0 :: List.replicate (8 - (i + 1)) 0 := by rw [show 8 - i = 8 - (i + 1) + 1 by omega]; rfl
  have ht : ((putS n).take i).length = i := by rw [List.length_take]; omega
  have hg : (putS n)[i]'(by omega) = UInt8.ofNat (n / 256 ^ i) := by
    have := putS_get n i h
    rwa [List.getD_eq_getElem?_getD, List.getElem?_eq_getElem (by omega), Option.getD_some] at this
  rw [← hl, e0, List.set_append_right _ _ (by omega), ht, Nat.sub_self, List.set_cons_zero, List.take_succ_eq_append_getElem (by omega), hg, List.append_assoc]
  rfl
theorem pow8 (i : Nat) : (2 : Int) ^ (8 * (i : Int)).toNat = ((256 ^ i : Nat) : Int) := by
  have e : (8 * (i : Int)).toNat = 8 * i := by omega
  rw [e, Int.natCast_pow, show ((256 : Nat) : Int) = 2 ^ 8 from rfl, ← Int.pow_mul]
set_option maxRecDepth 100000 in
set_option maxHeartbeats 1000000 in
theorem nput_any (n : Nat) (w : World) : Calls Tryd.prog 32 #[.int .u64 (n : Int), .int .i64 8] w fun e w' => e = .returned (.string ⟨(putS n).toArray⟩) ∧ Below w.heap.size w w' := by
  refine walk_enter Tryd.func32 rfl rfl rfl fun a0 hF0 => ?_
  have hM0 := Mem.new w
  refine wp_seq ?_
  refine wp_region_lit ?_
  refine sq (v := (.string ⟨List.toArray []⟩)) hF0 (wantedS rfl) (run_as rfl rfl) rfl (by decide) fun a1 hF1 => ?_
  refine sqEnd ?_
  clear hF0
  refine nx ?_
  refine wp_seq ?_
  refine wp_region_lit ?_
  refine sq (v := (.int .i64 8)) hF1 (wantedS rfl) (run_mv rfl (hF1.ev 1 rfl)) rfl (by decide) fun a2 hF2 => ?_
  refine sq (v := (.int .i64 8)) hF2 (wantedS rfl) (run_max2 (r := 8) rfl (hF2.ev 7 rfl) rfl (by decide)) rfl (by decide) fun a3 hF3 => ?_
  refine sq (v := (.int .i64 8)) hF3 (wantedS rfl) (run_min2 (r := 8) rfl (hF3.ev 8 rfl) rfl (by decide)) rfl (by decide) fun a4 hF4 => ?_
  refine sq (v := (.int .i64 8)) hF4 (wantedS rfl) (run_as rfl (hF4.ev 9 rfl)) rfl (by decide) fun a5 hF5 => ?_
  refine sqEnd ?_
  clear hF1 hF2 hF3 hF4
  refine nx ?_
  refine wp_seq ?_
  refine wp_region_lit ?_
  refine sqNew (cs := (cells8 (List.replicate 8 0))) (t := 91) hF5 hM0 (wantedS rfl) (run_alloc rfl (by kernel_rfl)) rfl (by decide) fun g0 a6 w1 hgg0 hb1 hF6 hM1 => ?_
  refine sqEnd ?_
  clear hF5 hM0
  refine nx ?_
  refine wp_seq ?_
  refine wp_seq ?_
  refine wp_region_lit ?_
  refine sq (v := (.int .i64 8)) hF6 (wantedS rfl) (run_mv rfl (hF6.ev 1 rfl)) rfl (by decide) fun a7 hF7 => ?_
  refine sq (v := (.int .i64 0)) hF7 (wantedS rfl) (run_mv rfl rfl) rfl (by decide) fun a8 hF8 => ?_
  refine sqEnd ?_
  clear hF6 hF7
  refine nx ?_
  refine wp_block ?_
  refine wkLoop (fun m a w2 => ∃ i : Nat, i ≤ 8 ∧ m = 8 - i ∧ Fr a 25 [(0, .int .u64 (n : Int)), (1, .int .i64 8), (5, .pointer (some ⟨g0, 0, none⟩)), (10, .int .i64 8), (11, .int .i64 (i : Int))] ∧ Mem w [(g0, isB 91 (cells8 ((putS n).take i ++ List.replicate (8 - i) 0)))] w2) 8 ⟨0, Nat.zero_le _, rfl, hF8.sub ⟨rfl, rfl, rfl, rfl, rfl, trivial⟩, hM1⟩ ?_
  rintro m a0 w1 ⟨i, hi, rfl, hF0, hM0⟩
  obtain ⟨l, hl⟩ : ∃ l, ((putS n).take i ++ List.replicate (8 - i) 0) = l := ⟨_, rfl⟩
  have hll : l.length = 8 := by rw [← hl, List.length_append, List.length_take, List.length_replicate, putS_len]; omega
  rw [hl] at hM0
  by_cases h1 : i < 8
  · have hst := put_step n i h1 l hl
    have hub : (UInt8.ofNat (n / 256 ^ i)).toNat = n / 256 ^ i % 256 := by rw [UInt8.toNat_ofNat']
    refine wp_seq ?_
    refine wp_region_lit ?_
    refine sq (v := (.bool true)) hF0 (wantedS rfl) (run_lss rfl (hF0.ev 11 rfl) (hF0.ev 10 rfl) (decide_eq_true (by omega))) rfl (by decide) fun a1 hF1 => ?_
    refine sqEnd ?_
    clear hF0
    refine nx ?_
    refine wp_seq ?_
    refine wp_cond_true (hF1.ev 12 rfl) ?_
    refine wp_skip ?_
    refine nx ?_
    refine wp_seq ?_
    refine wp_block ?_
    refine wp_seq ?_
    refine wp_region_lit ?_
    refine sq (v := (.int .i64 (i : Int))) hF1 (wantedS rfl) (run_mv rfl (hF1.ev 11 rfl)) rfl (by decide) fun a2 hF2 => ?_
    refine sq (v := (.int .i64 (i : Int))) hF2 (wantedS rfl) (run_as rfl (hF2.ev 13 rfl)) rfl (by decide) fun a3 hF3 => ?_
    refine sqEnd ?_
    clear hF1 hF2
    refine nx ?_
    refine wp_region_lit ?_
    refine sq (v := (.int .i64 (i : Int))) hF3 (wantedS rfl) (run_mv rfl (hF3.ev 6 rfl)) rfl (by decide) fun a4 hF4 => ?_
    refine sq (v := (.int .u64 (n : Int))) hF4 (wantedS rfl) (run_mv rfl (hF4.ev 0 rfl)) rfl (by decide) fun a5 hF5 => ?_
    refine sq (v := (.int .i64 (i : Int))) hF5 (wantedS rfl) (run_mv rfl (hF5.ev 6 rfl)) rfl (by decide) fun a6 hF6 => ?_
    refine sq (v := (.int .i64 (8 * (i : Int)))) hF6 (wantedS rfl) (run_mul (r := 8 * (i : Int)) rfl rfl (hF6.ev 16 rfl) (by rw [IntKind.wrap_i64]; omega)) rfl (by decide) fun a7 hF7 => ?_
    refine sq (v := (.int .u64 ((n / 256 ^ i : Nat) : Int))) hF7 (wantedS rfl) (run_shr (r := ((n / 256 ^ i : Nat) : Int)) rfl (hF7.ev 15 rfl) (hF7.ev 17 rfl) (by omega) (by first | decide | (simp [IntKind.bits]; omega)) (by rw [pow8]; exact (Int.natCast_ediv _ _).symm)) rfl (by decide) fun a8 hF8 => ?_
    refine sq (v := (.int .u8 ((UInt8.ofNat (n / 256 ^ i)).toNat : Int))) hF8 (wantedS rfl) (run_cvI (r := ((UInt8.ofNat (n / 256 ^ i)).toNat : Int)) rfl (hF8.ev 18 rfl) Tryd.underlying22 Tryd.underlying5 (by rw [hub, IntKind.wrap_u8]; omega)) rfl (by decide) fun a9 hF9 => ?_
    refine sq (v := (.pointer (some ⟨g0, i, none⟩))) hF9 (wantedS rfl) (run_idxA (i := i) (cnt := 8) rfl (hF9.ev 5 rfl) (hF9.ev 14 rfl) rfl (by omega) Tryd.underlying91 (by kernel_rfl)) rfl (by decide) fun a10 hF10 => ?_
    refine sqSetA (j := 0) (l := l) hF10 hM0 rfl rfl rfl (hF10.ev 20 rfl) (hF10.ev 19 rfl) rfl (by omega) fun a11 w2 hF11 hM1 => ?_
    refine sqEnd ?_
    clear hF3 hF4 hF5 hF6 hF7 hF8 hF9 hF10 hM0
    refine bkEnd ?_
    refine nx ?_
    refine wp_region_lit ?_
    refine sq (v := (.int .i64 ((i + 1 : Nat) : Int))) hF11 (wantedS rfl) (run_add (r := ((i + 1 : Nat) : Int)) rfl (hF11.ev 11 rfl) rfl (by rw [IntKind.wrap_i64]; omega)) rfl (by decide) fun a12 hF12 => ?_
    refine sq (v := (.int .i64 ((i + 1 : Nat) : Int))) hF12 (wantedS rfl) (run_mv rfl (hF12.ev 21 rfl)) rfl (by decide) fun a13 hF13 => ?_
    refine sqEnd ?_
    clear hF11 hF12
    refine nx ?_
    exact ⟨_, by omega, i + 1, by omega, rfl, hF13.sub ⟨rfl, rfl, rfl, rfl, rfl, trivial⟩, by rw [hst]; exact hM1⟩
  · have hie : i = 8 := by omega
    have hfin : l = putS n := by rw [← hl, hie, List.take_of_length_le (by rw [putS_len]; omega), Nat.sub_self, List.replicate_zero, List.append_nil]
    refine wp_seq ?_
    refine wp_region_lit ?_
    refine sq (v := (.bool false)) hF0 (wantedS rfl) (run_lss rfl (hF0.ev 11 rfl) (hF0.ev 10 rfl) (decide_eq_false (by omega))) rfl (by decide) fun a1 hF1 => ?_
    refine sqEnd ?_
    clear hF0
    refine nx ?_
    refine wp_seq ?_
    refine wp_cond_false (hF1.ev 12 rfl) ?_
    refine wp_exit ?_
    refine nxExit ?_
    refine nxExit ?_
    refine bkHere ?_
    refine nx ?_
    refine wp_seq ?_
    refine wp_region_lit ?_
    refine sq (v := (.int .i64 8)) hF1 (wantedS rfl) (run_mv rfl (hF1.ev 1 rfl)) rfl (by decide) fun a2 hF2 => ?_
    refine sq (v := (.slice (some ⟨g0, 0, none⟩) 8 8)) hF2 (wantedS rfl) (run_slA2 rfl (hF2.ev 5 rfl) (hF2.ev 22 rfl) (run_sliceArr_h (P := Tryd.prog) Tryd.underlying91 (fun _ => by kernel_rfl) g0 0 8 (by decide) (by decide) (by decide) _)) rfl (by decide) fun a3 hF3 => ?_
    refine sq (v := (.string ⟨l.toArray⟩)) hF3 (wantedS rfl) (run_cv rfl (hF3.ev 23 rfl) (run_strBlk (l := l) hll (hM0.at 0 rfl))) rfl (by decide) fun a4 hF4 => ?_
    refine sq (v := (.string ⟨l.toArray⟩)) hF4 (wantedS rfl) (run_as rfl (hF4.ev 24 rfl)) rfl (by decide) fun a5 hF5 => ?_
    refine sqEnd ?_
    clear hF1 hF2 hF3 hF4
    refine nx ?_
    refine wp_ret ?_
    exact ret1 hF5 rfl rfl ⟨by rw [← hfin], hM0.below⟩
theorem u64_or2 (a b : Nat) (ha : a < 2 ^ 64) (hb : b < 2 ^ 64) : bits .or .u64 (a : Int) (b : Int) = ((a ||| b : Nat) : Int) := by
  have hx : a ||| b < 2 ^ 64 := Nat.or_lt_two_pow ha hb
  show IntKind.u64.wrap ((BitVec.ofInt 64 (a : Int) ||| BitVec.ofInt 64 (b : Int)).toNat : Int) = _
  have e : ∀ c : Nat, c < 2 ^ 64 → (BitVec.ofInt 64 (c : Int)).toNat = c := by
    intro c hc
    rw [BitVec.toNat_ofInt]
    omega
  rw [BitVec.toNat_or, e a ha, e b hb, IntKind.wrap_u64]
  omega
theorem pow256 (i : Nat) (h : i < 8) : (256 : Nat) ^ i ≤ 256 ^ 7 := Nat.pow_le_pow_right (by decide) (by omega)
theorem or_get (a m i : Nat) (ha : a < 256 ^ i) (hm : m < 256) (hi : i < 8) : bits .or .u64 (a : Int) ((m * 256 ^ i : Nat) : Int) = ((a + m * 256 ^ i : Nat) : Int) := by
  have hp := pow256 i hi
  have h7 : (256 : Nat) ^ 7 * 256 = 2 ^ 64 := by decide
  have hm2 : m * 256 ^ i ≤ 255 * 256 ^ 7 := Nat.mul_le_mul (by omega) hp
  rw [u64_or2 a _ (by omega) (by omega)]
  congr 1
  have e : (256 : Nat) ^ i = 2 ^ (8 * i) := by rw [Nat.pow_mul]
  have h3 := Nat.shiftLeft_add_eq_or_of_lt (i := 8 * i) (b := a) (by rw [← e]; exact ha) m
  rw [Nat.shiftLeft_eq, ← e] at h3
  rw [Nat.or_comm, ← h3, Nat.add_comm]
set_option maxRecDepth 100000 in
set_option maxHeartbeats 1000000 in
theorem nget_any (s : List UInt8) (w : World) : Calls Tryd.prog 34 #[.string ⟨s.toArray⟩] w fun e w' => e = .returned (.int .u64 (getS s : Int)) ∧ Below w.heap.size w w' := by
  obtain ⟨k, hk⟩ : ∃ k, k = min s.length 8 := ⟨_, rfl⟩
  refine walk_enter Tryd.func34 rfl rfl rfl fun a0 hF0 => ?_
  have hM0 := Mem.new w
  refine wp_seq ?_
  refine wp_region_lit ?_
  refine sq (v := (.int .u64 0)) hF0 (wantedS rfl) (run_as rfl rfl) rfl (by decide) fun a1 hF1 => ?_
  refine sqEnd ?_
  clear hF0
  refine nx ?_
  refine wp_seq ?_
  refine wp_region_lit ?_
  refine sq (v := (.int .u64 0)) hF1 (wantedS rfl) (run_as rfl rfl) rfl (by decide) fun a2 hF2 => ?_
  refine sqEnd ?_
  clear hF1
  refine nx ?_
  refine wp_seq ?_
  refine wp_seq ?_
  refine wp_region_lit ?_
  refine sq (v := (.string ⟨s.toArray⟩)) hF2 (wantedS rfl) (run_mv rfl (hF2.ev 0 rfl)) rfl (by decide) fun a3 hF3 => ?_
  refine sq (v := (.int .i64 (s.length : Int))) hF3 (wantedS rfl) (run_len rfl (hF3.ev 5 rfl) rfl Tryd.underlying9) rfl (by decide) fun a4 hF4 => ?_
  refine sq (v := (.int .i64 (k : Int))) hF4 (wantedS rfl) (run_min2 (r := (k : Int)) rfl (hF4.ev 6 rfl) rfl (by split <;> omega)) rfl (by decide) fun a5 hF5 => ?_
  refine sq (v := (.int .i64 0)) hF5 (wantedS rfl) (run_mv rfl rfl) rfl (by decide) fun a6 hF6 => ?_
  refine sqEnd ?_
  clear hF2 hF3 hF4 hF5
  refine nx ?_
  refine wp_block ?_
  refine wkLoop (fun m a w2 => ∃ i : Nat, i ≤ k ∧ m = k - i ∧ Fr a 22 [(0, .string ⟨s.toArray⟩), (3, .int .u64 (getTo s i : Int)), (7, .int .i64 (k : Int)), (8, .int .i64 (i : Int))] ∧ Mem w [] w2) k ⟨0, Nat.zero_le _, rfl, hF6.sub ⟨rfl, rfl, rfl, rfl, trivial⟩, hM0⟩ ?_
  rintro m a0 w1 ⟨i, hi, rfl, hF0, hM0⟩
  by_cases h1 : i < k
  · have hb := (bt s i).toNat_lt
    have hg := getTo_lt s i
    have hp := pow256 i (by omega)
    have h7 : (256 : Nat) ^ 7 * 256 = 2 ^ 64 := by decide
    have hm2 : (bt s i).toNat * 256 ^ i ≤ 255 * 256 ^ 7 := Nat.mul_le_mul (by omega) hp
    have hst : getTo s (i + 1) = getTo s i + (bt s i).toNat * 256 ^ i := rfl
    refine wp_seq ?_
    refine wp_region_lit ?_
    refine sq (v := (.bool true)) hF0 (wantedS rfl) (run_lss rfl (hF0.ev 8 rfl) (hF0.ev 7 rfl) (decide_eq_true (by omega))) rfl (by decide) fun a1 hF1 => ?_
    refine sqEnd ?_
    clear hF0
    refine nx ?_
    refine wp_seq ?_
    refine wp_cond_true (hF1.ev 9 rfl) ?_
    refine wp_skip ?_
    refine nx ?_
    refine wp_seq ?_
    refine wp_block ?_
    refine wp_seq ?_
    refine wp_region_lit ?_
    refine sq (v := (.int .i64 (i : Int))) hF1 (wantedS rfl) (run_mv rfl (hF1.ev 8 rfl)) rfl (by decide) fun a2 hF2 => ?_
    refine sq (v := (.int .i64 (i : Int))) hF2 (wantedS rfl) (run_as rfl (hF2.ev 10 rfl)) rfl (by decide) fun a3 hF3 => ?_
    refine sqEnd ?_
    clear hF1 hF2
    refine nx ?_
    refine wp_region_lit ?_
    refine sq (v := (.int .u64 (getTo s i : Int))) hF3 (wantedS rfl) (run_mv rfl (hF3.ev 3 rfl)) rfl (by decide) fun a4 hF4 => ?_
    refine sq (v := (.string ⟨s.toArray⟩)) hF4 (wantedS rfl) (run_mv rfl (hF4.ev 0 rfl)) rfl (by decide) fun a5 hF5 => ?_
    refine sq (v := (.int .i64 (i : Int))) hF5 (wantedS rfl) (run_mv rfl (hF5.ev 4 rfl)) rfl (by decide) fun a6 hF6 => ?_
    refine sq (v := (.int .u8 ((bt s i).toNat : Int))) hF6 (wantedS rfl) (run_sAt (n := i) rfl (hF6.ev 12 rfl) (hF6.ev 13 rfl) Tryd.underlying9 rfl (by omega)) rfl (by decide) fun a7 hF7 => ?_
    refine sq (v := (.int .u64 ((bt s i).toNat : Int))) hF7 (wantedS rfl) (run_cvI (r := ((bt s i).toNat : Int)) rfl (hF7.ev 14 rfl) Tryd.underlying5 Tryd.underlying22 (by rw [IntKind.wrap_u64]; omega)) rfl (by decide) fun a8 hF8 => ?_
    refine sq (v := (.int .i64 (i : Int))) hF8 (wantedS rfl) (run_mv rfl (hF8.ev 4 rfl)) rfl (by decide) fun a9 hF9 => ?_
    refine sq (v := (.int .i64 (8 * (i : Int)))) hF9 (wantedS rfl) (run_mul (r := 8 * (i : Int)) rfl rfl (hF9.ev 16 rfl) (by rw [IntKind.wrap_i64]; omega)) rfl (by decide) fun a10 hF10 => ?_
    refine sq (v := (.int .u64 (((bt s i).toNat * 256 ^ i : Nat) : Int))) hF10 (wantedS rfl) (run_shl (r := (((bt s i).toNat * 256 ^ i : Nat) : Int)) rfl (hF10.ev 15 rfl) (hF10.ev 17 rfl) (by omega) (by first | decide | (simp [IntKind.bits]; omega)) (by rw [pow8, ← Int.natCast_mul, IntKind.wrap_u64]; omega)) rfl (by decide) fun a11 hF11 => ?_
    refine sq (v := (.int .u64 (getTo s (i + 1) : Int))) hF11 (wantedS rfl) (run_or (r := (getTo s (i + 1) : Int)) rfl (hF11.ev 11 rfl) (hF11.ev 18 rfl) (by rw [hst]; exact or_get _ _ i hg hb (by omega))) rfl (by decide) fun a12 hF12 => ?_
    refine sq (v := (.int .u64 (getTo s (i + 1) : Int))) hF12 (wantedS rfl) (run_as rfl (hF12.ev 19 rfl)) rfl (by decide) fun a13 hF13 => ?_
    refine sqEnd ?_
    clear hF3 hF4 hF5 hF6 hF7 hF8 hF9 hF10 hF11 hF12
    refine bkEnd ?_
    refine nx ?_
    refine wp_region_lit ?_
    refine sq (v := (.int .i64 ((i + 1 : Nat) : Int))) hF13 (wantedS rfl) (run_add (r := ((i + 1 : Nat) : Int)) rfl (hF13.ev 8 rfl) rfl (by rw [IntKind.wrap_i64]; omega)) rfl (by decide) fun a14 hF14 => ?_
    refine sq (v := (.int .i64 ((i + 1 : Nat) : Int))) hF14 (wantedS rfl) (run_mv rfl (hF14.ev 20 rfl)) rfl (by decide) fun a15 hF15 => ?_
    refine sqEnd ?_
    clear hF13 hF14
    refine nx ?_
    exact ⟨_, by omega, i + 1, by omega, rfl, hF15.sub ⟨rfl, rfl, rfl, rfl, trivial⟩, hM0⟩
  · have hie : i = k := by omega
    have hres : getS s = getTo s i := by unfold getS; rw [hie, hk]
    refine wp_seq ?_
    refine wp_region_lit ?_
    refine sq (v := (.bool false)) hF0 (wantedS rfl) (run_lss rfl (hF0.ev 8 rfl) (hF0.ev 7 rfl) (decide_eq_false (by omega))) rfl (by decide) fun a1 hF1 => ?_
    refine sqEnd ?_
    clear hF0
    refine nx ?_
    refine wp_seq ?_
    refine wp_cond_false (hF1.ev 9 rfl) ?_
    refine wp_exit ?_
    refine nxExit ?_
    refine nxExit ?_
    refine bkHere ?_
    refine nx ?_
    refine wp_seq ?_
    refine wp_region_lit ?_
    refine sq (v := (.int .u64 (getTo s i : Int))) hF1 (wantedS rfl) (run_mv rfl (hF1.ev 3 rfl)) rfl (by decide) fun a2 hF2 => ?_
    refine sq (v := (.int .u64 (getTo s i : Int))) hF2 (wantedS rfl) (run_as rfl (hF2.ev 21 rfl)) rfl (by decide) fun a3 hF3 => ?_
    refine sqEnd ?_
    clear hF1 hF2
    refine nx ?_
    refine wp_ret ?_
    exact ret1 hF3 rfl rfl ⟨by rw [hres], hM0.below⟩
set_option maxRecDepth 100000 in
set_option maxHeartbeats 1000000 in
theorem rput_any (n : Nat) (w : World) (hn : n < 2 ^ 64) : Calls Tryd.prog 37 #[.int .u64 (n : Int), .int .i64 8] w fun e w' => e = .returned (.string ⟨(putS n).toArray⟩) ∧ Below w.heap.size w w' := by
  refine walk_enter Tryd.func37 rfl rfl rfl fun a0 hF0 => ?_
  have hM0 := Mem.new w
  refine wp_seq ?_
  refine wp_region_lit ?_
  refine sq (v := (.string ⟨List.toArray []⟩)) hF0 (wantedS rfl) (run_as rfl rfl) rfl (by decide) fun a1 hF1 => ?_
  refine sqEnd ?_
  clear hF0
  refine nx ?_
  refine wp_seq ?_
  refine wp_region_lit ?_
  refine sq (v := (.string ⟨List.toArray []⟩)) hF1 (wantedS rfl) (run_as rfl rfl) rfl (by decide) fun a2 hF2 => ?_
  refine sqEnd ?_
  clear hF1
  refine nx ?_
  refine wp_seq ?_
  refine wp_seq ?_
  refine wp_region_lit ?_
  refine sq (v := (.int .i64 0)) hF2 (wantedS rfl) (run_as rfl rfl) rfl (by decide) fun a3 hF3 => ?_
  refine sqEnd ?_
  clear hF2
  refine nx ?_
  refine wp_block ?_
  refine wkLoop (fun m a w2 => ∃ i : Nat, i ≤ 8 ∧ m = 8 - i ∧ Fr a 26 [(0, .int .u64 ((n / 256 ^ i : Nat) : Int)), (1, .int .i64 8), (5, .string ⟨((putS n).take i).toArray⟩), (6, .int .i64 (i : Int))] ∧ Mem w [] w2) 8 ⟨0, Nat.zero_le _, rfl, by rw [Nat.pow_zero, Nat.div_one]; exact hF3.sub ⟨rfl, rfl, rfl, rfl, trivial⟩, hM0⟩ ?_
  rintro m a0 w1 ⟨i, hi, rfl, hF0, hM0⟩
  have hpl := putS_len n
  have htl : ((putS n).take i).length = i := by rw [List.length_take]; omega
  obtain ⟨q, hq⟩ : ∃ q, n / 256 ^ i = q := ⟨_, rfl⟩
  have hqn : q ≤ n := by rw [← hq]; exact Nat.div_le_self _ _
  rw [hq] at hF0
  by_cases h1 : i < 8
  · have hub : (UInt8.ofNat q).toNat = q % 256 := by rw [UInt8.toNat_ofNat']
    have hst : (putS n).take (i + 1) = (putS n).take i ++ [UInt8.ofNat q] := by
      have hg : (putS n)[i]'(by omega) = UInt8.ofNat (n / 256 ^ i) := by
        have := putS_get n i h1
        rwa [List.getD_eq_getElem?_getD, List.getElem?_eq_getElem (by omega), Option.getD_some] at this
      rw [List.take_succ_eq_append_getElem (by omega), hg, hq]
    have hdv : n / 256 ^ (i + 1) = q / 256 := by rw [Nat.pow_succ, ← Nat.div_div_eq_div_mul, hq]
    refine wp_seq ?_
    refine wp_seq ?_
    refine wp_region_lit ?_
    refine sq (v := (.int .i64 (i : Int))) hF0 (wantedS rfl) (run_mv rfl (hF0.ev 6 rfl)) rfl (by decide) fun a1 hF1 => ?_
    refine sq (v := (.int .i64 8)) hF1 (wantedS rfl) (run_mv rfl (hF1.ev 1 rfl)) rfl (by decide) fun a2 hF2 => ?_
    refine sq (v := (.bool true)) hF2 (wantedS rfl) (run_lss rfl (hF2.ev 7 rfl) (hF2.ev 8 rfl) (decide_eq_true (by omega))) rfl (by decide) fun a3 hF3 => ?_
    refine sq (v := (.bool true)) hF3 (wantedS rfl) (run_mv rfl (hF3.ev 9 rfl)) rfl (by decide) fun a4 hF4 => ?_
    refine sq (v := (.int .i64 (i : Int))) hF4 (wantedG hF4 rfl rfl rfl rfl rfl) (run_mv rfl (hF4.ev 6 rfl)) rfl (by decide) fun a5 hF5 => ?_
    refine sq (v := (.bool true)) hF5 (wantedG hF5 rfl rfl rfl rfl rfl) (run_lss rfl (hF5.ev 11 rfl) rfl (decide_eq_true (by omega))) rfl (by decide) fun a6 hF6 => ?_
    refine sq (v := (.bool true)) hF6 (wantedS rfl) (run_pick rfl (hF6.ev 10 rfl) (hF6.ev 12 rfl) rfl) rfl (by decide) fun a7 hF7 => ?_
    refine sqEnd ?_
    clear hF0 hF1 hF2 hF3 hF4 hF5 hF6
    refine nx ?_
    refine wp_cond_true (hF7.ev 13 rfl) ?_
    refine wp_skip ?_
    refine nx ?_
    refine wp_seq ?_
    refine wp_block ?_
    refine wp_seq ?_
    refine wp_region_lit ?_
    refine sq (v := (.string ⟨((putS n).take i).toArray⟩)) hF7 (wantedS rfl) (run_mv rfl (hF7.ev 5 rfl)) rfl (by decide) fun a8 hF8 => ?_
    refine sq (v := (.int .u64 (q : Int))) hF8 (wantedS rfl) (run_mv rfl (hF8.ev 0 rfl)) rfl (by decide) fun a9 hF9 => ?_
    refine sq (v := (.int .u64 ((q % 256 : Nat) : Int))) hF9 (wantedS rfl) (run_rem (r := ((q % 256 : Nat) : Int)) rfl (hF9.ev 17 rfl) rfl (by omega) (by rw [Int.tmod_eq_emod_of_nonneg (by omega)]; try omega)) rfl (by decide) fun a10 hF10 => ?_
    refine sq (v := (.int .u8 ((UInt8.ofNat q).toNat : Int))) hF10 (wantedS rfl) (run_cvI (r := ((UInt8.ofNat q).toNat : Int)) rfl (hF10.ev 18 rfl) Tryd.underlying22 Tryd.underlying5 (by rw [hub, IntKind.wrap_u8]; omega)) rfl (by decide) fun a11 hF11 => ?_
    refine sqBytes [(UInt8.ofNat q)] hF11 hM0 (wantedS rfl) (run_bytes1 rfl (hF11.ev 19 rfl)) rfl (by decide) fun g0 a12 w2 hgg0 hb2 hF12 hM1 => ?_
    refine sq (v := (.string ⟨List.toArray [(UInt8.ofNat q)]⟩)) hF12 (wantedS rfl) (run_cv rfl (hF12.ev 20 rfl) (run_strBlk (l := [(UInt8.ofNat q)]) rfl (hM1.at 0 rfl))) rfl (by decide) fun a13 hF13 => ?_
    refine sq (v := (.string ⟨((putS n).take i ++ [UInt8.ofNat q]).toArray⟩)) hF13 (wantedS rfl) (run_cat rfl (hF13.ev 16 rfl) (hF13.ev 21 rfl) (by simp; omega)) rfl (by decide) fun a14 hF14 => ?_
    refine sq (v := (.string ⟨((putS n).take i ++ [UInt8.ofNat q]).toArray⟩)) hF14 (wantedS rfl) (run_as rfl (hF14.ev 22 rfl)) rfl (by decide) fun a15 hF15 => ?_
    refine sqEnd ?_
    clear hF7 hF8 hF9 hF10 hF11 hF12 hF13 hF14 hM0
    refine nx ?_
    refine wp_region_lit ?_
    refine sq (v := (.int .u64 (q : Int))) hF15 (wantedS rfl) (run_mv rfl (hF15.ev 0 rfl)) rfl (by decide) fun a16 hF16 => ?_
    refine sq (v := (.int .u64 ((q / 256 : Nat) : Int))) hF16 (wantedS rfl) (run_quo (r := ((q / 256 : Nat) : Int)) rfl (hF16.ev 23 rfl) rfl (by omega) (by rw [Int.tdiv_eq_ediv_of_nonneg (by omega), IntKind.wrap_u64]; try omega)) rfl (by decide) fun a17 hF17 => ?_
    refine sq (v := (.int .u64 ((q / 256 : Nat) : Int))) hF17 (wantedS rfl) (run_as rfl (hF17.ev 24 rfl)) rfl (by decide) fun a18 hF18 => ?_
    refine sqEnd ?_
    clear hF15 hF16 hF17
    refine bkEnd ?_
    refine nx ?_
    refine wp_region_lit ?_
    refine sq (v := (.int .i64 (i : Int))) hF18 (wantedS rfl) (run_mv rfl (hF18.ev 6 rfl)) rfl (by decide) fun a19 hF19 => ?_
    refine sq (v := (.int .i64 ((i + 1 : Nat) : Int))) hF19 (wantedS rfl) (run_add (r := ((i + 1 : Nat) : Int)) rfl (hF19.ev 14 rfl) rfl (by rw [IntKind.wrap_i64]; omega)) rfl (by decide) fun a20 hF20 => ?_
    refine sq (v := (.int .i64 ((i + 1 : Nat) : Int))) hF20 (wantedS rfl) (run_as rfl (hF20.ev 15 rfl)) rfl (by decide) fun a21 hF21 => ?_
    refine sqEnd ?_
    clear hF18 hF19 hF20
    refine nx ?_
    exact ⟨_, by omega, i + 1, by omega, rfl, by rw [hst, hdv]; exact hF21.sub ⟨rfl, rfl, rfl, rfl, trivial⟩, hM1.sub (.cons _ .slnil)⟩
  · have hie : i = 8 := by omega
    have hres : (putS n).take i = putS n := List.take_of_length_le (by omega)
    refine wp_seq ?_
    refine wp_seq ?_
    refine wp_region_lit ?_
    refine sq (v := (.int .i64 (i : Int))) hF0 (wantedS rfl) (run_mv rfl (hF0.ev 6 rfl)) rfl (by decide) fun a1 hF1 => ?_
    refine sq (v := (.int .i64 8)) hF1 (wantedS rfl) (run_mv rfl (hF1.ev 1 rfl)) rfl (by decide) fun a2 hF2 => ?_
    refine sq (v := (.bool false)) hF2 (wantedS rfl) (run_lss rfl (hF2.ev 7 rfl) (hF2.ev 8 rfl) (decide_eq_false (by omega))) rfl (by decide) fun a3 hF3 => ?_
    refine sq (v := (.bool false)) hF3 (wantedS rfl) (run_mv rfl (hF3.ev 9 rfl)) rfl (by decide) fun a4 hF4 => ?_
    refine sqSkip hF4 (unwantedG hF4 rfl rfl rfl rfl rfl) rfl (by decide) fun a5 hF5 => ?_
    refine sqSkip hF5 (unwantedG hF5 rfl rfl rfl rfl rfl) rfl (by decide) fun a6 hF6 => ?_
    refine sq (v := (.bool false)) hF6 (wantedS rfl) (run_pick rfl (hF6.ev 10 rfl) (hF6.ev 12 rfl) rfl) rfl (by decide) fun a7 hF7 => ?_
    refine sqEnd ?_
    clear hF0 hF1 hF2 hF3 hF4 hF5 hF6
    refine nx ?_
    refine wp_cond_false (hF7.ev 13 rfl) ?_
    refine wp_exit ?_
    refine nxExit ?_
    refine nxExit ?_
    refine bkHere ?_
    refine nx ?_
    refine wp_seq ?_
    refine wp_region_lit ?_
    refine sq (v := (.string ⟨((putS n).take i).toArray⟩)) hF7 (wantedS rfl) (run_mv rfl (hF7.ev 5 rfl)) rfl (by decide) fun a8 hF8 => ?_
    refine sq (v := (.string ⟨((putS n).take i).toArray⟩)) hF8 (wantedS rfl) (run_as rfl (hF8.ev 25 rfl)) rfl (by decide) fun a9 hF9 => ?_
    refine sqEnd ?_
    clear hF7 hF8
    refine nx ?_
    refine wp_ret ?_
    exact ret1 hF9 rfl rfl ⟨by rw [hres], hM0.below⟩
end Go.Proofs.YtioioibcldgknaaDoor
