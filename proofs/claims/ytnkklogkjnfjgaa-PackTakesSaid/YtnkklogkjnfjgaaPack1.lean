/- The walks of pack.rowed, may and Make. Printed by gen_pack1.py. -/
import Derived.Test.YtnkklogkjnfjgaaPackS
import Derived.Test.YtnkklogkjnfjgaaSetW
import Derived.Test.YtnkklogkjnfjgaaNumTexts
import Derived.Test.YtnkklogkjnfjgaaNumB
namespace Go.Proofs.Ytnkklogkjnfjgaa
open Go.RowKit

set_option maxRecDepth 100000 in
set_option maxHeartbeats 1000000 in
theorem rowed_any (s : List UInt8) (w : World) (hs : s.length < 2 ^ 42) : Calls Try.prog 14 #[.string ⟨s.toArray⟩] w fun e w' => e = .returned (.int .i64 (rowedS s : Int)) ∧ Below w.heap.size w w' := by
  refine walk_enter Try.func14 rfl rfl rfl fun a0 hF0 => ?_
  have hM0 := Mem.new w
  refine wp_seq ?_
  refine wp_region_lit ?_
  refine sq (v := (.int .i64 0)) hF0 (wantedS rfl) (run_as rfl rfl) rfl (by decide) fun a1 hF1 => ?_
  refine sqEnd ?_
  clear hF0
  refine nx ?_
  refine wp_seq ?_
  refine wp_region_lit ?_
  refine sq (v := (.int .i64 1)) hF1 (wantedS rfl) (run_as rfl rfl) rfl (by decide) fun a2 hF2 => ?_
  refine sqEnd ?_
  clear hF1
  refine nx ?_
  refine wp_seq ?_
  refine wp_seq ?_
  refine wp_region_lit ?_
  refine sq (v := (.string ⟨s.toArray⟩)) hF2 (wantedS rfl) (run_mv rfl (hF2.ev 0 rfl)) rfl (by decide) fun a3 hF3 => ?_
  refine sq (v := (.int .i64 (s.length : Int))) hF3 (wantedS rfl) (run_len rfl (hF3.ev 5 rfl) rfl Try.underlying9) rfl (by decide) fun a4 hF4 => ?_
  refine sq (v := (.int .i64 ((s.length / 128 : Nat) : Int))) hF4 (wantedS rfl) (run_shr (r := ((s.length / 128 : Nat) : Int)) rfl (hF4.ev 6 rfl) rfl (by omega) (by first | decide | (simp [IntKind.bits]; omega)) (by show (s.length : Int) / 128 = _; omega)) rfl (by decide) fun a5 hF5 => ?_
  refine sq (v := (.int .i64 ((s.length / 128 : Nat) : Int))) hF5 (wantedS rfl) (run_as rfl (hF5.ev 7 rfl)) rfl (by decide) fun a6 hF6 => ?_
  refine sqEnd ?_
  clear hF2 hF3 hF4 hF5
  refine nx ?_
  refine wp_block ?_
  refine wkLoop (fun m a w2 => ∃ c r : Nat, m = r ∧ c + more7 r = (lenB s.length).length ∧ r < 2 ^ 42 ∧ Fr a 18 [(0, .string ⟨s.toArray⟩), (3, .int .i64 (c : Int)), (4, .int .i64 (r : Int))] ∧ Mem w [] w2) (s.length / 128) ⟨1, s.length / 128, rfl, (lenB_more _).symm, by omega, hF6.sub ⟨rfl, rfl, rfl, trivial⟩, hM0⟩ ?_
  rintro m a0 w1 ⟨c, r, rfl, hc, hr, hF0, hM0⟩
  have hlb := lenB_bound s.length (by omega)
  by_cases h0 : m = 0
  · have hcl : c = (lenB s.length).length := by rw [← hc, h0]; rfl
    refine wp_seq ?_
    refine wp_seq ?_
    refine wp_region_lit ?_
    refine sq (v := (.int .i64 (m : Int))) hF0 (wantedS rfl) (run_mv rfl (hF0.ev 4 rfl)) rfl (by decide) fun a1 hF1 => ?_
    refine sq (v := (.bool false)) hF1 (wantedS rfl) (run_gtr rfl (hF1.ev 8 rfl) rfl (decide_eq_false (by omega))) rfl (by decide) fun a2 hF2 => ?_
    refine sqEnd ?_
    clear hF0 hF1
    refine nx ?_
    refine wp_cond_false (hF2.ev 9 rfl) ?_
    refine wp_exit ?_
    refine nxExit ?_
    refine nxExit ?_
    refine bkHere ?_
    refine nx ?_
    refine wp_seq ?_
    refine wp_region_lit ?_
    refine sq (v := (.int .i64 (c : Int))) hF2 (wantedS rfl) (run_mv rfl (hF2.ev 3 rfl)) rfl (by decide) fun a3 hF3 => ?_
    refine sq (v := (.string ⟨s.toArray⟩)) hF3 (wantedS rfl) (run_mv rfl (hF3.ev 0 rfl)) rfl (by decide) fun a4 hF4 => ?_
    refine sq (v := (.int .i64 (s.length : Int))) hF4 (wantedS rfl) (run_len rfl (hF4.ev 15 rfl) rfl Try.underlying9) rfl (by decide) fun a5 hF5 => ?_
    refine sq (v := (.int .i64 ((c : Int) + (s.length : Int)))) hF5 (wantedS rfl) (run_add (r := (c : Int) + (s.length : Int)) rfl (hF5.ev 14 rfl) (hF5.ev 16 rfl) (by rw [IntKind.wrap_i64]; omega)) rfl (by decide) fun a6 hF6 => ?_
    refine sq (v := (.int .i64 ((c : Int) + (s.length : Int)))) hF6 (wantedS rfl) (run_as rfl (hF6.ev 17 rfl)) rfl (by decide) fun a7 hF7 => ?_
    refine sqEnd ?_
    clear hF2 hF3 hF4 hF5 hF6
    refine nx ?_
    refine wp_ret ?_
    exact ret1 hF7 rfl rfl ⟨by rw [hcl]; rfl, hM0.below⟩
  · have hst := more7_step m h0
    refine wp_seq ?_
    refine wp_seq ?_
    refine wp_region_lit ?_
    refine sq (v := (.int .i64 (m : Int))) hF0 (wantedS rfl) (run_mv rfl (hF0.ev 4 rfl)) rfl (by decide) fun a1 hF1 => ?_
    refine sq (v := (.bool true)) hF1 (wantedS rfl) (run_gtr rfl (hF1.ev 8 rfl) rfl (decide_eq_true (by omega))) rfl (by decide) fun a2 hF2 => ?_
    refine sqEnd ?_
    clear hF0 hF1
    refine nx ?_
    refine wp_cond_true (hF2.ev 9 rfl) ?_
    refine wp_skip ?_
    refine nx ?_
    refine wp_seq ?_
    refine wp_block ?_
    refine wp_region_lit ?_
    refine sq (v := (.int .i64 (c : Int))) hF2 (wantedS rfl) (run_mv rfl (hF2.ev 3 rfl)) rfl (by decide) fun a3 hF3 => ?_
    refine sq (v := (.int .i64 ((c + 1 : Nat) : Int))) hF3 (wantedS rfl) (run_add (r := ((c + 1 : Nat) : Int)) rfl (hF3.ev 12 rfl) rfl (by rw [IntKind.wrap_i64]; omega)) rfl (by decide) fun a4 hF4 => ?_
    refine sq (v := (.int .i64 ((c + 1 : Nat) : Int))) hF4 (wantedS rfl) (run_as rfl (hF4.ev 13 rfl)) rfl (by decide) fun a5 hF5 => ?_
    refine sqEnd ?_
    clear hF2 hF3 hF4
    refine bkEnd ?_
    refine nx ?_
    refine wp_region_lit ?_
    refine sq (v := (.int .i64 (m : Int))) hF5 (wantedS rfl) (run_mv rfl (hF5.ev 4 rfl)) rfl (by decide) fun a6 hF6 => ?_
    refine sq (v := (.int .i64 ((m / 128 : Nat) : Int))) hF6 (wantedS rfl) (run_shr (r := ((m / 128 : Nat) : Int)) rfl (hF6.ev 10 rfl) rfl (by omega) (by first | decide | (simp [IntKind.bits]; omega)) (by show (m : Int) / 128 = _; omega)) rfl (by decide) fun a7 hF7 => ?_
    refine sq (v := (.int .i64 ((m / 128 : Nat) : Int))) hF7 (wantedS rfl) (run_as rfl (hF7.ev 11 rfl)) rfl (by decide) fun a8 hF8 => ?_
    refine sqEnd ?_
    clear hF5 hF6 hF7
    refine nx ?_
    exact ⟨_, by omega, c + 1, m / 128, rfl, by omega, by omega, hF8.sub ⟨rfl, rfl, rfl, trivial⟩, hM0⟩
set_option maxRecDepth 100000 in
set_option maxHeartbeats 1000000 in
theorem may_any (g : Nat) (names : List (List UInt8)) (s : List UInt8) (w : World) (hg : ∃ ob, w.heap[g]? = some ob ∧ isSet names ob) (hs : s.length < 2 ^ 42) : Calls Try.prog 13 #[.map (some g), .string ⟨s.toArray⟩] w fun e w' => e = .returned (.int .i64 (mayS names s)) ∧ Below w.heap.size w w' := by
  by_cases h1 : s.length < 1
  · have hm : mayS names s = 7 := by unfold mayS; rw [if_pos (.inl h1)]
    rw [hm]
    refine walk_enter Try.func13 rfl rfl rfl fun a0 hF0 => ?_
    have hM0 := Mem.new w
    refine wp_seq ?_
    refine wp_region_lit ?_
    refine sq (v := (.int .i64 0)) hF0 (wantedS rfl) (run_as rfl rfl) rfl (by decide) fun a1 hF1 => ?_
    refine sqEnd ?_
    clear hF0
    refine nx ?_
    refine wp_seq ?_
    refine wp_seq ?_
    refine wp_region_lit ?_
    refine sq (v := (.string ⟨s.toArray⟩)) hF1 (wantedS rfl) (run_mv rfl (hF1.ev 1 rfl)) rfl (by decide) fun a2 hF2 => ?_
    refine sq (v := (.int .i64 (s.length : Int))) hF2 (wantedS rfl) (run_len rfl (hF2.ev 5 rfl) rfl Try.underlying9) rfl (by decide) fun a3 hF3 => ?_
    refine sq (v := (.bool true)) hF3 (wantedS rfl) (run_lss rfl (hF3.ev 6 rfl) rfl (decide_eq_true (by omega))) rfl (by decide) fun a4 hF4 => ?_
    refine sq (v := (.bool true)) hF4 (wantedS rfl) (run_mv rfl (hF4.ev 7 rfl)) rfl (by decide) fun a5 hF5 => ?_
    refine sqSkip hF5 (unwantedG hF5 rfl rfl rfl rfl rfl) rfl (by decide) fun a6 hF6 => ?_
    refine sqSkip hF6 (unwantedG hF6 rfl rfl rfl rfl rfl) rfl (by decide) fun a7 hF7 => ?_
    refine sqSkip hF7 (unwantedG hF7 rfl rfl rfl rfl rfl) rfl (by decide) fun a8 hF8 => ?_
    refine sq (v := (.bool true)) hF8 (wantedS rfl) (run_pick rfl (hF8.ev 8 rfl) rfl (hF8.ev 11 rfl)) rfl (by decide) fun a9 hF9 => ?_
    refine sqEnd ?_
    clear hF1 hF2 hF3 hF4 hF5 hF6 hF7 hF8
    refine nx ?_
    refine wp_cond_true (hF9.ev 12 rfl) ?_
    refine wp_seq ?_
    refine wp_region_lit ?_
    refine sq (v := (.int .i64 7)) hF9 (wantedS rfl) (run_as rfl rfl) rfl (by decide) fun a10 hF10 => ?_
    refine sqEnd ?_
    clear hF9
    refine nx ?_
    refine wp_ret ?_
    refine nxRet ?_
    exact ret1 hF10 rfl rfl ⟨rfl, hM0.below⟩
  by_cases h2 : 100 < s.length
  · have hm : mayS names s = 7 := by unfold mayS; rw [if_pos (.inr h2)]
    rw [hm]
    refine walk_enter Try.func13 rfl rfl rfl fun a0 hF0 => ?_
    have hM0 := Mem.new w
    refine wp_seq ?_
    refine wp_region_lit ?_
    refine sq (v := (.int .i64 0)) hF0 (wantedS rfl) (run_as rfl rfl) rfl (by decide) fun a1 hF1 => ?_
    refine sqEnd ?_
    clear hF0
    refine nx ?_
    refine wp_seq ?_
    refine wp_seq ?_
    refine wp_region_lit ?_
    refine sq (v := (.string ⟨s.toArray⟩)) hF1 (wantedS rfl) (run_mv rfl (hF1.ev 1 rfl)) rfl (by decide) fun a2 hF2 => ?_
    refine sq (v := (.int .i64 (s.length : Int))) hF2 (wantedS rfl) (run_len rfl (hF2.ev 5 rfl) rfl Try.underlying9) rfl (by decide) fun a3 hF3 => ?_
    refine sq (v := (.bool false)) hF3 (wantedS rfl) (run_lss rfl (hF3.ev 6 rfl) rfl (decide_eq_false (by omega))) rfl (by decide) fun a4 hF4 => ?_
    refine sq (v := (.bool false)) hF4 (wantedS rfl) (run_mv rfl (hF4.ev 7 rfl)) rfl (by decide) fun a5 hF5 => ?_
    refine sq (v := (.string ⟨s.toArray⟩)) hF5 (wantedG hF5 rfl rfl rfl rfl rfl) (run_mv rfl (hF5.ev 1 rfl)) rfl (by decide) fun a6 hF6 => ?_
    refine sq (v := (.int .i64 (s.length : Int))) hF6 (wantedG hF6 rfl rfl rfl rfl rfl) (run_len rfl (hF6.ev 9 rfl) rfl Try.underlying9) rfl (by decide) fun a7 hF7 => ?_
    refine sq (v := (.bool true)) hF7 (wantedG hF7 rfl rfl rfl rfl rfl) (run_gtr rfl (hF7.ev 10 rfl) rfl (decide_eq_true (by omega))) rfl (by decide) fun a8 hF8 => ?_
    refine sq (v := (.bool true)) hF8 (wantedS rfl) (run_pick rfl (hF8.ev 8 rfl) rfl (hF8.ev 11 rfl)) rfl (by decide) fun a9 hF9 => ?_
    refine sqEnd ?_
    clear hF1 hF2 hF3 hF4 hF5 hF6 hF7 hF8
    refine nx ?_
    refine wp_cond_true (hF9.ev 12 rfl) ?_
    refine wp_seq ?_
    refine wp_region_lit ?_
    refine sq (v := (.int .i64 7)) hF9 (wantedS rfl) (run_as rfl rfl) rfl (by decide) fun a10 hF10 => ?_
    refine sqEnd ?_
    clear hF9
    refine nx ?_
    refine wp_ret ?_
    refine nxRet ?_
    exact ret1 hF10 rfl rfl ⟨rfl, hM0.below⟩
  have h3 : ¬ (s.length < 1 ∨ 100 < s.length) := by omega
  cases hc : names.contains s with
  | true =>
    have hm : mayS names s = 8 := by unfold mayS; rw [if_neg h3, hc]; rfl
    rw [hm]
    refine walk_enter Try.func13 rfl rfl rfl fun a0 hF0 => ?_
    have hM0 := Mem.new w
    refine wp_seq ?_
    refine wp_region_lit ?_
    refine sq (v := (.int .i64 0)) hF0 (wantedS rfl) (run_as rfl rfl) rfl (by decide) fun a1 hF1 => ?_
    refine sqEnd ?_
    clear hF0
    refine nx ?_
    refine wp_seq ?_
    refine wp_seq ?_
    refine wp_region_lit ?_
    refine sq (v := (.string ⟨s.toArray⟩)) hF1 (wantedS rfl) (run_mv rfl (hF1.ev 1 rfl)) rfl (by decide) fun a2 hF2 => ?_
    refine sq (v := (.int .i64 (s.length : Int))) hF2 (wantedS rfl) (run_len rfl (hF2.ev 5 rfl) rfl Try.underlying9) rfl (by decide) fun a3 hF3 => ?_
    refine sq (v := (.bool false)) hF3 (wantedS rfl) (run_lss rfl (hF3.ev 6 rfl) rfl (decide_eq_false (by omega))) rfl (by decide) fun a4 hF4 => ?_
    refine sq (v := (.bool false)) hF4 (wantedS rfl) (run_mv rfl (hF4.ev 7 rfl)) rfl (by decide) fun a5 hF5 => ?_
    refine sq (v := (.string ⟨s.toArray⟩)) hF5 (wantedG hF5 rfl rfl rfl rfl rfl) (run_mv rfl (hF5.ev 1 rfl)) rfl (by decide) fun a6 hF6 => ?_
    refine sq (v := (.int .i64 (s.length : Int))) hF6 (wantedG hF6 rfl rfl rfl rfl rfl) (run_len rfl (hF6.ev 9 rfl) rfl Try.underlying9) rfl (by decide) fun a7 hF7 => ?_
    refine sq (v := (.bool false)) hF7 (wantedG hF7 rfl rfl rfl rfl rfl) (run_gtr rfl (hF7.ev 10 rfl) rfl (decide_eq_false (by omega))) rfl (by decide) fun a8 hF8 => ?_
    refine sq (v := (.bool false)) hF8 (wantedS rfl) (run_pick rfl (hF8.ev 8 rfl) rfl (hF8.ev 11 rfl)) rfl (by decide) fun a9 hF9 => ?_
    refine sqEnd ?_
    clear hF1 hF2 hF3 hF4 hF5 hF6 hF7 hF8
    refine nx ?_
    refine wp_cond_false (hF9.ev 12 rfl) ?_
    refine wp_skip ?_
    refine nx ?_
    refine wp_seq ?_
    refine wp_seq ?_
    refine wp_region_lit ?_
    refine sq (v := (.map (some g))) hF9 (wantedS rfl) (run_mv rfl (hF9.ev 0 rfl)) rfl (by decide) fun a10 hF10 => ?_
    refine sq (v := (.string ⟨s.toArray⟩)) hF10 (wantedS rfl) (run_mv rfl (hF10.ev 1 rfl)) rfl (by decide) fun a11 hF11 => ?_
    refine sq (v := (.bool true)) hF11 (wantedS rfl) (eqv hc (run_inSet rfl (hF11.ev 13 rfl) (hF11.ev 14 rfl) (ob_below hM0.below hg) (by unfold maxLen; omega))) rfl (by decide) fun a12 hF12 => ?_
    refine sqEnd ?_
    clear hF9 hF10 hF11
    refine nx ?_
    refine wp_cond_true (hF12.ev 15 rfl) ?_
    refine wp_seq ?_
    refine wp_region_lit ?_
    refine sq (v := (.int .i64 8)) hF12 (wantedS rfl) (run_as rfl rfl) rfl (by decide) fun a13 hF13 => ?_
    refine sqEnd ?_
    clear hF12
    refine nx ?_
    refine wp_ret ?_
    refine nxRet ?_
    exact ret1 hF13 rfl rfl ⟨rfl, hM0.below⟩
  | false =>
    have hm : mayS names s = 0 := by unfold mayS; rw [if_neg h3, hc]; rfl
    rw [hm]
    refine walk_enter Try.func13 rfl rfl rfl fun a0 hF0 => ?_
    have hM0 := Mem.new w
    refine wp_seq ?_
    refine wp_region_lit ?_
    refine sq (v := (.int .i64 0)) hF0 (wantedS rfl) (run_as rfl rfl) rfl (by decide) fun a1 hF1 => ?_
    refine sqEnd ?_
    clear hF0
    refine nx ?_
    refine wp_seq ?_
    refine wp_seq ?_
    refine wp_region_lit ?_
    refine sq (v := (.string ⟨s.toArray⟩)) hF1 (wantedS rfl) (run_mv rfl (hF1.ev 1 rfl)) rfl (by decide) fun a2 hF2 => ?_
    refine sq (v := (.int .i64 (s.length : Int))) hF2 (wantedS rfl) (run_len rfl (hF2.ev 5 rfl) rfl Try.underlying9) rfl (by decide) fun a3 hF3 => ?_
    refine sq (v := (.bool false)) hF3 (wantedS rfl) (run_lss rfl (hF3.ev 6 rfl) rfl (decide_eq_false (by omega))) rfl (by decide) fun a4 hF4 => ?_
    refine sq (v := (.bool false)) hF4 (wantedS rfl) (run_mv rfl (hF4.ev 7 rfl)) rfl (by decide) fun a5 hF5 => ?_
    refine sq (v := (.string ⟨s.toArray⟩)) hF5 (wantedG hF5 rfl rfl rfl rfl rfl) (run_mv rfl (hF5.ev 1 rfl)) rfl (by decide) fun a6 hF6 => ?_
    refine sq (v := (.int .i64 (s.length : Int))) hF6 (wantedG hF6 rfl rfl rfl rfl rfl) (run_len rfl (hF6.ev 9 rfl) rfl Try.underlying9) rfl (by decide) fun a7 hF7 => ?_
    refine sq (v := (.bool false)) hF7 (wantedG hF7 rfl rfl rfl rfl rfl) (run_gtr rfl (hF7.ev 10 rfl) rfl (decide_eq_false (by omega))) rfl (by decide) fun a8 hF8 => ?_
    refine sq (v := (.bool false)) hF8 (wantedS rfl) (run_pick rfl (hF8.ev 8 rfl) rfl (hF8.ev 11 rfl)) rfl (by decide) fun a9 hF9 => ?_
    refine sqEnd ?_
    clear hF1 hF2 hF3 hF4 hF5 hF6 hF7 hF8
    refine nx ?_
    refine wp_cond_false (hF9.ev 12 rfl) ?_
    refine wp_skip ?_
    refine nx ?_
    refine wp_seq ?_
    refine wp_seq ?_
    refine wp_region_lit ?_
    refine sq (v := (.map (some g))) hF9 (wantedS rfl) (run_mv rfl (hF9.ev 0 rfl)) rfl (by decide) fun a10 hF10 => ?_
    refine sq (v := (.string ⟨s.toArray⟩)) hF10 (wantedS rfl) (run_mv rfl (hF10.ev 1 rfl)) rfl (by decide) fun a11 hF11 => ?_
    refine sq (v := (.bool false)) hF11 (wantedS rfl) (eqv hc (run_inSet rfl (hF11.ev 13 rfl) (hF11.ev 14 rfl) (ob_below hM0.below hg) (by unfold maxLen; omega))) rfl (by decide) fun a12 hF12 => ?_
    refine sqEnd ?_
    clear hF9 hF10 hF11
    refine nx ?_
    refine wp_cond_false (hF12.ev 15 rfl) ?_
    refine wp_skip ?_
    refine nx ?_
    refine wp_seq ?_
    refine wp_region_lit ?_
    refine sq (v := (.int .i64 0)) hF12 (wantedS rfl) (run_as rfl rfl) rfl (by decide) fun a13 hF13 => ?_
    refine sqEnd ?_
    clear hF12
    refine nx ?_
    refine wp_ret ?_
    exact ret1 hF13 rfl rfl ⟨rfl, hM0.below⟩
end Go.Proofs.Ytnkklogkjnfjgaa
