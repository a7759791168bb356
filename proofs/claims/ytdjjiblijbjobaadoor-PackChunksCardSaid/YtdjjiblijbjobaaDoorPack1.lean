/- The walks of pack.rowed, may and Make. Printed by gen_pack1.py. -/
import Derived.Test.YtdjjiblijbjobaaDoorPackS
import Derived.Test.YtdjjiblijbjobaaDoorSetW
import Derived.Test.YtdjjiblijbjobaaDoorNumTexts
import Derived.Test.YtdjjiblijbjobaaDoorNumB
namespace Go.Proofs.YtdjjiblijbjobaaDoor
open Go.RowKit

set_option maxRecDepth 100000 in
set_option maxHeartbeats 1000000 in
theorem rowed_any (s : List UInt8) (w : World) (hs : s.length < 2 ^ 42) : Calls Tryd.prog 61 #[.string ⟨s.toArray⟩] w fun e w' => e = .returned (.int .i64 (rowedS s : Int)) ∧ Below w.heap.size w w' := by
  refine walk_enter Tryd.func61 rfl rfl rfl fun a0 F0 => ?_
  have M0 := Mem.new w
  refine wsl ?_
  refine sr (v := (.int .i64 0)) F0 (run_as rfl rfl) rfl rfl rfl fun a1 F1 => ?_
  refine sn ?_
  clear F0
  refine wsl ?_
  refine sr (v := (.int .i64 1)) F1 (run_as rfl rfl) rfl rfl rfl fun a2 F2 => ?_
  refine sn ?_
  clear F1
  refine wp_seq ?_
  refine wsl ?_
  refine mvS F2 rfl rfl rfl rfl rfl fun a3 F3 => ?_
  refine sr F3 (run_len rfl (F3.ev 5 rfl) rfl Tryd.underlying9) rfl rfl rfl fun a4 F4 => ?_
  refine sr (v := (.int .i64 ((s.length / 128 : Nat) : Int))) F4 (run_shr (r := ((s.length / 128 : Nat) : Int)) rfl (F4.ev 6 rfl) rfl (by omega) (by first | decide | (simp [IntKind.bits]; omega)) (by show (s.length : Int) / 128 = _; omega)) rfl rfl rfl fun a5 F5 => ?_
  refine asS F5 rfl rfl rfl rfl rfl fun a6 F6 => ?_
  refine sn ?_
  clear F2 F3 F4 F5
  refine wp_block ?_
  refine wkLoop (fun m a w2 => ∃ c r : Nat, m = r ∧ c + more7 r = (lenB s.length).length ∧ r < 2 ^ 42 ∧ Fr a 18 [(0, .string ⟨s.toArray⟩), (3, .int .i64 (c : Int)), (4, .int .i64 (r : Int))] ∧ Mem w [] w2) (s.length / 128) ⟨1, s.length / 128, rfl, (lenB_more _).symm, by omega, F6.sub ⟨rfl, rfl, rfl, trivial⟩, M0⟩ ?_
  rintro m a0 w1 ⟨c, r, rfl, hc, hr, F0, M0⟩
  have hlb := lenB_bound s.length (by omega)
  by_cases h0 : m = 0
  · have hcl : c = (lenB s.length).length := by rw [← hc, h0]; rfl
    refine wp_seq ?_
    refine wsl ?_
    refine mvS F0 rfl rfl rfl rfl rfl fun a1 F1 => ?_
    refine sr (v := (.bool false)) F1 (run_gtr rfl (F1.ev 8 rfl) rfl (decide_eq_false (by omega))) rfl rfl rfl fun a2 F2 => ?_
    refine sn ?_
    clear F0 F1
    refine wp_cond_false (F2.ev 9 rfl) ?_
    refine wp_exit ?_
    refine nxExit ?_
    refine nxExit ?_
    refine bkHere ?_
    refine nx ?_
    refine wsl ?_
    refine mvS F2 rfl rfl rfl rfl rfl fun a3 F3 => ?_
    refine mvS F3 rfl rfl rfl rfl rfl fun a4 F4 => ?_
    refine sr F4 (run_len rfl (F4.ev 15 rfl) rfl Tryd.underlying9) rfl rfl rfl fun a5 F5 => ?_
    refine sr F5 (run_add (r := (c : Int) + (s.length : Int)) rfl (F5.ev 14 rfl) (F5.ev 16 rfl) (by rw [IntKind.wrap_i64]; omega)) rfl rfl rfl fun a6 F6 => ?_
    refine asS F6 rfl rfl rfl rfl rfl fun a7 F7 => ?_
    refine sn ?_
    clear F2 F3 F4 F5 F6
    refine wp_ret ?_
    exact ret1 F7 rfl rfl ⟨by rw [hcl]; rfl, M0.below⟩
  · have hst := more7_step m h0
    refine wp_seq ?_
    refine wsl ?_
    refine mvS F0 rfl rfl rfl rfl rfl fun a1 F1 => ?_
    refine sr (v := (.bool true)) F1 (run_gtr rfl (F1.ev 8 rfl) rfl (decide_eq_true (by omega))) rfl rfl rfl fun a2 F2 => ?_
    refine sn ?_
    clear F0 F1
    refine cts (F2.ev 9 rfl) ?_
    refine wp_seq ?_
    refine wp_block ?_
    refine wp_region_lit ?_
    refine mvS F2 rfl rfl rfl rfl rfl fun a3 F3 => ?_
    refine sr F3 (run_add (r := ((c + 1 : Nat) : Int)) rfl (F3.ev 12 rfl) rfl (by rw [IntKind.wrap_i64]; omega)) rfl rfl rfl fun a4 F4 => ?_
    refine asS F4 rfl rfl rfl rfl rfl fun a5 F5 => ?_
    refine sqEnd ?_
    clear F2 F3 F4
    refine bkEnd ?_
    refine nx ?_
    refine wp_region_lit ?_
    refine mvS F5 rfl rfl rfl rfl rfl fun a6 F6 => ?_
    refine sr (v := (.int .i64 ((m / 128 : Nat) : Int))) F6 (run_shr (r := ((m / 128 : Nat) : Int)) rfl (F6.ev 10 rfl) rfl (by omega) (by first | decide | (simp [IntKind.bits]; omega)) (by show (m : Int) / 128 = _; omega)) rfl rfl rfl fun a7 F7 => ?_
    refine asS F7 rfl rfl rfl rfl rfl fun a8 F8 => ?_
    refine sn ?_
    clear F5 F6 F7
    exact ⟨_, by omega, c + 1, m / 128, rfl, by omega, by omega, F8.sub ⟨rfl, rfl, rfl, trivial⟩, M0⟩
set_option maxRecDepth 100000 in
set_option maxHeartbeats 1000000 in
theorem may_any (g : Nat) (names : List (List UInt8)) (s : List UInt8) (w : World) (hg : ∃ ob, w.heap[g]? = some ob ∧ isSet names ob) (hs : s.length < 2 ^ 42) : Calls Tryd.prog 60 #[.map (some g), .string ⟨s.toArray⟩] w fun e w' => e = .returned (.int .i64 (mayS names s)) ∧ Below w.heap.size w w' := by
  by_cases h1 : s.length < 1
  · have hm : mayS names s = 7 := by unfold mayS; rw [if_pos (.inl h1)]
    rw [hm]
    refine walk_enter Tryd.func60 rfl rfl rfl fun a0 F0 => ?_
    have M0 := Mem.new w
    refine wsl ?_
    refine sr (v := (.int .i64 0)) F0 (run_as rfl rfl) rfl rfl rfl fun a1 F1 => ?_
    refine sn ?_
    clear F0
    refine wp_seq ?_
    refine wsl ?_
    refine mvS F1 rfl rfl rfl rfl rfl fun a2 F2 => ?_
    refine sr F2 (run_len rfl (F2.ev 5 rfl) rfl Tryd.underlying9) rfl rfl rfl fun a3 F3 => ?_
    refine sr (v := (.bool true)) F3 (run_lss rfl (F3.ev 6 rfl) rfl (decide_eq_true (by omega))) rfl rfl rfl fun a4 F4 => ?_
    refine mvS F4 rfl rfl rfl rfl rfl fun a5 F5 => ?_
    refine sqSkip F5 (unwantedG F5 rfl rfl rfl rfl rfl) rfl (by decide) fun a6 F6 => ?_
    refine sqSkip F6 (unwantedG F6 rfl rfl rfl rfl rfl) rfl (by decide) fun a7 F7 => ?_
    refine sqSkip F7 (unwantedG F7 rfl rfl rfl rfl rfl) rfl (by decide) fun a8 F8 => ?_
    refine sr (v := (.bool true)) F8 (run_pick rfl (F8.ev 8 rfl) rfl (F8.ev 11 rfl)) rfl rfl rfl fun a9 F9 => ?_
    refine sn ?_
    clear F1 F2 F3 F4 F5 F6 F7 F8
    refine wp_cond_true (F9.ev 12 rfl) ?_
    refine wsl ?_
    refine sr (v := (.int .i64 7)) F9 (run_as rfl rfl) rfl rfl rfl fun a10 F10 => ?_
    refine sn ?_
    clear F9
    refine wp_ret ?_
    refine nxRet ?_
    exact ret1 F10 rfl rfl ⟨rfl, M0.below⟩
  by_cases h2 : 100 < s.length
  · have hm : mayS names s = 7 := by unfold mayS; rw [if_pos (.inr h2)]
    rw [hm]
    refine walk_enter Tryd.func60 rfl rfl rfl fun a0 F0 => ?_
    have M0 := Mem.new w
    refine wsl ?_
    refine sr (v := (.int .i64 0)) F0 (run_as rfl rfl) rfl rfl rfl fun a1 F1 => ?_
    refine sn ?_
    clear F0
    refine wp_seq ?_
    refine wsl ?_
    refine mvS F1 rfl rfl rfl rfl rfl fun a2 F2 => ?_
    refine sr F2 (run_len rfl (F2.ev 5 rfl) rfl Tryd.underlying9) rfl rfl rfl fun a3 F3 => ?_
    refine sr (v := (.bool false)) F3 (run_lss rfl (F3.ev 6 rfl) rfl (decide_eq_false (by omega))) rfl rfl rfl fun a4 F4 => ?_
    refine mvS F4 rfl rfl rfl rfl rfl fun a5 F5 => ?_
    refine sq (v := (.string ⟨s.toArray⟩)) F5 (wantedG F5 rfl rfl rfl rfl rfl) (run_mv rfl (F5.ev 1 rfl)) rfl (by decide) fun a6 F6 => ?_
    refine sq (v := (.int .i64 (s.length : Int))) F6 (wantedG F6 rfl rfl rfl rfl rfl) (run_len rfl (F6.ev 9 rfl) rfl Tryd.underlying9) rfl (by decide) fun a7 F7 => ?_
    refine sq (v := (.bool true)) F7 (wantedG F7 rfl rfl rfl rfl rfl) (run_gtr rfl (F7.ev 10 rfl) rfl (decide_eq_true (by omega))) rfl (by decide) fun a8 F8 => ?_
    refine sr (v := (.bool true)) F8 (run_pick rfl (F8.ev 8 rfl) rfl (F8.ev 11 rfl)) rfl rfl rfl fun a9 F9 => ?_
    refine sn ?_
    clear F1 F2 F3 F4 F5 F6 F7 F8
    refine wp_cond_true (F9.ev 12 rfl) ?_
    refine wsl ?_
    refine sr (v := (.int .i64 7)) F9 (run_as rfl rfl) rfl rfl rfl fun a10 F10 => ?_
    refine sn ?_
    clear F9
    refine wp_ret ?_
    refine nxRet ?_
    exact ret1 F10 rfl rfl ⟨rfl, M0.below⟩
  have h3 : ¬ (s.length < 1 ∨ 100 < s.length) := by omega
  cases hc : names.contains s with
  | true =>
    have hm : mayS names s = 8 := by unfold mayS; rw [if_neg h3, hc]; rfl
    rw [hm]
    refine walk_enter Tryd.func60 rfl rfl rfl fun a0 F0 => ?_
    have M0 := Mem.new w
    refine wsl ?_
    refine sr (v := (.int .i64 0)) F0 (run_as rfl rfl) rfl rfl rfl fun a1 F1 => ?_
    refine sn ?_
    clear F0
    refine wp_seq ?_
    refine wsl ?_
    refine mvS F1 rfl rfl rfl rfl rfl fun a2 F2 => ?_
    refine sr F2 (run_len rfl (F2.ev 5 rfl) rfl Tryd.underlying9) rfl rfl rfl fun a3 F3 => ?_
    refine sr (v := (.bool false)) F3 (run_lss rfl (F3.ev 6 rfl) rfl (decide_eq_false (by omega))) rfl rfl rfl fun a4 F4 => ?_
    refine mvS F4 rfl rfl rfl rfl rfl fun a5 F5 => ?_
    refine sq (v := (.string ⟨s.toArray⟩)) F5 (wantedG F5 rfl rfl rfl rfl rfl) (run_mv rfl (F5.ev 1 rfl)) rfl (by decide) fun a6 F6 => ?_
    refine sq (v := (.int .i64 (s.length : Int))) F6 (wantedG F6 rfl rfl rfl rfl rfl) (run_len rfl (F6.ev 9 rfl) rfl Tryd.underlying9) rfl (by decide) fun a7 F7 => ?_
    refine sq (v := (.bool false)) F7 (wantedG F7 rfl rfl rfl rfl rfl) (run_gtr rfl (F7.ev 10 rfl) rfl (decide_eq_false (by omega))) rfl (by decide) fun a8 F8 => ?_
    refine sr (v := (.bool false)) F8 (run_pick rfl (F8.ev 8 rfl) rfl (F8.ev 11 rfl)) rfl rfl rfl fun a9 F9 => ?_
    refine sn ?_
    clear F1 F2 F3 F4 F5 F6 F7 F8
    refine cfs (F9.ev 12 rfl) ?_
    refine wp_seq ?_
    refine wsl ?_
    refine mvS F9 rfl rfl rfl rfl rfl fun a10 F10 => ?_
    refine mvS F10 rfl rfl rfl rfl rfl fun a11 F11 => ?_
    refine sr (v := (.bool true)) F11 (eqv hc (run_inSet rfl (F11.ev 13 rfl) (F11.ev 14 rfl) (ob_below M0.below hg) (by unfold maxLen; omega))) rfl rfl rfl fun a12 F12 => ?_
    refine sn ?_
    clear F9 F10 F11
    refine wp_cond_true (F12.ev 15 rfl) ?_
    refine wsl ?_
    refine sr (v := (.int .i64 8)) F12 (run_as rfl rfl) rfl rfl rfl fun a13 F13 => ?_
    refine sn ?_
    clear F12
    refine wp_ret ?_
    refine nxRet ?_
    exact ret1 F13 rfl rfl ⟨rfl, M0.below⟩
  | false =>
    have hm : mayS names s = 0 := by unfold mayS; rw [if_neg h3, hc]; rfl
    rw [hm]
    refine walk_enter Tryd.func60 rfl rfl rfl fun a0 F0 => ?_
    have M0 := Mem.new w
    refine wsl ?_
    refine sr (v := (.int .i64 0)) F0 (run_as rfl rfl) rfl rfl rfl fun a1 F1 => ?_
    refine sn ?_
    clear F0
    refine wp_seq ?_
    refine wsl ?_
    refine mvS F1 rfl rfl rfl rfl rfl fun a2 F2 => ?_
    refine sr F2 (run_len rfl (F2.ev 5 rfl) rfl Tryd.underlying9) rfl rfl rfl fun a3 F3 => ?_
    refine sr (v := (.bool false)) F3 (run_lss rfl (F3.ev 6 rfl) rfl (decide_eq_false (by omega))) rfl rfl rfl fun a4 F4 => ?_
    refine mvS F4 rfl rfl rfl rfl rfl fun a5 F5 => ?_
    refine sq (v := (.string ⟨s.toArray⟩)) F5 (wantedG F5 rfl rfl rfl rfl rfl) (run_mv rfl (F5.ev 1 rfl)) rfl (by decide) fun a6 F6 => ?_
    refine sq (v := (.int .i64 (s.length : Int))) F6 (wantedG F6 rfl rfl rfl rfl rfl) (run_len rfl (F6.ev 9 rfl) rfl Tryd.underlying9) rfl (by decide) fun a7 F7 => ?_
    refine sq (v := (.bool false)) F7 (wantedG F7 rfl rfl rfl rfl rfl) (run_gtr rfl (F7.ev 10 rfl) rfl (decide_eq_false (by omega))) rfl (by decide) fun a8 F8 => ?_
    refine sr (v := (.bool false)) F8 (run_pick rfl (F8.ev 8 rfl) rfl (F8.ev 11 rfl)) rfl rfl rfl fun a9 F9 => ?_
    refine sn ?_
    clear F1 F2 F3 F4 F5 F6 F7 F8
    refine cfs (F9.ev 12 rfl) ?_
    refine wp_seq ?_
    refine wsl ?_
    refine mvS F9 rfl rfl rfl rfl rfl fun a10 F10 => ?_
    refine mvS F10 rfl rfl rfl rfl rfl fun a11 F11 => ?_
    refine sr (v := (.bool false)) F11 (eqv hc (run_inSet rfl (F11.ev 13 rfl) (F11.ev 14 rfl) (ob_below M0.below hg) (by unfold maxLen; omega))) rfl rfl rfl fun a12 F12 => ?_
    refine sn ?_
    clear F9 F10 F11
    refine cfs (F12.ev 15 rfl) ?_
    refine wsl ?_
    refine sr (v := (.int .i64 0)) F12 (run_as rfl rfl) rfl rfl rfl fun a13 F13 => ?_
    refine sn ?_
    clear F12
    refine wp_ret ?_
    exact ret1 F13 rfl rfl ⟨rfl, M0.below⟩
end Go.Proofs.YtdjjiblijbjobaaDoor
