/- The law ChunkWhole. Printed by gen_chk1.py. -/
import Derived.Test.YtdjjiblijbjobaaDoorChk0
namespace Go.Proofs.YtdjjiblijbjobaaDoor
open Go.RowKit

theorem flat_take {b : List UInt8} {X : List UInt8} {i : Nat} (h : (cutS b)[i]? = some X) : ((cutS b).take (i + 1)).flatten = ((cutS b).take i).flatten ++ X := by
  obtain ⟨hi, he⟩ := List.getElem?_eq_some_iff.1 h
  rw [List.take_succ_eq_append_getElem hi, he, List.flatten_append]
  simp
theorem flat_le (b : List UInt8) (i : Nat) : ((cutS b).take i).flatten.length ≤ b.length := by
  have h : (cutS b).flatten = b := cutS_flat _ b (Nat.le_refl _)
  have h2 := congrArg List.length h
  rw [← List.take_append_drop i (cutS b), List.flatten_append, List.length_append] at h2
  omega
set_option maxRecDepth 100000 in
set_option maxHeartbeats 1000000 in
theorem lawWhole_any (b : List UInt8) (w : World) (_hb : b.length ≤ maxLen) : Calls Tryd.prog 3 #[.string ⟨b.toArray⟩] w fun e w' => e = .returned (.bool true) ∧ Below w.heap.size w w' := by
  have hcl := cutS_len _ b (Nat.le_refl _)
  by_cases h9 : 9000 < b.length
  · skip
    refine walk_enter Tryd.func3 rfl rfl rfl fun a0 hF0 => ?_
    have hM0 := Mem.new w
    refine wp_seq ?_
    refine wp_region_lit ?_
    refine sq (v := (.bool false)) hF0 (wantedS rfl) (run_as rfl rfl) rfl (by decide) fun a1 hF1 => ?_
    refine sqEnd ?_
    clear hF0
    refine nx ?_
    refine wp_seq ?_
    refine wp_seq ?_
    refine wp_region_lit ?_
    refine sq (v := (.string ⟨b.toArray⟩)) hF1 (wantedS rfl) (run_mv rfl (hF1.ev 0 rfl)) rfl (by decide) fun a2 hF2 => ?_
    refine sq (v := (.int .i64 (b.length : Int))) hF2 (wantedS rfl) (run_len rfl (hF2.ev 7 rfl) rfl Tryd.underlying9) rfl (by decide) fun a3 hF3 => ?_
    refine sq (v := (.bool true)) hF3 (wantedS rfl) (run_gtr rfl (hF3.ev 8 rfl) rfl (decide_eq_true (by omega))) rfl (by decide) fun a4 hF4 => ?_
    refine sqEnd ?_
    clear hF1 hF2 hF3
    refine nx ?_
    refine wp_cond_true (hF4.ev 9 rfl) ?_
    refine wp_seq ?_
    refine wp_region_lit ?_
    refine sqC (v := (.bool true)) hF4 hM0 (wantedS rfl) (run_call rfl Tryd.func11 (by kernel_rfl) rfl (mapE0 )) rfl (by decide) (fixed39_any w) fun a5 w1 hb1 hF5 hM1 => ?_
    refine sq (v := (.bool true)) hF5 (wantedS rfl) (run_as rfl (hF5.ev 10 rfl)) rfl (by decide) fun a6 hF6 => ?_
    refine sqEnd ?_
    clear hF4 hF5 hM0
    refine nx ?_
    refine wp_ret ?_
    refine nxRet ?_
    exact ret1 hF6 rfl rfl ⟨rfl, hM1.below⟩
  · skip
    refine walk_enter Tryd.func3 rfl rfl rfl fun a0 hF0 => ?_
    have hM0 := Mem.new w
    refine wp_seq ?_
    refine wp_region_lit ?_
    refine sq (v := (.bool false)) hF0 (wantedS rfl) (run_as rfl rfl) rfl (by decide) fun a1 hF1 => ?_
    refine sqEnd ?_
    clear hF0
    refine nx ?_
    refine wp_seq ?_
    refine wp_seq ?_
    refine wp_region_lit ?_
    refine sq (v := (.string ⟨b.toArray⟩)) hF1 (wantedS rfl) (run_mv rfl (hF1.ev 0 rfl)) rfl (by decide) fun a2 hF2 => ?_
    refine sq (v := (.int .i64 (b.length : Int))) hF2 (wantedS rfl) (run_len rfl (hF2.ev 7 rfl) rfl Tryd.underlying9) rfl (by decide) fun a3 hF3 => ?_
    refine sq (v := (.bool false)) hF3 (wantedS rfl) (run_gtr rfl (hF3.ev 8 rfl) rfl (decide_eq_false (by omega))) rfl (by decide) fun a4 hF4 => ?_
    refine sqEnd ?_
    clear hF1 hF2 hF3
    refine nx ?_
    refine wp_cond_false (hF4.ev 9 rfl) ?_
    refine wp_skip ?_
    refine nx ?_
    refine wp_seq ?_
    refine wp_region_lit ?_
    refine sq (v := (.string ⟨b.toArray⟩)) hF4 (wantedS rfl) (run_mv rfl (hF4.ev 0 rfl)) rfl (by decide) fun a5 hF5 => ?_
    refine sqT (T := fun u wx => wx.ownsRow w.heap.size 9 1 u (cutS b).length ((cutS b).map tx) ∧ Below w.heap.size w wx) hF5 (wantedS rfl) (run_call rfl Tryd.func12 (by kernel_rfl) rfl (mapE1 (hF5.ev 11 rfl))) rfl (by decide) (ccut_any b w (by omega)) fun u0 a6 w1 hT1 hF6 => ?_
    obtain ⟨hr1, hb1⟩ := hT1
    have hO1 := OwnR.ofCall hM0 hr1
    have hM1 := hM0.grow hb1
    refine sq (v := u0) hF6 (wantedS rfl) (run_as rfl (hF6.ev 12 rfl)) rfl (by decide) fun a7 hF7 => ?_
    refine sqEnd ?_
    clear hF4 hF5 hF6 hM0
    refine nx ?_
    refine wp_seq ?_
    refine wp_region_lit ?_
    refine sq (v := (.string ⟨List.toArray []⟩)) hF7 (wantedS rfl) (run_as rfl rfl) rfl (by decide) fun a8 hF8 => ?_
    refine sqEnd ?_
    clear hF7
    refine nx ?_
    refine wp_seq ?_
    refine wp_seq ?_
    refine wp_region_lit ?_
    refine sq (v := u0) hF8 (wantedS rfl) (run_mv rfl (hF8.ev 3 rfl)) rfl (by decide) fun a9 hF9 => ?_
    refine sq (v := (.int .i64 ((cutS b).length : Int))) hF9 (wantedS rfl) (run_lenS rfl (hF9.ev 13 rfl) (Sl.own hO1) rfl Tryd.underlying23) rfl (by decide) fun a10 hF10 => ?_
    refine sq (v := (.int .i64 0)) hF10 (wantedS rfl) (run_mv rfl rfl) rfl (by decide) fun a11 hF11 => ?_
    refine sqEnd ?_
    clear hF8 hF9 hF10
    refine nx ?_
    refine wp_block ?_
    refine wkLoop (fun m a w2 => ∃ i : Nat, i ≤ (cutS b).length ∧ m = (cutS b).length - i ∧ OwnR w [] w2 9 1 u0 (cutS b).length ((cutS b).map tx) ∧ Fr a 50 [(0, .string ⟨b.toArray⟩), (3, u0), (4, .string ⟨(((cutS b).take i).flatten).toArray⟩), (13, u0), (14, .int .i64 ((cutS b).length : Int)), (15, .int .i64 (i : Int))] ∧ Mem w [] w2) (cutS b).length ⟨0, Nat.zero_le _, rfl, hO1, hF11.sub ⟨rfl, rfl, rfl, rfl, rfl, rfl, trivial⟩, hM1⟩ ?_
    rintro m a0 w1 ⟨i, hi, rfl, hO0, hF0, hM0⟩
    have hfl := flat_le b i
    obtain ⟨A, hA⟩ : ∃ A, ((cutS b).take i).flatten = A := ⟨_, rfl⟩
    rw [hA] at hF0 hfl
    by_cases h1 : i < (cutS b).length
    · obtain ⟨X, hX⟩ : ∃ X, (cutS b)[i]? = some X := ⟨_, List.getElem?_eq_getElem h1⟩
      obtain ⟨s1, s2, s3⟩ := cutS_sizes _ b (Nat.le_refl _) i X hX
      have hft := flat_take hX
      have hAX := flat_le b (i + 1)
      rw [hft, hA, List.length_append] at hAX
      rw [hA] at hft
      by_cases h2 : i + 1 < (cutS b).length
      · have s4 := s3 h2
        refine wp_seq ?_
        refine wp_region_lit ?_
        refine sq (v := (.bool true)) hF0 (wantedS rfl) (run_lss rfl (hF0.ev 15 rfl) (hF0.ev 14 rfl) (decide_eq_true (by omega))) rfl (by decide) fun a1 hF1 => ?_
        refine sqEnd ?_
        clear hF0
        refine nx ?_
        refine wp_seq ?_
        refine wp_cond_true (hF1.ev 16 rfl) ?_
        refine wp_skip ?_
        refine nx ?_
        refine wp_seq ?_
        refine wp_block ?_
        refine wp_seq ?_
        refine wp_region_lit ?_
        refine sq (v := (.int .i64 (i : Int))) hF1 (wantedS rfl) (run_mv rfl (hF1.ev 15 rfl)) rfl (by decide) fun a2 hF2 => ?_
        refine sq (v := (slPtr u0 (i * 1))) hF2 (wantedS rfl) (run_atP (i := i) rfl (hF2.ev 13 rfl) (hF2.ev 15 rfl) rfl (Sl.own hO0) (by omega) elStr.un (by kernel_rfl)) rfl (by decide) fun a3 hF3 => ?_
        refine sq (v := (.string ⟨X.toArray⟩)) hF3 (wantedS rfl) (run_ldP rfl (hF3.ev 18 rfl) (Sl.own hO0) (map_at hX) (by kernel_rfl)) rfl (by decide) fun a4 hF4 => ?_
        refine sq (v := (.int .i64 (i : Int))) hF4 (wantedS rfl) (run_as rfl (hF4.ev 17 rfl)) rfl (by decide) fun a5 hF5 => ?_
        refine sq (v := (.string ⟨X.toArray⟩)) hF5 (wantedS rfl) (run_as rfl (hF5.ev 19 rfl)) rfl (by decide) fun a6 hF6 => ?_
        refine sqEnd ?_
        clear hF1 hF2 hF3 hF4 hF5
        refine nx ?_
        refine wp_seq ?_
        refine wp_seq ?_
        refine wp_region_lit ?_
        refine sq (v := (.string ⟨X.toArray⟩)) hF6 (wantedS rfl) (run_mv rfl (hF6.ev 6 rfl)) rfl (by decide) fun a7 hF7 => ?_
        refine sq (v := (.int .i64 (X.length : Int))) hF7 (wantedS rfl) (run_len rfl (hF7.ev 20 rfl) rfl Tryd.underlying9) rfl (by decide) fun a8 hF8 => ?_
        refine sq (v := (.bool false)) hF8 (wantedS rfl) (run_lss rfl (hF8.ev 21 rfl) rfl (decide_eq_false (by omega))) rfl (by decide) fun a9 hF9 => ?_
        refine sq (v := (.bool false)) hF9 (wantedS rfl) (run_mv rfl (hF9.ev 22 rfl)) rfl (by decide) fun a10 hF10 => ?_
        refine sq (v := (.string ⟨X.toArray⟩)) hF10 (wantedG hF10 rfl rfl rfl rfl rfl) (run_mv rfl (hF10.ev 6 rfl)) rfl (by decide) fun a11 hF11 => ?_
        refine sq (v := (.int .i64 (X.length : Int))) hF11 (wantedG hF11 rfl rfl rfl rfl rfl) (run_len rfl (hF11.ev 24 rfl) rfl Tryd.underlying9) rfl (by decide) fun a12 hF12 => ?_
        refine sq (v := (.bool false)) hF12 (wantedG hF12 rfl rfl rfl rfl rfl) (run_gtr rfl (hF12.ev 25 rfl) rfl (decide_eq_false (by omega))) rfl (by decide) fun a13 hF13 => ?_
        refine sq (v := (.bool false)) hF13 (wantedS rfl) (run_pick rfl (hF13.ev 23 rfl) rfl (hF13.ev 26 rfl)) rfl (by decide) fun a14 hF14 => ?_
        refine sq (v := (.bool false)) hF14 (wantedS rfl) (run_mv rfl (hF14.ev 27 rfl)) rfl (by decide) fun a15 hF15 => ?_
        refine sq (v := (.int .i64 (i : Int))) hF15 (wantedG hF15 rfl rfl rfl rfl rfl) (run_mv rfl (hF15.ev 5 rfl)) rfl (by decide) fun a16 hF16 => ?_
        refine sq (v := (.int .i64 ((i + 1 : Nat) : Int))) hF16 (wantedG hF16 rfl rfl rfl rfl rfl) (run_add (r := ((i + 1 : Nat) : Int)) rfl (hF16.ev 29 rfl) rfl (by rw [IntKind.wrap_i64]; omega)) rfl (by decide) fun a17 hF17 => ?_
        refine sq (v := u0) hF17 (wantedG hF17 rfl rfl rfl rfl rfl) (run_mv rfl (hF17.ev 3 rfl)) rfl (by decide) fun a18 hF18 => ?_
        refine sq (v := (.int .i64 ((cutS b).length : Int))) hF18 (wantedG hF18 rfl rfl rfl rfl rfl) (run_lenS rfl (hF18.ev 31 rfl) (Sl.own hO0) rfl Tryd.underlying23) rfl (by decide) fun a19 hF19 => ?_
        refine sq (v := (.bool true)) hF19 (wantedG hF19 rfl rfl rfl rfl rfl) (run_lss rfl (hF19.ev 30 rfl) (hF19.ev 32 rfl) (decide_eq_true (by omega))) rfl (by decide) fun a20 hF20 => ?_
        refine sq (v := (.bool true)) hF20 (wantedG hF20 rfl rfl rfl rfl rfl) (run_mv rfl (hF20.ev 33 rfl)) rfl (by decide) fun a21 hF21 => ?_
        refine sq (v := (.string ⟨X.toArray⟩)) hF21 (wantedG hF21 rfl rfl rfl rfl rfl) (run_mv rfl (hF21.ev 6 rfl)) rfl (by decide) fun a22 hF22 => ?_
        refine sq (v := (.int .i64 (X.length : Int))) hF22 (wantedG hF22 rfl rfl rfl rfl rfl) (run_len rfl (hF22.ev 35 rfl) rfl Tryd.underlying9) rfl (by decide) fun a23 hF23 => ?_
        refine sq (v := (.bool false)) hF23 (wantedG hF23 rfl rfl rfl rfl rfl) (run_lss rfl (hF23.ev 36 rfl) rfl (decide_eq_false (by omega))) rfl (by decide) fun a24 hF24 => ?_
        refine sq (v := (.bool false)) hF24 (wantedG hF24 rfl rfl rfl rfl rfl) (run_pick rfl (hF24.ev 34 rfl) (hF24.ev 37 rfl) rfl) rfl (by decide) fun a25 hF25 => ?_
        refine sq (v := (.bool false)) hF25 (wantedS rfl) (run_pick rfl (hF25.ev 28 rfl) rfl (hF25.ev 38 rfl)) rfl (by decide) fun a26 hF26 => ?_
        refine sqEnd ?_
        clear hF6 hF7 hF8 hF9 hF10 hF11 hF12 hF13 hF14 hF15 hF16 hF17 hF18 hF19 hF20 hF21 hF22 hF23 hF24 hF25
        refine nx ?_
        refine wp_cond_false (hF26.ev 39 rfl) ?_
        refine wp_skip ?_
        refine nx ?_
        refine wp_region_lit ?_
        refine sq (v := (.string ⟨A.toArray⟩)) hF26 (wantedS rfl) (run_mv rfl (hF26.ev 4 rfl)) rfl (by decide) fun a27 hF27 => ?_
        refine sq (v := (.string ⟨X.toArray⟩)) hF27 (wantedS rfl) (run_mv rfl (hF27.ev 6 rfl)) rfl (by decide) fun a28 hF28 => ?_
        refine sq (v := (.string ⟨(A ++ X).toArray⟩)) hF28 (wantedS rfl) (run_cat rfl (hF28.ev 40 rfl) (hF28.ev 41 rfl) (by first | omega | decide | (simp; done) | (simp; omega))) rfl (by decide) fun a29 hF29 => ?_
        refine sq (v := (.string ⟨(A ++ X).toArray⟩)) hF29 (wantedS rfl) (run_as rfl (hF29.ev 42 rfl)) rfl (by decide) fun a30 hF30 => ?_
        refine sqEnd ?_
        clear hF26 hF27 hF28 hF29
        refine bkEnd ?_
        refine nx ?_
        refine wp_region_lit ?_
        refine sq (v := (.int .i64 ((i + 1 : Nat) : Int))) hF30 (wantedS rfl) (run_add (r := ((i + 1 : Nat) : Int)) rfl (hF30.ev 15 rfl) rfl (by rw [IntKind.wrap_i64]; omega)) rfl (by decide) fun a31 hF31 => ?_
        refine sq (v := (.int .i64 ((i + 1 : Nat) : Int))) hF31 (wantedS rfl) (run_mv rfl (hF31.ev 43 rfl)) rfl (by decide) fun a32 hF32 => ?_
        refine sqEnd ?_
        clear hF30 hF31
        refine nx ?_
        exact ⟨_, by omega, i + 1, by omega, rfl, hO0, by rw [hft]; exact hF32.sub ⟨rfl, rfl, rfl, rfl, rfl, rfl, trivial⟩, hM0⟩
      · skip
        refine wp_seq ?_
        refine wp_region_lit ?_
        refine sq (v := (.bool true)) hF0 (wantedS rfl) (run_lss rfl (hF0.ev 15 rfl) (hF0.ev 14 rfl) (decide_eq_true (by omega))) rfl (by decide) fun a1 hF1 => ?_
        refine sqEnd ?_
        clear hF0
        refine nx ?_
        refine wp_seq ?_
        refine wp_cond_true (hF1.ev 16 rfl) ?_
        refine wp_skip ?_
        refine nx ?_
        refine wp_seq ?_
        refine wp_block ?_
        refine wp_seq ?_
        refine wp_region_lit ?_
        refine sq (v := (.int .i64 (i : Int))) hF1 (wantedS rfl) (run_mv rfl (hF1.ev 15 rfl)) rfl (by decide) fun a2 hF2 => ?_
        refine sq (v := (slPtr u0 (i * 1))) hF2 (wantedS rfl) (run_atP (i := i) rfl (hF2.ev 13 rfl) (hF2.ev 15 rfl) rfl (Sl.own hO0) (by omega) elStr.un (by kernel_rfl)) rfl (by decide) fun a3 hF3 => ?_
        refine sq (v := (.string ⟨X.toArray⟩)) hF3 (wantedS rfl) (run_ldP rfl (hF3.ev 18 rfl) (Sl.own hO0) (map_at hX) (by kernel_rfl)) rfl (by decide) fun a4 hF4 => ?_
        refine sq (v := (.int .i64 (i : Int))) hF4 (wantedS rfl) (run_as rfl (hF4.ev 17 rfl)) rfl (by decide) fun a5 hF5 => ?_
        refine sq (v := (.string ⟨X.toArray⟩)) hF5 (wantedS rfl) (run_as rfl (hF5.ev 19 rfl)) rfl (by decide) fun a6 hF6 => ?_
        refine sqEnd ?_
        clear hF1 hF2 hF3 hF4 hF5
        refine nx ?_
        refine wp_seq ?_
        refine wp_seq ?_
        refine wp_region_lit ?_
        refine sq (v := (.string ⟨X.toArray⟩)) hF6 (wantedS rfl) (run_mv rfl (hF6.ev 6 rfl)) rfl (by decide) fun a7 hF7 => ?_
        refine sq (v := (.int .i64 (X.length : Int))) hF7 (wantedS rfl) (run_len rfl (hF7.ev 20 rfl) rfl Tryd.underlying9) rfl (by decide) fun a8 hF8 => ?_
        refine sq (v := (.bool false)) hF8 (wantedS rfl) (run_lss rfl (hF8.ev 21 rfl) rfl (decide_eq_false (by omega))) rfl (by decide) fun a9 hF9 => ?_
        refine sq (v := (.bool false)) hF9 (wantedS rfl) (run_mv rfl (hF9.ev 22 rfl)) rfl (by decide) fun a10 hF10 => ?_
        refine sq (v := (.string ⟨X.toArray⟩)) hF10 (wantedG hF10 rfl rfl rfl rfl rfl) (run_mv rfl (hF10.ev 6 rfl)) rfl (by decide) fun a11 hF11 => ?_
        refine sq (v := (.int .i64 (X.length : Int))) hF11 (wantedG hF11 rfl rfl rfl rfl rfl) (run_len rfl (hF11.ev 24 rfl) rfl Tryd.underlying9) rfl (by decide) fun a12 hF12 => ?_
        refine sq (v := (.bool false)) hF12 (wantedG hF12 rfl rfl rfl rfl rfl) (run_gtr rfl (hF12.ev 25 rfl) rfl (decide_eq_false (by omega))) rfl (by decide) fun a13 hF13 => ?_
        refine sq (v := (.bool false)) hF13 (wantedS rfl) (run_pick rfl (hF13.ev 23 rfl) rfl (hF13.ev 26 rfl)) rfl (by decide) fun a14 hF14 => ?_
        refine sq (v := (.bool false)) hF14 (wantedS rfl) (run_mv rfl (hF14.ev 27 rfl)) rfl (by decide) fun a15 hF15 => ?_
        refine sq (v := (.int .i64 (i : Int))) hF15 (wantedG hF15 rfl rfl rfl rfl rfl) (run_mv rfl (hF15.ev 5 rfl)) rfl (by decide) fun a16 hF16 => ?_
        refine sq (v := (.int .i64 ((i + 1 : Nat) : Int))) hF16 (wantedG hF16 rfl rfl rfl rfl rfl) (run_add (r := ((i + 1 : Nat) : Int)) rfl (hF16.ev 29 rfl) rfl (by rw [IntKind.wrap_i64]; omega)) rfl (by decide) fun a17 hF17 => ?_
        refine sq (v := u0) hF17 (wantedG hF17 rfl rfl rfl rfl rfl) (run_mv rfl (hF17.ev 3 rfl)) rfl (by decide) fun a18 hF18 => ?_
        refine sq (v := (.int .i64 ((cutS b).length : Int))) hF18 (wantedG hF18 rfl rfl rfl rfl rfl) (run_lenS rfl (hF18.ev 31 rfl) (Sl.own hO0) rfl Tryd.underlying23) rfl (by decide) fun a19 hF19 => ?_
        refine sq (v := (.bool false)) hF19 (wantedG hF19 rfl rfl rfl rfl rfl) (run_lss rfl (hF19.ev 30 rfl) (hF19.ev 32 rfl) (decide_eq_false (by omega))) rfl (by decide) fun a20 hF20 => ?_
        refine sq (v := (.bool false)) hF20 (wantedG hF20 rfl rfl rfl rfl rfl) (run_mv rfl (hF20.ev 33 rfl)) rfl (by decide) fun a21 hF21 => ?_
        refine sqSkip hF21 (unwantedG hF21 rfl rfl rfl rfl rfl) rfl (by decide) fun a22 hF22 => ?_
        refine sqSkip hF22 (unwantedG hF22 rfl rfl rfl rfl rfl) rfl (by decide) fun a23 hF23 => ?_
        refine sqSkip hF23 (unwantedG hF23 rfl rfl rfl rfl rfl) rfl (by decide) fun a24 hF24 => ?_
        refine sq (v := (.bool false)) hF24 (wantedG hF24 rfl rfl rfl rfl rfl) (run_pick rfl (hF24.ev 34 rfl) (hF24.ev 37 rfl) rfl) rfl (by decide) fun a25 hF25 => ?_
        refine sq (v := (.bool false)) hF25 (wantedS rfl) (run_pick rfl (hF25.ev 28 rfl) rfl (hF25.ev 38 rfl)) rfl (by decide) fun a26 hF26 => ?_
        refine sqEnd ?_
        clear hF6 hF7 hF8 hF9 hF10 hF11 hF12 hF13 hF14 hF15 hF16 hF17 hF18 hF19 hF20 hF21 hF22 hF23 hF24 hF25
        refine nx ?_
        refine wp_cond_false (hF26.ev 39 rfl) ?_
        refine wp_skip ?_
        refine nx ?_
        refine wp_region_lit ?_
        refine sq (v := (.string ⟨A.toArray⟩)) hF26 (wantedS rfl) (run_mv rfl (hF26.ev 4 rfl)) rfl (by decide) fun a27 hF27 => ?_
        refine sq (v := (.string ⟨X.toArray⟩)) hF27 (wantedS rfl) (run_mv rfl (hF27.ev 6 rfl)) rfl (by decide) fun a28 hF28 => ?_
        refine sq (v := (.string ⟨(A ++ X).toArray⟩)) hF28 (wantedS rfl) (run_cat rfl (hF28.ev 40 rfl) (hF28.ev 41 rfl) (by first | omega | decide | (simp; done) | (simp; omega))) rfl (by decide) fun a29 hF29 => ?_
        refine sq (v := (.string ⟨(A ++ X).toArray⟩)) hF29 (wantedS rfl) (run_as rfl (hF29.ev 42 rfl)) rfl (by decide) fun a30 hF30 => ?_
        refine sqEnd ?_
        clear hF26 hF27 hF28 hF29
        refine bkEnd ?_
        refine nx ?_
        refine wp_region_lit ?_
        refine sq (v := (.int .i64 ((i + 1 : Nat) : Int))) hF30 (wantedS rfl) (run_add (r := ((i + 1 : Nat) : Int)) rfl (hF30.ev 15 rfl) rfl (by rw [IntKind.wrap_i64]; omega)) rfl (by decide) fun a31 hF31 => ?_
        refine sq (v := (.int .i64 ((i + 1 : Nat) : Int))) hF31 (wantedS rfl) (run_mv rfl (hF31.ev 43 rfl)) rfl (by decide) fun a32 hF32 => ?_
        refine sqEnd ?_
        clear hF30 hF31
        refine nx ?_
        exact ⟨_, by omega, i + 1, by omega, rfl, hO0, by rw [hft]; exact hF32.sub ⟨rfl, rfl, rfl, rfl, rfl, rfl, trivial⟩, hM0⟩
    · have hAe : A = b := by rw [← hA, List.take_of_length_le (by omega)]; exact cutS_flat _ b (Nat.le_refl _)
      refine wp_seq ?_
      refine wp_region_lit ?_
      refine sq (v := (.bool false)) hF0 (wantedS rfl) (run_lss rfl (hF0.ev 15 rfl) (hF0.ev 14 rfl) (decide_eq_false (by omega))) rfl (by decide) fun a1 hF1 => ?_
      refine sqEnd ?_
      clear hF0
      refine nx ?_
      refine wp_seq ?_
      refine wp_cond_false (hF1.ev 16 rfl) ?_
      refine wp_exit ?_
      refine nxExit ?_
      refine nxExit ?_
      refine bkHere ?_
      refine nx ?_
      refine wp_seq ?_
      refine wp_region_lit ?_
      refine sqC (v := (.bool true)) hF1 hM0 (wantedS rfl) (run_call rfl Tryd.func11 (by kernel_rfl) rfl (mapE0 )) rfl (by decide) (fixed39_any w1) fun a2 w2 hb2 hF2 hM1 => ?_
      have hO1 := hO0.grow hb2
      refine sq (v := (.bool true)) hF2 (wantedS rfl) (run_mv rfl (hF2.ev 44 rfl)) rfl (by decide) fun a3 hF3 => ?_
      refine sq (v := (.string ⟨A.toArray⟩)) hF3 (wantedG hF3 rfl rfl rfl rfl rfl) (run_mv rfl (hF3.ev 4 rfl)) rfl (by decide) fun a4 hF4 => ?_
      refine sq (v := (.string ⟨b.toArray⟩)) hF4 (wantedG hF4 rfl rfl rfl rfl rfl) (run_mv rfl (hF4.ev 0 rfl)) rfl (by decide) fun a5 hF5 => ?_
      refine sq (v := (.bool true)) hF5 (wantedG hF5 rfl rfl rfl rfl rfl) (run_eqs rfl (hF5.ev 46 rfl) (hF5.ev 47 rfl) (beq_iff_eq.2 hAe)) rfl (by decide) fun a6 hF6 => ?_
      refine sq (v := (.bool true)) hF6 (wantedS rfl) (run_pick rfl (hF6.ev 45 rfl) (hF6.ev 48 rfl) rfl) rfl (by decide) fun a7 hF7 => ?_
      refine sq (v := (.bool true)) hF7 (wantedS rfl) (run_as rfl (hF7.ev 49 rfl)) rfl (by decide) fun a8 hF8 => ?_
      refine sqEnd ?_
      clear hF1 hF2 hF3 hF4 hF5 hF6 hF7 hM0
      refine nx ?_
      refine wp_ret ?_
      exact ret1 hF8 rfl rfl ⟨rfl, hM1.below⟩
end Go.Proofs.YtdjjiblijbjobaaDoor
