/- The walks of the laws' Great and of the law KeysRotate. Printed by gen_key28.py. -/
import Derived.Test.YtconhhhggckcbaaDoorRngC
namespace Go.Proofs.YtconhhhggckcbaaDoor
open Go.RowKit

attribute [local irreducible] sealS keyedS nonceS openS
set_option maxRecDepth 100000 in
set_option maxHeartbeats 1000000 in
theorem great_any (E : List Ep) (v : Value) (w : World) (hV : Sl w v 33 E.length (E.flatMap epF)) (hE32 : ∀ e ∈ E, e.c.length = 32) : Calls Tryd.prog 18 #[.agg #[v]] w fun e w' => (∃ r : Int, e = .returned (.int .i64 r) ∧ (r = 1 ∨ (r = 0 ∧ E.length ≤ 105))) ∧ Below w.heap.size w w' := by
  by_cases h12 : 12 < E.length
  · by_cases h99 : E.length < 99
    · skip
      refine walk_enter Tryd.func18 rfl rfl rfl fun a0 F0 => ?_
      have M0 := Mem.new w
      refine wsl ?_
      refine sqNew (cs := #[v]) (t := 27) F0 M0 (wantedS rfl) (run_box rfl (F0.ev 0 rfl)) rfl (by decide) fun g0 a1 w1 hgg0 hb1 F1 M1 => ?_
      refine sr (v := (.int .i64 0)) F1 (run_as rfl rfl) rfl rfl rfl fun a2 F2 => ?_
      refine sn ?_
      clear F0 F1 M0
      refine wp_seq ?_
      refine wsl ?_
      refine sr F2 (run_fldA (m := 1) (s := 0) rfl (F2.ev 1 rfl) Tryd.underlying27 rfl rfl (by kernel_rfl) (by decide)) rfl rfl rfl fun a3 F3 => ?_
      refine sr (v := v) F3 (run_ldF rfl (F3.ev 5 rfl) (M1.at 0 rfl) rfl (by kernel_rfl)) rfl rfl rfl fun a4 F4 => ?_
      refine sr F4 (run_lenS rfl (F4.ev 6 rfl) (hV.below M1.below) rfl Tryd.underlying25) rfl rfl rfl fun a5 F5 => ?_
      refine sr (v := (.bool true)) F5 (run_gtr rfl (F5.ev 7 rfl) rfl (decide_eq_true (by omega))) rfl rfl rfl fun a6 F6 => ?_
      refine mvS F6 rfl rfl rfl rfl rfl fun a7 F7 => ?_
      refine sq (v := (.pointer (some ⟨g0, 0, none⟩))) F7 (wantedG F7 rfl rfl rfl rfl rfl) (run_fldA (m := 1) (s := 0) rfl (F7.ev 1 rfl) Tryd.underlying27 rfl rfl (by kernel_rfl) (by decide)) rfl (by decide) fun a8 F8 => ?_
      refine sq (v := v) F8 (wantedG F8 rfl rfl rfl rfl rfl) (run_ldF rfl (F8.ev 10 rfl) (M1.at 0 rfl) rfl (by kernel_rfl)) rfl (by decide) fun a9 F9 => ?_
      refine sq (v := (.int .i64 (E.length : Int))) F9 (wantedG F9 rfl rfl rfl rfl rfl) (run_lenS rfl (F9.ev 11 rfl) (hV.below M1.below) rfl Tryd.underlying25) rfl (by decide) fun a10 F10 => ?_
      refine sq (v := (.bool true)) F10 (wantedG F10 rfl rfl rfl rfl rfl) (run_lss rfl (F10.ev 12 rfl) rfl (decide_eq_true (by omega))) rfl (by decide) fun a11 F11 => ?_
      refine sr (v := (.bool true)) F11 (run_pick rfl (F11.ev 9 rfl) (F11.ev 13 rfl) rfl) rfl rfl rfl fun a12 F12 => ?_
      refine mvS F12 rfl rfl rfl rfl rfl fun a13 F13 => ?_
      refine sqSkip F13 (unwantedG F13 rfl rfl rfl rfl rfl) rfl (by decide) fun a14 F14 => ?_
      refine sqSkip F14 (unwantedG F14 rfl rfl rfl rfl rfl) rfl (by decide) fun a15 F15 => ?_
      refine sqSkip F15 (unwantedG F15 rfl rfl rfl rfl rfl) rfl (by decide) fun a16 F16 => ?_
      refine sqSkip F16 (unwantedG F16 rfl rfl rfl rfl rfl) rfl (by decide) fun a17 F17 => ?_
      refine sr (v := (.bool true)) F17 (run_pick rfl (F17.ev 15 rfl) rfl (F17.ev 19 rfl)) rfl rfl rfl fun a18 F18 => ?_
      refine sn ?_
      clear F2 F3 F4 F5 F6 F7 F8 F9 F10 F11 F12 F13 F14 F15 F16 F17
      refine wp_cond_true (F18.ev 20 rfl) ?_
      refine wsl ?_
      refine sr (v := (.int .i64 1)) F18 (run_as rfl rfl) rfl rfl rfl fun a19 F19 => ?_
      refine sn ?_
      clear F18
      refine wp_ret ?_
      refine nxRet ?_
      exact ret1 F19 rfl rfl ⟨⟨1, rfl, .inl rfl⟩, M1.below⟩
    by_cases h105 : 105 < E.length
    · skip
      refine walk_enter Tryd.func18 rfl rfl rfl fun a0 F0 => ?_
      have M0 := Mem.new w
      refine wsl ?_
      refine sqNew (cs := #[v]) (t := 27) F0 M0 (wantedS rfl) (run_box rfl (F0.ev 0 rfl)) rfl (by decide) fun g0 a1 w1 hgg0 hb1 F1 M1 => ?_
      refine sr (v := (.int .i64 0)) F1 (run_as rfl rfl) rfl rfl rfl fun a2 F2 => ?_
      refine sn ?_
      clear F0 F1 M0
      refine wp_seq ?_
      refine wsl ?_
      refine sr F2 (run_fldA (m := 1) (s := 0) rfl (F2.ev 1 rfl) Tryd.underlying27 rfl rfl (by kernel_rfl) (by decide)) rfl rfl rfl fun a3 F3 => ?_
      refine sr (v := v) F3 (run_ldF rfl (F3.ev 5 rfl) (M1.at 0 rfl) rfl (by kernel_rfl)) rfl rfl rfl fun a4 F4 => ?_
      refine sr F4 (run_lenS rfl (F4.ev 6 rfl) (hV.below M1.below) rfl Tryd.underlying25) rfl rfl rfl fun a5 F5 => ?_
      refine sr (v := (.bool true)) F5 (run_gtr rfl (F5.ev 7 rfl) rfl (decide_eq_true (by omega))) rfl rfl rfl fun a6 F6 => ?_
      refine mvS F6 rfl rfl rfl rfl rfl fun a7 F7 => ?_
      refine sq (v := (.pointer (some ⟨g0, 0, none⟩))) F7 (wantedG F7 rfl rfl rfl rfl rfl) (run_fldA (m := 1) (s := 0) rfl (F7.ev 1 rfl) Tryd.underlying27 rfl rfl (by kernel_rfl) (by decide)) rfl (by decide) fun a8 F8 => ?_
      refine sq (v := v) F8 (wantedG F8 rfl rfl rfl rfl rfl) (run_ldF rfl (F8.ev 10 rfl) (M1.at 0 rfl) rfl (by kernel_rfl)) rfl (by decide) fun a9 F9 => ?_
      refine sq (v := (.int .i64 (E.length : Int))) F9 (wantedG F9 rfl rfl rfl rfl rfl) (run_lenS rfl (F9.ev 11 rfl) (hV.below M1.below) rfl Tryd.underlying25) rfl (by decide) fun a10 F10 => ?_
      refine sq (v := (.bool false)) F10 (wantedG F10 rfl rfl rfl rfl rfl) (run_lss rfl (F10.ev 12 rfl) rfl (decide_eq_false (by omega))) rfl (by decide) fun a11 F11 => ?_
      refine sr (v := (.bool false)) F11 (run_pick rfl (F11.ev 9 rfl) (F11.ev 13 rfl) rfl) rfl rfl rfl fun a12 F12 => ?_
      refine mvS F12 rfl rfl rfl rfl rfl fun a13 F13 => ?_
      refine sq (v := (.pointer (some ⟨g0, 0, none⟩))) F13 (wantedG F13 rfl rfl rfl rfl rfl) (run_fldA (m := 1) (s := 0) rfl (F13.ev 1 rfl) Tryd.underlying27 rfl rfl (by kernel_rfl) (by decide)) rfl (by decide) fun a14 F14 => ?_
      refine sq (v := v) F14 (wantedG F14 rfl rfl rfl rfl rfl) (run_ldF rfl (F14.ev 16 rfl) (M1.at 0 rfl) rfl (by kernel_rfl)) rfl (by decide) fun a15 F15 => ?_
      refine sq (v := (.int .i64 (E.length : Int))) F15 (wantedG F15 rfl rfl rfl rfl rfl) (run_lenS rfl (F15.ev 17 rfl) (hV.below M1.below) rfl Tryd.underlying25) rfl (by decide) fun a16 F16 => ?_
      refine sq (v := (.bool true)) F16 (wantedG F16 rfl rfl rfl rfl rfl) (run_gtr rfl (F16.ev 18 rfl) rfl (decide_eq_true (by omega))) rfl (by decide) fun a17 F17 => ?_
      refine sr (v := (.bool true)) F17 (run_pick rfl (F17.ev 15 rfl) rfl (F17.ev 19 rfl)) rfl rfl rfl fun a18 F18 => ?_
      refine sn ?_
      clear F2 F3 F4 F5 F6 F7 F8 F9 F10 F11 F12 F13 F14 F15 F16 F17
      refine wp_cond_true (F18.ev 20 rfl) ?_
      refine wsl ?_
      refine sr (v := (.int .i64 1)) F18 (run_as rfl rfl) rfl rfl rfl fun a19 F19 => ?_
      refine sn ?_
      clear F18
      refine wp_ret ?_
      refine nxRet ?_
      exact ret1 F19 rfl rfl ⟨⟨1, rfl, .inl rfl⟩, M1.below⟩
    · skip
      refine walk_enter Tryd.func18 rfl rfl rfl fun a0 F0 => ?_
      have M0 := Mem.new w
      refine wsl ?_
      refine sqNew (cs := #[v]) (t := 27) F0 M0 (wantedS rfl) (run_box rfl (F0.ev 0 rfl)) rfl (by decide) fun g0 a1 w1 hgg0 hb1 F1 M1 => ?_
      refine sr (v := (.int .i64 0)) F1 (run_as rfl rfl) rfl rfl rfl fun a2 F2 => ?_
      refine sn ?_
      clear F0 F1 M0
      refine wp_seq ?_
      refine wsl ?_
      refine sr F2 (run_fldA (m := 1) (s := 0) rfl (F2.ev 1 rfl) Tryd.underlying27 rfl rfl (by kernel_rfl) (by decide)) rfl rfl rfl fun a3 F3 => ?_
      refine sr (v := v) F3 (run_ldF rfl (F3.ev 5 rfl) (M1.at 0 rfl) rfl (by kernel_rfl)) rfl rfl rfl fun a4 F4 => ?_
      refine sr F4 (run_lenS rfl (F4.ev 6 rfl) (hV.below M1.below) rfl Tryd.underlying25) rfl rfl rfl fun a5 F5 => ?_
      refine sr (v := (.bool true)) F5 (run_gtr rfl (F5.ev 7 rfl) rfl (decide_eq_true (by omega))) rfl rfl rfl fun a6 F6 => ?_
      refine mvS F6 rfl rfl rfl rfl rfl fun a7 F7 => ?_
      refine sq (v := (.pointer (some ⟨g0, 0, none⟩))) F7 (wantedG F7 rfl rfl rfl rfl rfl) (run_fldA (m := 1) (s := 0) rfl (F7.ev 1 rfl) Tryd.underlying27 rfl rfl (by kernel_rfl) (by decide)) rfl (by decide) fun a8 F8 => ?_
      refine sq (v := v) F8 (wantedG F8 rfl rfl rfl rfl rfl) (run_ldF rfl (F8.ev 10 rfl) (M1.at 0 rfl) rfl (by kernel_rfl)) rfl (by decide) fun a9 F9 => ?_
      refine sq (v := (.int .i64 (E.length : Int))) F9 (wantedG F9 rfl rfl rfl rfl rfl) (run_lenS rfl (F9.ev 11 rfl) (hV.below M1.below) rfl Tryd.underlying25) rfl (by decide) fun a10 F10 => ?_
      refine sq (v := (.bool false)) F10 (wantedG F10 rfl rfl rfl rfl rfl) (run_lss rfl (F10.ev 12 rfl) rfl (decide_eq_false (by omega))) rfl (by decide) fun a11 F11 => ?_
      refine sr (v := (.bool false)) F11 (run_pick rfl (F11.ev 9 rfl) (F11.ev 13 rfl) rfl) rfl rfl rfl fun a12 F12 => ?_
      refine mvS F12 rfl rfl rfl rfl rfl fun a13 F13 => ?_
      refine sq (v := (.pointer (some ⟨g0, 0, none⟩))) F13 (wantedG F13 rfl rfl rfl rfl rfl) (run_fldA (m := 1) (s := 0) rfl (F13.ev 1 rfl) Tryd.underlying27 rfl rfl (by kernel_rfl) (by decide)) rfl (by decide) fun a14 F14 => ?_
      refine sq (v := v) F14 (wantedG F14 rfl rfl rfl rfl rfl) (run_ldF rfl (F14.ev 16 rfl) (M1.at 0 rfl) rfl (by kernel_rfl)) rfl (by decide) fun a15 F15 => ?_
      refine sq (v := (.int .i64 (E.length : Int))) F15 (wantedG F15 rfl rfl rfl rfl rfl) (run_lenS rfl (F15.ev 17 rfl) (hV.below M1.below) rfl Tryd.underlying25) rfl (by decide) fun a16 F16 => ?_
      refine sq (v := (.bool false)) F16 (wantedG F16 rfl rfl rfl rfl rfl) (run_gtr rfl (F16.ev 18 rfl) rfl (decide_eq_false (by omega))) rfl (by decide) fun a17 F17 => ?_
      refine sr (v := (.bool false)) F17 (run_pick rfl (F17.ev 15 rfl) rfl (F17.ev 19 rfl)) rfl rfl rfl fun a18 F18 => ?_
      refine sn ?_
      clear F2 F3 F4 F5 F6 F7 F8 F9 F10 F11 F12 F13 F14 F15 F16 F17
      refine cfs (F18.ev 20 rfl) ?_
      refine wsl ?_
      refine sr (v := (.int .i64 0)) F18 (run_as rfl rfl) rfl rfl rfl fun a19 F19 => ?_
      refine sn ?_
      clear F18
      refine wp_seq ?_
      refine wsl ?_
      refine sr (v := (.int .i64 0)) F19 (run_as rfl rfl) rfl rfl rfl fun a20 F20 => ?_
      refine sn ?_
      clear F19
      refine wp_block ?_
      refine wkLoop (fun m a0 w2 => ∃ i s : Nat, i ≤ E.length ∧ m = E.length - i ∧ s ≤ 5000 * i ∧ Fr a0 40 [(1, .pointer (some ⟨g0, 0, none⟩)), (3, .int .i64 (s : Int)), (4, .int .i64 (i : Int))] ∧ Mem w [(g0, isB 27 #[v])] w2) E.length ⟨0, 0, Nat.zero_le _, rfl, Nat.zero_le _, F20.sub ⟨rfl, rfl, rfl, trivial⟩, M1⟩ ?_
      rintro m a0 w1 ⟨i, s, hi, rfl, hs5, F0, M0⟩
      by_cases h1 : i < E.length
      · obtain ⟨e, he⟩ : ∃ e, E[i]? = some e := ⟨E[i], List.getElem?_eq_getElem h1⟩
        have hLe := hE32 e (List.mem_of_getElem? he)
        obtain ⟨mn, hmn, hmn5⟩ : ∃ mn, min e.wr.length 5000 = mn ∧ mn ≤ 5000 := ⟨_, rfl, Nat.min_le_right _ _⟩
        refine wp_seq ?_
        refine wsl ?_
        refine mvS F0 rfl rfl rfl rfl rfl fun a1 F1 => ?_
        refine sr F1 (run_fldA (m := 1) (s := 0) rfl (F1.ev 1 rfl) Tryd.underlying27 rfl rfl (by kernel_rfl) (by decide)) rfl rfl rfl fun a2 F2 => ?_
        refine sr (v := v) F2 (run_ldF rfl (F2.ev 22 rfl) (M0.at 0 rfl) rfl (by kernel_rfl)) rfl rfl rfl fun a3 F3 => ?_
        refine sr F3 (run_lenS rfl (F3.ev 23 rfl) (hV.below M0.below) rfl Tryd.underlying25) rfl rfl rfl fun a4 F4 => ?_
        refine sr (v := (.bool true)) F4 (run_lss rfl (F4.ev 21 rfl) (F4.ev 24 rfl) (decide_eq_true (by omega))) rfl rfl rfl fun a5 F5 => ?_
        refine sn ?_
        clear F0 F1 F2 F3 F4
        refine cts (F5.ev 25 rfl) ?_
        refine wp_seq ?_
        refine wp_block ?_
        refine wp_region_lit ?_
        refine mvS F5 rfl rfl rfl rfl rfl fun a6 F6 => ?_
        refine sr F6 (run_fldA (m := 1) (s := 0) rfl (F6.ev 1 rfl) Tryd.underlying27 rfl rfl (by kernel_rfl) (by decide)) rfl rfl rfl fun a7 F7 => ?_
        refine sr (v := v) F7 (run_ldF rfl (F7.ev 29 rfl) (M0.at 0 rfl) rfl (by kernel_rfl)) rfl rfl rfl fun a8 F8 => ?_
        refine mvS F8 rfl rfl rfl rfl rfl fun a9 F9 => ?_
        refine sr (v := (slPtr v (i * 33))) F9 (run_atP (i := i) rfl (F9.ev 30 rfl) (F9.ev 31 rfl) rfl (hV.below M0.below) (by omega) elEp.un (by kernel_rfl)) rfl rfl rfl fun a10 F10 => ?_
        refine sr (v := (slPtr v (i * 33 + 32))) F10 (run_fldP (m2 := 1) (s := 32) rfl (F10.ev 32 rfl) (hV.below M0.below) (by omega) Tryd.underlying76 rfl rfl (by kernel_rfl) (by decide)) rfl rfl rfl fun a11 F11 => ?_
        refine sr (v := (.string ⟨e.wr.toArray⟩)) F11 (run_ldP rfl (F11.ev 33 rfl) (hV.below M0.below) (flat_at epF_len he 32 rfl) (by kernel_rfl)) rfl rfl rfl fun a12 F12 => ?_
        refine sr F12 (run_len rfl (F12.ev 34 rfl) rfl Tryd.underlying9) rfl rfl rfl fun a13 F13 => ?_
        refine sr (v := (.int .i64 (mn : Int))) F13 (run_min2 (r := (mn : Int)) rfl (F13.ev 35 rfl) rfl (by rw [← hmn]; omega)) rfl rfl rfl fun a14 F14 => ?_
        refine sr F14 (run_add (r := ((s + mn : Nat) : Int)) rfl (F14.ev 28 rfl) (F14.ev 36 rfl) (by rw [IntKind.wrap_i64]; omega)) rfl rfl rfl fun a15 F15 => ?_
        refine asS F15 rfl rfl rfl rfl rfl fun a16 F16 => ?_
        refine sqEnd ?_
        clear F5 F6 F7 F8 F9 F10 F11 F12 F13 F14 F15
        refine bkEnd ?_
        refine nx ?_
        refine wp_region_lit ?_
        refine mvS F16 rfl rfl rfl rfl rfl fun a17 F17 => ?_
        refine sr F17 (run_add (r := ((i + 1 : Nat) : Int)) rfl (F17.ev 26 rfl) rfl (by rw [IntKind.wrap_i64]; omega)) rfl rfl rfl fun a18 F18 => ?_
        refine asS F18 rfl rfl rfl rfl rfl fun a19 F19 => ?_
        refine sn ?_
        clear F16 F17 F18
        exact ⟨_, by omega, i + 1, s + mn, by omega, rfl, by omega, F19.sub ⟨rfl, rfl, rfl, trivial⟩, M0⟩
      · by_cases h10 : 10000 < s
        · skip
          refine wp_seq ?_
          refine wsl ?_
          refine mvS F0 rfl rfl rfl rfl rfl fun a1 F1 => ?_
          refine sr F1 (run_fldA (m := 1) (s := 0) rfl (F1.ev 1 rfl) Tryd.underlying27 rfl rfl (by kernel_rfl) (by decide)) rfl rfl rfl fun a2 F2 => ?_
          refine sr (v := v) F2 (run_ldF rfl (F2.ev 22 rfl) (M0.at 0 rfl) rfl (by kernel_rfl)) rfl rfl rfl fun a3 F3 => ?_
          refine sr F3 (run_lenS rfl (F3.ev 23 rfl) (hV.below M0.below) rfl Tryd.underlying25) rfl rfl rfl fun a4 F4 => ?_
          refine sr (v := (.bool false)) F4 (run_lss rfl (F4.ev 21 rfl) (F4.ev 24 rfl) (decide_eq_false (by omega))) rfl rfl rfl fun a5 F5 => ?_
          refine sn ?_
          clear F0 F1 F2 F3 F4
          refine wp_cond_false (F5.ev 25 rfl) ?_
          refine wp_exit ?_
          refine nxExit ?_
          refine nxExit ?_
          refine bkHere ?_
          refine nx ?_
          refine wp_seq ?_
          refine wsl ?_
          refine mvS F5 rfl rfl rfl rfl rfl fun a6 F6 => ?_
          refine sr (v := (.bool true)) F6 (run_gtr rfl (F6.ev 38 rfl) rfl (decide_eq_true (by omega))) rfl rfl rfl fun a7 F7 => ?_
          refine sn ?_
          clear F5 F6
          refine wp_cond_true (F7.ev 39 rfl) ?_
          refine wsl ?_
          refine sr (v := (.int .i64 1)) F7 (run_as rfl rfl) rfl rfl rfl fun a8 F8 => ?_
          refine sn ?_
          clear F7
          refine wp_ret ?_
          refine nxRet ?_
          exact ret1 F8 rfl rfl ⟨⟨1, rfl, .inl rfl⟩, M0.below⟩
        · skip
          refine wp_seq ?_
          refine wsl ?_
          refine mvS F0 rfl rfl rfl rfl rfl fun a1 F1 => ?_
          refine sr F1 (run_fldA (m := 1) (s := 0) rfl (F1.ev 1 rfl) Tryd.underlying27 rfl rfl (by kernel_rfl) (by decide)) rfl rfl rfl fun a2 F2 => ?_
          refine sr (v := v) F2 (run_ldF rfl (F2.ev 22 rfl) (M0.at 0 rfl) rfl (by kernel_rfl)) rfl rfl rfl fun a3 F3 => ?_
          refine sr F3 (run_lenS rfl (F3.ev 23 rfl) (hV.below M0.below) rfl Tryd.underlying25) rfl rfl rfl fun a4 F4 => ?_
          refine sr (v := (.bool false)) F4 (run_lss rfl (F4.ev 21 rfl) (F4.ev 24 rfl) (decide_eq_false (by omega))) rfl rfl rfl fun a5 F5 => ?_
          refine sn ?_
          clear F0 F1 F2 F3 F4
          refine wp_cond_false (F5.ev 25 rfl) ?_
          refine wp_exit ?_
          refine nxExit ?_
          refine nxExit ?_
          refine bkHere ?_
          refine nx ?_
          refine wp_seq ?_
          refine wsl ?_
          refine mvS F5 rfl rfl rfl rfl rfl fun a6 F6 => ?_
          refine sr (v := (.bool false)) F6 (run_gtr rfl (F6.ev 38 rfl) rfl (decide_eq_false (by omega))) rfl rfl rfl fun a7 F7 => ?_
          refine sn ?_
          clear F5 F6
          refine cfs (F7.ev 39 rfl) ?_
          refine wsl ?_
          refine sr (v := (.int .i64 0)) F7 (run_as rfl rfl) rfl rfl rfl fun a8 F8 => ?_
          refine sn ?_
          clear F7
          refine wp_ret ?_
          exact ret1 F8 rfl rfl ⟨⟨0, rfl, .inr ⟨rfl, by omega⟩⟩, M0.below⟩
  · skip
    refine walk_enter Tryd.func18 rfl rfl rfl fun a0 F0 => ?_
    have M0 := Mem.new w
    refine wsl ?_
    refine sqNew (cs := #[v]) (t := 27) F0 M0 (wantedS rfl) (run_box rfl (F0.ev 0 rfl)) rfl (by decide) fun g0 a1 w1 hgg0 hb1 F1 M1 => ?_
    refine sr (v := (.int .i64 0)) F1 (run_as rfl rfl) rfl rfl rfl fun a2 F2 => ?_
    refine sn ?_
    clear F0 F1 M0
    refine wp_seq ?_
    refine wsl ?_
    refine sr F2 (run_fldA (m := 1) (s := 0) rfl (F2.ev 1 rfl) Tryd.underlying27 rfl rfl (by kernel_rfl) (by decide)) rfl rfl rfl fun a3 F3 => ?_
    refine sr (v := v) F3 (run_ldF rfl (F3.ev 5 rfl) (M1.at 0 rfl) rfl (by kernel_rfl)) rfl rfl rfl fun a4 F4 => ?_
    refine sr F4 (run_lenS rfl (F4.ev 6 rfl) (hV.below M1.below) rfl Tryd.underlying25) rfl rfl rfl fun a5 F5 => ?_
    refine sr (v := (.bool false)) F5 (run_gtr rfl (F5.ev 7 rfl) rfl (decide_eq_false (by omega))) rfl rfl rfl fun a6 F6 => ?_
    refine mvS F6 rfl rfl rfl rfl rfl fun a7 F7 => ?_
    refine sqSkip F7 (unwantedG F7 rfl rfl rfl rfl rfl) rfl (by decide) fun a8 F8 => ?_
    refine sqSkip F8 (unwantedG F8 rfl rfl rfl rfl rfl) rfl (by decide) fun a9 F9 => ?_
    refine sqSkip F9 (unwantedG F9 rfl rfl rfl rfl rfl) rfl (by decide) fun a10 F10 => ?_
    refine sqSkip F10 (unwantedG F10 rfl rfl rfl rfl rfl) rfl (by decide) fun a11 F11 => ?_
    refine sr (v := (.bool false)) F11 (run_pick rfl (F11.ev 9 rfl) (F11.ev 13 rfl) rfl) rfl rfl rfl fun a12 F12 => ?_
    refine mvS F12 rfl rfl rfl rfl rfl fun a13 F13 => ?_
    refine sq (v := (.pointer (some ⟨g0, 0, none⟩))) F13 (wantedG F13 rfl rfl rfl rfl rfl) (run_fldA (m := 1) (s := 0) rfl (F13.ev 1 rfl) Tryd.underlying27 rfl rfl (by kernel_rfl) (by decide)) rfl (by decide) fun a14 F14 => ?_
    refine sq (v := v) F14 (wantedG F14 rfl rfl rfl rfl rfl) (run_ldF rfl (F14.ev 16 rfl) (M1.at 0 rfl) rfl (by kernel_rfl)) rfl (by decide) fun a15 F15 => ?_
    refine sq (v := (.int .i64 (E.length : Int))) F15 (wantedG F15 rfl rfl rfl rfl rfl) (run_lenS rfl (F15.ev 17 rfl) (hV.below M1.below) rfl Tryd.underlying25) rfl (by decide) fun a16 F16 => ?_
    refine sq (v := (.bool false)) F16 (wantedG F16 rfl rfl rfl rfl rfl) (run_gtr rfl (F16.ev 18 rfl) rfl (decide_eq_false (by omega))) rfl (by decide) fun a17 F17 => ?_
    refine sr (v := (.bool false)) F17 (run_pick rfl (F17.ev 15 rfl) rfl (F17.ev 19 rfl)) rfl rfl rfl fun a18 F18 => ?_
    refine sn ?_
    clear F2 F3 F4 F5 F6 F7 F8 F9 F10 F11 F12 F13 F14 F15 F16 F17
    refine cfs (F18.ev 20 rfl) ?_
    refine wsl ?_
    refine sr (v := (.int .i64 0)) F18 (run_as rfl rfl) rfl rfl rfl fun a19 F19 => ?_
    refine sn ?_
    clear F18
    refine wp_seq ?_
    refine wsl ?_
    refine sr (v := (.int .i64 0)) F19 (run_as rfl rfl) rfl rfl rfl fun a20 F20 => ?_
    refine sn ?_
    clear F19
    refine wp_block ?_
    refine wkLoop (fun m a0 w2 => ∃ i s : Nat, i ≤ E.length ∧ m = E.length - i ∧ s ≤ 5000 * i ∧ Fr a0 40 [(1, .pointer (some ⟨g0, 0, none⟩)), (3, .int .i64 (s : Int)), (4, .int .i64 (i : Int))] ∧ Mem w [(g0, isB 27 #[v])] w2) E.length ⟨0, 0, Nat.zero_le _, rfl, Nat.zero_le _, F20.sub ⟨rfl, rfl, rfl, trivial⟩, M1⟩ ?_
    rintro m a0 w1 ⟨i, s, hi, rfl, hs5, F0, M0⟩
    by_cases h1 : i < E.length
    · obtain ⟨e, he⟩ : ∃ e, E[i]? = some e := ⟨E[i], List.getElem?_eq_getElem h1⟩
      have hLe := hE32 e (List.mem_of_getElem? he)
      obtain ⟨mn, hmn, hmn5⟩ : ∃ mn, min e.wr.length 5000 = mn ∧ mn ≤ 5000 := ⟨_, rfl, Nat.min_le_right _ _⟩
      refine wp_seq ?_
      refine wsl ?_
      refine mvS F0 rfl rfl rfl rfl rfl fun a1 F1 => ?_
      refine sr F1 (run_fldA (m := 1) (s := 0) rfl (F1.ev 1 rfl) Tryd.underlying27 rfl rfl (by kernel_rfl) (by decide)) rfl rfl rfl fun a2 F2 => ?_
      refine sr (v := v) F2 (run_ldF rfl (F2.ev 22 rfl) (M0.at 0 rfl) rfl (by kernel_rfl)) rfl rfl rfl fun a3 F3 => ?_
      refine sr F3 (run_lenS rfl (F3.ev 23 rfl) (hV.below M0.below) rfl Tryd.underlying25) rfl rfl rfl fun a4 F4 => ?_
      refine sr (v := (.bool true)) F4 (run_lss rfl (F4.ev 21 rfl) (F4.ev 24 rfl) (decide_eq_true (by omega))) rfl rfl rfl fun a5 F5 => ?_
      refine sn ?_
      clear F0 F1 F2 F3 F4
      refine cts (F5.ev 25 rfl) ?_
      refine wp_seq ?_
      refine wp_block ?_
      refine wp_region_lit ?_
      refine mvS F5 rfl rfl rfl rfl rfl fun a6 F6 => ?_
      refine sr F6 (run_fldA (m := 1) (s := 0) rfl (F6.ev 1 rfl) Tryd.underlying27 rfl rfl (by kernel_rfl) (by decide)) rfl rfl rfl fun a7 F7 => ?_
      refine sr (v := v) F7 (run_ldF rfl (F7.ev 29 rfl) (M0.at 0 rfl) rfl (by kernel_rfl)) rfl rfl rfl fun a8 F8 => ?_
      refine mvS F8 rfl rfl rfl rfl rfl fun a9 F9 => ?_
      refine sr (v := (slPtr v (i * 33))) F9 (run_atP (i := i) rfl (F9.ev 30 rfl) (F9.ev 31 rfl) rfl (hV.below M0.below) (by omega) elEp.un (by kernel_rfl)) rfl rfl rfl fun a10 F10 => ?_
      refine sr (v := (slPtr v (i * 33 + 32))) F10 (run_fldP (m2 := 1) (s := 32) rfl (F10.ev 32 rfl) (hV.below M0.below) (by omega) Tryd.underlying76 rfl rfl (by kernel_rfl) (by decide)) rfl rfl rfl fun a11 F11 => ?_
      refine sr (v := (.string ⟨e.wr.toArray⟩)) F11 (run_ldP rfl (F11.ev 33 rfl) (hV.below M0.below) (flat_at epF_len he 32 rfl) (by kernel_rfl)) rfl rfl rfl fun a12 F12 => ?_
      refine sr F12 (run_len rfl (F12.ev 34 rfl) rfl Tryd.underlying9) rfl rfl rfl fun a13 F13 => ?_
      refine sr (v := (.int .i64 (mn : Int))) F13 (run_min2 (r := (mn : Int)) rfl (F13.ev 35 rfl) rfl (by rw [← hmn]; omega)) rfl rfl rfl fun a14 F14 => ?_
      refine sr F14 (run_add (r := ((s + mn : Nat) : Int)) rfl (F14.ev 28 rfl) (F14.ev 36 rfl) (by rw [IntKind.wrap_i64]; omega)) rfl rfl rfl fun a15 F15 => ?_
      refine asS F15 rfl rfl rfl rfl rfl fun a16 F16 => ?_
      refine sqEnd ?_
      clear F5 F6 F7 F8 F9 F10 F11 F12 F13 F14 F15
      refine bkEnd ?_
      refine nx ?_
      refine wp_region_lit ?_
      refine mvS F16 rfl rfl rfl rfl rfl fun a17 F17 => ?_
      refine sr F17 (run_add (r := ((i + 1 : Nat) : Int)) rfl (F17.ev 26 rfl) rfl (by rw [IntKind.wrap_i64]; omega)) rfl rfl rfl fun a18 F18 => ?_
      refine asS F18 rfl rfl rfl rfl rfl fun a19 F19 => ?_
      refine sn ?_
      clear F16 F17 F18
      exact ⟨_, by omega, i + 1, s + mn, by omega, rfl, by omega, F19.sub ⟨rfl, rfl, rfl, trivial⟩, M0⟩
    · by_cases h10 : 10000 < s
      · skip
        refine wp_seq ?_
        refine wsl ?_
        refine mvS F0 rfl rfl rfl rfl rfl fun a1 F1 => ?_
        refine sr F1 (run_fldA (m := 1) (s := 0) rfl (F1.ev 1 rfl) Tryd.underlying27 rfl rfl (by kernel_rfl) (by decide)) rfl rfl rfl fun a2 F2 => ?_
        refine sr (v := v) F2 (run_ldF rfl (F2.ev 22 rfl) (M0.at 0 rfl) rfl (by kernel_rfl)) rfl rfl rfl fun a3 F3 => ?_
        refine sr F3 (run_lenS rfl (F3.ev 23 rfl) (hV.below M0.below) rfl Tryd.underlying25) rfl rfl rfl fun a4 F4 => ?_
        refine sr (v := (.bool false)) F4 (run_lss rfl (F4.ev 21 rfl) (F4.ev 24 rfl) (decide_eq_false (by omega))) rfl rfl rfl fun a5 F5 => ?_
        refine sn ?_
        clear F0 F1 F2 F3 F4
        refine wp_cond_false (F5.ev 25 rfl) ?_
        refine wp_exit ?_
        refine nxExit ?_
        refine nxExit ?_
        refine bkHere ?_
        refine nx ?_
        refine wp_seq ?_
        refine wsl ?_
        refine mvS F5 rfl rfl rfl rfl rfl fun a6 F6 => ?_
        refine sr (v := (.bool true)) F6 (run_gtr rfl (F6.ev 38 rfl) rfl (decide_eq_true (by omega))) rfl rfl rfl fun a7 F7 => ?_
        refine sn ?_
        clear F5 F6
        refine wp_cond_true (F7.ev 39 rfl) ?_
        refine wsl ?_
        refine sr (v := (.int .i64 1)) F7 (run_as rfl rfl) rfl rfl rfl fun a8 F8 => ?_
        refine sn ?_
        clear F7
        refine wp_ret ?_
        refine nxRet ?_
        exact ret1 F8 rfl rfl ⟨⟨1, rfl, .inl rfl⟩, M0.below⟩
      · skip
        refine wp_seq ?_
        refine wsl ?_
        refine mvS F0 rfl rfl rfl rfl rfl fun a1 F1 => ?_
        refine sr F1 (run_fldA (m := 1) (s := 0) rfl (F1.ev 1 rfl) Tryd.underlying27 rfl rfl (by kernel_rfl) (by decide)) rfl rfl rfl fun a2 F2 => ?_
        refine sr (v := v) F2 (run_ldF rfl (F2.ev 22 rfl) (M0.at 0 rfl) rfl (by kernel_rfl)) rfl rfl rfl fun a3 F3 => ?_
        refine sr F3 (run_lenS rfl (F3.ev 23 rfl) (hV.below M0.below) rfl Tryd.underlying25) rfl rfl rfl fun a4 F4 => ?_
        refine sr (v := (.bool false)) F4 (run_lss rfl (F4.ev 21 rfl) (F4.ev 24 rfl) (decide_eq_false (by omega))) rfl rfl rfl fun a5 F5 => ?_
        refine sn ?_
        clear F0 F1 F2 F3 F4
        refine wp_cond_false (F5.ev 25 rfl) ?_
        refine wp_exit ?_
        refine nxExit ?_
        refine nxExit ?_
        refine bkHere ?_
        refine nx ?_
        refine wp_seq ?_
        refine wsl ?_
        refine mvS F5 rfl rfl rfl rfl rfl fun a6 F6 => ?_
        refine sr (v := (.bool false)) F6 (run_gtr rfl (F6.ev 38 rfl) rfl (decide_eq_false (by omega))) rfl rfl rfl fun a7 F7 => ?_
        refine sn ?_
        clear F5 F6
        refine cfs (F7.ev 39 rfl) ?_
        refine wsl ?_
        refine sr (v := (.int .i64 0)) F7 (run_as rfl rfl) rfl rfl rfl fun a8 F8 => ?_
        refine sn ?_
        clear F7
        refine wp_ret ?_
        exact ret1 F8 rfl rfl ⟨⟨0, rfl, .inr ⟨rfl, by omega⟩⟩, M0.below⟩
theorem rot_c32 {E : List Ep} {K : List (List UInt8)} {k no : List UInt8} (hE : ∀ e ∈ E, e.c.length = 32) : ∀ e ∈ (rotS E K k no).1, e.c.length = 32 := by
  unfold rotS
  split
  · intro e he
    rcases List.mem_append.1 he with h | h
    · exact hE e h
    · rw [List.mem_singleton.1 h]; exact keyedS_len _ _
  · intro e he; cases he
theorem rot_k32 {E : List Ep} {K : List (List UInt8)} {k no : List UInt8} (hK : ∀ x ∈ K, x.length = 32) (hk : k.length = 32) : ∀ x ∈ (rotS E K k no).2.1, x.length = 32 := by
  unfold rotS
  split
  · intro e he
    rcases List.mem_append.1 he with h | h
    · exact hK e h
    · rw [List.mem_singleton.1 h]; exact hk
  · intro e he; cases he
theorem rot_lens {E : List Ep} {K : List (List UInt8)} {k no : List UInt8} (hE : E.length ≤ 105) (hK : K.length ≤ 105) : (rotS E K k no).1.length < 2 ^ 36 ∧ (rotS E K k no).2.1.length < 2 ^ 36 ∧ (rotS E K k no).2.2.1.length < 2 ^ 36 := by
  unfold rotS
  split
  · refine ⟨?_, ?_, ?_⟩
    · simp only [List.length_append, List.length_singleton]; omega
    · simp only [List.length_append, List.length_singleton]; omega
    · simp [shS_len]
  · exact ⟨by simp, by simp, by simp⟩
attribute [local irreducible] rotS checkS
set_option maxRecDepth 100000 in
set_option maxHeartbeats 1000000 in
theorem lawRotate_any (E : List Ep) (v : Value) (K : List (List UInt8)) (u : Value) (k no : List UInt8) (w : World) (HG : Glob w) (hV : Sl w v 33 E.length (E.flatMap epF)) (hE32 : ∀ e ∈ E, e.c.length = 32) (hU : Sl w u 32 K.length (K.flatMap dgC)) (h32 : ∀ k ∈ K, k.length = 32) (hcap : capOk u) (hLk : k.length = 32) (_hno : no.length ≤ maxLen) : Calls Tryd.prog 4 #[.agg #[v], .agg #[u], .agg (cells8 k), .string ⟨no.toArray⟩] w fun e w' => e = .returned (.bool true) ∧ Below w.heap.size w w' := by
  refine walk_enter Tryd.func4 rfl rfl rfl fun a0 F0 => ?_
  have M0 := Mem.new w
  refine wsl ?_
  refine sqNew (cs := #[v]) (t := 27) F0 M0 (wantedS rfl) (run_box rfl (F0.ev 0 rfl)) rfl (by decide) fun g0 a1 w1 hgg0 hb1 F1 M1 => ?_
  refine sqNew (cs := #[u]) (t := 30) F1 M1 (wantedS rfl) (run_box rfl (F1.ev 1 rfl)) rfl (by decide) fun g1 a2 w2 hgg1 hb2 F2 M2 => ?_
  refine sqNew (cs := (cells8 k)) (t := 23) F2 M2 (wantedS rfl) (run_box rfl (F2.ev 2 rfl)) rfl (by decide) fun g2 a3 w3 hgg2 hb3 F3 M3 => ?_
  refine sr (v := (.bool false)) F3 (run_as rfl rfl) rfl rfl rfl fun a4 F4 => ?_
  refine sn ?_
  clear F0 F1 F2 F3 M0 M1 M2
  refine wp_seq ?_
  refine wsl ?_
  refine sqC (v := (.bool true)) F4 M3 (wantedS rfl) (run_call rfl Tryd.func12 (by kernel_rfl) rfl (mapE0 )) rfl (by decide) (alive38_any w3 (HG.below M3.below)) fun a5 w4 hb4 F5 M4 => ?_
  refine sr (v := (.bool false)) F5 (run_not rfl (F5.ev 17 rfl)) rfl rfl rfl fun a6 F6 => ?_
  refine sn ?_
  clear F4 F5 M3
  refine cfs (F6.ev 18 rfl) ?_
  refine wp_seq ?_
  refine wsl ?_
  refine sr F6 (run_ldB rfl (F6.ev 4 rfl) (M4.at 2 rfl) Tryd.underlying27 rfl szRg rfl) rfl rfl rfl fun a7 F7 => ?_
  refine sqT (T := fun u wx => (∃ r : Int, u = .int .i64 r ∧ (r = 1 ∨ (r = 0 ∧ E.length ≤ 105))) ∧ Below w4.heap.size w4 wx) F7 (wantedS rfl) (run_call rfl Tryd.func18 (by kernel_rfl) rfl (mapE1 (F7.ev 19 rfl))) rfl (by decide) ((great_any E v w4 (hV.below M4.below) hE32).mono fun e w2 ⟨⟨r, h1, h2⟩, h3⟩ => ⟨_, h1, ⟨r, rfl, h2⟩, h3⟩) fun u3 a8 w5 hT5 F8 => ?_
  obtain ⟨⟨rg, rfl, hrg⟩, hb5⟩ := hT5
  have M5 := M4.grow hb5
  rcases hrg with rfl | ⟨rfl, h105⟩
  · skip
    refine sr (v := (.bool true)) F8 (run_eqi rfl (F8.ev 20 rfl) rfl (beq_self_eq_true _)) rfl rfl rfl fun a9 F9 => ?_
    refine mvS F9 rfl rfl rfl rfl rfl fun a10 F10 => ?_
    refine sqSkip F10 (unwantedG F10 rfl rfl rfl rfl rfl) rfl (by decide) fun a11 F11 => ?_
    refine sqSkip F11 (unwantedG F11 rfl rfl rfl rfl rfl) rfl (by decide) fun a12 F12 => ?_
    refine sqSkip F12 (unwantedG F12 rfl rfl rfl rfl rfl) rfl (by decide) fun a13 F13 => ?_
    refine sqSkip F13 (unwantedG F13 rfl rfl rfl rfl rfl) rfl (by decide) fun a14 F14 => ?_
    refine sr (v := (.bool true)) F14 (run_pick rfl (F14.ev 22 rfl) rfl (F14.ev 26 rfl)) rfl rfl rfl fun a15 F15 => ?_
    refine mvS F15 rfl rfl rfl rfl rfl fun a16 F16 => ?_
    refine sqSkip F16 (unwantedG F16 rfl rfl rfl rfl rfl) rfl (by decide) fun a17 F17 => ?_
    refine sqSkip F17 (unwantedG F17 rfl rfl rfl rfl rfl) rfl (by decide) fun a18 F18 => ?_
    refine sqSkip F18 (unwantedG F18 rfl rfl rfl rfl rfl) rfl (by decide) fun a19 F19 => ?_
    refine sr (v := (.bool true)) F19 (run_pick rfl (F19.ev 28 rfl) rfl (F19.ev 31 rfl)) rfl rfl rfl fun a20 F20 => ?_
    refine sn ?_
    refine wp_cond_true (F20.ev 32 rfl) ?_
    refine wsl ?_
    refine sr (v := (.bool true)) F20 (run_as rfl rfl) rfl rfl rfl fun a21 F21 => ?_
    refine sn ?_
    clear F20
    refine wp_ret ?_
    refine nxRet ?_
    exact ret1 F21 rfl rfl ⟨rfl, M5.below⟩
  · skip
    have hc3 : 105 < K.length ∨ (K.length ≤ 105 ∧ 200 < no.length) ∨ (K.length ≤ 105 ∧ no.length ≤ 200) := by omega
    rcases hc3 with h1 | ⟨h1, h2⟩ | ⟨h1, h2⟩
    · skip
      refine sr (v := (.bool false)) F8 (run_eqi rfl (F8.ev 20 rfl) rfl rfl) rfl rfl rfl fun a9 F9 => ?_
      refine mvS F9 rfl rfl rfl rfl rfl fun a10 F10 => ?_
      refine sq (v := (.pointer (some ⟨g1, 0, none⟩))) F10 (wantedG F10 rfl rfl rfl rfl rfl) (run_fldA (m := 1) (s := 0) rfl (F10.ev 5 rfl) Tryd.underlying30 rfl rfl (by kernel_rfl) (by decide)) rfl (by decide) fun a11 F11 => ?_
      refine sq (v := u) F11 (wantedG F11 rfl rfl rfl rfl rfl) (run_ldF rfl (F11.ev 23 rfl) (M5.at 1 rfl) rfl (by kernel_rfl)) rfl (by decide) fun a12 F12 => ?_
      refine sq (v := (.int .i64 (K.length : Int))) F12 (wantedG F12 rfl rfl rfl rfl rfl) (run_lenS rfl (F12.ev 24 rfl) (hU.below M5.below) rfl Tryd.underlying28) rfl (by decide) fun a13 F13 => ?_
      refine sq (v := (.bool true)) F13 (wantedG F13 rfl rfl rfl rfl rfl) (run_gtr rfl (F13.ev 25 rfl) rfl (decide_eq_true (by omega))) rfl (by decide) fun a14 F14 => ?_
      refine sr (v := (.bool true)) F14 (run_pick rfl (F14.ev 22 rfl) rfl (F14.ev 26 rfl)) rfl rfl rfl fun a15 F15 => ?_
      refine mvS F15 rfl rfl rfl rfl rfl fun a16 F16 => ?_
      refine sqSkip F16 (unwantedG F16 rfl rfl rfl rfl rfl) rfl (by decide) fun a17 F17 => ?_
      refine sqSkip F17 (unwantedG F17 rfl rfl rfl rfl rfl) rfl (by decide) fun a18 F18 => ?_
      refine sqSkip F18 (unwantedG F18 rfl rfl rfl rfl rfl) rfl (by decide) fun a19 F19 => ?_
      refine sr (v := (.bool true)) F19 (run_pick rfl (F19.ev 28 rfl) rfl (F19.ev 31 rfl)) rfl rfl rfl fun a20 F20 => ?_
      refine sn ?_
      refine wp_cond_true (F20.ev 32 rfl) ?_
      refine wsl ?_
      refine sr (v := (.bool true)) F20 (run_as rfl rfl) rfl rfl rfl fun a21 F21 => ?_
      refine sn ?_
      clear F20
      refine wp_ret ?_
      refine nxRet ?_
      exact ret1 F21 rfl rfl ⟨rfl, M5.below⟩
    · skip
      refine sr (v := (.bool false)) F8 (run_eqi rfl (F8.ev 20 rfl) rfl rfl) rfl rfl rfl fun a9 F9 => ?_
      refine mvS F9 rfl rfl rfl rfl rfl fun a10 F10 => ?_
      refine sq (v := (.pointer (some ⟨g1, 0, none⟩))) F10 (wantedG F10 rfl rfl rfl rfl rfl) (run_fldA (m := 1) (s := 0) rfl (F10.ev 5 rfl) Tryd.underlying30 rfl rfl (by kernel_rfl) (by decide)) rfl (by decide) fun a11 F11 => ?_
      refine sq (v := u) F11 (wantedG F11 rfl rfl rfl rfl rfl) (run_ldF rfl (F11.ev 23 rfl) (M5.at 1 rfl) rfl (by kernel_rfl)) rfl (by decide) fun a12 F12 => ?_
      refine sq (v := (.int .i64 (K.length : Int))) F12 (wantedG F12 rfl rfl rfl rfl rfl) (run_lenS rfl (F12.ev 24 rfl) (hU.below M5.below) rfl Tryd.underlying28) rfl (by decide) fun a13 F13 => ?_
      refine sq (v := (.bool false)) F13 (wantedG F13 rfl rfl rfl rfl rfl) (run_gtr rfl (F13.ev 25 rfl) rfl (decide_eq_false (by omega))) rfl (by decide) fun a14 F14 => ?_
      refine sr (v := (.bool false)) F14 (run_pick rfl (F14.ev 22 rfl) rfl (F14.ev 26 rfl)) rfl rfl rfl fun a15 F15 => ?_
      refine mvS F15 rfl rfl rfl rfl rfl fun a16 F16 => ?_
      refine sq (v := (.string ⟨no.toArray⟩)) F16 (wantedG F16 rfl rfl rfl rfl rfl) (run_mv rfl (F16.ev 3 rfl)) rfl (by decide) fun a17 F17 => ?_
      refine sq (v := (.int .i64 (no.length : Int))) F17 (wantedG F17 rfl rfl rfl rfl rfl) (run_len rfl (F17.ev 29 rfl) rfl Tryd.underlying9) rfl (by decide) fun a18 F18 => ?_
      refine sq (v := (.bool true)) F18 (wantedG F18 rfl rfl rfl rfl rfl) (run_gtr rfl (F18.ev 30 rfl) rfl (decide_eq_true (by omega))) rfl (by decide) fun a19 F19 => ?_
      refine sr (v := (.bool true)) F19 (run_pick rfl (F19.ev 28 rfl) rfl (F19.ev 31 rfl)) rfl rfl rfl fun a20 F20 => ?_
      refine sn ?_
      refine wp_cond_true (F20.ev 32 rfl) ?_
      refine wsl ?_
      refine sr (v := (.bool true)) F20 (run_as rfl rfl) rfl rfl rfl fun a21 F21 => ?_
      refine sn ?_
      clear F20
      refine wp_ret ?_
      refine nxRet ?_
      exact ret1 F21 rfl rfl ⟨rfl, M5.below⟩
    · skip
      refine sr (v := (.bool false)) F8 (run_eqi rfl (F8.ev 20 rfl) rfl rfl) rfl rfl rfl fun a9 F9 => ?_
      refine mvS F9 rfl rfl rfl rfl rfl fun a10 F10 => ?_
      refine sq (v := (.pointer (some ⟨g1, 0, none⟩))) F10 (wantedG F10 rfl rfl rfl rfl rfl) (run_fldA (m := 1) (s := 0) rfl (F10.ev 5 rfl) Tryd.underlying30 rfl rfl (by kernel_rfl) (by decide)) rfl (by decide) fun a11 F11 => ?_
      refine sq (v := u) F11 (wantedG F11 rfl rfl rfl rfl rfl) (run_ldF rfl (F11.ev 23 rfl) (M5.at 1 rfl) rfl (by kernel_rfl)) rfl (by decide) fun a12 F12 => ?_
      refine sq (v := (.int .i64 (K.length : Int))) F12 (wantedG F12 rfl rfl rfl rfl rfl) (run_lenS rfl (F12.ev 24 rfl) (hU.below M5.below) rfl Tryd.underlying28) rfl (by decide) fun a13 F13 => ?_
      refine sq (v := (.bool false)) F13 (wantedG F13 rfl rfl rfl rfl rfl) (run_gtr rfl (F13.ev 25 rfl) rfl (decide_eq_false (by omega))) rfl (by decide) fun a14 F14 => ?_
      refine sr (v := (.bool false)) F14 (run_pick rfl (F14.ev 22 rfl) rfl (F14.ev 26 rfl)) rfl rfl rfl fun a15 F15 => ?_
      refine mvS F15 rfl rfl rfl rfl rfl fun a16 F16 => ?_
      refine sq (v := (.string ⟨no.toArray⟩)) F16 (wantedG F16 rfl rfl rfl rfl rfl) (run_mv rfl (F16.ev 3 rfl)) rfl (by decide) fun a17 F17 => ?_
      refine sq (v := (.int .i64 (no.length : Int))) F17 (wantedG F17 rfl rfl rfl rfl rfl) (run_len rfl (F17.ev 29 rfl) rfl Tryd.underlying9) rfl (by decide) fun a18 F18 => ?_
      refine sq (v := (.bool false)) F18 (wantedG F18 rfl rfl rfl rfl rfl) (run_gtr rfl (F18.ev 30 rfl) rfl (decide_eq_false (by omega))) rfl (by decide) fun a19 F19 => ?_
      refine sr (v := (.bool false)) F19 (run_pick rfl (F19.ev 28 rfl) rfl (F19.ev 31 rfl)) rfl rfl rfl fun a20 F20 => ?_
      refine sn ?_
      refine cfs (F20.ev 32 rfl) ?_
      refine wsl ?_
      refine sr F20 (run_ldB rfl (F20.ev 4 rfl) (M5.at 2 rfl) Tryd.underlying27 rfl szRg rfl) rfl rfl rfl fun a21 F21 => ?_
      refine sr F21 (run_ldB rfl (F21.ev 5 rfl) (M5.at 1 rfl) Tryd.underlying30 rfl szKy rfl) rfl rfl rfl fun a22 F22 => ?_
      refine sr F22 (run_ldB rfl (F22.ev 6 rfl) (M5.at 0 rfl) Tryd.underlying23 rfl sz32k (szOf hLk)) rfl rfl rfl fun a23 F23 => ?_
      refine mvS F23 rfl rfl rfl rfl rfl fun a24 F24 => ?_
      refine sqT (T := fun u wx => Kp.sat w5.heap.size (.tup4 (.st (.row 76 33 (((rotS E K k no).1).length) (((rotS E K k no).1).flatMap epF))) (.st (.row 23 32 (((rotS E K k no).2.1).length) (((rotS E K k no).2.1).flatMap dgC))) (.row 54 33 (((rotS E K k no).2.2.1).length) (((rotS E K k no).2.2.1).flatMap shareC)) (.val (.int .i64 ((rotS E K k no).2.2.2)))) u wx ∧ Below w5.heap.size w5 wx) F24 (wantedS rfl) (run_call rfl Tryd.func19 (by kernel_rfl) rfl (mapE4 (F24.ev 34 rfl) (F24.ev 35 rfl) (F24.ev 36 rfl) (F24.ev 37 rfl))) rfl (by decide) (krot_any E K k no v u w5 (HG.below M5.below) (hV.below M5.below) hE32 (hU.below M5.below) h32 hLk (by omega) (by omega)) fun u4 a25 w6 hT6 F25 => ?_
      obtain ⟨⟨_, _, vz5c, _, rfl, ⟨vz5a, rfl, hz5a⟩, ⟨vz5b, rfl, hz5b⟩, hz5c, rfl⟩, hb6⟩ := hT6
      have hO1 := OwnR.ofCall M5 (show World.ownsRow w6 _ 76 33 vz5a (((rotS E K k no).1).length) (((rotS E K k no).1).flatMap epF) from hz5a)
      have hO2 := OwnR.ofCall M5 (show World.ownsRow w6 _ 23 32 vz5b (((rotS E K k no).2.1).length) (((rotS E K k no).2.1).flatMap dgC) from hz5b)
      have hO3 := OwnR.ofCall M5 (show World.ownsRow w6 _ 54 33 vz5c (((rotS E K k no).2.2.1).length) (((rotS E K k no).2.2.1).flatMap shareC) from hz5c)
      have M6 := M5.grow hb6
      refine mvS F25 rfl rfl rfl rfl rfl fun a26 F26 => ?_
      refine sr (v := (.agg #[vz5a])) F26 (run_ext rfl (F26.ev 33 rfl) rfl) rfl rfl rfl fun a27 F27 => ?_
      refine sr (v := (.agg #[vz5b])) F27 (run_ext rfl (F27.ev 33 rfl) rfl) rfl rfl rfl fun a28 F28 => ?_
      refine sr (v := vz5c) F28 (run_ext rfl (F28.ev 33 rfl) rfl) rfl rfl rfl fun a29 F29 => ?_
      refine sr (v := (.int .i64 ((rotS E K k no).2.2.2))) F29 (run_ext rfl (F29.ev 33 rfl) rfl) rfl rfl rfl fun a30 F30 => ?_
      refine sqNew (cs := #[.slice none 0 0]) (t := 27) F30 M6 (wantedS rfl) (run_alloc rfl (by kernel_rfl)) rfl (by decide) fun g6 a31 w7 hgg6 hb7 F31 M7 => ?_
      have hO4 := hO1.add (S := isB 27 (#[.slice none 0 0])) hb7 hgg6
      have hO5 := hO2.add (S := isB 27 (#[.slice none 0 0])) hb7 hgg6
      have hO6 := hO3.add (S := isB 27 (#[.slice none 0 0])) hb7 hgg6
      refine sqNew (cs := #[.slice none 0 0]) (t := 30) F31 M7 (wantedS rfl) (run_alloc rfl (by kernel_rfl)) rfl (by decide) fun g7 a32 w8 hgg7 hb8 F32 M8 => ?_
      have hO7 := hO4.add (S := isB 30 (#[.slice none 0 0])) hb8 hgg7
      have hO8 := hO5.add (S := isB 30 (#[.slice none 0 0])) hb8 hgg7
      have hO9 := hO6.add (S := isB 30 (#[.slice none 0 0])) hb8 hgg7
      refine sqStoreG (i := 1) F32 M8 rfl rfl rfl (F32.ev 9 rfl) (F32.ev 39 rfl) rfl szRg rfl rfl (one_own hO7.owns) fun a33 w9 hgr9 F33 M9 => ?_
      have hO10 := hO7.upd 1 (S2 := isB 27 #[vz5a]) rfl hgr9
      have hO11 := hO8.upd 1 (S2 := isB 27 #[vz5a]) rfl hgr9
      have hO12 := hO9.upd 1 (S2 := isB 27 #[vz5a]) rfl hgr9
      refine sqStoreG (i := 0) F33 M9 rfl rfl rfl (F33.ev 10 rfl) (F33.ev 40 rfl) rfl szKy rfl rfl (one_own hO11.owns) fun a34 w10 hgr10 F34 M10 => ?_
      have hO13 := hO10.upd 0 (S2 := isB 30 #[vz5b]) rfl hgr10
      have hO14 := hO11.upd 0 (S2 := isB 30 #[vz5b]) rfl hgr10
      have hO15 := hO12.upd 0 (S2 := isB 30 #[vz5b]) rfl hgr10
      refine asS F34 rfl rfl rfl rfl rfl fun a35 F35 => ?_
      refine asS F35 rfl rfl rfl rfl rfl fun a36 F36 => ?_
      refine sn ?_
      clear F20 F21 F22 F23 F24 F25 F26 F27 F28 F29 F30 F31 F32 F33 F34 F35 M5 M6 M7 M8 M9
      refine wsl ?_
      refine sr F36 (run_ldB rfl (F36.ev 4 rfl) (M10.at 4 rfl) Tryd.underlying27 rfl szRg rfl) rfl rfl rfl fun a37 F37 => ?_
      refine sr F37 (run_ldB rfl (F37.ev 5 rfl) (M10.at 3 rfl) Tryd.underlying30 rfl szKy rfl) rfl rfl rfl fun a38 F38 => ?_
      refine sr F38 (run_ldB rfl (F38.ev 6 rfl) (M10.at 2 rfl) Tryd.underlying23 rfl sz32k (szOf hLk)) rfl rfl rfl fun a39 F39 => ?_
      refine mvS F39 rfl rfl rfl rfl rfl fun a40 F40 => ?_
      refine sqT (T := fun u wx => Kp.sat w10.heap.size (.tup4 (.st (.row 76 33 (((rotS E K k no).1).length) (((rotS E K k no).1).flatMap epF))) (.st (.row 23 32 (((rotS E K k no).2.1).length) (((rotS E K k no).2.1).flatMap dgC))) (.row 54 33 (((rotS E K k no).2.2.1).length) (((rotS E K k no).2.2.1).flatMap shareC)) (.val (.int .i64 ((rotS E K k no).2.2.2)))) u wx ∧ Below w10.heap.size w10 wx) F40 (wantedS rfl) (run_call rfl Tryd.func20 (by kernel_rfl) rfl (mapE4 (F40.ev 44 rfl) (F40.ev 45 rfl) (F40.ev 46 rfl) (F40.ev 47 rfl))) rfl (by decide) (rrot_any E K k no v u w10 (hV.below M10.below) hE32 (hU.below M10.below) h32 hcap hLk (by omega) (by omega)) fun u8 a41 w11 hT11 F41 => ?_
      obtain ⟨⟨_, _, vz9c, _, rfl, ⟨vz9a, rfl, hz9a⟩, ⟨vz9b, rfl, hz9b⟩, hz9c, rfl⟩, hb11⟩ := hT11
      have hO16 := OwnR.ofCall M10 (show World.ownsRow w11 _ 76 33 vz9a (((rotS E K k no).1).length) (((rotS E K k no).1).flatMap epF) from hz9a)
      have hO17 := OwnR.ofCall M10 (show World.ownsRow w11 _ 23 32 vz9b (((rotS E K k no).2.1).length) (((rotS E K k no).2.1).flatMap dgC) from hz9b)
      have hO18 := OwnR.ofCall M10 (show World.ownsRow w11 _ 54 33 vz9c (((rotS E K k no).2.2.1).length) (((rotS E K k no).2.2.1).flatMap shareC) from hz9c)
      have M11 := M10.grow hb11
      have hO19 := hO13.grow hb11
      have hO20 := hO14.grow hb11
      have hO21 := hO15.grow hb11
      refine mvS F41 rfl rfl rfl rfl rfl fun a42 F42 => ?_
      refine sr (v := (.agg #[vz9a])) F42 (run_ext rfl (F42.ev 43 rfl) rfl) rfl rfl rfl fun a43 F43 => ?_
      refine sr (v := (.agg #[vz9b])) F43 (run_ext rfl (F43.ev 43 rfl) rfl) rfl rfl rfl fun a44 F44 => ?_
      refine sr (v := vz9c) F44 (run_ext rfl (F44.ev 43 rfl) rfl) rfl rfl rfl fun a45 F45 => ?_
      refine sr (v := (.int .i64 ((rotS E K k no).2.2.2))) F45 (run_ext rfl (F45.ev 43 rfl) rfl) rfl rfl rfl fun a46 F46 => ?_
      refine sqNew (cs := #[.slice none 0 0]) (t := 27) F46 M11 (wantedS rfl) (run_alloc rfl (by kernel_rfl)) rfl (by decide) fun g10 a47 w12 hgg10 hb12 F47 M12 => ?_
      have hO22 := hO19.add (S := isB 27 (#[.slice none 0 0])) hb12 hgg10
      have hO23 := hO20.add (S := isB 27 (#[.slice none 0 0])) hb12 hgg10
      have hO24 := hO21.add (S := isB 27 (#[.slice none 0 0])) hb12 hgg10
      have hO25 := hO16.add (S := isB 27 (#[.slice none 0 0])) hb12 hgg10
      have hO26 := hO17.add (S := isB 27 (#[.slice none 0 0])) hb12 hgg10
      have hO27 := hO18.add (S := isB 27 (#[.slice none 0 0])) hb12 hgg10
      refine sqNew (cs := #[.slice none 0 0]) (t := 30) F47 M12 (wantedS rfl) (run_alloc rfl (by kernel_rfl)) rfl (by decide) fun g11 a48 w13 hgg11 hb13 F48 M13 => ?_
      have hO28 := hO22.add (S := isB 30 (#[.slice none 0 0])) hb13 hgg11
      have hO29 := hO23.add (S := isB 30 (#[.slice none 0 0])) hb13 hgg11
      have hO30 := hO24.add (S := isB 30 (#[.slice none 0 0])) hb13 hgg11
      have hO31 := hO25.add (S := isB 30 (#[.slice none 0 0])) hb13 hgg11
      have hO32 := hO26.add (S := isB 30 (#[.slice none 0 0])) hb13 hgg11
      have hO33 := hO27.add (S := isB 30 (#[.slice none 0 0])) hb13 hgg11
      refine sqStoreG (i := 1) F48 M13 rfl rfl rfl (F48.ev 13 rfl) (F48.ev 49 rfl) rfl szRg rfl rfl (one_own hO31.owns) fun a49 w14 hgr14 F49 M14 => ?_
      have hO34 := hO28.upd 1 (S2 := isB 27 #[vz9a]) rfl hgr14
      have hO35 := hO29.upd 1 (S2 := isB 27 #[vz9a]) rfl hgr14
      have hO36 := hO30.upd 1 (S2 := isB 27 #[vz9a]) rfl hgr14
      have hO37 := hO31.upd 1 (S2 := isB 27 #[vz9a]) rfl hgr14
      have hO38 := hO32.upd 1 (S2 := isB 27 #[vz9a]) rfl hgr14
      have hO39 := hO33.upd 1 (S2 := isB 27 #[vz9a]) rfl hgr14
      refine sqStoreG (i := 0) F49 M14 rfl rfl rfl (F49.ev 14 rfl) (F49.ev 50 rfl) rfl szKy rfl rfl (one_own hO38.owns) fun a50 w15 hgr15 F50 M15 => ?_
      have hO40 := hO34.upd 0 (S2 := isB 30 #[vz9b]) rfl hgr15
      have hO41 := hO35.upd 0 (S2 := isB 30 #[vz9b]) rfl hgr15
      have hO42 := hO36.upd 0 (S2 := isB 30 #[vz9b]) rfl hgr15
      have hO43 := hO37.upd 0 (S2 := isB 30 #[vz9b]) rfl hgr15
      have hO44 := hO38.upd 0 (S2 := isB 30 #[vz9b]) rfl hgr15
      have hO45 := hO39.upd 0 (S2 := isB 30 #[vz9b]) rfl hgr15
      refine asS F50 rfl rfl rfl rfl rfl fun a51 F51 => ?_
      refine asS F51 rfl rfl rfl rfl rfl fun a52 F52 => ?_
      refine sn ?_
      clear F36 F37 F38 F39 F40 F41 F42 F43 F44 F45 F46 F47 F48 F49 F50 F51 M10 M11 M12 M13 M14
      refine wp_seq ?_
      obtain ⟨KL, hKL⟩ : ∃ KL, KL = [kval (.int .i64 ((rotS E K k no).2.2.2)), kval (.int .i64 ((rotS E K k no).2.2.2)), kval (.bool true), kval (.bool true), kval (.agg #[vz5a]), kval (.agg #[vz9a]), kval (.bool true), kval (.bool true), kval (.bool true), kval (.agg #[vz5b]), kval (.agg #[vz9b]), kval (.bool true), kval (.bool true), kval (.bool true), kval vz5c, kval vz9c, kval (.bool true), kval (.bool true), kval (.bool true), kval (.agg #[v]), kval (.agg #[u]), kval (.int .i64 (checkS E K)), kval (.agg #[v]), kval (.agg #[u]), kval (.int .i64 (checkS E K)), kval (.bool true), kval (.bool true), kval (.bool true)] := ⟨_, rfl⟩
      have K0 := getK hKL 0
      have K1 := getK hKL 1
      have K2 := getK hKL 2
      have K3 := getK hKL 3
      have K4 := getK hKL 4
      have K5 := getK hKL 5
      have K6 := getK hKL 6
      have K7 := getK hKL 7
      have K8 := getK hKL 8
      have K9 := getK hKL 9
      have K10 := getK hKL 10
      have K11 := getK hKL 11
      have K12 := getK hKL 12
      have K13 := getK hKL 13
      have K14 := getK hKL 14
      have K15 := getK hKL 15
      have K16 := getK hKL 16
      have K17 := getK hKL 17
      have K18 := getK hKL 18
      have K19 := getK hKL 19
      have K20 := getK hKL 20
      have K21 := getK hKL 21
      have K22 := getK hKL 22
      have K23 := getK hKL 23
      have K24 := getK hKL 24
      have K25 := getK hKL 25
      have K26 := getK hKL 26
      have K27 := getK hKL 27
      clear hKL
      refine wp_region_kd 80 (by kernel_rfl) (by kernel_rfl) (by kernel_rfl) F52.size KL ?_ ?_
      · refine ⟨?_, ?_, ?_, ?_, ?_, ?_, ?_, ?_, ?_, ?_, ?_, ?_, ?_, ?_, ?_, ?_, ?_, ?_, ?_, ?_, ?_, ?_, ?_, ?_, ?_, ?_, ?_, ?_, trivial⟩
        · exact asksY rfl fun a W hS hh hd => giv_run (run_mv rfl (eval_tmp (hh 12 _ rfl (F52.at 12 rfl)))) K0
        · exact asksY rfl fun a W hS hh hd => giv_run (run_mv rfl (eval_tmp (hh 16 _ rfl (F52.at 16 rfl)))) K1
        · exact asksY rfl fun a W hS hh hd => giv_run (run_eqi rfl (eval_tmp (hd.vl 0 53 (by kernel_rfl) K0)) (eval_tmp (hd.vl 1 54 (by kernel_rfl) K1)) (beq_self_eq_true _)) K2
        · exact asksY rfl fun a W hS hh hd => giv_run (run_mv rfl (eval_tmp (hd.vl 2 55 (by kernel_rfl) K2))) K3
        · refine asks_mk fun a W hS hh hd => ⟨wanted_of (j := 3) (s := 56) (by kernel_rfl) (hd.vl 3 56 (by kernel_rfl) K3), ?_⟩
          exact giv_run (run_ldB rfl (eval_tmp (hh 9 _ rfl (F52.at 9 rfl))) ((M15.grow hS).at 3 rfl) Tryd.underlying27 rfl szRg rfl) K4
        · refine asks_mk fun a W hS hh hd => ⟨wanted_of (j := 3) (s := 56) (by kernel_rfl) (hd.vl 3 56 (by kernel_rfl) K3), ?_⟩
          exact giv_run (run_ldB rfl (eval_tmp (hh 13 _ rfl (F52.at 13 rfl))) ((M15.grow hS).at 1 rfl) Tryd.underlying27 rfl szRg rfl) K5
        · refine asks_mk fun a W hS hh hd => ⟨wanted_of (j := 3) (s := 56) (by kernel_rfl) (hd.vl 3 56 (by kernel_rfl) K3), ?_⟩
          exact giv_call (run_call rfl Tryd.func15 (by kernel_rfl) rfl (mapE2 (eval_tmp (hd.vl 4 57 (by kernel_rfl) K4)) (eval_tmp (hd.vl 5 58 (by kernel_rfl) K5)))) (samer_any (rotS E K k no).1 vz5a vz9a W (Sl.own (hO40.grow hS)) (Sl.own (hO43.grow hS)) (rot_c32 hE32) (rot_lens h105 h1).1) K6
        · exact asksY rfl fun a W hS hh hd => giv_run (run_pick rfl (eval_tmp (hd.vl 3 56 (by kernel_rfl) K3)) (eval_tmp (hd.vl 6 59 (by kernel_rfl) K6)) rfl) K7
        · exact asksY rfl fun a W hS hh hd => giv_run (run_mv rfl (eval_tmp (hd.vl 7 60 (by kernel_rfl) K7))) K8
        · refine asks_mk fun a W hS hh hd => ⟨wanted_of (j := 8) (s := 61) (by kernel_rfl) (hd.vl 8 61 (by kernel_rfl) K8), ?_⟩
          exact giv_run (run_ldB rfl (eval_tmp (hh 10 _ rfl (F52.at 10 rfl))) ((M15.grow hS).at 2 rfl) Tryd.underlying30 rfl szKy rfl) K9
        · refine asks_mk fun a W hS hh hd => ⟨wanted_of (j := 8) (s := 61) (by kernel_rfl) (hd.vl 8 61 (by kernel_rfl) K8), ?_⟩
          exact giv_run (run_ldB rfl (eval_tmp (hh 14 _ rfl (F52.at 14 rfl))) ((M15.grow hS).at 0 rfl) Tryd.underlying30 rfl szKy rfl) K10
        · refine asks_mk fun a W hS hh hd => ⟨wanted_of (j := 8) (s := 61) (by kernel_rfl) (hd.vl 8 61 (by kernel_rfl) K8), ?_⟩
          exact giv_call (run_call rfl Tryd.func16 (by kernel_rfl) rfl (mapE2 (eval_tmp (hd.vl 9 62 (by kernel_rfl) K9)) (eval_tmp (hd.vl 10 63 (by kernel_rfl) K10)))) (samek_any (rotS E K k no).2.1 vz5b vz9b W (Sl.own (hO41.grow hS)) (Sl.own (hO44.grow hS)) (rot_k32 h32 hLk) (rot_lens h105 h1).2.1) K11
        · exact asksY rfl fun a W hS hh hd => giv_run (run_pick rfl (eval_tmp (hd.vl 8 61 (by kernel_rfl) K8)) (eval_tmp (hd.vl 11 64 (by kernel_rfl) K11)) rfl) K12
        · exact asksY rfl fun a W hS hh hd => giv_run (run_mv rfl (eval_tmp (hd.vl 12 65 (by kernel_rfl) K12))) K13
        · refine asks_mk fun a W hS hh hd => ⟨wanted_of (j := 13) (s := 66) (by kernel_rfl) (hd.vl 13 66 (by kernel_rfl) K13), ?_⟩
          exact giv_run (run_mv rfl (eval_tmp (hh 11 _ rfl (F52.at 11 rfl)))) K14
        · refine asks_mk fun a W hS hh hd => ⟨wanted_of (j := 13) (s := 66) (by kernel_rfl) (hd.vl 13 66 (by kernel_rfl) K13), ?_⟩
          exact giv_run (run_mv rfl (eval_tmp (hh 15 _ rfl (F52.at 15 rfl)))) K15
        · refine asks_mk fun a W hS hh hd => ⟨wanted_of (j := 13) (s := 66) (by kernel_rfl) (hd.vl 13 66 (by kernel_rfl) K13), ?_⟩
          exact giv_call (run_call rfl Tryd.func17 (by kernel_rfl) rfl (mapE2 (eval_tmp (hd.vl 14 67 (by kernel_rfl) K14)) (eval_tmp (hd.vl 15 68 (by kernel_rfl) K15)))) (sames_any (rotS E K k no).2.2.1 vz5c vz9c W (Sl.own (hO42.grow hS)) (Sl.own (hO45.grow hS)) (rot_lens h105 h1).2.2) K16
        · exact asksY rfl fun a W hS hh hd => giv_run (run_pick rfl (eval_tmp (hd.vl 13 66 (by kernel_rfl) K13)) (eval_tmp (hd.vl 16 69 (by kernel_rfl) K16)) rfl) K17
        · exact asksY rfl fun a W hS hh hd => giv_run (run_mv rfl (eval_tmp (hd.vl 17 70 (by kernel_rfl) K17))) K18
        · refine asks_mk fun a W hS hh hd => ⟨wanted_of (j := 18) (s := 71) (by kernel_rfl) (hd.vl 18 71 (by kernel_rfl) K18), ?_⟩
          exact giv_run (run_ldB rfl (eval_tmp (hh 4 _ rfl (F52.at 4 rfl))) ((M15.grow hS).at 6 rfl) Tryd.underlying27 rfl szRg rfl) K19
        · refine asks_mk fun a W hS hh hd => ⟨wanted_of (j := 18) (s := 71) (by kernel_rfl) (hd.vl 18 71 (by kernel_rfl) K18), ?_⟩
          exact giv_run (run_ldB rfl (eval_tmp (hh 5 _ rfl (F52.at 5 rfl))) ((M15.grow hS).at 5 rfl) Tryd.underlying30 rfl szKy rfl) K20
        · refine asks_mk fun a W hS hh hd => ⟨wanted_of (j := 18) (s := 71) (by kernel_rfl) (hd.vl 18 71 (by kernel_rfl) K18), ?_⟩
          exact giv_call (run_call rfl Tryd.func21 (by kernel_rfl) rfl (mapE2 (eval_tmp (hd.vl 19 72 (by kernel_rfl) K19)) (eval_tmp (hd.vl 20 73 (by kernel_rfl) K20)))) (kchk_any E K v u W (HG.below (M15.grow hS).below) (hV.below (M15.grow hS).below) hE32 (hU.below (M15.grow hS).below) h32 (by omega) (by omega)) K21
        · refine asks_mk fun a W hS hh hd => ⟨wanted_of (j := 18) (s := 71) (by kernel_rfl) (hd.vl 18 71 (by kernel_rfl) K18), ?_⟩
          exact giv_run (run_ldB rfl (eval_tmp (hh 4 _ rfl (F52.at 4 rfl))) ((M15.grow hS).at 6 rfl) Tryd.underlying27 rfl szRg rfl) K22
        · refine asks_mk fun a W hS hh hd => ⟨wanted_of (j := 18) (s := 71) (by kernel_rfl) (hd.vl 18 71 (by kernel_rfl) K18), ?_⟩
          exact giv_run (run_ldB rfl (eval_tmp (hh 5 _ rfl (F52.at 5 rfl))) ((M15.grow hS).at 5 rfl) Tryd.underlying30 rfl szKy rfl) K23
        · refine asks_mk fun a W hS hh hd => ⟨wanted_of (j := 18) (s := 71) (by kernel_rfl) (hd.vl 18 71 (by kernel_rfl) K18), ?_⟩
          exact giv_call (run_call rfl Tryd.func22 (by kernel_rfl) rfl (mapE2 (eval_tmp (hd.vl 22 75 (by kernel_rfl) K22)) (eval_tmp (hd.vl 23 76 (by kernel_rfl) K23)))) (rchk_any E K v u W (hV.below (M15.grow hS).below) hE32 (hU.below (M15.grow hS).below) h32 hcap (by omega) (by omega)) K24
        · refine asks_mk fun a W hS hh hd => ⟨wanted_of (j := 18) (s := 71) (by kernel_rfl) (hd.vl 18 71 (by kernel_rfl) K18), ?_⟩
          exact giv_run (run_eqi rfl (eval_tmp (hd.vl 21 74 (by kernel_rfl) K21)) (eval_tmp (hd.vl 24 77 (by kernel_rfl) K24)) (beq_self_eq_true _)) K25
        · exact asksY rfl fun a W hS hh hd => giv_run (run_pick rfl (eval_tmp (hd.vl 18 71 (by kernel_rfl) K18)) (eval_tmp (hd.vl 25 78 (by kernel_rfl) K25)) rfl) K26
        · exact asksY rfl fun a W hS hh hd => giv_run (run_as rfl (eval_tmp (hd.vl 26 79 (by kernel_rfl) K26))) K27
      · intro a53 w16 hb16 hK
        have e0 := hK.vl 0 53 (by kernel_rfl) K0
        have e1 := hK.vl 1 54 (by kernel_rfl) K1
        have e2 := hK.vl 2 55 (by kernel_rfl) K2
        have e3 := hK.vl 3 56 (by kernel_rfl) K3
        have e4 := hK.vl 4 57 (by kernel_rfl) K4
        have e5 := hK.vl 5 58 (by kernel_rfl) K5
        have e6 := hK.vl 6 59 (by kernel_rfl) K6
        have e7 := hK.vl 7 60 (by kernel_rfl) K7
        have e8 := hK.vl 8 61 (by kernel_rfl) K8
        have e9 := hK.vl 9 62 (by kernel_rfl) K9
        have e10 := hK.vl 10 63 (by kernel_rfl) K10
        have e11 := hK.vl 11 64 (by kernel_rfl) K11
        have e12 := hK.vl 12 65 (by kernel_rfl) K12
        have e13 := hK.vl 13 66 (by kernel_rfl) K13
        have e14 := hK.vl 14 67 (by kernel_rfl) K14
        have e15 := hK.vl 15 68 (by kernel_rfl) K15
        have e16 := hK.vl 16 69 (by kernel_rfl) K16
        have e17 := hK.vl 17 70 (by kernel_rfl) K17
        have e18 := hK.vl 18 71 (by kernel_rfl) K18
        have e19 := hK.vl 19 72 (by kernel_rfl) K19
        have e20 := hK.vl 20 73 (by kernel_rfl) K20
        have e21 := hK.vl 21 74 (by kernel_rfl) K21
        have e22 := hK.vl 22 75 (by kernel_rfl) K22
        have e23 := hK.vl 23 76 (by kernel_rfl) K23
        have e24 := hK.vl 24 77 (by kernel_rfl) K24
        have e25 := hK.vl 25 78 (by kernel_rfl) K25
        have e26 := hK.vl 26 79 (by kernel_rfl) K26
        have e27 := hK.vl 27 8 (by kernel_rfl) K27
        have F53 : Fr a53 80 [(0, (.agg #[v])), (1, (.agg #[u])), (2, (.agg (cells8 k))), (3, (.string ⟨no.toArray⟩)), (4, (.pointer (some ⟨g0, 0, none⟩))), (5, (.pointer (some ⟨g1, 0, none⟩))), (6, (.pointer (some ⟨g2, 0, none⟩))), (8, (.bool true)), (9, (.pointer (some ⟨g6, 0, none⟩))), (10, (.pointer (some ⟨g7, 0, none⟩))), (13, (.pointer (some ⟨g10, 0, none⟩))), (14, (.pointer (some ⟨g11, 0, none⟩))), (17, (.bool true)), (18, (.bool false)), (19, (.agg #[v])), (20, (.int .i64 0)), (21, (.bool false)), (22, (.bool false)), (23, (.pointer (some ⟨g1, 0, none⟩))), (24, u), (25, (.int .i64 (K.length : Int))), (26, (.bool false)), (27, (.bool false)), (28, (.bool false)), (29, (.string ⟨no.toArray⟩)), (30, (.int .i64 (no.length : Int))), (31, (.bool false)), (32, (.bool false)), (33, (.tuple #[(.agg #[vz5a]), (.agg #[vz5b]), vz5c, (.int .i64 ((rotS E K k no).2.2.2))])), (34, (.agg #[v])), (35, (.agg #[u])), (36, (.agg (cells8 k))), (37, (.string ⟨no.toArray⟩)), (38, (.tuple #[(.agg #[vz5a]), (.agg #[vz5b]), vz5c, (.int .i64 ((rotS E K k no).2.2.2))])), (39, (.agg #[vz5a])), (40, (.agg #[vz5b])), (41, vz5c), (42, (.int .i64 ((rotS E K k no).2.2.2))), (43, (.tuple #[(.agg #[vz9a]), (.agg #[vz9b]), vz9c, (.int .i64 ((rotS E K k no).2.2.2))])), (44, (.agg #[v])), (45, (.agg #[u])), (46, (.agg (cells8 k))), (47, (.string ⟨no.toArray⟩)), (48, (.tuple #[(.agg #[vz9a]), (.agg #[vz9b]), vz9c, (.int .i64 ((rotS E K k no).2.2.2))])), (49, (.agg #[vz9a])), (50, (.agg #[vz9b])), (51, vz9c), (52, (.int .i64 ((rotS E K k no).2.2.2)))] := (hK.fr F52 [_, _, _, _, _, _, _, _, _, _, _, _, _, _, _, _, _, _, _, _, _, _, _, _, _, _, _, _] ⟨e0, e1, e2, e3, e4, e5, e6, e7, e8, e9, e10, e11, e12, e13, e14, e15, e16, e17, e18, e19, e20, e21, e22, e23, e24, e25, e26, e27, trivial⟩).sub ⟨rfl, rfl, rfl, rfl, rfl, rfl, rfl, rfl, rfl, rfl, rfl, rfl, rfl, rfl, rfl, rfl, rfl, rfl, rfl, rfl, rfl, rfl, rfl, rfl, rfl, rfl, rfl, rfl, rfl, rfl, rfl, rfl, rfl, rfl, rfl, rfl, rfl, rfl, rfl, rfl, rfl, rfl, rfl, rfl, rfl, rfl, rfl, rfl, trivial⟩
        have M16 := M15.grow hb16
        have hO46 := hO40.grow hb16
        have hO47 := hO41.grow hb16
        have hO48 := hO42.grow hb16
        have hO49 := hO43.grow hb16
        have hO50 := hO44.grow hb16
        have hO51 := hO45.grow hb16
        clear hK K0 e0 K1 e1 K2 e2 K3 e3 K4 e4 K5 e5 K6 e6 K7 e7 K8 e8 K9 e9 K10 e10 K11 e11 K12 e12 K13 e13 K14 e14 K15 e15 K16 e16 K17 e17 K18 e18 K19 e19 K20 e20 K21 e21 K22 e22 K23 e23 K24 e24 K25 e25 K26 e26 K27 e27
        clear F52 M15
        refine nx ?_
        refine wp_ret ?_
        exact ret1 F53 rfl rfl ⟨rfl, M16.below⟩
end Go.Proofs.YtconhhhggckcbaaDoor
