/- The walks of the laws' Great and of the law KeysRotate. Printed by gen_key28.py. -/
import Derived.Test.YtconhhhggckcbaaDoorRngA
namespace Go.Proofs.YtconhhhggckcbaaDoor
open Go.RowKit

attribute [local irreducible] sealS keyedS nonceS openS
set_option maxRecDepth 100000 in
set_option maxHeartbeats 1000000 in
theorem great_any (E : List Ep) (v : Value) (w : World) (hV : Sl w v 33 E.length (E.flatMap epF)) (hE32 : ∀ e ∈ E, e.c.length = 32) : Calls Tryd.prog 18 #[.agg #[v]] w fun e w' => (∃ r : Int, e = .returned (.int .i64 r) ∧ (r = 1 ∨ (r = 0 ∧ E.length ≤ 105))) ∧ Below w.heap.size w w' := by
  by_cases h12 : 12 < E.length
  · by_cases h99 : E.length < 99
    · skip
      refine walk_enter Tryd.func18 rfl rfl rfl fun a0 F0 => ?_
      have M0 := Mem.new w
      refine wsl ?_
      refine sqNew (cs := #[v]) (t := 27) F0 M0 (wantedS rfl) (run_box rfl (F0.ev 0 rfl)) rfl (by decide) fun g0 a1 w1 hgg0 hb1 F1 M1 => ?_
      refine sr (v := (.int .i64 0)) F1 (run_as rfl rfl) rfl rfl rfl fun a2 F2 => ?_
      refine sn ?_
      clear F0 F1 M0
      refine wp_seq ?_
      refine wsl ?_
      refine sr F2 (run_fldA (m := 1) (s := 0) rfl (F2.ev 1 rfl) Tryd.underlying27 rfl rfl (by kernel_rfl) (by decide)) rfl rfl rfl fun a3 F3 => ?_
      refine sr (v := v) F3 (run_ldF rfl (F3.ev 5 rfl) (M1.at 0 rfl) rfl (by kernel_rfl)) rfl rfl rfl fun a4 F4 => ?_
      refine sr F4 (run_lenS rfl (F4.ev 6 rfl) (hV.below M1.below) rfl Tryd.underlying25) rfl rfl rfl fun a5 F5 => ?_
      refine sr (v := (.bool true)) F5 (run_gtr rfl (F5.ev 7 rfl) rfl (decide_eq_true (by omega))) rfl rfl rfl fun a6 F6 => ?_
      refine mvS F6 rfl rfl rfl rfl rfl fun a7 F7 => ?_
      refine sq (v := (.pointer (some ⟨g0, 0, none⟩))) F7 (wantedG F7 rfl rfl rfl rfl rfl) (run_fldA (m := 1) (s := 0) rfl (F7.ev 1 rfl) Tryd.underlying27 rfl rfl (by kernel_rfl) (by decide)) rfl (by decide) fun a8 F8 => ?_
      refine sq (v := v) F8 (wantedG F8 rfl rfl rfl rfl rfl) (run_ldF rfl (F8.ev 10 rfl) (M1.at 0 rfl) rfl (by kernel_rfl)) rfl (by decide) fun a9 F9 => ?_
      refine sq (v := (.int .i64 (E.length : Int))) F9 (wantedG F9 rfl rfl rfl rfl rfl) (run_lenS rfl (F9.ev 11 rfl) (hV.below M1.below) rfl Tryd.underlying25) rfl (by decide) fun a10 F10 => ?_
      refine sq (v := (.bool true)) F10 (wantedG F10 rfl rfl rfl rfl rfl) (run_lss rfl (F10.ev 12 rfl) rfl (decide_eq_true (by omega))) rfl (by decide) fun a11 F11 => ?_
      refine sr (v := (.bool true)) F11 (run_pick rfl (F11.ev 9 rfl) (F11.ev 13 rfl) rfl) rfl rfl rfl fun a12 F12 => ?_
      refine mvS F12 rfl rfl rfl rfl rfl fun a13 F13 => ?_
      refine sqSkip F13 (unwantedG F13 rfl rfl rfl rfl rfl) rfl (by decide) fun a14 F14 => ?_
      refine sqSkip F14 (unwantedG F14 rfl rfl rfl rfl rfl) rfl (by decide) fun a15 F15 => ?_
      refine sqSkip F15 (unwantedG F15 rfl rfl rfl rfl rfl) rfl (by decide) fun a16 F16 => ?_
      refine sqSkip F16 (unwantedG F16 rfl rfl rfl rfl rfl) rfl (by decide) fun a17 F17 => ?_
      refine sr (v := (.bool true)) F17 (run_pick rfl (F17.ev 15 rfl) rfl (F17.ev 19 rfl)) rfl rfl rfl fun a18 F18 => ?_
      refine sn ?_
      clear F2 F3 F4 F5 F6 F7 F8 F9 F10 F11 F12 F13 F14 F15 F16 F17
      refine wp_cond_true (F18.ev 20 rfl) ?_
      refine wsl ?_
      refine sr (v := (.int .i64 1)) F18 (run_as rfl rfl) rfl rfl rfl fun a19 F19 => ?_
      refine sn ?_
      clear F18
      refine wp_ret ?_
      refine nxRet ?_
      exact ret1 F19 rfl rfl ⟨⟨1, rfl, .inl rfl⟩, M1.below⟩
    by_cases h105 : 105 < E.length
    · skip
      refine walk_enter Tryd.func18 rfl rfl rfl fun a0 F0 => ?_
      have M0 := Mem.new w
      refine wsl ?_
      refine sqNew (cs := #[v]) (t := 27) F0 M0 (wantedS rfl) (run_box rfl (F0.ev 0 rfl)) rfl (by decide) fun g0 a1 w1 hgg0 hb1 F1 M1 => ?_
      refine sr (v := (.int .i64 0)) F1 (run_as rfl rfl) rfl rfl rfl fun a2 F2 => ?_
      refine sn ?_
      clear F0 F1 M0
      refine wp_seq ?_
      refine wsl ?_
      refine sr F2 (run_fldA (m := 1) (s := 0) rfl (F2.ev 1 rfl) Tryd.underlying27 rfl rfl (by kernel_rfl) (by decide)) rfl rfl rfl fun a3 F3 => ?_
      refine sr (v := v) F3 (run_ldF rfl (F3.ev 5 rfl) (M1.at 0 rfl) rfl (by kernel_rfl)) rfl rfl rfl fun a4 F4 => ?_
      refine sr F4 (run_lenS rfl (F4.ev 6 rfl) (hV.below M1.below) rfl Tryd.underlying25) rfl rfl rfl fun a5 F5 => ?_
      refine sr (v := (.bool true)) F5 (run_gtr rfl (F5.ev 7 rfl) rfl (decide_eq_true (by omega))) rfl rfl rfl fun a6 F6 => ?_
      refine mvS F6 rfl rfl rfl rfl rfl fun a7 F7 => ?_
      refine sq (v := (.pointer (some ⟨g0, 0, none⟩))) F7 (wantedG F7 rfl rfl rfl rfl rfl) (run_fldA (m := 1) (s := 0) rfl (F7.ev 1 rfl) Tryd.underlying27 rfl rfl (by kernel_rfl) (by decide)) rfl (by decide) fun a8 F8 => ?_
      refine sq (v := v) F8 (wantedG F8 rfl rfl rfl rfl rfl) (run_ldF rfl (F8.ev 10 rfl) (M1.at 0 rfl) rfl (by kernel_rfl)) rfl (by decide) fun a9 F9 => ?_
      refine sq (v := (.int .i64 (E.length : Int))) F9 (wantedG F9 rfl rfl rfl rfl rfl) (run_lenS rfl (F9.ev 11 rfl) (hV.below M1.below) rfl Tryd.underlying25) rfl (by decide) fun a10 F10 => ?_
      refine sq (v := (.bool false)) F10 (wantedG F10 rfl rfl rfl rfl rfl) (run_lss rfl (F10.ev 12 rfl) rfl (decide_eq_false (by omega))) rfl (by decide) fun a11 F11 => ?_
      refine sr (v := (.bool false)) F11 (run_pick rfl (F11.ev 9 rfl) (F11.ev 13 rfl) rfl) rfl rfl rfl fun a12 F12 => ?_
      refine mvS F12 rfl rfl rfl rfl rfl fun a13 F13 => ?_
      refine sq (v := (.pointer (some ⟨g0, 0, none⟩))) F13 (wantedG F13 rfl rfl rfl rfl rfl) (run_fldA (m := 1) (s := 0) rfl (F13.ev 1 rfl) Tryd.underlying27 rfl rfl (by kernel_rfl) (by decide)) rfl (by decide) fun a14 F14 => ?_
      refine sq (v := v) F14 (wantedG F14 rfl rfl rfl rfl rfl) (run_ldF rfl (F14.ev 16 rfl) (M1.at 0 rfl) rfl (by kernel_rfl)) rfl (by decide) fun a15 F15 => ?_
      refine sq (v := (.int .i64 (E.length : Int))) F15 (wantedG F15 rfl rfl rfl rfl rfl) (run_lenS rfl (F15.ev 17 rfl) (hV.below M1.below) rfl Tryd.underlying25) rfl (by decide) fun a16 F16 => ?_
      refine sq (v := (.bool true)) F16 (wantedG F16 rfl rfl rfl rfl rfl) (run_gtr rfl (F16.ev 18 rfl) rfl (decide_eq_true (by omega))) rfl (by decide) fun a17 F17 => ?_
      refine sr (v := (.bool true)) F17 (run_pick rfl (F17.ev 15 rfl) rfl (F17.ev 19 rfl)) rfl rfl rfl fun a18 F18 => ?_
      refine sn ?_
      clear F2 F3 F4 F5 F6 F7 F8 F9 F10 F11 F12 F13 F14 F15 F16 F17
      refine wp_cond_true (F18.ev 20 rfl) ?_
      refine wsl ?_
      refine sr (v := (.int .i64 1)) F18 (run_as rfl rfl) rfl rfl rfl fun a19 F19 => ?_
      refine sn ?_
      clear F18
      refine wp_ret ?_
      refine nxRet ?_
      exact ret1 F19 rfl rfl ⟨⟨1, rfl, .inl rfl⟩, M1.below⟩
    · skip
      refine walk_enter Tryd.func18 rfl rfl rfl fun a0 F0 => ?_
      have M0 := Mem.new w
      refine wsl ?_
      refine sqNew (cs := #[v]) (t := 27) F0 M0 (wantedS rfl) (run_box rfl (F0.ev 0 rfl)) rfl (by decide) fun g0 a1 w1 hgg0 hb1 F1 M1 => ?_
      refine sr (v := (.int .i64 0)) F1 (run_as rfl rfl) rfl rfl rfl fun a2 F2 => ?_
      refine sn ?_
      clear F0 F1 M0
      refine wp_seq ?_
      refine wsl ?_
      refine sr F2 (run_fldA (m := 1) (s := 0) rfl (F2.ev 1 rfl) Tryd.underlying27 rfl rfl (by kernel_rfl) (by decide)) rfl rfl rfl fun a3 F3 => ?_
      refine sr (v := v) F3 (run_ldF rfl (F3.ev 5 rfl) (M1.at 0 rfl) rfl (by kernel_rfl)) rfl rfl rfl fun a4 F4 => ?_
      refine sr F4 (run_lenS rfl (F4.ev 6 rfl) (hV.below M1.below) rfl Tryd.underlying25) rfl rfl rfl fun a5 F5 => ?_
      refine sr (v := (.bool true)) F5 (run_gtr rfl (F5.ev 7 rfl) rfl (decide_eq_true (by omega))) rfl rfl rfl fun a6 F6 => ?_
      refine mvS F6 rfl rfl rfl rfl rfl fun a7 F7 => ?_
      refine sq (v := (.pointer (some ⟨g0, 0, none⟩))) F7 (wantedG F7 rfl rfl rfl rfl rfl) (run_fldA (m := 1) (s := 0) rfl (F7.ev 1 rfl) Tryd.underlying27 rfl rfl (by kernel_rfl) (by decide)) rfl (by decide) fun a8 F8 => ?_
      refine sq (v := v) F8 (wantedG F8 rfl rfl rfl rfl rfl) (run_ldF rfl (F8.ev 10 rfl) (M1.at 0 rfl) rfl (by kernel_rfl)) rfl (by decide) fun a9 F9 => ?_
      refine sq (v := (.int .i64 (E.length : Int))) F9 (wantedG F9 rfl rfl rfl rfl rfl) (run_lenS rfl (F9.ev 11 rfl) (hV.below M1.below) rfl Tryd.underlying25) rfl (by decide) fun a10 F10 => ?_
      refine sq (v := (.bool false)) F10 (wantedG F10 rfl rfl rfl rfl rfl) (run_lss rfl (F10.ev 12 rfl) rfl (decide_eq_false (by omega))) rfl (by decide) fun a11 F11 => ?_
      refine sr (v := (.bool false)) F11 (run_pick rfl (F11.ev 9 rfl) (F11.ev 13 rfl) rfl) rfl rfl rfl fun a12 F12 => ?_
      refine mvS F12 rfl rfl rfl rfl rfl fun a13 F13 => ?_
      refine sq (v := (.pointer (some ⟨g0, 0, none⟩))) F13 (wantedG F13 rfl rfl rfl rfl rfl) (run_fldA (m := 1) (s := 0) rfl (F13.ev 1 rfl) Tryd.underlying27 rfl rfl (by kernel_rfl) (by decide)) rfl (by decide) fun a14 F14 => ?_
      refine sq (v := v) F14 (wantedG F14 rfl rfl rfl rfl rfl) (run_ldF rfl (F14.ev 16 rfl) (M1.at 0 rfl) rfl (by kernel_rfl)) rfl (by decide) fun a15 F15 => ?_
      refine sq (v := (.int .i64 (E.length : Int))) F15 (wantedG F15 rfl rfl rfl rfl rfl) (run_lenS rfl (F15.ev 17 rfl) (hV.below M1.below) rfl Tryd.underlying25) rfl (by decide) fun a16 F16 => ?_
      refine sq (v := (.bool false)) F16 (wantedG F16 rfl rfl rfl rfl rfl) (run_gtr rfl (F16.ev 18 rfl) rfl (decide_eq_false (by omega))) rfl (by decide) fun a17 F17 => ?_
      refine sr (v := (.bool false)) F17 (run_pick rfl (F17.ev 15 rfl) rfl (F17.ev 19 rfl)) rfl rfl rfl fun a18 F18 => ?_
      refine sn ?_
      clear F2 F3 F4 F5 F6 F7 F8 F9 F10 F11 F12 F13 F14 F15 F16 F17
      refine cfs (F18.ev 20 rfl) ?_
      refine wsl ?_
      refine sr (v := (.int .i64 0)) F18 (run_as rfl rfl) rfl rfl rfl fun a19 F19 => ?_
      refine sn ?_
      clear F18
      refine wp_seq ?_
      refine wsl ?_
      refine sr (v := (.int .i64 0)) F19 (run_as rfl rfl) rfl rfl rfl fun a20 F20 => ?_
      refine sn ?_
      clear F19
      refine wp_block ?_
      refine wkLoop (fun m a0 w2 => ∃ i s : Nat, i ≤ E.length ∧ m = E.length - i ∧ s ≤ 5000 * i ∧ Fr a0 40 [(1, .pointer (some ⟨g0, 0, none⟩)), (3, .int .i64 (s : Int)), (4, .int .i64 (i : Int))] ∧ Mem w [(g0, isB 27 #[v])] w2) E.length ⟨0, 0, Nat.zero_le _, rfl, Nat.zero_le _, F20.sub ⟨rfl, rfl, rfl, trivial⟩, M1⟩ ?_
      rintro m a0 w1 ⟨i, s, hi, rfl, hs5, F0, M0⟩
      by_cases h1 : i < E.length
      · obtain ⟨e, he⟩ : ∃ e, E[i]? = some e := ⟨E[i], List.getElem?_eq_getElem h1⟩
        have hLe := hE32 e (List.mem_of_getElem? he)
        obtain ⟨mn, hmn, hmn5⟩ : ∃ mn, min e.wr.length 5000 = mn ∧ mn ≤ 5000 := ⟨_, rfl, Nat.min_le_right _ _⟩
        refine wp_seq ?_
        refine wsl ?_
        refine mvS F0 rfl rfl rfl rfl rfl fun a1 F1 => ?_
        refine sr F1 (run_fldA (m := 1) (s := 0) rfl (F1.ev 1 rfl) Tryd.underlying27 rfl rfl (by kernel_rfl) (by decide)) rfl rfl rfl fun a2 F2 => ?_
        refine sr (v := v) F2 (run_ldF rfl (F2.ev 22 rfl) (M0.at 0 rfl) rfl (by kernel_rfl)) rfl rfl rfl fun a3 F3 => ?_
        refine sr F3 (run_lenS rfl (F3.ev 23 rfl) (hV.below M0.below) rfl Tryd.underlying25) rfl rfl rfl fun a4 F4 => ?_
        refine sr (v := (.bool true)) F4 (run_lss rfl (F4.ev 21 rfl) (F4.ev 24 rfl) (decide_eq_true (by omega))) rfl rfl rfl fun a5 F5 => ?_
        refine sn ?_
        clear F0 F1 F2 F3 F4
        refine cts (F5.ev 25 rfl) ?_
        refine wp_seq ?_
        refine wp_block ?_
        refine wp_region_lit ?_
        refine mvS F5 rfl rfl rfl rfl rfl fun a6 F6 => ?_
        refine sr F6 (run_fldA (m := 1) (s := 0) rfl (F6.ev 1 rfl) Tryd.underlying27 rfl rfl (by kernel_rfl) (by decide)) rfl rfl rfl fun a7 F7 => ?_
        refine sr (v := v) F7 (run_ldF rfl (F7.ev 29 rfl) (M0.at 0 rfl) rfl (by kernel_rfl)) rfl rfl rfl fun a8 F8 => ?_
        refine mvS F8 rfl rfl rfl rfl rfl fun a9 F9 => ?_
        refine sr (v := (slPtr v (i * 33))) F9 (run_atP (i := i) rfl (F9.ev 30 rfl) (F9.ev 31 rfl) rfl (hV.below M0.below) (by omega) elEp.un (by kernel_rfl)) rfl rfl rfl fun a10 F10 => ?_
        refine sr (v := (slPtr v (i * 33 + 32))) F10 (run_fldP (m2 := 1) (s := 32) rfl (F10.ev 32 rfl) (hV.below M0.below) (by omega) Tryd.underlying76 rfl rfl (by kernel_rfl) (by decide)) rfl rfl rfl fun a11 F11 => ?_
        refine sr (v := (.string ⟨e.wr.toArray⟩)) F11 (run_ldP rfl (F11.ev 33 rfl) (hV.below M0.below) (flat_at epF_len he 32 rfl) (by kernel_rfl)) rfl rfl rfl fun a12 F12 => ?_
        refine sr F12 (run_len rfl (F12.ev 34 rfl) rfl Tryd.underlying9) rfl rfl rfl fun a13 F13 => ?_
        refine sr (v := (.int .i64 (mn : Int))) F13 (run_min2 (r := (mn : Int)) rfl (F13.ev 35 rfl) rfl (by rw [← hmn]; omega)) rfl rfl rfl fun a14 F14 => ?_
        refine sr F14 (run_add (r := ((s + mn : Nat) : Int)) rfl (F14.ev 28 rfl) (F14.ev 36 rfl) (by rw [IntKind.wrap_i64]; omega)) rfl rfl rfl fun a15 F15 => ?_
        refine asS F15 rfl rfl rfl rfl rfl fun a16 F16 => ?_
        refine sqEnd ?_
        clear F5 F6 F7 F8 F9 F10 F11 F12 F13 F14 F15
        refine bkEnd ?_
        refine nx ?_
        refine wp_region_lit ?_
        refine mvS F16 rfl rfl rfl rfl rfl fun a17 F17 => ?_
        refine sr F17 (run_add (r := ((i + 1 : Nat) : Int)) rfl (F17.ev 26 rfl) rfl (by rw [IntKind.wrap_i64]; omega)) rfl rfl rfl fun a18 F18 => ?_
        refine asS F18 rfl rfl rfl rfl rfl fun a19 F19 => ?_
        refine sn ?_
        clear F16 F17 F18
        exact ⟨_, by omega, i + 1, s + mn, by omega, rfl, by omega, F19.sub ⟨rfl, rfl, rfl, trivial⟩, M0⟩
      · by_cases h10 : 10000 < s
        · skip
          refine wp_seq ?_
          refine wsl ?_
          refine mvS F0 rfl rfl rfl rfl rfl fun a1 F1 => ?_
          refine sr F1 (run_fldA (m := 1) (s := 0) rfl (F1.ev 1 rfl) Tryd.underlying27 rfl rfl (by kernel_rfl) (by decide)) rfl rfl rfl fun a2 F2 => ?_
          refine sr (v := v) F2 (run_ldF rfl (F2.ev 22 rfl) (M0.at 0 rfl) rfl (by kernel_rfl)) rfl rfl rfl fun a3 F3 => ?_
          refine sr F3 (run_lenS rfl (F3.ev 23 rfl) (hV.below M0.below) rfl Tryd.underlying25) rfl rfl rfl fun a4 F4 => ?_
          refine sr (v := (.bool false)) F4 (run_lss rfl (F4.ev 21 rfl) (F4.ev 24 rfl) (decide_eq_false (by omega))) rfl rfl rfl fun a5 F5 => ?_
          refine sn ?_
          clear F0 F1 F2 F3 F4
          refine wp_cond_false (F5.ev 25 rfl) ?_
          refine wp_exit ?_
          refine nxExit ?_
          refine nxExit ?_
          refine bkHere ?_
          refine nx ?_
          refine wp_seq ?_
          refine wsl ?_
          refine mvS F5 rfl rfl rfl rfl rfl fun a6 F6 => ?_
          refine sr (v := (.bool true)) F6 (run_gtr rfl (F6.ev 38 rfl) rfl (decide_eq_true (by omega))) rfl rfl rfl fun a7 F7 => ?_
          refine sn ?_
          clear F5 F6
          refine wp_cond_true (F7.ev 39 rfl) ?_
          refine wsl ?_
          refine sr (v := (.int .i64 1)) F7 (run_as rfl rfl) rfl rfl rfl fun a8 F8 => ?_
          refine sn ?_
          clear F7
          refine wp_ret ?_
          refine nxRet ?_
          exact ret1 F8 rfl rfl ⟨⟨1, rfl, .inl rfl⟩, M0.below⟩
        · skip
          refine wp_seq ?_
          refine wsl ?_
          refine mvS F0 rfl rfl rfl rfl rfl fun a1 F1 => ?_
          refine sr F1 (run_fldA (m := 1) (s := 0) rfl (F1.ev 1 rfl) Tryd.underlying27 rfl rfl (by kernel_rfl) (by decide)) rfl rfl rfl fun a2 F2 => ?_
          refine sr (v := v) F2 (run_ldF rfl (F2.ev 22 rfl) (M0.at 0 rfl) rfl (by kernel_rfl)) rfl rfl rfl fun a3 F3 => ?_
          refine sr F3 (run_lenS rfl (F3.ev 23 rfl) (hV.below M0.below) rfl Tryd.underlying25) rfl rfl rfl fun a4 F4 => ?_
          refine sr (v := (.bool false)) F4 (run_lss rfl (F4.ev 21 rfl) (F4.ev 24 rfl) (decide_eq_false (by omega))) rfl rfl rfl fun a5 F5 => ?_
          refine sn ?_
          clear F0 F1 F2 F3 F4
          refine wp_cond_false (F5.ev 25 rfl) ?_
          refine wp_exit ?_
          refine nxExit ?_
          refine nxExit ?_
          refine bkHere ?_
          refine nx ?_
          refine wp_seq ?_
          refine wsl ?_
          refine mvS F5 rfl rfl rfl rfl rfl fun a6 F6 => ?_
          refine sr (v := (.bool false)) F6 (run_gtr rfl (F6.ev 38 rfl) rfl (decide_eq_false (by omega))) rfl rfl rfl fun a7 F7 => ?_
          refine sn ?_
          clear F5 F6
          refine cfs (F7.ev 39 rfl) ?_
          refine wsl ?_
          refine sr (v := (.int .i64 0)) F7 (run_as rfl rfl) rfl rfl rfl fun a8 F8 => ?_
          refine sn ?_
          clear F7
          refine wp_ret ?_
          exact ret1 F8 rfl rfl ⟨⟨0, rfl, .inr ⟨rfl, by omega⟩⟩, M0.below⟩
  · skip
    refine walk_enter Tryd.func18 rfl rfl rfl fun a0 F0 => ?_
    have M0 := Mem.new w
    refine wsl ?_
    refine sqNew (cs := #[v]) (t := 27) F0 M0 (wantedS rfl) (run_box rfl (F0.ev 0 rfl)) rfl (by decide) fun g0 a1 w1 hgg0 hb1 F1 M1 => ?_
    refine sr (v := (.int .i64 0)) F1 (run_as rfl rfl) rfl rfl rfl fun a2 F2 => ?_
    refine sn ?_
    clear F0 F1 M0
    refine wp_seq ?_
    refine wsl ?_
    refine sr F2 (run_fldA (m := 1) (s := 0) rfl (F2.ev 1 rfl) Tryd.underlying27 rfl rfl (by kernel_rfl) (by decide)) rfl rfl rfl fun a3 F3 => ?_
    refine sr (v := v) F3 (run_ldF rfl (F3.ev 5 rfl) (M1.at 0 rfl) rfl (by kernel_rfl)) rfl rfl rfl fun a4 F4 => ?_
    refine sr F4 (run_lenS rfl (F4.ev 6 rfl) (hV.below M1.below) rfl Tryd.underlying25) rfl rfl rfl fun a5 F5 => ?_
    refine sr (v := (.bool false)) F5 (run_gtr rfl (F5.ev 7 rfl) rfl (decide_eq_false (by omega))) rfl rfl rfl fun a6 F6 => ?_
    refine mvS F6 rfl rfl rfl rfl rfl fun a7 F7 => ?_
    refine sqSkip F7 (unwantedG F7 rfl rfl rfl rfl rfl) rfl (by decide) fun a8 F8 => ?_
    refine sqSkip F8 (unwantedG F8 rfl rfl rfl rfl rfl) rfl (by decide) fun a9 F9 => ?_
    refine sqSkip F9 (unwantedG F9 rfl rfl rfl rfl rfl) rfl (by decide) fun a10 F10 => ?_
    refine sqSkip F10 (unwantedG F10 rfl rfl rfl rfl rfl) rfl (by decide) fun a11 F11 => ?_
    refine sr (v := (.bool false)) F11 (run_pick rfl (F11.ev 9 rfl) (F11.ev 13 rfl) rfl) rfl rfl rfl fun a12 F12 => ?_
    refine mvS F12 rfl rfl rfl rfl rfl fun a13 F13 => ?_
    refine sq (v := (.pointer (some ⟨g0, 0, none⟩))) F13 (wantedG F13 rfl rfl rfl rfl rfl) (run_fldA (m := 1) (s := 0) rfl (F13.ev 1 rfl) Tryd.underlying27 rfl rfl (by kernel_rfl) (by decide)) rfl (by decide) fun a14 F14 => ?_
    refine sq (v := v) F14 (wantedG F14 rfl rfl rfl rfl rfl) (run_ldF rfl (F14.ev 16 rfl) (M1.at 0 rfl) rfl (by kernel_rfl)) rfl (by decide) fun a15 F15 => ?_
    refine sq (v := (.int .i64 (E.length : Int))) F15 (wantedG F15 rfl rfl rfl rfl rfl) (run_lenS rfl (F15.ev 17 rfl) (hV.below M1.below) rfl Tryd.underlying25) rfl (by decide) fun a16 F16 => ?_
    refine sq (v := (.bool false)) F16 (wantedG F16 rfl rfl rfl rfl rfl) (run_gtr rfl (F16.ev 18 rfl) rfl (decide_eq_false (by omega))) rfl (by decide) fun a17 F17 => ?_
    refine sr (v := (.bool false)) F17 (run_pick rfl (F17.ev 15 rfl) rfl (F17.ev 19 rfl)) rfl rfl rfl fun a18 F18 => ?_
    refine sn ?_
    clear F2 F3 F4 F5 F6 F7 F8 F9 F10 F11 F12 F13 F14 F15 F16 F17
    refine cfs (F18.ev 20 rfl) ?_
    refine wsl ?_
    refine sr (v := (.int .i64 0)) F18 (run_as rfl rfl) rfl rfl rfl fun a19 F19 => ?_
    refine sn ?_
    clear F18
    refine wp_seq ?_
    refine wsl ?_
    refine sr (v := (.int .i64 0)) F19 (run_as rfl rfl) rfl rfl rfl fun a20 F20 => ?_
    refine sn ?_
    clear F19
    refine wp_block ?_
    refine wkLoop (fun m a0 w2 => ∃ i s : Nat, i ≤ E.length ∧ m = E.length - i ∧ s ≤ 5000 * i ∧ Fr a0 40 [(1, .pointer (some ⟨g0, 0, none⟩)), (3, .int .i64 (s : Int)), (4, .int .i64 (i : Int))] ∧ Mem w [(g0, isB 27 #[v])] w2) E.length ⟨0, 0, Nat.zero_le _, rfl, Nat.zero_le _, F20.sub ⟨rfl, rfl, rfl, trivial⟩, M1⟩ ?_
    rintro m a0 w1 ⟨i, s, hi, rfl, hs5, F0, M0⟩
    by_cases h1 : i < E.length
    · obtain ⟨e, he⟩ : ∃ e, E[i]? = some e := ⟨E[i], List.getElem?_eq_getElem h1⟩
      have hLe := hE32 e (List.mem_of_getElem? he)
      obtain ⟨mn, hmn, hmn5⟩ : ∃ mn, min e.wr.length 5000 = mn ∧ mn ≤ 5000 := ⟨_, rfl, Nat.min_le_right _ _⟩
      refine wp_seq ?_
      refine wsl ?_
      refine mvS F0 rfl rfl rfl rfl rfl fun a1 F1 => ?_
      refine sr F1 (run_fldA (m := 1) (s := 0) rfl (F1.ev 1 rfl) Tryd.underlying27 rfl rfl (by kernel_rfl) (by decide)) rfl rfl rfl fun a2 F2 => ?_
      refine sr (v := v) F2 (run_ldF rfl (F2.ev 22 rfl) (M0.at 0 rfl) rfl (by kernel_rfl)) rfl rfl rfl fun a3 F3 => ?_
      refine sr F3 (run_lenS rfl (F3.ev 23 rfl) (hV.below M0.below) rfl Tryd.underlying25) rfl rfl rfl fun a4 F4 => ?_
      refine sr (v := (.bool true)) F4 (run_lss rfl (F4.ev 21 rfl) (F4.ev 24 rfl) (decide_eq_true (by omega))) rfl rfl rfl fun a5 F5 => ?_
      refine sn ?_
      clear F0 F1 F2 F3 F4
      refine cts (F5.ev 25 rfl) ?_
      refine wp_seq ?_
      refine wp_block ?_
      refine wp_region_lit ?_
      refine mvS F5 rfl rfl rfl rfl rfl fun a6 F6 => ?_
      refine sr F6 (run_fldA (m := 1) (s := 0) rfl (F6.ev 1 rfl) Tryd.underlying27 rfl rfl (by kernel_rfl) (by decide)) rfl rfl rfl fun a7 F7 => ?_
      refine sr (v := v) F7 (run_ldF rfl (F7.ev 29 rfl) (M0.at 0 rfl) rfl (by kernel_rfl)) rfl rfl rfl fun a8 F8 => ?_
      refine mvS F8 rfl rfl rfl rfl rfl fun a9 F9 => ?_
      refine sr (v := (slPtr v (i * 33))) F9 (run_atP (i := i) rfl (F9.ev 30 rfl) (F9.ev 31 rfl) rfl (hV.below M0.below) (by omega) elEp.un (by kernel_rfl)) rfl rfl rfl fun a10 F10 => ?_
      refine sr (v := (slPtr v (i * 33 + 32))) F10 (run_fldP (m2 := 1) (s := 32) rfl (F10.ev 32 rfl) (hV.below M0.below) (by omega) Tryd.underlying76 rfl rfl (by kernel_rfl) (by decide)) rfl rfl rfl fun a11 F11 => ?_
      refine sr (v := (.string ⟨e.wr.toArray⟩)) F11 (run_ldP rfl (F11.ev 33 rfl) (hV.below M0.below) (flat_at epF_len he 32 rfl) (by kernel_rfl)) rfl rfl rfl fun a12 F12 => ?_
      refine sr F12 (run_len rfl (F12.ev 34 rfl) rfl Tryd.underlying9) rfl rfl rfl fun a13 F13 => ?_
      refine sr (v := (.int .i64 (mn : Int))) F13 (run_min2 (r := (mn : Int)) rfl (F13.ev 35 rfl) rfl (by rw [← hmn]; omega)) rfl rfl rfl fun a14 F14 => ?_
      refine sr F14 (run_add (r := ((s + mn : Nat) : Int)) rfl (F14.ev 28 rfl) (F14.ev 36 rfl) (by rw [IntKind.wrap_i64]; omega)) rfl rfl rfl fun a15 F15 => ?_
      refine asS F15 rfl rfl rfl rfl rfl fun a16 F16 => ?_
      refine sqEnd ?_
      clear F5 F6 F7 F8 F9 F10 F11 F12 F13 F14 F15
      refine bkEnd ?_
      refine nx ?_
      refine wp_region_lit ?_
      refine mvS F16 rfl rfl rfl rfl rfl fun a17 F17 => ?_
      refine sr F17 (run_add (r := ((i + 1 : Nat) : Int)) rfl (F17.ev 26 rfl) rfl (by rw [IntKind.wrap_i64]; omega)) rfl rfl rfl fun a18 F18 => ?_
      refine asS F18 rfl rfl rfl rfl rfl fun a19 F19 => ?_
      refine sn ?_
      clear F16 F17 F18
      exact ⟨_, by omega, i + 1, s + mn, by omega, rfl, by omega, F19.sub ⟨rfl, rfl, rfl, trivial⟩, M0⟩
    · by_cases h10 : 10000 < s
      · skip
        refine wp_seq ?_
        refine wsl ?_
        refine mvS F0 rfl rfl rfl rfl rfl fun a1 F1 => ?_
        refine sr F1 (run_fldA (m := 1) (s := 0) rfl (F1.ev 1 rfl) Tryd.underlying27 rfl rfl (by kernel_rfl) (by decide)) rfl rfl rfl fun a2 F2 => ?_
        refine sr (v := v) F2 (run_ldF rfl (F2.ev 22 rfl) (M0.at 0 rfl) rfl (by kernel_rfl)) rfl rfl rfl fun a3 F3 => ?_
        refine sr F3 (run_lenS rfl (F3.ev 23 rfl) (hV.below M0.below) rfl Tryd.underlying25) rfl rfl rfl fun a4 F4 => ?_
        refine sr (v := (.bool false)) F4 (run_lss rfl (F4.ev 21 rfl) (F4.ev 24 rfl) (decide_eq_false (by omega))) rfl rfl rfl fun a5 F5 => ?_
        refine sn ?_
        clear F0 F1 F2 F3 F4
        refine wp_cond_false (F5.ev 25 rfl) ?_
        refine wp_exit ?_
        refine nxExit ?_
        refine nxExit ?_
        refine bkHere ?_
        refine nx ?_
        refine wp_seq ?_
        refine wsl ?_
        refine mvS F5 rfl rfl rfl rfl rfl fun a6 F6 => ?_
        refine sr (v := (.bool true)) F6 (run_gtr rfl (F6.ev 38 rfl) rfl (decide_eq_true (by omega))) rfl rfl rfl fun a7 F7 => ?_
        refine sn ?_
        clear F5 F6
        refine wp_cond_true (F7.ev 39 rfl) ?_
        refine wsl ?_
        refine sr (v := (.int .i64 1)) F7 (run_as rfl rfl) rfl rfl rfl fun a8 F8 => ?_
        refine sn ?_
        clear F7
        refine wp_ret ?_
        refine nxRet ?_
        exact ret1 F8 rfl rfl ⟨⟨1, rfl, .inl rfl⟩, M0.below⟩
      · skip
        refine wp_seq ?_
        refine wsl ?_
        refine mvS F0 rfl rfl rfl rfl rfl fun a1 F1 => ?_
        refine sr F1 (run_fldA (m := 1) (s := 0) rfl (F1.ev 1 rfl) Tryd.underlying27 rfl rfl (by kernel_rfl) (by decide)) rfl rfl rfl fun a2 F2 => ?_
        refine sr (v := v) F2 (run_ldF rfl (F2.ev 22 rfl) (M0.at 0 rfl) rfl (by kernel_rfl)) rfl rfl rfl fun a3 F3 => ?_
        refine sr F3 (run_lenS rfl (F3.ev 23 rfl) (hV.below M0.below) rfl Tryd.underlying25) rfl rfl rfl fun a4 F4 => ?_
        refine sr (v := (.bool false)) F4 (run_lss rfl (F4.ev 21 rfl) (F4.ev 24 rfl) (decide_eq_false (by omega))) rfl rfl rfl fun a5 F5 => ?_
        refine sn ?_
        clear F0 F1 F2 F3 F4
        refine wp_cond_false (F5.ev 25 rfl) ?_
        refine wp_exit ?_
        refine nxExit ?_
        refine nxExit ?_
        refine bkHere ?_
        refine nx ?_
        refine wp_seq ?_
        refine wsl ?_
        refine mvS F5 rfl rfl rfl rfl rfl fun a6 F6 => ?_
        refine sr (v := (.bool false)) F6 (run_gtr rfl (F6.ev 38 rfl) rfl (decide_eq_false (by omega))) rfl rfl rfl fun a7 F7 => ?_
        refine sn ?_
        clear F5 F6
        refine cfs (F7.ev 39 rfl) ?_
        refine wsl ?_
        refine sr (v := (.int .i64 0)) F7 (run_as rfl rfl) rfl rfl rfl fun a8 F8 => ?_
        refine sn ?_
        clear F7
        refine wp_ret ?_
        exact ret1 F8 rfl rfl ⟨⟨0, rfl, .inr ⟨rfl, by omega⟩⟩, M0.below⟩
attribute [local irreducible] rotS checkS
end Go.Proofs.YtconhhhggckcbaaDoor
