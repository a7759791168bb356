/- The law ChunkEpochs. Printed by gen_chk10.py. -/
import Derived.Test.YtdjjiblijbjobaaDoorChk0
import Derived.Test.YtdjjiblijbjobaaDoorChk2
import Derived.Test.YtdjjiblijbjobaaDoorChain
import Derived.Test.YtdjjiblijbjobaaDoorEpoP
namespace Go.Proofs.YtdjjiblijbjobaaDoor
open Go.RowKit

set_option maxRecDepth 100000 in
set_option maxHeartbeats 1000000 in
theorem lawEpochs39_any (K : List (List UInt8)) (v : Value) (M : List (List UInt8)) (u : Value) (d : List UInt8) (w : World) (HG : Glob w) (hV : Sl w v 32 K.length (K.flatMap dgC)) (h32 : ∀ k ∈ K, k.length = 32) (hU : Sl w u 32 M.length (M.flatMap dgC)) (M32 : ∀ k ∈ M, k.length = 32) (_hd : d.length ≤ maxLen) : Calls Tryd.prog 8 #[.agg #[v], .agg #[u], .string ⟨d.toArray⟩] w fun e w' => e = .returned (.bool true) ∧ Below w.heap.size w w' := by
  by_cases h1 : K.length = 0
  · skip
    refine walk_enter Tryd.func8 rfl rfl rfl fun a0 F0 => ?_
    have M0 := Mem.new w
    refine wsl ?_
    refine sqNew (cs := #[v]) (t := 31) F0 M0 (wantedS rfl) (run_box rfl (F0.ev 0 rfl)) rfl (by decide) fun g0 a1 w1 hgg0 hb1 F1 M1 => ?_
    refine sqNew (cs := #[u]) (t := 31) F1 M1 (wantedS rfl) (run_box rfl (F1.ev 1 rfl)) rfl (by decide) fun g1 a2 w2 hgg1 hb2 F2 M2 => ?_
    refine sr (v := (.bool false)) F2 (run_as rfl rfl) rfl rfl rfl fun a3 F3 => ?_
    refine sn ?_
    clear F0 F1 F2 M0 M1
    refine wp_seq ?_
    refine wsl ?_
    refine sr F3 (run_fldA (m := 1) (s := 0) rfl (F3.ev 3 rfl) Tryd.underlying31 rfl rfl (by kernel_rfl) (by decide)) rfl rfl rfl fun a4 F4 => ?_
    refine sr (v := v) F4 (run_ldF rfl (F4.ev 18 rfl) (M2.at 1 rfl) rfl (by kernel_rfl)) rfl rfl rfl fun a5 F5 => ?_
    refine sr F5 (run_lenS rfl (F5.ev 19 rfl) (hV.below M2.below) rfl Tryd.underlying29) rfl rfl rfl fun a6 F6 => ?_
    refine sr (v := (.bool true)) F6 (run_eqi rfl (F6.ev 20 rfl) rfl (beq_iff_eq.2 (by omega))) rfl rfl rfl fun a7 F7 => ?_
    refine mvS F7 rfl rfl rfl rfl rfl fun a8 F8 => ?_
    refine sqSkip F8 (unwantedG F8 rfl rfl rfl rfl rfl) rfl (by decide) fun a9 F9 => ?_
    refine sqSkip F9 (unwantedG F9 rfl rfl rfl rfl rfl) rfl (by decide) fun a10 F10 => ?_
    refine sqSkip F10 (unwantedG F10 rfl rfl rfl rfl rfl) rfl (by decide) fun a11 F11 => ?_
    refine sqSkip F11 (unwantedG F11 rfl rfl rfl rfl rfl) rfl (by decide) fun a12 F12 => ?_
    refine sr (v := (.bool true)) F12 (run_pick rfl (F12.ev 22 rfl) rfl (F12.ev 26 rfl)) rfl rfl rfl fun a13 F13 => ?_
    refine mvS F13 rfl rfl rfl rfl rfl fun a14 F14 => ?_
    refine sqSkip F14 (unwantedG F14 rfl rfl rfl rfl rfl) rfl (by decide) fun a15 F15 => ?_
    refine sqSkip F15 (unwantedG F15 rfl rfl rfl rfl rfl) rfl (by decide) fun a16 F16 => ?_
    refine sqSkip F16 (unwantedG F16 rfl rfl rfl rfl rfl) rfl (by decide) fun a17 F17 => ?_
    refine sqSkip F17 (unwantedG F17 rfl rfl rfl rfl rfl) rfl (by decide) fun a18 F18 => ?_
    refine sr (v := (.bool true)) F18 (run_pick rfl (F18.ev 28 rfl) rfl (F18.ev 32 rfl)) rfl rfl rfl fun a19 F19 => ?_
    refine mvS F19 rfl rfl rfl rfl rfl fun a20 F20 => ?_
    refine sqSkip F20 (unwantedG F20 rfl rfl rfl rfl rfl) rfl (by decide) fun a21 F21 => ?_
    refine sqSkip F21 (unwantedG F21 rfl rfl rfl rfl rfl) rfl (by decide) fun a22 F22 => ?_
    refine sqSkip F22 (unwantedG F22 rfl rfl rfl rfl rfl) rfl (by decide) fun a23 F23 => ?_
    refine sr (v := (.bool true)) F23 (run_pick rfl (F23.ev 34 rfl) rfl (F23.ev 37 rfl)) rfl rfl rfl fun a24 F24 => ?_
    refine sn ?_
    clear F3 F4 F5 F6 F7 F8 F9 F10 F11 F12 F13 F14 F15 F16 F17 F18 F19 F20 F21 F22 F23
    refine wp_cond_true (F24.ev 38 rfl) ?_
    refine wsl ?_
    refine sqC (v := (.bool true)) F24 M2 (wantedS rfl) (run_call rfl Tryd.func11 (by kernel_rfl) rfl (mapE0 )) rfl (by decide) (fixed39_any w2) fun a25 w3 hb3 F25 M3 => ?_
    refine asS F25 rfl rfl rfl rfl rfl fun a26 F26 => ?_
    refine sn ?_
    clear F24 F25 M2
    refine wp_ret ?_
    refine nxRet ?_
    exact ret1 F26 rfl rfl ⟨rfl, M3.below⟩
  by_cases h2 : 10 < K.length
  · skip
    refine walk_enter Tryd.func8 rfl rfl rfl fun a0 F0 => ?_
    have M0 := Mem.new w
    refine wsl ?_
    refine sqNew (cs := #[v]) (t := 31) F0 M0 (wantedS rfl) (run_box rfl (F0.ev 0 rfl)) rfl (by decide) fun g0 a1 w1 hgg0 hb1 F1 M1 => ?_
    refine sqNew (cs := #[u]) (t := 31) F1 M1 (wantedS rfl) (run_box rfl (F1.ev 1 rfl)) rfl (by decide) fun g1 a2 w2 hgg1 hb2 F2 M2 => ?_
    refine sr (v := (.bool false)) F2 (run_as rfl rfl) rfl rfl rfl fun a3 F3 => ?_
    refine sn ?_
    clear F0 F1 F2 M0 M1
    refine wp_seq ?_
    refine wsl ?_
    refine sr F3 (run_fldA (m := 1) (s := 0) rfl (F3.ev 3 rfl) Tryd.underlying31 rfl rfl (by kernel_rfl) (by decide)) rfl rfl rfl fun a4 F4 => ?_
    refine sr (v := v) F4 (run_ldF rfl (F4.ev 18 rfl) (M2.at 1 rfl) rfl (by kernel_rfl)) rfl rfl rfl fun a5 F5 => ?_
    refine sr F5 (run_lenS rfl (F5.ev 19 rfl) (hV.below M2.below) rfl Tryd.underlying29) rfl rfl rfl fun a6 F6 => ?_
    refine sr (v := (.bool false)) F6 (run_eqi rfl (F6.ev 20 rfl) rfl (beq_eq_false_iff_ne.2 (by omega))) rfl rfl rfl fun a7 F7 => ?_
    refine mvS F7 rfl rfl rfl rfl rfl fun a8 F8 => ?_
    refine sq (v := (.pointer (some ⟨g0, 0, none⟩))) F8 (wantedG F8 rfl rfl rfl rfl rfl) (run_fldA (m := 1) (s := 0) rfl (F8.ev 3 rfl) Tryd.underlying31 rfl rfl (by kernel_rfl) (by decide)) rfl (by decide) fun a9 F9 => ?_
    refine sq (v := v) F9 (wantedG F9 rfl rfl rfl rfl rfl) (run_ldF rfl (F9.ev 23 rfl) (M2.at 1 rfl) rfl (by kernel_rfl)) rfl (by decide) fun a10 F10 => ?_
    refine sq (v := (.int .i64 (K.length : Int))) F10 (wantedG F10 rfl rfl rfl rfl rfl) (run_lenS rfl (F10.ev 24 rfl) (hV.below M2.below) rfl Tryd.underlying29) rfl (by decide) fun a11 F11 => ?_
    refine sq (v := (.bool true)) F11 (wantedG F11 rfl rfl rfl rfl rfl) (run_gtr rfl (F11.ev 25 rfl) rfl (decide_eq_true (by omega))) rfl (by decide) fun a12 F12 => ?_
    refine sr (v := (.bool true)) F12 (run_pick rfl (F12.ev 22 rfl) rfl (F12.ev 26 rfl)) rfl rfl rfl fun a13 F13 => ?_
    refine mvS F13 rfl rfl rfl rfl rfl fun a14 F14 => ?_
    refine sqSkip F14 (unwantedG F14 rfl rfl rfl rfl rfl) rfl (by decide) fun a15 F15 => ?_
    refine sqSkip F15 (unwantedG F15 rfl rfl rfl rfl rfl) rfl (by decide) fun a16 F16 => ?_
    refine sqSkip F16 (unwantedG F16 rfl rfl rfl rfl rfl) rfl (by decide) fun a17 F17 => ?_
    refine sqSkip F17 (unwantedG F17 rfl rfl rfl rfl rfl) rfl (by decide) fun a18 F18 => ?_
    refine sr (v := (.bool true)) F18 (run_pick rfl (F18.ev 28 rfl) rfl (F18.ev 32 rfl)) rfl rfl rfl fun a19 F19 => ?_
    refine mvS F19 rfl rfl rfl rfl rfl fun a20 F20 => ?_
    refine sqSkip F20 (unwantedG F20 rfl rfl rfl rfl rfl) rfl (by decide) fun a21 F21 => ?_
    refine sqSkip F21 (unwantedG F21 rfl rfl rfl rfl rfl) rfl (by decide) fun a22 F22 => ?_
    refine sqSkip F22 (unwantedG F22 rfl rfl rfl rfl rfl) rfl (by decide) fun a23 F23 => ?_
    refine sr (v := (.bool true)) F23 (run_pick rfl (F23.ev 34 rfl) rfl (F23.ev 37 rfl)) rfl rfl rfl fun a24 F24 => ?_
    refine sn ?_
    clear F3 F4 F5 F6 F7 F8 F9 F10 F11 F12 F13 F14 F15 F16 F17 F18 F19 F20 F21 F22 F23
    refine wp_cond_true (F24.ev 38 rfl) ?_
    refine wsl ?_
    refine sqC (v := (.bool true)) F24 M2 (wantedS rfl) (run_call rfl Tryd.func11 (by kernel_rfl) rfl (mapE0 )) rfl (by decide) (fixed39_any w2) fun a25 w3 hb3 F25 M3 => ?_
    refine asS F25 rfl rfl rfl rfl rfl fun a26 F26 => ?_
    refine sn ?_
    clear F24 F25 M2
    refine wp_ret ?_
    refine nxRet ?_
    exact ret1 F26 rfl rfl ⟨rfl, M3.below⟩
  by_cases h3 : 10 < M.length
  · skip
    refine walk_enter Tryd.func8 rfl rfl rfl fun a0 F0 => ?_
    have M0 := Mem.new w
    refine wsl ?_
    refine sqNew (cs := #[v]) (t := 31) F0 M0 (wantedS rfl) (run_box rfl (F0.ev 0 rfl)) rfl (by decide) fun g0 a1 w1 hgg0 hb1 F1 M1 => ?_
    refine sqNew (cs := #[u]) (t := 31) F1 M1 (wantedS rfl) (run_box rfl (F1.ev 1 rfl)) rfl (by decide) fun g1 a2 w2 hgg1 hb2 F2 M2 => ?_
    refine sr (v := (.bool false)) F2 (run_as rfl rfl) rfl rfl rfl fun a3 F3 => ?_
    refine sn ?_
    clear F0 F1 F2 M0 M1
    refine wp_seq ?_
    refine wsl ?_
    refine sr F3 (run_fldA (m := 1) (s := 0) rfl (F3.ev 3 rfl) Tryd.underlying31 rfl rfl (by kernel_rfl) (by decide)) rfl rfl rfl fun a4 F4 => ?_
    refine sr (v := v) F4 (run_ldF rfl (F4.ev 18 rfl) (M2.at 1 rfl) rfl (by kernel_rfl)) rfl rfl rfl fun a5 F5 => ?_
    refine sr F5 (run_lenS rfl (F5.ev 19 rfl) (hV.below M2.below) rfl Tryd.underlying29) rfl rfl rfl fun a6 F6 => ?_
    refine sr (v := (.bool false)) F6 (run_eqi rfl (F6.ev 20 rfl) rfl (beq_eq_false_iff_ne.2 (by omega))) rfl rfl rfl fun a7 F7 => ?_
    refine mvS F7 rfl rfl rfl rfl rfl fun a8 F8 => ?_
    refine sq (v := (.pointer (some ⟨g0, 0, none⟩))) F8 (wantedG F8 rfl rfl rfl rfl rfl) (run_fldA (m := 1) (s := 0) rfl (F8.ev 3 rfl) Tryd.underlying31 rfl rfl (by kernel_rfl) (by decide)) rfl (by decide) fun a9 F9 => ?_
    refine sq (v := v) F9 (wantedG F9 rfl rfl rfl rfl rfl) (run_ldF rfl (F9.ev 23 rfl) (M2.at 1 rfl) rfl (by kernel_rfl)) rfl (by decide) fun a10 F10 => ?_
    refine sq (v := (.int .i64 (K.length : Int))) F10 (wantedG F10 rfl rfl rfl rfl rfl) (run_lenS rfl (F10.ev 24 rfl) (hV.below M2.below) rfl Tryd.underlying29) rfl (by decide) fun a11 F11 => ?_
    refine sq (v := (.bool false)) F11 (wantedG F11 rfl rfl rfl rfl rfl) (run_gtr rfl (F11.ev 25 rfl) rfl (decide_eq_false (by omega))) rfl (by decide) fun a12 F12 => ?_
    refine sr (v := (.bool false)) F12 (run_pick rfl (F12.ev 22 rfl) rfl (F12.ev 26 rfl)) rfl rfl rfl fun a13 F13 => ?_
    refine mvS F13 rfl rfl rfl rfl rfl fun a14 F14 => ?_
    refine sq (v := (.pointer (some ⟨g1, 0, none⟩))) F14 (wantedG F14 rfl rfl rfl rfl rfl) (run_fldA (m := 1) (s := 0) rfl (F14.ev 4 rfl) Tryd.underlying31 rfl rfl (by kernel_rfl) (by decide)) rfl (by decide) fun a15 F15 => ?_
    refine sq (v := u) F15 (wantedG F15 rfl rfl rfl rfl rfl) (run_ldF rfl (F15.ev 29 rfl) (M2.at 0 rfl) rfl (by kernel_rfl)) rfl (by decide) fun a16 F16 => ?_
    refine sq (v := (.int .i64 (M.length : Int))) F16 (wantedG F16 rfl rfl rfl rfl rfl) (run_lenS rfl (F16.ev 30 rfl) (hU.below M2.below) rfl Tryd.underlying29) rfl (by decide) fun a17 F17 => ?_
    refine sq (v := (.bool true)) F17 (wantedG F17 rfl rfl rfl rfl rfl) (run_gtr rfl (F17.ev 31 rfl) rfl (decide_eq_true (by omega))) rfl (by decide) fun a18 F18 => ?_
    refine sr (v := (.bool true)) F18 (run_pick rfl (F18.ev 28 rfl) rfl (F18.ev 32 rfl)) rfl rfl rfl fun a19 F19 => ?_
    refine mvS F19 rfl rfl rfl rfl rfl fun a20 F20 => ?_
    refine sqSkip F20 (unwantedG F20 rfl rfl rfl rfl rfl) rfl (by decide) fun a21 F21 => ?_
    refine sqSkip F21 (unwantedG F21 rfl rfl rfl rfl rfl) rfl (by decide) fun a22 F22 => ?_
    refine sqSkip F22 (unwantedG F22 rfl rfl rfl rfl rfl) rfl (by decide) fun a23 F23 => ?_
    refine sr (v := (.bool true)) F23 (run_pick rfl (F23.ev 34 rfl) rfl (F23.ev 37 rfl)) rfl rfl rfl fun a24 F24 => ?_
    refine sn ?_
    clear F3 F4 F5 F6 F7 F8 F9 F10 F11 F12 F13 F14 F15 F16 F17 F18 F19 F20 F21 F22 F23
    refine wp_cond_true (F24.ev 38 rfl) ?_
    refine wsl ?_
    refine sqC (v := (.bool true)) F24 M2 (wantedS rfl) (run_call rfl Tryd.func11 (by kernel_rfl) rfl (mapE0 )) rfl (by decide) (fixed39_any w2) fun a25 w3 hb3 F25 M3 => ?_
    refine asS F25 rfl rfl rfl rfl rfl fun a26 F26 => ?_
    refine sn ?_
    clear F24 F25 M2
    refine wp_ret ?_
    refine nxRet ?_
    exact ret1 F26 rfl rfl ⟨rfl, M3.below⟩
  by_cases h4 : 600 < d.length
  · skip
    refine walk_enter Tryd.func8 rfl rfl rfl fun a0 F0 => ?_
    have M0 := Mem.new w
    refine wsl ?_
    refine sqNew (cs := #[v]) (t := 31) F0 M0 (wantedS rfl) (run_box rfl (F0.ev 0 rfl)) rfl (by decide) fun g0 a1 w1 hgg0 hb1 F1 M1 => ?_
    refine sqNew (cs := #[u]) (t := 31) F1 M1 (wantedS rfl) (run_box rfl (F1.ev 1 rfl)) rfl (by decide) fun g1 a2 w2 hgg1 hb2 F2 M2 => ?_
    refine sr (v := (.bool false)) F2 (run_as rfl rfl) rfl rfl rfl fun a3 F3 => ?_
    refine sn ?_
    clear F0 F1 F2 M0 M1
    refine wp_seq ?_
    refine wsl ?_
    refine sr F3 (run_fldA (m := 1) (s := 0) rfl (F3.ev 3 rfl) Tryd.underlying31 rfl rfl (by kernel_rfl) (by decide)) rfl rfl rfl fun a4 F4 => ?_
    refine sr (v := v) F4 (run_ldF rfl (F4.ev 18 rfl) (M2.at 1 rfl) rfl (by kernel_rfl)) rfl rfl rfl fun a5 F5 => ?_
    refine sr F5 (run_lenS rfl (F5.ev 19 rfl) (hV.below M2.below) rfl Tryd.underlying29) rfl rfl rfl fun a6 F6 => ?_
    refine sr (v := (.bool false)) F6 (run_eqi rfl (F6.ev 20 rfl) rfl (beq_eq_false_iff_ne.2 (by omega))) rfl rfl rfl fun a7 F7 => ?_
    refine mvS F7 rfl rfl rfl rfl rfl fun a8 F8 => ?_
    refine sq (v := (.pointer (some ⟨g0, 0, none⟩))) F8 (wantedG F8 rfl rfl rfl rfl rfl) (run_fldA (m := 1) (s := 0) rfl (F8.ev 3 rfl) Tryd.underlying31 rfl rfl (by kernel_rfl) (by decide)) rfl (by decide) fun a9 F9 => ?_
    refine sq (v := v) F9 (wantedG F9 rfl rfl rfl rfl rfl) (run_ldF rfl (F9.ev 23 rfl) (M2.at 1 rfl) rfl (by kernel_rfl)) rfl (by decide) fun a10 F10 => ?_
    refine sq (v := (.int .i64 (K.length : Int))) F10 (wantedG F10 rfl rfl rfl rfl rfl) (run_lenS rfl (F10.ev 24 rfl) (hV.below M2.below) rfl Tryd.underlying29) rfl (by decide) fun a11 F11 => ?_
    refine sq (v := (.bool false)) F11 (wantedG F11 rfl rfl rfl rfl rfl) (run_gtr rfl (F11.ev 25 rfl) rfl (decide_eq_false (by omega))) rfl (by decide) fun a12 F12 => ?_
    refine sr (v := (.bool false)) F12 (run_pick rfl (F12.ev 22 rfl) rfl (F12.ev 26 rfl)) rfl rfl rfl fun a13 F13 => ?_
    refine mvS F13 rfl rfl rfl rfl rfl fun a14 F14 => ?_
    refine sq (v := (.pointer (some ⟨g1, 0, none⟩))) F14 (wantedG F14 rfl rfl rfl rfl rfl) (run_fldA (m := 1) (s := 0) rfl (F14.ev 4 rfl) Tryd.underlying31 rfl rfl (by kernel_rfl) (by decide)) rfl (by decide) fun a15 F15 => ?_
    refine sq (v := u) F15 (wantedG F15 rfl rfl rfl rfl rfl) (run_ldF rfl (F15.ev 29 rfl) (M2.at 0 rfl) rfl (by kernel_rfl)) rfl (by decide) fun a16 F16 => ?_
    refine sq (v := (.int .i64 (M.length : Int))) F16 (wantedG F16 rfl rfl rfl rfl rfl) (run_lenS rfl (F16.ev 30 rfl) (hU.below M2.below) rfl Tryd.underlying29) rfl (by decide) fun a17 F17 => ?_
    refine sq (v := (.bool false)) F17 (wantedG F17 rfl rfl rfl rfl rfl) (run_gtr rfl (F17.ev 31 rfl) rfl (decide_eq_false (by omega))) rfl (by decide) fun a18 F18 => ?_
    refine sr (v := (.bool false)) F18 (run_pick rfl (F18.ev 28 rfl) rfl (F18.ev 32 rfl)) rfl rfl rfl fun a19 F19 => ?_
    refine mvS F19 rfl rfl rfl rfl rfl fun a20 F20 => ?_
    refine sq (v := (.string ⟨d.toArray⟩)) F20 (wantedG F20 rfl rfl rfl rfl rfl) (run_mv rfl (F20.ev 2 rfl)) rfl (by decide) fun a21 F21 => ?_
    refine sq (v := (.int .i64 (d.length : Int))) F21 (wantedG F21 rfl rfl rfl rfl rfl) (run_len rfl (F21.ev 35 rfl) rfl Tryd.underlying9) rfl (by decide) fun a22 F22 => ?_
    refine sq (v := (.bool true)) F22 (wantedG F22 rfl rfl rfl rfl rfl) (run_gtr rfl (F22.ev 36 rfl) rfl (decide_eq_true (by omega))) rfl (by decide) fun a23 F23 => ?_
    refine sr (v := (.bool true)) F23 (run_pick rfl (F23.ev 34 rfl) rfl (F23.ev 37 rfl)) rfl rfl rfl fun a24 F24 => ?_
    refine sn ?_
    clear F3 F4 F5 F6 F7 F8 F9 F10 F11 F12 F13 F14 F15 F16 F17 F18 F19 F20 F21 F22 F23
    refine wp_cond_true (F24.ev 38 rfl) ?_
    refine wsl ?_
    refine sqC (v := (.bool true)) F24 M2 (wantedS rfl) (run_call rfl Tryd.func11 (by kernel_rfl) rfl (mapE0 )) rfl (by decide) (fixed39_any w2) fun a25 w3 hb3 F25 M3 => ?_
    refine asS F25 rfl rfl rfl rfl rfl fun a26 F26 => ?_
    refine sn ?_
    clear F24 F25 M2
    refine wp_ret ?_
    refine nxRet ?_
    exact ret1 F26 rfl rfl ⟨rfl, M3.below⟩
  have hK : K ≠ [] := by intro h; rw [h] at h1; exact h1 rfl
  have hKM : (K ++ M) ≠ [] := by simp [hK]
  have hkl : (K ++ M).length = K.length + M.length := List.length_append
  have hKM32 : ∀ k ∈ (K ++ M), k.length = 32 := by
    intro k hk
    rcases List.mem_append.1 hk with hk | hk
    · exact h32 k hk
    · exact M32 k hk
  have hK1 : ∀ u ∈ K.flatMap dgC, u.oneCell' = true := by
    intro u hu
    obtain ⟨k, _, hk⟩ := List.mem_flatMap.1 hu
    exact dgC_one k u hk
  have M1 : ∀ u ∈ M.flatMap dgC, u.oneCell' = true := by
    intro u hu
    obtain ⟨k, _, hk⟩ := List.mem_flatMap.1 hu
    exact dgC_one k u hk
  have hpl := pack_len d
  have hdl := dataC_len K d
  have hdl2 := dataC_len (K ++ M) d
  have hNl := nameC_len K d
  have hs1 : sealC K d = (nameC K d, dataC K d, 0) := by unfold sealC; rw [if_neg (by omega), if_neg hK]
  have hs2 : sealC (K ++ M) d = (nameC K d, dataC (K ++ M) d, 0) := by unfold sealC; rw [if_neg (by omega), if_neg hKM, nameC_more K M d hK]
  have ho1 := openC_more K M d hK (by omega) (by omega)
  have ho2 := openC_seal (K ++ M) d hKM (by omega) (by omega)
  rw [nameC_more K M d hK] at ho2
  have he2 : epochC (dataC (K ++ M) d) = ((K ++ M).length - 1, 0) := by unfold epochC; rw [if_neg (by omega), dataC_get (K ++ M) d (by omega)]
  have hne : M ≠ [] → dataC K d ≠ dataC (K ++ M) d := dataC_more K M d hK (by omega)
  have heq : M = [] → dataC K d = dataC (K ++ M) d := by rintro rfl; rw [List.append_nil]
  obtain ⟨Nm, hNm⟩ : ∃ N, nameC K d = N := ⟨_, rfl⟩
  obtain ⟨D1, hD1⟩ : ∃ D, dataC K d = D := ⟨_, rfl⟩
  obtain ⟨D2, hD2⟩ : ∃ D, dataC (K ++ M) d = D := ⟨_, rfl⟩
  rw [hNm, hD1] at hs1 ho1
  rw [hNm, hD2] at hs2 ho2
  rw [hD2] at he2 hdl2
  rw [hD1] at hdl
  rw [hNm] at hNl
  rw [hD1, hD2] at hne heq
  refine walk_enter Tryd.func8 rfl rfl rfl fun a0 F0 => ?_
  have M0 := Mem.new w
  refine wsl ?_
  refine sqNew (cs := #[v]) (t := 31) F0 M0 (wantedS rfl) (run_box rfl (F0.ev 0 rfl)) rfl (by decide) fun g0 a1 w1 hgg0 hb1 F1 M1 => ?_
  refine sqNew (cs := #[u]) (t := 31) F1 M1 (wantedS rfl) (run_box rfl (F1.ev 1 rfl)) rfl (by decide) fun g1 a2 w2 hgg1 hb2 F2 M2 => ?_
  refine sr (v := (.bool false)) F2 (run_as rfl rfl) rfl rfl rfl fun a3 F3 => ?_
  refine sn ?_
  clear F0 F1 F2 M0 M1
  refine wp_seq ?_
  refine wsl ?_
  refine sr F3 (run_fldA (m := 1) (s := 0) rfl (F3.ev 3 rfl) Tryd.underlying31 rfl rfl (by kernel_rfl) (by decide)) rfl rfl rfl fun a4 F4 => ?_
  refine sr (v := v) F4 (run_ldF rfl (F4.ev 18 rfl) (M2.at 1 rfl) rfl (by kernel_rfl)) rfl rfl rfl fun a5 F5 => ?_
  refine sr F5 (run_lenS rfl (F5.ev 19 rfl) (hV.below M2.below) rfl Tryd.underlying29) rfl rfl rfl fun a6 F6 => ?_
  refine sr (v := (.bool false)) F6 (run_eqi rfl (F6.ev 20 rfl) rfl (beq_eq_false_iff_ne.2 (by omega))) rfl rfl rfl fun a7 F7 => ?_
  refine mvS F7 rfl rfl rfl rfl rfl fun a8 F8 => ?_
  refine sq (v := (.pointer (some ⟨g0, 0, none⟩))) F8 (wantedG F8 rfl rfl rfl rfl rfl) (run_fldA (m := 1) (s := 0) rfl (F8.ev 3 rfl) Tryd.underlying31 rfl rfl (by kernel_rfl) (by decide)) rfl (by decide) fun a9 F9 => ?_
  refine sq (v := v) F9 (wantedG F9 rfl rfl rfl rfl rfl) (run_ldF rfl (F9.ev 23 rfl) (M2.at 1 rfl) rfl (by kernel_rfl)) rfl (by decide) fun a10 F10 => ?_
  refine sq (v := (.int .i64 (K.length : Int))) F10 (wantedG F10 rfl rfl rfl rfl rfl) (run_lenS rfl (F10.ev 24 rfl) (hV.below M2.below) rfl Tryd.underlying29) rfl (by decide) fun a11 F11 => ?_
  refine sq (v := (.bool false)) F11 (wantedG F11 rfl rfl rfl rfl rfl) (run_gtr rfl (F11.ev 25 rfl) rfl (decide_eq_false (by omega))) rfl (by decide) fun a12 F12 => ?_
  refine sr (v := (.bool false)) F12 (run_pick rfl (F12.ev 22 rfl) rfl (F12.ev 26 rfl)) rfl rfl rfl fun a13 F13 => ?_
  refine mvS F13 rfl rfl rfl rfl rfl fun a14 F14 => ?_
  refine sq (v := (.pointer (some ⟨g1, 0, none⟩))) F14 (wantedG F14 rfl rfl rfl rfl rfl) (run_fldA (m := 1) (s := 0) rfl (F14.ev 4 rfl) Tryd.underlying31 rfl rfl (by kernel_rfl) (by decide)) rfl (by decide) fun a15 F15 => ?_
  refine sq (v := u) F15 (wantedG F15 rfl rfl rfl rfl rfl) (run_ldF rfl (F15.ev 29 rfl) (M2.at 0 rfl) rfl (by kernel_rfl)) rfl (by decide) fun a16 F16 => ?_
  refine sq (v := (.int .i64 (M.length : Int))) F16 (wantedG F16 rfl rfl rfl rfl rfl) (run_lenS rfl (F16.ev 30 rfl) (hU.below M2.below) rfl Tryd.underlying29) rfl (by decide) fun a17 F17 => ?_
  refine sq (v := (.bool false)) F17 (wantedG F17 rfl rfl rfl rfl rfl) (run_gtr rfl (F17.ev 31 rfl) rfl (decide_eq_false (by omega))) rfl (by decide) fun a18 F18 => ?_
  refine sr (v := (.bool false)) F18 (run_pick rfl (F18.ev 28 rfl) rfl (F18.ev 32 rfl)) rfl rfl rfl fun a19 F19 => ?_
  refine mvS F19 rfl rfl rfl rfl rfl fun a20 F20 => ?_
  refine sq (v := (.string ⟨d.toArray⟩)) F20 (wantedG F20 rfl rfl rfl rfl rfl) (run_mv rfl (F20.ev 2 rfl)) rfl (by decide) fun a21 F21 => ?_
  refine sq (v := (.int .i64 (d.length : Int))) F21 (wantedG F21 rfl rfl rfl rfl rfl) (run_len rfl (F21.ev 35 rfl) rfl Tryd.underlying9) rfl (by decide) fun a22 F22 => ?_
  refine sq (v := (.bool false)) F22 (wantedG F22 rfl rfl rfl rfl rfl) (run_gtr rfl (F22.ev 36 rfl) rfl (decide_eq_false (by omega))) rfl (by decide) fun a23 F23 => ?_
  refine sr (v := (.bool false)) F23 (run_pick rfl (F23.ev 34 rfl) rfl (F23.ev 37 rfl)) rfl rfl rfl fun a24 F24 => ?_
  refine sn ?_
  clear F3 F4 F5 F6 F7 F8 F9 F10 F11 F12 F13 F14 F15 F16 F17 F18 F19 F20 F21 F22 F23
  refine cfs (F24.ev 38 rfl) ?_
  refine wp_seq ?_
  refine wp_region_chain (e := 50) (size := 32) 133 (fun us i => ([none, some (.pointer (some ⟨g0, 0, none⟩)), some v, none, some (.pointer (some ⟨g1, 0, none⟩)), some u, none, some (.agg #[us 2]), none, none] : List (Option Value)).getD i none) [⟨0, 40, 0, []⟩, ⟨3, 43, 0 + K.length, [] ++ K.flatMap dgC⟩, ⟨6, 46, 0 + K.length + M.length, [] ++ K.flatMap dgC ++ M.flatMap dgC⟩] [⟨8, 7, 9, 31, #[.slice none 0 0], fun us => #[us 2]⟩] (by kernel_rfl) (by kernel_rfl) F24.size ?_ ?_ ?_ ?_ ?_ ?_ fun a25 w3 gs us hI => ?_
  · intro x d d' h1 h2
    match x with
    | 0 => cases Option.some.inj h1; cases Option.some.inj h2; show _ = true; kernel_rfl
    | 1 => cases Option.some.inj h1; cases Option.some.inj h2; show _ = true; kernel_rfl
    | x + 2 => simp at h2
  · intro x d hx j hj
    match x with
    | 0 => exact .inl fun us v => rfl
    | 1 => exact .inl fun us v => rfl
    | 2 =>
      cases Option.some.inj hx
      match j with
      | 0 | 1 | 2 | 3 | 4 | 5 | 6 | 8 | 9 => exact .inl fun us v => rfl
      | 7 => exact .inr (.inl (by kernel_rfl))
      | j + 10 => exact .inl fun us v => rfl
    | x + 3 => simp at hx
  · intro x d hx b hb
    cases List.mem_singleton.1 hb
    match x with
    | 0 => exact .inl fun us v => rfl
    | 1 => exact .inl fun us v => rfl
    | 2 =>
      cases Option.some.inj hx
      exact .inr (.inr ⟨7, by kernel_rfl, by kernel_rfl⟩)
    | x + 3 => simp at hx
  · intro d hd
    simp only [List.mem_cons, List.not_mem_nil, or_false] at hd
    subst hd
    exact ⟨Nat.le_of_ble_eq_true (by kernel_rfl), _, rfl, rfl⟩
  · intro d hd
    simp only [List.mem_cons, List.not_mem_nil, or_false] at hd
    rcases hd with rfl | rfl | rfl <;> exact ⟨_, rfl, rfl⟩
  · refine ⟨?_, ?_, ?_, ?_, ?_, ?_, ?_, ?_, ?_, ?_, trivial⟩
    · exact .first ⟨0, 40, 0, []⟩ rfl rfl rfl (fun _ => rfl) (by simp) (fun y e hy he => by rcases y with _ | _ | _ | y <;> simp at hy <;> (try subst hy) <;> simp at he ⊢) fun a W us hb hh hd => ⟨wanted_yes rfl, givc_none hb.size (run_none (m := 32) rfl elKey.un (by kernel_rfl))⟩
    · exact .val 41 (fun us => .pointer (some ⟨g0, 0, none⟩)) rfl (fun _ => rfl) (by simp) (by simp) fun a W us hb hh hd hr => ⟨wanted_yes rfl, givn_run (run_fldA (m := 1) (s := 0) rfl (eval_tmp (hh 3 _ rfl (F24.at 3 rfl))) Tryd.underlying31 rfl rfl (by kernel_rfl) (by decide))⟩
    · exact .val 42 (fun us => v) rfl (fun _ => rfl) (by simp) (by simp) fun a W us hb hh hd hr => ⟨wanted_yes rfl, givn_run (run_ldF rfl (eval_tmp (hd 1 41 _ (by kernel_rfl) rfl)) ((M2.grow hb).at 1 rfl) rfl (by kernel_rfl))⟩
    · exact .row 0 _ _ rfl rfl rfl rfl (fun _ => rfl) (by simp) (fun y e hy he => by rcases y with _ | _ | _ | y <;> simp at hy <;> (try subst hy) <;> simp at he ⊢) fun a W us q hb hh hd hq ho => ⟨wanted_yes rfl, givc_append elKey rfl (eval_tmp hq) (eval_tmp (hd 2 42 _ (by kernel_rfl) rfl)) ho (hV.below (M2.grow hb).below) hK1 (by simp only [maxLen]; omega) (by omega) hb.size⟩
    · exact .val 44 (fun us => .pointer (some ⟨g1, 0, none⟩)) rfl (fun _ => rfl) (by simp) (by simp) fun a W us hb hh hd hr => ⟨wanted_yes rfl, givn_run (run_fldA (m := 1) (s := 0) rfl (eval_tmp (hh 4 _ rfl (F24.at 4 rfl))) Tryd.underlying31 rfl rfl (by kernel_rfl) (by decide))⟩
    · exact .val 45 (fun us => u) rfl (fun _ => rfl) (by simp) (by simp) fun a W us hb hh hd hr => ⟨wanted_yes rfl, givn_run (run_ldF rfl (eval_tmp (hd 4 44 _ (by kernel_rfl) rfl)) ((M2.grow hb).at 0 rfl) rfl (by kernel_rfl))⟩
    · exact .row 1 _ _ rfl rfl rfl rfl (fun _ => rfl) (by simp) (fun y e hy he => by rcases y with _ | _ | _ | y <;> simp at hy <;> (try subst hy) <;> simp at he ⊢) fun a W us q hb hh hd hq ho => ⟨wanted_yes rfl, givc_append elKey rfl (eval_tmp hq) (eval_tmp (hd 5 45 _ (by kernel_rfl) rfl)) ho (hU.below (M2.grow hb).below) M1 (by simp only [maxLen]; omega) (by omega) hb.size⟩
    · exact .val 47 (fun us => .agg #[us 2]) rfl (fun _ => rfl) (by simp) (by simp) fun a W us hb hh hd hr => ⟨wanted_yes rfl, givn_run (run_blt (vs := #[(0, us 2)]) (cs := #[us 2]) rfl (bltE1 (eval_tmp (hr 2 _ rfl (by kernel_rfl)).1)) (by obtain ⟨_, p, q, c, hu⟩ := hr 2 _ rfl (by kernel_rfl); rw [hu]; kernel_rfl))⟩
    · exact .new 0 _ rfl rfl rfl (fun _ => rfl) (by simp) (by simp) (fun y e hy he => by rcases y with _ | y <;> simp at hy <;> (try subst hy) <;> simp at he ⊢) fun a W => ⟨wanted_yes rfl, run_alloc rfl (by kernel_rfl)⟩
    · exact .put 0 _ rfl rfl rfl (by simp) (by simp) (fun y e hy he => by rcases y with _ | y <;> simp at hy <;> (try subst hy) <;> simp at he ⊢) (by kernel_rfl) 1 31 _ _ (fun us => .agg #[us 2]) rfl rfl (fun a us hh hd => eval_tmp (hd 7 47 _ (by kernel_rfl) rfl)) (fun _ => rfl) rfl szKy (fun _ => rfl) rfl (fun us hs => by obtain ⟨p, q, c, hu⟩ := hs 2 _ rfl (.inr ⟨7, by kernel_rfl, by kernel_rfl⟩); exact arr_one (l := [us 2]) (by rw [hu]; rfl))
  obtain ⟨pA, qA, BA, fA⟩ := hI.blk 0 _ rfl rfl
  have hlast : ∀ (z : Nat) (e' : ChD), ([⟨0, 40, 0, []⟩, ⟨3, 43, 0 + K.length, [] ++ K.flatMap dgC⟩, ⟨6, 46, 0 + K.length + M.length, [] ++ K.flatMap dgC ++ M.flatMap dgC⟩] : List ChD)[z]? = some e' → 2 < z → (fun _ : Nat => true) e'.iC = false := fun z e' hz hlt => by rw [List.getElem?_eq_none (by show 3 ≤ z; omega)] at hz; cases hz
  have e1 : 0 + K.length + M.length = (K ++ M).length := by rw [List.length_append, Nat.zero_add]
  have e2 : [] ++ K.flatMap dgC ++ M.flatMap dgC = (K ++ M).flatMap dgC := by rw [List.flatMap_append, List.nil_append]
  have hown : w3.ownsRow w2.heap.size 50 32 (us 2) (0 + K.length + M.length) ([] ++ K.flatMap dgC ++ M.flatMap dgC) := hI.own 2 _ rfl rfl hlast
  rw [e1, e2] at hown
  have hfar := fA 2 _ rfl rfl hlast
  have hbA := hI.below
  generalize gs 0 = gA at pA qA BA hfar
  have M3 := M2.add (cs := #[us 2]) hbA qA BA
  have hO1 := OwnR.chain (S := isB 31 #[us 2]) M2 hown hfar
  have F25 : Fr a25 133 [(7, .pointer (some ⟨gA, 0, none⟩)), (0, (.agg #[v])), (1, (.agg #[u])), (2, (.string ⟨d.toArray⟩)), (3, (.pointer (some ⟨g0, 0, none⟩))), (4, (.pointer (some ⟨g1, 0, none⟩))), (6, (.bool false))] := fr_of_holds hI.tsz (hI.defers.trans F24.defers) ⟨pA, hI.had 0 _ rfl (F24.at 0 rfl), hI.had 1 _ rfl (F24.at 1 rfl), hI.had 2 _ rfl (F24.at 2 rfl), hI.had 3 _ rfl (F24.at 3 rfl), hI.had 4 _ rfl (F24.at 4 rfl), hI.had 6 _ rfl (F24.at 6 rfl), trivial⟩
  clear hI hown fA pA BA
  generalize us 2 = uA at *
  refine nx ?_
  refine wsl ?_
  refine sr F25 (run_ldB rfl (F25.ev 3 rfl) (M3.at 2 rfl) Tryd.underlying31 rfl szKy rfl) rfl rfl rfl fun a26 F26 => ?_
  refine mvS F26 rfl rfl rfl rfl rfl fun a27 F27 => ?_
  refine sqC (v := (.tuple #[(.agg #[.string ⟨Nm.toArray⟩, .string ⟨D1.toArray⟩]), (.int .i64 0)])) F27 M3 (wantedS rfl) (run_call rfl Tryd.func18 (by kernel_rfl) rfl (mapE2 (F27.ev 49 rfl) (F27.ev 50 rfl))) rfl (by decide) ((by have h := csealK_any K v d w3 (HG.below M3.below) (hV.below M3.below) h32 (by omega); rw [hs1] at h; exact h)) fun a28 w4 hb4 F28 M4 => ?_
  have hO2 := hO1.grow hb4
  refine mvS F28 rfl rfl rfl rfl rfl fun a29 F29 => ?_
  refine sr (v := (.agg #[.string ⟨Nm.toArray⟩, .string ⟨D1.toArray⟩])) F29 (run_ext rfl (F29.ev 48 rfl) rfl) rfl rfl rfl fun a30 F30 => ?_
  refine sr (v := (.int .i64 0)) F30 (run_ext rfl (F30.ev 48 rfl) rfl) rfl rfl rfl fun a31 F31 => ?_
  refine sqNew (cs := #[.string ⟨List.toArray []⟩, .string ⟨List.toArray []⟩]) (t := 36) F31 M4 (wantedS rfl) (run_alloc rfl (by kernel_rfl)) rfl (by decide) fun g2 a32 w5 hgg2 hb5 F32 M5 => ?_
  have hO3 := hO2.add (S := isB 36 (#[.string ⟨List.toArray []⟩, .string ⟨List.toArray []⟩])) hb5 hgg2
  refine sqStoreG (i := 0) F32 M5 rfl rfl rfl (F32.ev 8 rfl) (F32.ev 52 rfl) rfl szBox rfl rfl (arr_one rfl) fun a33 w6 hgr6 F33 M6 => ?_
  have hO4 := hO3.upd 0 (S2 := isB 36 (#[.string ⟨Nm.toArray⟩, .string ⟨D1.toArray⟩])) rfl hgr6
  refine asS F33 rfl rfl rfl rfl rfl fun a34 F34 => ?_
  refine sn ?_
  clear F25 F26 F27 F28 F29 F30 F31 F32 F33 M3 M4 M5
  refine wsl ?_
  refine sr F34 (run_ldB rfl (F34.ev 7 rfl) (M6.at 1 rfl) Tryd.underlying31 rfl szKy rfl) rfl rfl rfl fun a35 F35 => ?_
  refine mvS F35 rfl rfl rfl rfl rfl fun a36 F36 => ?_
  refine sqC (v := (.tuple #[(.agg #[.string ⟨Nm.toArray⟩, .string ⟨D2.toArray⟩]), (.int .i64 0)])) F36 M6 (wantedS rfl) (run_call rfl Tryd.func18 (by kernel_rfl) rfl (mapE2 (F36.ev 55 rfl) (F36.ev 56 rfl))) rfl (by decide) ((by have h := csealK_any (K ++ M) uA d w6 (HG.below M6.below) (Sl.own hO4) hKM32 (by omega); rw [hs2] at h; exact h)) fun a37 w7 hb7 F37 M7 => ?_
  have hO5 := hO4.grow hb7
  refine mvS F37 rfl rfl rfl rfl rfl fun a38 F38 => ?_
  refine sr (v := (.agg #[.string ⟨Nm.toArray⟩, .string ⟨D2.toArray⟩])) F38 (run_ext rfl (F38.ev 54 rfl) rfl) rfl rfl rfl fun a39 F39 => ?_
  refine sr (v := (.int .i64 0)) F39 (run_ext rfl (F39.ev 54 rfl) rfl) rfl rfl rfl fun a40 F40 => ?_
  refine sqNew (cs := #[.string ⟨List.toArray []⟩, .string ⟨List.toArray []⟩]) (t := 36) F40 M7 (wantedS rfl) (run_alloc rfl (by kernel_rfl)) rfl (by decide) fun g3 a41 w8 hgg3 hb8 F41 M8 => ?_
  have hO6 := hO5.add (S := isB 36 (#[.string ⟨List.toArray []⟩, .string ⟨List.toArray []⟩])) hb8 hgg3
  refine sqStoreG (i := 0) F41 M8 rfl rfl rfl (F41.ev 10 rfl) (F41.ev 58 rfl) rfl szBox rfl rfl (arr_one rfl) fun a42 w9 hgr9 F42 M9 => ?_
  have hO7 := hO6.upd 0 (S2 := isB 36 (#[.string ⟨Nm.toArray⟩, .string ⟨D2.toArray⟩])) rfl hgr9
  refine asS F42 rfl rfl rfl rfl rfl fun a43 F43 => ?_
  refine sn ?_
  clear F34 F35 F36 F37 F38 F39 F40 F41 F42 M6 M7 M8
  refine wsl ?_
  refine sr F43 (run_ldB rfl (F43.ev 7 rfl) (M9.at 2 rfl) Tryd.underlying31 rfl szKy rfl) rfl rfl rfl fun a44 F44 => ?_
  refine sr F44 (run_ldB rfl (F44.ev 8 rfl) (M9.at 1 rfl) Tryd.underlying36 rfl szBox rfl) rfl rfl rfl fun a45 F45 => ?_
  refine sqC (v := (.tuple #[(.string ⟨d.toArray⟩), (.int .i64 0)])) F45 M9 (wantedS rfl) (run_call rfl Tryd.func20 (by kernel_rfl) rfl (mapE2 (F45.ev 61 rfl) (F45.ev 62 rfl))) rfl (by decide) ((by have h := copen_any (K ++ M) uA Nm D1 w9 (HG.below M9.below) (Sl.own hO7) hKM32 (by omega) (by omega); rw [ho1] at h; exact h)) fun a46 w10 hb10 F46 M10 => ?_
  have hO8 := hO7.grow hb10
  refine mvS F46 rfl rfl rfl rfl rfl fun a47 F47 => ?_
  refine sr (v := (.string ⟨d.toArray⟩)) F47 (run_ext rfl (F47.ev 60 rfl) rfl) rfl rfl rfl fun a48 F48 => ?_
  refine sr (v := (.int .i64 0)) F48 (run_ext rfl (F48.ev 60 rfl) rfl) rfl rfl rfl fun a49 F49 => ?_
  refine asS F49 rfl rfl rfl rfl rfl fun a50 F50 => ?_
  refine asS F50 rfl rfl rfl rfl rfl fun a51 F51 => ?_
  refine sn ?_
  clear F43 F44 F45 F46 F47 F48 F49 F50 M9
  refine wsl ?_
  refine sr F51 (run_ldB rfl (F51.ev 7 rfl) (M10.at 2 rfl) Tryd.underlying31 rfl szKy rfl) rfl rfl rfl fun a52 F52 => ?_
  refine sr F52 (run_ldB rfl (F52.ev 10 rfl) (M10.at 0 rfl) Tryd.underlying36 rfl szBox rfl) rfl rfl rfl fun a53 F53 => ?_
  refine sqC (v := (.tuple #[(.string ⟨d.toArray⟩), (.int .i64 0)])) F53 M10 (wantedS rfl) (run_call rfl Tryd.func20 (by kernel_rfl) rfl (mapE2 (F53.ev 67 rfl) (F53.ev 68 rfl))) rfl (by decide) ((by have h := copen_any (K ++ M) uA Nm D2 w10 (HG.below M10.below) (Sl.own hO8) hKM32 (by omega) (by omega); rw [ho2] at h; exact h)) fun a54 w11 hb11 F54 M11 => ?_
  have hO9 := hO8.grow hb11
  refine mvS F54 rfl rfl rfl rfl rfl fun a55 F55 => ?_
  refine sr (v := (.string ⟨d.toArray⟩)) F55 (run_ext rfl (F55.ev 66 rfl) rfl) rfl rfl rfl fun a56 F56 => ?_
  refine sr (v := (.int .i64 0)) F56 (run_ext rfl (F56.ev 66 rfl) rfl) rfl rfl rfl fun a57 F57 => ?_
  refine asS F57 rfl rfl rfl rfl rfl fun a58 F58 => ?_
  refine asS F58 rfl rfl rfl rfl rfl fun a59 F59 => ?_
  refine sn ?_
  clear F51 F52 F53 F54 F55 F56 F57 F58 M10
  refine wsl ?_
  refine sr F59 (run_ldB rfl (F59.ev 10 rfl) (M11.at 0 rfl) Tryd.underlying36 rfl szBox rfl) rfl rfl rfl fun a60 F60 => ?_
  refine sqC (v := (.tuple #[(.int .i64 (((K ++ M).length - 1 : Nat) : Int)), (.int .i64 0)])) F60 M11 (wantedS rfl) (run_call rfl Tryd.func21 (by kernel_rfl) rfl (mapE1 (F60.ev 73 rfl))) rfl (by decide) ((by have h := cepoch_any Nm D2 w11; rw [he2] at h; exact h)) fun a61 w12 hb12 F61 M12 => ?_
  have hO10 := hO9.grow hb12
  refine mvS F61 rfl rfl rfl rfl rfl fun a62 F62 => ?_
  refine sr (v := (.int .i64 (((K ++ M).length - 1 : Nat) : Int))) F62 (run_ext rfl (F62.ev 72 rfl) rfl) rfl rfl rfl fun a63 F63 => ?_
  refine sr (v := (.int .i64 0)) F63 (run_ext rfl (F63.ev 72 rfl) rfl) rfl rfl rfl fun a64 F64 => ?_
  refine asS F64 rfl rfl rfl rfl rfl fun a65 F65 => ?_
  refine asS F65 rfl rfl rfl rfl rfl fun a66 F66 => ?_
  refine sn ?_
  clear F59 F60 F61 F62 F63 F64 F65 M11
  refine wp_seq ?_
  by_cases hMn : M = []
  · have hm0 : M.length = 0 := by rw [hMn]; rfl
    obtain ⟨KL, hKL⟩ : ∃ KL, KL = [kval (.bool true), kval (.bool true), kval (.int .i64 0), kval (.bool true), kval (.bool true), kval (.bool true), kval (.int .i64 0), kval (.bool true), kval (.bool true), kval (.bool true), kval (.int .i64 0), kval (.bool true), kval (.bool true), kval (.bool true), kval (.int .i64 0), kval (.bool true), kval (.bool true), kval (.bool true), kval (.int .i64 0), kval (.bool true), kval (.bool true), kval (.bool true), kval (.string ⟨d.toArray⟩), kval (.string ⟨d.toArray⟩), kval (.bool true), kval (.bool true), kval (.bool true), kval (.string ⟨d.toArray⟩), kval (.string ⟨d.toArray⟩), kval (.bool true), kval (.bool true), kval (.bool true), kval (.pointer (some ⟨g2, 0, none⟩)), kval (.string ⟨Nm.toArray⟩), kval (.pointer (some ⟨g3, 0, none⟩)), kval (.string ⟨Nm.toArray⟩), kval (.bool true), kval (.bool true), kval (.bool true), kval (.int .i64 (((K ++ M).length - 1 : Nat) : Int)), kval (.pointer (some ⟨gA, 0, none⟩)), kval uA, kval (.int .i64 ((K ++ M).length : Int)), kval (.int .i64 (((K ++ M).length - 1 : Nat) : Int)), kval (.bool true), kval (.bool true), kval (.bool true), kval (.agg #[.string ⟨Nm.toArray⟩, .string ⟨D1.toArray⟩]), kval (.agg #[.string ⟨Nm.toArray⟩, .string ⟨D2.toArray⟩]), kval (.bool true), kval (.pointer (some ⟨g1, 0, none⟩)), kval u, kval (.int .i64 (M.length : Int)), kval (.bool true), kval (.bool true), kval (.bool true), kval (.bool true)] := ⟨_, rfl⟩
    have K0 := getK hKL 0
    have K1 := getK hKL 1
    have K2 := getK hKL 2
    have K3 := getK hKL 3
    have K4 := getK hKL 4
    have K5 := getK hKL 5
    have K6 := getK hKL 6
    have K7 := getK hKL 7
    have K8 := getK hKL 8
    have K9 := getK hKL 9
    have K10 := getK hKL 10
    have K11 := getK hKL 11
    have K12 := getK hKL 12
    have K13 := getK hKL 13
    have K14 := getK hKL 14
    have K15 := getK hKL 15
    have K16 := getK hKL 16
    have K17 := getK hKL 17
    have K18 := getK hKL 18
    have K19 := getK hKL 19
    have K20 := getK hKL 20
    have K21 := getK hKL 21
    have K22 := getK hKL 22
    have K23 := getK hKL 23
    have K24 := getK hKL 24
    have K25 := getK hKL 25
    have K26 := getK hKL 26
    have K27 := getK hKL 27
    have K28 := getK hKL 28
    have K29 := getK hKL 29
    have K30 := getK hKL 30
    have K31 := getK hKL 31
    have K32 := getK hKL 32
    have K33 := getK hKL 33
    have K34 := getK hKL 34
    have K35 := getK hKL 35
    have K36 := getK hKL 36
    have K37 := getK hKL 37
    have K38 := getK hKL 38
    have K39 := getK hKL 39
    have K40 := getK hKL 40
    have K41 := getK hKL 41
    have K42 := getK hKL 42
    have K43 := getK hKL 43
    have K44 := getK hKL 44
    have K45 := getK hKL 45
    have K46 := getK hKL 46
    have K47 := getK hKL 47
    have K48 := getK hKL 48
    have K49 := getK hKL 49
    have K50 := getK hKL 50
    have K51 := getK hKL 51
    have K52 := getK hKL 52
    have K53 := getK hKL 53
    have K54 := getK hKL 54
    have K55 := getK hKL 55
    have K56 := getK hKL 56
    clear hKL
    refine wp_region_kd 133 (by kernel_rfl) (by kernel_rfl) (by kernel_rfl) F66.size KL ?_ ?_
    · refine ⟨?_, ?_, ?_, ?_, ?_, ?_, ?_, ?_, ?_, ?_, ?_, ?_, ?_, ?_, ?_, ?_, ?_, ?_, ?_, ?_, ?_, ?_, ?_, ?_, ?_, ?_, ?_, ?_, ?_, ?_, ?_, ?_, ?_, ?_, ?_, ?_, ?_, ?_, ?_, ?_, ?_, ?_, ?_, ?_, ?_, ?_, ?_, ?_, ?_, ?_, ?_, ?_, ?_, ?_, ?_, ?_, ?_, trivial⟩
      · exact asksY rfl fun a W hS hh hd => giv_call (run_call rfl Tryd.func11 (by kernel_rfl) rfl (mapE0 )) (fixed39_any W) K0
      · exact asksY rfl fun a W hS hh hd => giv_run (run_mv rfl (eval_tmp (hd.vl 0 77 (by kernel_rfl) K0))) K1
      · refine asks_mk fun a W hS hh hd => ⟨wanted_of (j := 1) (s := 78) (by kernel_rfl) (hd.vl 1 78 (by kernel_rfl) K1), ?_⟩
        exact giv_run (run_mv rfl (eval_tmp (hh 9 _ rfl (F66.at 9 rfl)))) K2
      · refine asks_mk fun a W hS hh hd => ⟨wanted_of (j := 1) (s := 78) (by kernel_rfl) (hd.vl 1 78 (by kernel_rfl) K1), ?_⟩
        exact giv_run (run_eqi rfl (eval_tmp (hd.vl 2 79 (by kernel_rfl) K2)) rfl (beq_iff_eq.2 (by omega))) K3
      · exact asksY rfl fun a W hS hh hd => giv_run (run_pick rfl (eval_tmp (hd.vl 1 78 (by kernel_rfl) K1)) (eval_tmp (hd.vl 3 80 (by kernel_rfl) K3)) rfl) K4
      · exact asksY rfl fun a W hS hh hd => giv_run (run_mv rfl (eval_tmp (hd.vl 4 81 (by kernel_rfl) K4))) K5
      · refine asks_mk fun a W hS hh hd => ⟨wanted_of (j := 5) (s := 82) (by kernel_rfl) (hd.vl 5 82 (by kernel_rfl) K5), ?_⟩
        exact giv_run (run_mv rfl (eval_tmp (hh 11 _ rfl (F66.at 11 rfl)))) K6
      · refine asks_mk fun a W hS hh hd => ⟨wanted_of (j := 5) (s := 82) (by kernel_rfl) (hd.vl 5 82 (by kernel_rfl) K5), ?_⟩
        exact giv_run (run_eqi rfl (eval_tmp (hd.vl 6 83 (by kernel_rfl) K6)) rfl (beq_iff_eq.2 (by omega))) K7
      · exact asksY rfl fun a W hS hh hd => giv_run (run_pick rfl (eval_tmp (hd.vl 5 82 (by kernel_rfl) K5)) (eval_tmp (hd.vl 7 84 (by kernel_rfl) K7)) rfl) K8
      · exact asksY rfl fun a W hS hh hd => giv_run (run_mv rfl (eval_tmp (hd.vl 8 85 (by kernel_rfl) K8))) K9
      · refine asks_mk fun a W hS hh hd => ⟨wanted_of (j := 9) (s := 86) (by kernel_rfl) (hd.vl 9 86 (by kernel_rfl) K9), ?_⟩
        exact giv_run (run_mv rfl (eval_tmp (hh 13 _ rfl (F66.at 13 rfl)))) K10
      · refine asks_mk fun a W hS hh hd => ⟨wanted_of (j := 9) (s := 86) (by kernel_rfl) (hd.vl 9 86 (by kernel_rfl) K9), ?_⟩
        exact giv_run (run_eqi rfl (eval_tmp (hd.vl 10 87 (by kernel_rfl) K10)) rfl (beq_iff_eq.2 (by omega))) K11
      · exact asksY rfl fun a W hS hh hd => giv_run (run_pick rfl (eval_tmp (hd.vl 9 86 (by kernel_rfl) K9)) (eval_tmp (hd.vl 11 88 (by kernel_rfl) K11)) rfl) K12
      · exact asksY rfl fun a W hS hh hd => giv_run (run_mv rfl (eval_tmp (hd.vl 12 89 (by kernel_rfl) K12))) K13
      · refine asks_mk fun a W hS hh hd => ⟨wanted_of (j := 13) (s := 90) (by kernel_rfl) (hd.vl 13 90 (by kernel_rfl) K13), ?_⟩
        exact giv_run (run_mv rfl (eval_tmp (hh 15 _ rfl (F66.at 15 rfl)))) K14
      · refine asks_mk fun a W hS hh hd => ⟨wanted_of (j := 13) (s := 90) (by kernel_rfl) (hd.vl 13 90 (by kernel_rfl) K13), ?_⟩
        exact giv_run (run_eqi rfl (eval_tmp (hd.vl 14 91 (by kernel_rfl) K14)) rfl (beq_iff_eq.2 (by omega))) K15
      · exact asksY rfl fun a W hS hh hd => giv_run (run_pick rfl (eval_tmp (hd.vl 13 90 (by kernel_rfl) K13)) (eval_tmp (hd.vl 15 92 (by kernel_rfl) K15)) rfl) K16
      · exact asksY rfl fun a W hS hh hd => giv_run (run_mv rfl (eval_tmp (hd.vl 16 93 (by kernel_rfl) K16))) K17
      · refine asks_mk fun a W hS hh hd => ⟨wanted_of (j := 17) (s := 94) (by kernel_rfl) (hd.vl 17 94 (by kernel_rfl) K17), ?_⟩
        exact giv_run (run_mv rfl (eval_tmp (hh 17 _ rfl (F66.at 17 rfl)))) K18
      · refine asks_mk fun a W hS hh hd => ⟨wanted_of (j := 17) (s := 94) (by kernel_rfl) (hd.vl 17 94 (by kernel_rfl) K17), ?_⟩
        exact giv_run (run_eqi rfl (eval_tmp (hd.vl 18 95 (by kernel_rfl) K18)) rfl (beq_iff_eq.2 (by omega))) K19
      · exact asksY rfl fun a W hS hh hd => giv_run (run_pick rfl (eval_tmp (hd.vl 17 94 (by kernel_rfl) K17)) (eval_tmp (hd.vl 19 96 (by kernel_rfl) K19)) rfl) K20
      · exact asksY rfl fun a W hS hh hd => giv_run (run_mv rfl (eval_tmp (hd.vl 20 97 (by kernel_rfl) K20))) K21
      · refine asks_mk fun a W hS hh hd => ⟨wanted_of (j := 21) (s := 98) (by kernel_rfl) (hd.vl 21 98 (by kernel_rfl) K21), ?_⟩
        exact giv_run (run_mv rfl (eval_tmp (hh 12 _ rfl (F66.at 12 rfl)))) K22
      · refine asks_mk fun a W hS hh hd => ⟨wanted_of (j := 21) (s := 98) (by kernel_rfl) (hd.vl 21 98 (by kernel_rfl) K21), ?_⟩
        exact giv_run (run_mv rfl (eval_tmp (hh 2 _ rfl (F66.at 2 rfl)))) K23
      · refine asks_mk fun a W hS hh hd => ⟨wanted_of (j := 21) (s := 98) (by kernel_rfl) (hd.vl 21 98 (by kernel_rfl) K21), ?_⟩
        exact giv_run (run_eqs rfl (eval_tmp (hd.vl 22 99 (by kernel_rfl) K22)) (eval_tmp (hd.vl 23 100 (by kernel_rfl) K23)) (by simp)) K24
      · exact asksY rfl fun a W hS hh hd => giv_run (run_pick rfl (eval_tmp (hd.vl 21 98 (by kernel_rfl) K21)) (eval_tmp (hd.vl 24 101 (by kernel_rfl) K24)) rfl) K25
      · exact asksY rfl fun a W hS hh hd => giv_run (run_mv rfl (eval_tmp (hd.vl 25 102 (by kernel_rfl) K25))) K26
      · refine asks_mk fun a W hS hh hd => ⟨wanted_of (j := 26) (s := 103) (by kernel_rfl) (hd.vl 26 103 (by kernel_rfl) K26), ?_⟩
        exact giv_run (run_mv rfl (eval_tmp (hh 14 _ rfl (F66.at 14 rfl)))) K27
      · refine asks_mk fun a W hS hh hd => ⟨wanted_of (j := 26) (s := 103) (by kernel_rfl) (hd.vl 26 103 (by kernel_rfl) K26), ?_⟩
        exact giv_run (run_mv rfl (eval_tmp (hh 2 _ rfl (F66.at 2 rfl)))) K28
      · refine asks_mk fun a W hS hh hd => ⟨wanted_of (j := 26) (s := 103) (by kernel_rfl) (hd.vl 26 103 (by kernel_rfl) K26), ?_⟩
        exact giv_run (run_eqs rfl (eval_tmp (hd.vl 27 104 (by kernel_rfl) K27)) (eval_tmp (hd.vl 28 105 (by kernel_rfl) K28)) (by simp)) K29
      · exact asksY rfl fun a W hS hh hd => giv_run (run_pick rfl (eval_tmp (hd.vl 26 103 (by kernel_rfl) K26)) (eval_tmp (hd.vl 29 106 (by kernel_rfl) K29)) rfl) K30
      · exact asksY rfl fun a W hS hh hd => giv_run (run_mv rfl (eval_tmp (hd.vl 30 107 (by kernel_rfl) K30))) K31
      · refine asks_mk fun a W hS hh hd => ⟨wanted_of (j := 31) (s := 108) (by kernel_rfl) (hd.vl 31 108 (by kernel_rfl) K31), ?_⟩
        exact giv_run (run_fldA (m := 1) (s := 0) rfl (eval_tmp (hh 8 _ rfl (F66.at 8 rfl))) Tryd.underlying36 rfl rfl (by kernel_rfl) (by decide)) K32
      · refine asks_mk fun a W hS hh hd => ⟨wanted_of (j := 31) (s := 108) (by kernel_rfl) (hd.vl 31 108 (by kernel_rfl) K31), ?_⟩
        exact giv_run (run_ldF rfl (eval_tmp (hd.vl 32 109 (by kernel_rfl) K32)) ((M12.grow hS).at 1 rfl) rfl (by kernel_rfl)) K33
      · refine asks_mk fun a W hS hh hd => ⟨wanted_of (j := 31) (s := 108) (by kernel_rfl) (hd.vl 31 108 (by kernel_rfl) K31), ?_⟩
        exact giv_run (run_fldA (m := 1) (s := 0) rfl (eval_tmp (hh 10 _ rfl (F66.at 10 rfl))) Tryd.underlying36 rfl rfl (by kernel_rfl) (by decide)) K34
      · refine asks_mk fun a W hS hh hd => ⟨wanted_of (j := 31) (s := 108) (by kernel_rfl) (hd.vl 31 108 (by kernel_rfl) K31), ?_⟩
        exact giv_run (run_ldF rfl (eval_tmp (hd.vl 34 111 (by kernel_rfl) K34)) ((M12.grow hS).at 0 rfl) rfl (by kernel_rfl)) K35
      · refine asks_mk fun a W hS hh hd => ⟨wanted_of (j := 31) (s := 108) (by kernel_rfl) (hd.vl 31 108 (by kernel_rfl) K31), ?_⟩
        exact giv_run (run_eqs rfl (eval_tmp (hd.vl 33 110 (by kernel_rfl) K33)) (eval_tmp (hd.vl 35 112 (by kernel_rfl) K35)) (by simp)) K36
      · exact asksY rfl fun a W hS hh hd => giv_run (run_pick rfl (eval_tmp (hd.vl 31 108 (by kernel_rfl) K31)) (eval_tmp (hd.vl 36 113 (by kernel_rfl) K36)) rfl) K37
      · exact asksY rfl fun a W hS hh hd => giv_run (run_mv rfl (eval_tmp (hd.vl 37 114 (by kernel_rfl) K37))) K38
      · refine asks_mk fun a W hS hh hd => ⟨wanted_of (j := 38) (s := 115) (by kernel_rfl) (hd.vl 38 115 (by kernel_rfl) K38), ?_⟩
        exact giv_run (run_mv rfl (eval_tmp (hh 16 _ rfl (F66.at 16 rfl)))) K39
      · refine asks_mk fun a W hS hh hd => ⟨wanted_of (j := 38) (s := 115) (by kernel_rfl) (hd.vl 38 115 (by kernel_rfl) K38), ?_⟩
        exact giv_run (run_fldA (m := 1) (s := 0) rfl (eval_tmp (hh 7 _ rfl (F66.at 7 rfl))) Tryd.underlying31 rfl rfl (by kernel_rfl) (by decide)) K40
      · refine asks_mk fun a W hS hh hd => ⟨wanted_of (j := 38) (s := 115) (by kernel_rfl) (hd.vl 38 115 (by kernel_rfl) K38), ?_⟩
        exact giv_run (run_ldF rfl (eval_tmp (hd.vl 40 117 (by kernel_rfl) K40)) ((M12.grow hS).at 2 rfl) rfl (by kernel_rfl)) K41
      · refine asks_mk fun a W hS hh hd => ⟨wanted_of (j := 38) (s := 115) (by kernel_rfl) (hd.vl 38 115 (by kernel_rfl) K38), ?_⟩
        exact giv_run (run_lenS rfl (eval_tmp (hd.vl 41 118 (by kernel_rfl) K41)) (Sl.own (hO10.grow hS)) rfl Tryd.underlying29) K42
      · refine asks_mk fun a W hS hh hd => ⟨wanted_of (j := 38) (s := 115) (by kernel_rfl) (hd.vl 38 115 (by kernel_rfl) K38), ?_⟩
        exact giv_run (run_sub (r := (((K ++ M).length - 1 : Nat) : Int)) rfl (eval_tmp (hd.vl 42 119 (by kernel_rfl) K42)) rfl (by rw [IntKind.wrap_i64]; omega)) K43
      · refine asks_mk fun a W hS hh hd => ⟨wanted_of (j := 38) (s := 115) (by kernel_rfl) (hd.vl 38 115 (by kernel_rfl) K38), ?_⟩
        exact giv_run (run_eqi rfl (eval_tmp (hd.vl 39 116 (by kernel_rfl) K39)) (eval_tmp (hd.vl 43 120 (by kernel_rfl) K43)) (beq_iff_eq.2 (by omega))) K44
      · exact asksY rfl fun a W hS hh hd => giv_run (run_pick rfl (eval_tmp (hd.vl 38 115 (by kernel_rfl) K38)) (eval_tmp (hd.vl 44 121 (by kernel_rfl) K44)) rfl) K45
      · exact asksY rfl fun a W hS hh hd => giv_run (run_mv rfl (eval_tmp (hd.vl 45 122 (by kernel_rfl) K45))) K46
      · refine asks_mk fun a W hS hh hd => ⟨wanted_of (j := 46) (s := 123) (by kernel_rfl) (hd.vl 46 123 (by kernel_rfl) K46), ?_⟩
        exact giv_run (run_ldB rfl (eval_tmp (hh 8 _ rfl (F66.at 8 rfl))) ((M12.grow hS).at 1 rfl) Tryd.underlying36 rfl szBox rfl) K47
      · refine asks_mk fun a W hS hh hd => ⟨wanted_of (j := 46) (s := 123) (by kernel_rfl) (hd.vl 46 123 (by kernel_rfl) K46), ?_⟩
        exact giv_run (run_ldB rfl (eval_tmp (hh 10 _ rfl (F66.at 10 rfl))) ((M12.grow hS).at 0 rfl) Tryd.underlying36 rfl szBox rfl) K48
      · refine asks_mk fun a W hS hh hd => ⟨wanted_of (j := 46) (s := 123) (by kernel_rfl) (hd.vl 46 123 (by kernel_rfl) K46), ?_⟩
        exact giv_run (run_eqBox (by rw [heq hMn, beq_self_eq_true]) rfl (eval_tmp (hd.vl 47 124 (by kernel_rfl) K47)) (eval_tmp (hd.vl 48 125 (by kernel_rfl) K48))) K49
      · refine asks_mk fun a W hS hh hd => ⟨wanted_of (j := 46) (s := 123) (by kernel_rfl) (hd.vl 46 123 (by kernel_rfl) K46), ?_⟩
        exact giv_run (run_fldA (m := 1) (s := 0) rfl (eval_tmp (hh 4 _ rfl (F66.at 4 rfl))) Tryd.underlying31 rfl rfl (by kernel_rfl) (by decide)) K50
      · refine asks_mk fun a W hS hh hd => ⟨wanted_of (j := 46) (s := 123) (by kernel_rfl) (hd.vl 46 123 (by kernel_rfl) K46), ?_⟩
        exact giv_run (run_ldF rfl (eval_tmp (hd.vl 50 127 (by kernel_rfl) K50)) ((M12.grow hS).at 3 rfl) rfl (by kernel_rfl)) K51
      · refine asks_mk fun a W hS hh hd => ⟨wanted_of (j := 46) (s := 123) (by kernel_rfl) (hd.vl 46 123 (by kernel_rfl) K46), ?_⟩
        exact giv_run (run_lenS rfl (eval_tmp (hd.vl 51 128 (by kernel_rfl) K51)) (hU.below (M12.grow hS).below) rfl Tryd.underlying29) K52
      · refine asks_mk fun a W hS hh hd => ⟨wanted_of (j := 46) (s := 123) (by kernel_rfl) (hd.vl 46 123 (by kernel_rfl) K46), ?_⟩
        exact giv_run (run_eqi rfl (eval_tmp (hd.vl 52 129 (by kernel_rfl) K52)) rfl (beq_iff_eq.2 (by omega))) K53
      · refine asks_mk fun a W hS hh hd => ⟨wanted_of (j := 46) (s := 123) (by kernel_rfl) (hd.vl 46 123 (by kernel_rfl) K46), ?_⟩
        exact giv_run (run_eqb rfl (eval_tmp (hd.vl 49 126 (by kernel_rfl) K49)) (eval_tmp (hd.vl 53 130 (by kernel_rfl) K53)) Tryd.underlying4 rfl) K54
      · exact asksY rfl fun a W hS hh hd => giv_run (run_pick rfl (eval_tmp (hd.vl 46 123 (by kernel_rfl) K46)) (eval_tmp (hd.vl 54 131 (by kernel_rfl) K54)) rfl) K55
      · exact asksY rfl fun a W hS hh hd => giv_run (run_as rfl (eval_tmp (hd.vl 55 132 (by kernel_rfl) K55))) K56
    · intro a67 w13 hb13 hK
      have e0 := hK.vl 0 77 (by kernel_rfl) K0
      have e1 := hK.vl 1 78 (by kernel_rfl) K1
      have e2 := hK.vl 2 79 (by kernel_rfl) K2
      have e3 := hK.vl 3 80 (by kernel_rfl) K3
      have e4 := hK.vl 4 81 (by kernel_rfl) K4
      have e5 := hK.vl 5 82 (by kernel_rfl) K5
      have e6 := hK.vl 6 83 (by kernel_rfl) K6
      have e7 := hK.vl 7 84 (by kernel_rfl) K7
      have e8 := hK.vl 8 85 (by kernel_rfl) K8
      have e9 := hK.vl 9 86 (by kernel_rfl) K9
      have e10 := hK.vl 10 87 (by kernel_rfl) K10
      have e11 := hK.vl 11 88 (by kernel_rfl) K11
      have e12 := hK.vl 12 89 (by kernel_rfl) K12
      have e13 := hK.vl 13 90 (by kernel_rfl) K13
      have e14 := hK.vl 14 91 (by kernel_rfl) K14
      have e15 := hK.vl 15 92 (by kernel_rfl) K15
      have e16 := hK.vl 16 93 (by kernel_rfl) K16
      have e17 := hK.vl 17 94 (by kernel_rfl) K17
      have e18 := hK.vl 18 95 (by kernel_rfl) K18
      have e19 := hK.vl 19 96 (by kernel_rfl) K19
      have e20 := hK.vl 20 97 (by kernel_rfl) K20
      have e21 := hK.vl 21 98 (by kernel_rfl) K21
      have e22 := hK.vl 22 99 (by kernel_rfl) K22
      have e23 := hK.vl 23 100 (by kernel_rfl) K23
      have e24 := hK.vl 24 101 (by kernel_rfl) K24
      have e25 := hK.vl 25 102 (by kernel_rfl) K25
      have e26 := hK.vl 26 103 (by kernel_rfl) K26
      have e27 := hK.vl 27 104 (by kernel_rfl) K27
      have e28 := hK.vl 28 105 (by kernel_rfl) K28
      have e29 := hK.vl 29 106 (by kernel_rfl) K29
      have e30 := hK.vl 30 107 (by kernel_rfl) K30
      have e31 := hK.vl 31 108 (by kernel_rfl) K31
      have e32 := hK.vl 32 109 (by kernel_rfl) K32
      have e33 := hK.vl 33 110 (by kernel_rfl) K33
      have e34 := hK.vl 34 111 (by kernel_rfl) K34
      have e35 := hK.vl 35 112 (by kernel_rfl) K35
      have e36 := hK.vl 36 113 (by kernel_rfl) K36
      have e37 := hK.vl 37 114 (by kernel_rfl) K37
      have e38 := hK.vl 38 115 (by kernel_rfl) K38
      have e39 := hK.vl 39 116 (by kernel_rfl) K39
      have e40 := hK.vl 40 117 (by kernel_rfl) K40
      have e41 := hK.vl 41 118 (by kernel_rfl) K41
      have e42 := hK.vl 42 119 (by kernel_rfl) K42
      have e43 := hK.vl 43 120 (by kernel_rfl) K43
      have e44 := hK.vl 44 121 (by kernel_rfl) K44
      have e45 := hK.vl 45 122 (by kernel_rfl) K45
      have e46 := hK.vl 46 123 (by kernel_rfl) K46
      have e47 := hK.vl 47 124 (by kernel_rfl) K47
      have e48 := hK.vl 48 125 (by kernel_rfl) K48
      have e49 := hK.vl 49 126 (by kernel_rfl) K49
      have e50 := hK.vl 50 127 (by kernel_rfl) K50
      have e51 := hK.vl 51 128 (by kernel_rfl) K51
      have e52 := hK.vl 52 129 (by kernel_rfl) K52
      have e53 := hK.vl 53 130 (by kernel_rfl) K53
      have e54 := hK.vl 54 131 (by kernel_rfl) K54
      have e55 := hK.vl 55 132 (by kernel_rfl) K55
      have e56 := hK.vl 56 6 (by kernel_rfl) K56
      have F67 : Fr a67 133 [(0, (.agg #[v])), (1, (.agg #[u])), (2, (.string ⟨d.toArray⟩)), (3, (.pointer (some ⟨g0, 0, none⟩))), (4, (.pointer (some ⟨g1, 0, none⟩))), (6, (.bool true)), (7, (.pointer (some ⟨gA, 0, none⟩))), (8, (.pointer (some ⟨g2, 0, none⟩))), (10, (.pointer (some ⟨g3, 0, none⟩))), (48, (.tuple #[(.agg #[.string ⟨Nm.toArray⟩, .string ⟨D1.toArray⟩]), (.int .i64 0)])), (49, (.agg #[v])), (50, (.string ⟨d.toArray⟩)), (51, (.tuple #[(.agg #[.string ⟨Nm.toArray⟩, .string ⟨D1.toArray⟩]), (.int .i64 0)])), (52, (.agg #[.string ⟨Nm.toArray⟩, .string ⟨D1.toArray⟩])), (53, (.int .i64 0)), (54, (.tuple #[(.agg #[.string ⟨Nm.toArray⟩, .string ⟨D2.toArray⟩]), (.int .i64 0)])), (55, (.agg #[uA])), (56, (.string ⟨d.toArray⟩)), (57, (.tuple #[(.agg #[.string ⟨Nm.toArray⟩, .string ⟨D2.toArray⟩]), (.int .i64 0)])), (58, (.agg #[.string ⟨Nm.toArray⟩, .string ⟨D2.toArray⟩])), (59, (.int .i64 0)), (60, (.tuple #[(.string ⟨d.toArray⟩), (.int .i64 0)])), (61, (.agg #[uA])), (62, (.agg #[.string ⟨Nm.toArray⟩, .string ⟨D1.toArray⟩])), (63, (.tuple #[(.string ⟨d.toArray⟩), (.int .i64 0)])), (64, (.string ⟨d.toArray⟩)), (65, (.int .i64 0)), (66, (.tuple #[(.string ⟨d.toArray⟩), (.int .i64 0)])), (67, (.agg #[uA])), (68, (.agg #[.string ⟨Nm.toArray⟩, .string ⟨D2.toArray⟩])), (69, (.tuple #[(.string ⟨d.toArray⟩), (.int .i64 0)])), (70, (.string ⟨d.toArray⟩)), (71, (.int .i64 0)), (72, (.tuple #[(.int .i64 (((K ++ M).length - 1 : Nat) : Int)), (.int .i64 0)])), (73, (.agg #[.string ⟨Nm.toArray⟩, .string ⟨D2.toArray⟩])), (74, (.tuple #[(.int .i64 (((K ++ M).length - 1 : Nat) : Int)), (.int .i64 0)])), (75, (.int .i64 (((K ++ M).length - 1 : Nat) : Int))), (76, (.int .i64 0))] := (hK.fr F66 [_, _, _, _, _, _, _, _, _, _, _, _, _, _, _, _, _, _, _, _, _, _, _, _, _, _, _, _, _, _, _, _, _, _, _, _, _, _, _, _, _, _, _, _, _, _, _, _, _, _, _, _, _, _, _, _, _] ⟨e0, e1, e2, e3, e4, e5, e6, e7, e8, e9, e10, e11, e12, e13, e14, e15, e16, e17, e18, e19, e20, e21, e22, e23, e24, e25, e26, e27, e28, e29, e30, e31, e32, e33, e34, e35, e36, e37, e38, e39, e40, e41, e42, e43, e44, e45, e46, e47, e48, e49, e50, e51, e52, e53, e54, e55, e56, trivial⟩).sub ⟨rfl, rfl, rfl, rfl, rfl, rfl, rfl, rfl, rfl, rfl, rfl, rfl, rfl, rfl, rfl, rfl, rfl, rfl, rfl, rfl, rfl, rfl, rfl, rfl, rfl, rfl, rfl, rfl, rfl, rfl, rfl, rfl, rfl, rfl, rfl, rfl, rfl, rfl, trivial⟩
      have M13 := M12.grow hb13
      have hO11 := hO10.grow hb13
      clear hK K0 e0 K1 e1 K2 e2 K3 e3 K4 e4 K5 e5 K6 e6 K7 e7 K8 e8 K9 e9 K10 e10 K11 e11 K12 e12 K13 e13 K14 e14 K15 e15 K16 e16 K17 e17 K18 e18 K19 e19 K20 e20 K21 e21 K22 e22 K23 e23 K24 e24 K25 e25 K26 e26 K27 e27 K28 e28 K29 e29 K30 e30 K31 e31 K32 e32 K33 e33 K34 e34 K35 e35 K36 e36 K37 e37 K38 e38 K39 e39 K40 e40 K41 e41 K42 e42 K43 e43 K44 e44 K45 e45 K46 e46 K47 e47 K48 e48 K49 e49 K50 e50 K51 e51 K52 e52 K53 e53 K54 e54 K55 e55 K56 e56
      clear F66 M12
      refine nx ?_
      refine wp_ret ?_
      exact ret1 F67 rfl rfl ⟨rfl, M13.below⟩
  · have hm0 : 0 < M.length := List.length_pos_iff.2 hMn
    have hbq : ((Nm, D1) == (Nm, D2)) = false := beq_eq_false_iff_ne.2 (fun h => hne hMn (by injection h))
    obtain ⟨KL, hKL⟩ : ∃ KL, KL = [kval (.bool true), kval (.bool true), kval (.int .i64 0), kval (.bool true), kval (.bool true), kval (.bool true), kval (.int .i64 0), kval (.bool true), kval (.bool true), kval (.bool true), kval (.int .i64 0), kval (.bool true), kval (.bool true), kval (.bool true), kval (.int .i64 0), kval (.bool true), kval (.bool true), kval (.bool true), kval (.int .i64 0), kval (.bool true), kval (.bool true), kval (.bool true), kval (.string ⟨d.toArray⟩), kval (.string ⟨d.toArray⟩), kval (.bool true), kval (.bool true), kval (.bool true), kval (.string ⟨d.toArray⟩), kval (.string ⟨d.toArray⟩), kval (.bool true), kval (.bool true), kval (.bool true), kval (.pointer (some ⟨g2, 0, none⟩)), kval (.string ⟨Nm.toArray⟩), kval (.pointer (some ⟨g3, 0, none⟩)), kval (.string ⟨Nm.toArray⟩), kval (.bool true), kval (.bool true), kval (.bool true), kval (.int .i64 (((K ++ M).length - 1 : Nat) : Int)), kval (.pointer (some ⟨gA, 0, none⟩)), kval uA, kval (.int .i64 ((K ++ M).length : Int)), kval (.int .i64 (((K ++ M).length - 1 : Nat) : Int)), kval (.bool true), kval (.bool true), kval (.bool true), kval (.agg #[.string ⟨Nm.toArray⟩, .string ⟨D1.toArray⟩]), kval (.agg #[.string ⟨Nm.toArray⟩, .string ⟨D2.toArray⟩]), kval (.bool false), kval (.pointer (some ⟨g1, 0, none⟩)), kval u, kval (.int .i64 (M.length : Int)), kval (.bool false), kval (.bool true), kval (.bool true), kval (.bool true)] := ⟨_, rfl⟩
    have K0 := getK hKL 0
    have K1 := getK hKL 1
    have K2 := getK hKL 2
    have K3 := getK hKL 3
    have K4 := getK hKL 4
    have K5 := getK hKL 5
    have K6 := getK hKL 6
    have K7 := getK hKL 7
    have K8 := getK hKL 8
    have K9 := getK hKL 9
    have K10 := getK hKL 10
    have K11 := getK hKL 11
    have K12 := getK hKL 12
    have K13 := getK hKL 13
    have K14 := getK hKL 14
    have K15 := getK hKL 15
    have K16 := getK hKL 16
    have K17 := getK hKL 17
    have K18 := getK hKL 18
    have K19 := getK hKL 19
    have K20 := getK hKL 20
    have K21 := getK hKL 21
    have K22 := getK hKL 22
    have K23 := getK hKL 23
    have K24 := getK hKL 24
    have K25 := getK hKL 25
    have K26 := getK hKL 26
    have K27 := getK hKL 27
    have K28 := getK hKL 28
    have K29 := getK hKL 29
    have K30 := getK hKL 30
    have K31 := getK hKL 31
    have K32 := getK hKL 32
    have K33 := getK hKL 33
    have K34 := getK hKL 34
    have K35 := getK hKL 35
    have K36 := getK hKL 36
    have K37 := getK hKL 37
    have K38 := getK hKL 38
    have K39 := getK hKL 39
    have K40 := getK hKL 40
    have K41 := getK hKL 41
    have K42 := getK hKL 42
    have K43 := getK hKL 43
    have K44 := getK hKL 44
    have K45 := getK hKL 45
    have K46 := getK hKL 46
    have K47 := getK hKL 47
    have K48 := getK hKL 48
    have K49 := getK hKL 49
    have K50 := getK hKL 50
    have K51 := getK hKL 51
    have K52 := getK hKL 52
    have K53 := getK hKL 53
    have K54 := getK hKL 54
    have K55 := getK hKL 55
    have K56 := getK hKL 56
    clear hKL
    refine wp_region_kd 133 (by kernel_rfl) (by kernel_rfl) (by kernel_rfl) F66.size KL ?_ ?_
    · refine ⟨?_, ?_, ?_, ?_, ?_, ?_, ?_, ?_, ?_, ?_, ?_, ?_, ?_, ?_, ?_, ?_, ?_, ?_, ?_, ?_, ?_, ?_, ?_, ?_, ?_, ?_, ?_, ?_, ?_, ?_, ?_, ?_, ?_, ?_, ?_, ?_, ?_, ?_, ?_, ?_, ?_, ?_, ?_, ?_, ?_, ?_, ?_, ?_, ?_, ?_, ?_, ?_, ?_, ?_, ?_, ?_, ?_, trivial⟩
      · exact asksY rfl fun a W hS hh hd => giv_call (run_call rfl Tryd.func11 (by kernel_rfl) rfl (mapE0 )) (fixed39_any W) K0
      · exact asksY rfl fun a W hS hh hd => giv_run (run_mv rfl (eval_tmp (hd.vl 0 77 (by kernel_rfl) K0))) K1
      · refine asks_mk fun a W hS hh hd => ⟨wanted_of (j := 1) (s := 78) (by kernel_rfl) (hd.vl 1 78 (by kernel_rfl) K1), ?_⟩
        exact giv_run (run_mv rfl (eval_tmp (hh 9 _ rfl (F66.at 9 rfl)))) K2
      · refine asks_mk fun a W hS hh hd => ⟨wanted_of (j := 1) (s := 78) (by kernel_rfl) (hd.vl 1 78 (by kernel_rfl) K1), ?_⟩
        exact giv_run (run_eqi rfl (eval_tmp (hd.vl 2 79 (by kernel_rfl) K2)) rfl (beq_iff_eq.2 (by omega))) K3
      · exact asksY rfl fun a W hS hh hd => giv_run (run_pick rfl (eval_tmp (hd.vl 1 78 (by kernel_rfl) K1)) (eval_tmp (hd.vl 3 80 (by kernel_rfl) K3)) rfl) K4
      · exact asksY rfl fun a W hS hh hd => giv_run (run_mv rfl (eval_tmp (hd.vl 4 81 (by kernel_rfl) K4))) K5
      · refine asks_mk fun a W hS hh hd => ⟨wanted_of (j := 5) (s := 82) (by kernel_rfl) (hd.vl 5 82 (by kernel_rfl) K5), ?_⟩
        exact giv_run (run_mv rfl (eval_tmp (hh 11 _ rfl (F66.at 11 rfl)))) K6
      · refine asks_mk fun a W hS hh hd => ⟨wanted_of (j := 5) (s := 82) (by kernel_rfl) (hd.vl 5 82 (by kernel_rfl) K5), ?_⟩
        exact giv_run (run_eqi rfl (eval_tmp (hd.vl 6 83 (by kernel_rfl) K6)) rfl (beq_iff_eq.2 (by omega))) K7
      · exact asksY rfl fun a W hS hh hd => giv_run (run_pick rfl (eval_tmp (hd.vl 5 82 (by kernel_rfl) K5)) (eval_tmp (hd.vl 7 84 (by kernel_rfl) K7)) rfl) K8
      · exact asksY rfl fun a W hS hh hd => giv_run (run_mv rfl (eval_tmp (hd.vl 8 85 (by kernel_rfl) K8))) K9
      · refine asks_mk fun a W hS hh hd => ⟨wanted_of (j := 9) (s := 86) (by kernel_rfl) (hd.vl 9 86 (by kernel_rfl) K9), ?_⟩
        exact giv_run (run_mv rfl (eval_tmp (hh 13 _ rfl (F66.at 13 rfl)))) K10
      · refine asks_mk fun a W hS hh hd => ⟨wanted_of (j := 9) (s := 86) (by kernel_rfl) (hd.vl 9 86 (by kernel_rfl) K9), ?_⟩
        exact giv_run (run_eqi rfl (eval_tmp (hd.vl 10 87 (by kernel_rfl) K10)) rfl (beq_iff_eq.2 (by omega))) K11
      · exact asksY rfl fun a W hS hh hd => giv_run (run_pick rfl (eval_tmp (hd.vl 9 86 (by kernel_rfl) K9)) (eval_tmp (hd.vl 11 88 (by kernel_rfl) K11)) rfl) K12
      · exact asksY rfl fun a W hS hh hd => giv_run (run_mv rfl (eval_tmp (hd.vl 12 89 (by kernel_rfl) K12))) K13
      · refine asks_mk fun a W hS hh hd => ⟨wanted_of (j := 13) (s := 90) (by kernel_rfl) (hd.vl 13 90 (by kernel_rfl) K13), ?_⟩
        exact giv_run (run_mv rfl (eval_tmp (hh 15 _ rfl (F66.at 15 rfl)))) K14
      · refine asks_mk fun a W hS hh hd => ⟨wanted_of (j := 13) (s := 90) (by kernel_rfl) (hd.vl 13 90 (by kernel_rfl) K13), ?_⟩
        exact giv_run (run_eqi rfl (eval_tmp (hd.vl 14 91 (by kernel_rfl) K14)) rfl (beq_iff_eq.2 (by omega))) K15
      · exact asksY rfl fun a W hS hh hd => giv_run (run_pick rfl (eval_tmp (hd.vl 13 90 (by kernel_rfl) K13)) (eval_tmp (hd.vl 15 92 (by kernel_rfl) K15)) rfl) K16
      · exact asksY rfl fun a W hS hh hd => giv_run (run_mv rfl (eval_tmp (hd.vl 16 93 (by kernel_rfl) K16))) K17
      · refine asks_mk fun a W hS hh hd => ⟨wanted_of (j := 17) (s := 94) (by kernel_rfl) (hd.vl 17 94 (by kernel_rfl) K17), ?_⟩
        exact giv_run (run_mv rfl (eval_tmp (hh 17 _ rfl (F66.at 17 rfl)))) K18
      · refine asks_mk fun a W hS hh hd => ⟨wanted_of (j := 17) (s := 94) (by kernel_rfl) (hd.vl 17 94 (by kernel_rfl) K17), ?_⟩
        exact giv_run (run_eqi rfl (eval_tmp (hd.vl 18 95 (by kernel_rfl) K18)) rfl (beq_iff_eq.2 (by omega))) K19
      · exact asksY rfl fun a W hS hh hd => giv_run (run_pick rfl (eval_tmp (hd.vl 17 94 (by kernel_rfl) K17)) (eval_tmp (hd.vl 19 96 (by kernel_rfl) K19)) rfl) K20
      · exact asksY rfl fun a W hS hh hd => giv_run (run_mv rfl (eval_tmp (hd.vl 20 97 (by kernel_rfl) K20))) K21
      · refine asks_mk fun a W hS hh hd => ⟨wanted_of (j := 21) (s := 98) (by kernel_rfl) (hd.vl 21 98 (by kernel_rfl) K21), ?_⟩
        exact giv_run (run_mv rfl (eval_tmp (hh 12 _ rfl (F66.at 12 rfl)))) K22
      · refine asks_mk fun a W hS hh hd => ⟨wanted_of (j := 21) (s := 98) (by kernel_rfl) (hd.vl 21 98 (by kernel_rfl) K21), ?_⟩
        exact giv_run (run_mv rfl (eval_tmp (hh 2 _ rfl (F66.at 2 rfl)))) K23
      · refine asks_mk fun a W hS hh hd => ⟨wanted_of (j := 21) (s := 98) (by kernel_rfl) (hd.vl 21 98 (by kernel_rfl) K21), ?_⟩
        exact giv_run (run_eqs rfl (eval_tmp (hd.vl 22 99 (by kernel_rfl) K22)) (eval_tmp (hd.vl 23 100 (by kernel_rfl) K23)) (by simp)) K24
      · exact asksY rfl fun a W hS hh hd => giv_run (run_pick rfl (eval_tmp (hd.vl 21 98 (by kernel_rfl) K21)) (eval_tmp (hd.vl 24 101 (by kernel_rfl) K24)) rfl) K25
      · exact asksY rfl fun a W hS hh hd => giv_run (run_mv rfl (eval_tmp (hd.vl 25 102 (by kernel_rfl) K25))) K26
      · refine asks_mk fun a W hS hh hd => ⟨wanted_of (j := 26) (s := 103) (by kernel_rfl) (hd.vl 26 103 (by kernel_rfl) K26), ?_⟩
        exact giv_run (run_mv rfl (eval_tmp (hh 14 _ rfl (F66.at 14 rfl)))) K27
      · refine asks_mk fun a W hS hh hd => ⟨wanted_of (j := 26) (s := 103) (by kernel_rfl) (hd.vl 26 103 (by kernel_rfl) K26), ?_⟩
        exact giv_run (run_mv rfl (eval_tmp (hh 2 _ rfl (F66.at 2 rfl)))) K28
      · refine asks_mk fun a W hS hh hd => ⟨wanted_of (j := 26) (s := 103) (by kernel_rfl) (hd.vl 26 103 (by kernel_rfl) K26), ?_⟩
        exact giv_run (run_eqs rfl (eval_tmp (hd.vl 27 104 (by kernel_rfl) K27)) (eval_tmp (hd.vl 28 105 (by kernel_rfl) K28)) (by simp)) K29
      · exact asksY rfl fun a W hS hh hd => giv_run (run_pick rfl (eval_tmp (hd.vl 26 103 (by kernel_rfl) K26)) (eval_tmp (hd.vl 29 106 (by kernel_rfl) K29)) rfl) K30
      · exact asksY rfl fun a W hS hh hd => giv_run (run_mv rfl (eval_tmp (hd.vl 30 107 (by kernel_rfl) K30))) K31
      · refine asks_mk fun a W hS hh hd => ⟨wanted_of (j := 31) (s := 108) (by kernel_rfl) (hd.vl 31 108 (by kernel_rfl) K31), ?_⟩
        exact giv_run (run_fldA (m := 1) (s := 0) rfl (eval_tmp (hh 8 _ rfl (F66.at 8 rfl))) Tryd.underlying36 rfl rfl (by kernel_rfl) (by decide)) K32
      · refine asks_mk fun a W hS hh hd => ⟨wanted_of (j := 31) (s := 108) (by kernel_rfl) (hd.vl 31 108 (by kernel_rfl) K31), ?_⟩
        exact giv_run (run_ldF rfl (eval_tmp (hd.vl 32 109 (by kernel_rfl) K32)) ((M12.grow hS).at 1 rfl) rfl (by kernel_rfl)) K33
      · refine asks_mk fun a W hS hh hd => ⟨wanted_of (j := 31) (s := 108) (by kernel_rfl) (hd.vl 31 108 (by kernel_rfl) K31), ?_⟩
        exact giv_run (run_fldA (m := 1) (s := 0) rfl (eval_tmp (hh 10 _ rfl (F66.at 10 rfl))) Tryd.underlying36 rfl rfl (by kernel_rfl) (by decide)) K34
      · refine asks_mk fun a W hS hh hd => ⟨wanted_of (j := 31) (s := 108) (by kernel_rfl) (hd.vl 31 108 (by kernel_rfl) K31), ?_⟩
        exact giv_run (run_ldF rfl (eval_tmp (hd.vl 34 111 (by kernel_rfl) K34)) ((M12.grow hS).at 0 rfl) rfl (by kernel_rfl)) K35
      · refine asks_mk fun a W hS hh hd => ⟨wanted_of (j := 31) (s := 108) (by kernel_rfl) (hd.vl 31 108 (by kernel_rfl) K31), ?_⟩
        exact giv_run (run_eqs rfl (eval_tmp (hd.vl 33 110 (by kernel_rfl) K33)) (eval_tmp (hd.vl 35 112 (by kernel_rfl) K35)) (by simp)) K36
      · exact asksY rfl fun a W hS hh hd => giv_run (run_pick rfl (eval_tmp (hd.vl 31 108 (by kernel_rfl) K31)) (eval_tmp (hd.vl 36 113 (by kernel_rfl) K36)) rfl) K37
      · exact asksY rfl fun a W hS hh hd => giv_run (run_mv rfl (eval_tmp (hd.vl 37 114 (by kernel_rfl) K37))) K38
      · refine asks_mk fun a W hS hh hd => ⟨wanted_of (j := 38) (s := 115) (by kernel_rfl) (hd.vl 38 115 (by kernel_rfl) K38), ?_⟩
        exact giv_run (run_mv rfl (eval_tmp (hh 16 _ rfl (F66.at 16 rfl)))) K39
      · refine asks_mk fun a W hS hh hd => ⟨wanted_of (j := 38) (s := 115) (by kernel_rfl) (hd.vl 38 115 (by kernel_rfl) K38), ?_⟩
        exact giv_run (run_fldA (m := 1) (s := 0) rfl (eval_tmp (hh 7 _ rfl (F66.at 7 rfl))) Tryd.underlying31 rfl rfl (by kernel_rfl) (by decide)) K40
      · refine asks_mk fun a W hS hh hd => ⟨wanted_of (j := 38) (s := 115) (by kernel_rfl) (hd.vl 38 115 (by kernel_rfl) K38), ?_⟩
        exact giv_run (run_ldF rfl (eval_tmp (hd.vl 40 117 (by kernel_rfl) K40)) ((M12.grow hS).at 2 rfl) rfl (by kernel_rfl)) K41
      · refine asks_mk fun a W hS hh hd => ⟨wanted_of (j := 38) (s := 115) (by kernel_rfl) (hd.vl 38 115 (by kernel_rfl) K38), ?_⟩
        exact giv_run (run_lenS rfl (eval_tmp (hd.vl 41 118 (by kernel_rfl) K41)) (Sl.own (hO10.grow hS)) rfl Tryd.underlying29) K42
      · refine asks_mk fun a W hS hh hd => ⟨wanted_of (j := 38) (s := 115) (by kernel_rfl) (hd.vl 38 115 (by kernel_rfl) K38), ?_⟩
        exact giv_run (run_sub (r := (((K ++ M).length - 1 : Nat) : Int)) rfl (eval_tmp (hd.vl 42 119 (by kernel_rfl) K42)) rfl (by rw [IntKind.wrap_i64]; omega)) K43
      · refine asks_mk fun a W hS hh hd => ⟨wanted_of (j := 38) (s := 115) (by kernel_rfl) (hd.vl 38 115 (by kernel_rfl) K38), ?_⟩
        exact giv_run (run_eqi rfl (eval_tmp (hd.vl 39 116 (by kernel_rfl) K39)) (eval_tmp (hd.vl 43 120 (by kernel_rfl) K43)) (beq_iff_eq.2 (by omega))) K44
      · exact asksY rfl fun a W hS hh hd => giv_run (run_pick rfl (eval_tmp (hd.vl 38 115 (by kernel_rfl) K38)) (eval_tmp (hd.vl 44 121 (by kernel_rfl) K44)) rfl) K45
      · exact asksY rfl fun a W hS hh hd => giv_run (run_mv rfl (eval_tmp (hd.vl 45 122 (by kernel_rfl) K45))) K46
      · refine asks_mk fun a W hS hh hd => ⟨wanted_of (j := 46) (s := 123) (by kernel_rfl) (hd.vl 46 123 (by kernel_rfl) K46), ?_⟩
        exact giv_run (run_ldB rfl (eval_tmp (hh 8 _ rfl (F66.at 8 rfl))) ((M12.grow hS).at 1 rfl) Tryd.underlying36 rfl szBox rfl) K47
      · refine asks_mk fun a W hS hh hd => ⟨wanted_of (j := 46) (s := 123) (by kernel_rfl) (hd.vl 46 123 (by kernel_rfl) K46), ?_⟩
        exact giv_run (run_ldB rfl (eval_tmp (hh 10 _ rfl (F66.at 10 rfl))) ((M12.grow hS).at 0 rfl) Tryd.underlying36 rfl szBox rfl) K48
      · refine asks_mk fun a W hS hh hd => ⟨wanted_of (j := 46) (s := 123) (by kernel_rfl) (hd.vl 46 123 (by kernel_rfl) K46), ?_⟩
        exact giv_run (run_eqBox hbq rfl (eval_tmp (hd.vl 47 124 (by kernel_rfl) K47)) (eval_tmp (hd.vl 48 125 (by kernel_rfl) K48))) K49
      · refine asks_mk fun a W hS hh hd => ⟨wanted_of (j := 46) (s := 123) (by kernel_rfl) (hd.vl 46 123 (by kernel_rfl) K46), ?_⟩
        exact giv_run (run_fldA (m := 1) (s := 0) rfl (eval_tmp (hh 4 _ rfl (F66.at 4 rfl))) Tryd.underlying31 rfl rfl (by kernel_rfl) (by decide)) K50
      · refine asks_mk fun a W hS hh hd => ⟨wanted_of (j := 46) (s := 123) (by kernel_rfl) (hd.vl 46 123 (by kernel_rfl) K46), ?_⟩
        exact giv_run (run_ldF rfl (eval_tmp (hd.vl 50 127 (by kernel_rfl) K50)) ((M12.grow hS).at 3 rfl) rfl (by kernel_rfl)) K51
      · refine asks_mk fun a W hS hh hd => ⟨wanted_of (j := 46) (s := 123) (by kernel_rfl) (hd.vl 46 123 (by kernel_rfl) K46), ?_⟩
        exact giv_run (run_lenS rfl (eval_tmp (hd.vl 51 128 (by kernel_rfl) K51)) (hU.below (M12.grow hS).below) rfl Tryd.underlying29) K52
      · refine asks_mk fun a W hS hh hd => ⟨wanted_of (j := 46) (s := 123) (by kernel_rfl) (hd.vl 46 123 (by kernel_rfl) K46), ?_⟩
        exact giv_run (run_eqi rfl (eval_tmp (hd.vl 52 129 (by kernel_rfl) K52)) rfl (beq_eq_false_iff_ne.2 (by omega))) K53
      · refine asks_mk fun a W hS hh hd => ⟨wanted_of (j := 46) (s := 123) (by kernel_rfl) (hd.vl 46 123 (by kernel_rfl) K46), ?_⟩
        exact giv_run (run_eqb rfl (eval_tmp (hd.vl 49 126 (by kernel_rfl) K49)) (eval_tmp (hd.vl 53 130 (by kernel_rfl) K53)) Tryd.underlying4 rfl) K54
      · exact asksY rfl fun a W hS hh hd => giv_run (run_pick rfl (eval_tmp (hd.vl 46 123 (by kernel_rfl) K46)) (eval_tmp (hd.vl 54 131 (by kernel_rfl) K54)) rfl) K55
      · exact asksY rfl fun a W hS hh hd => giv_run (run_as rfl (eval_tmp (hd.vl 55 132 (by kernel_rfl) K55))) K56
    · intro a67 w13 hb13 hK
      have e0 := hK.vl 0 77 (by kernel_rfl) K0
      have e1 := hK.vl 1 78 (by kernel_rfl) K1
      have e2 := hK.vl 2 79 (by kernel_rfl) K2
      have e3 := hK.vl 3 80 (by kernel_rfl) K3
      have e4 := hK.vl 4 81 (by kernel_rfl) K4
      have e5 := hK.vl 5 82 (by kernel_rfl) K5
      have e6 := hK.vl 6 83 (by kernel_rfl) K6
      have e7 := hK.vl 7 84 (by kernel_rfl) K7
      have e8 := hK.vl 8 85 (by kernel_rfl) K8
      have e9 := hK.vl 9 86 (by kernel_rfl) K9
      have e10 := hK.vl 10 87 (by kernel_rfl) K10
      have e11 := hK.vl 11 88 (by kernel_rfl) K11
      have e12 := hK.vl 12 89 (by kernel_rfl) K12
      have e13 := hK.vl 13 90 (by kernel_rfl) K13
      have e14 := hK.vl 14 91 (by kernel_rfl) K14
      have e15 := hK.vl 15 92 (by kernel_rfl) K15
      have e16 := hK.vl 16 93 (by kernel_rfl) K16
      have e17 := hK.vl 17 94 (by kernel_rfl) K17
      have e18 := hK.vl 18 95 (by kernel_rfl) K18
      have e19 := hK.vl 19 96 (by kernel_rfl) K19
      have e20 := hK.vl 20 97 (by kernel_rfl) K20
      have e21 := hK.vl 21 98 (by kernel_rfl) K21
      have e22 := hK.vl 22 99 (by kernel_rfl) K22
      have e23 := hK.vl 23 100 (by kernel_rfl) K23
      have e24 := hK.vl 24 101 (by kernel_rfl) K24
      have e25 := hK.vl 25 102 (by kernel_rfl) K25
      have e26 := hK.vl 26 103 (by kernel_rfl) K26
      have e27 := hK.vl 27 104 (by kernel_rfl) K27
      have e28 := hK.vl 28 105 (by kernel_rfl) K28
      have e29 := hK.vl 29 106 (by kernel_rfl) K29
      have e30 := hK.vl 30 107 (by kernel_rfl) K30
      have e31 := hK.vl 31 108 (by kernel_rfl) K31
      have e32 := hK.vl 32 109 (by kernel_rfl) K32
      have e33 := hK.vl 33 110 (by kernel_rfl) K33
      have e34 := hK.vl 34 111 (by kernel_rfl) K34
      have e35 := hK.vl 35 112 (by kernel_rfl) K35
      have e36 := hK.vl 36 113 (by kernel_rfl) K36
      have e37 := hK.vl 37 114 (by kernel_rfl) K37
      have e38 := hK.vl 38 115 (by kernel_rfl) K38
      have e39 := hK.vl 39 116 (by kernel_rfl) K39
      have e40 := hK.vl 40 117 (by kernel_rfl) K40
      have e41 := hK.vl 41 118 (by kernel_rfl) K41
      have e42 := hK.vl 42 119 (by kernel_rfl) K42
      have e43 := hK.vl 43 120 (by kernel_rfl) K43
      have e44 := hK.vl 44 121 (by kernel_rfl) K44
      have e45 := hK.vl 45 122 (by kernel_rfl) K45
      have e46 := hK.vl 46 123 (by kernel_rfl) K46
      have e47 := hK.vl 47 124 (by kernel_rfl) K47
      have e48 := hK.vl 48 125 (by kernel_rfl) K48
      have e49 := hK.vl 49 126 (by kernel_rfl) K49
      have e50 := hK.vl 50 127 (by kernel_rfl) K50
      have e51 := hK.vl 51 128 (by kernel_rfl) K51
      have e52 := hK.vl 52 129 (by kernel_rfl) K52
      have e53 := hK.vl 53 130 (by kernel_rfl) K53
      have e54 := hK.vl 54 131 (by kernel_rfl) K54
      have e55 := hK.vl 55 132 (by kernel_rfl) K55
      have e56 := hK.vl 56 6 (by kernel_rfl) K56
      have F67 : Fr a67 133 [(0, (.agg #[v])), (1, (.agg #[u])), (2, (.string ⟨d.toArray⟩)), (3, (.pointer (some ⟨g0, 0, none⟩))), (4, (.pointer (some ⟨g1, 0, none⟩))), (6, (.bool true)), (7, (.pointer (some ⟨gA, 0, none⟩))), (8, (.pointer (some ⟨g2, 0, none⟩))), (10, (.pointer (some ⟨g3, 0, none⟩))), (48, (.tuple #[(.agg #[.string ⟨Nm.toArray⟩, .string ⟨D1.toArray⟩]), (.int .i64 0)])), (49, (.agg #[v])), (50, (.string ⟨d.toArray⟩)), (51, (.tuple #[(.agg #[.string ⟨Nm.toArray⟩, .string ⟨D1.toArray⟩]), (.int .i64 0)])), (52, (.agg #[.string ⟨Nm.toArray⟩, .string ⟨D1.toArray⟩])), (53, (.int .i64 0)), (54, (.tuple #[(.agg #[.string ⟨Nm.toArray⟩, .string ⟨D2.toArray⟩]), (.int .i64 0)])), (55, (.agg #[uA])), (56, (.string ⟨d.toArray⟩)), (57, (.tuple #[(.agg #[.string ⟨Nm.toArray⟩, .string ⟨D2.toArray⟩]), (.int .i64 0)])), (58, (.agg #[.string ⟨Nm.toArray⟩, .string ⟨D2.toArray⟩])), (59, (.int .i64 0)), (60, (.tuple #[(.string ⟨d.toArray⟩), (.int .i64 0)])), (61, (.agg #[uA])), (62, (.agg #[.string ⟨Nm.toArray⟩, .string ⟨D1.toArray⟩])), (63, (.tuple #[(.string ⟨d.toArray⟩), (.int .i64 0)])), (64, (.string ⟨d.toArray⟩)), (65, (.int .i64 0)), (66, (.tuple #[(.string ⟨d.toArray⟩), (.int .i64 0)])), (67, (.agg #[uA])), (68, (.agg #[.string ⟨Nm.toArray⟩, .string ⟨D2.toArray⟩])), (69, (.tuple #[(.string ⟨d.toArray⟩), (.int .i64 0)])), (70, (.string ⟨d.toArray⟩)), (71, (.int .i64 0)), (72, (.tuple #[(.int .i64 (((K ++ M).length - 1 : Nat) : Int)), (.int .i64 0)])), (73, (.agg #[.string ⟨Nm.toArray⟩, .string ⟨D2.toArray⟩])), (74, (.tuple #[(.int .i64 (((K ++ M).length - 1 : Nat) : Int)), (.int .i64 0)])), (75, (.int .i64 (((K ++ M).length - 1 : Nat) : Int))), (76, (.int .i64 0))] := (hK.fr F66 [_, _, _, _, _, _, _, _, _, _, _, _, _, _, _, _, _, _, _, _, _, _, _, _, _, _, _, _, _, _, _, _, _, _, _, _, _, _, _, _, _, _, _, _, _, _, _, _, _, _, _, _, _, _, _, _, _] ⟨e0, e1, e2, e3, e4, e5, e6, e7, e8, e9, e10, e11, e12, e13, e14, e15, e16, e17, e18, e19, e20, e21, e22, e23, e24, e25, e26, e27, e28, e29, e30, e31, e32, e33, e34, e35, e36, e37, e38, e39, e40, e41, e42, e43, e44, e45, e46, e47, e48, e49, e50, e51, e52, e53, e54, e55, e56, trivial⟩).sub ⟨rfl, rfl, rfl, rfl, rfl, rfl, rfl, rfl, rfl, rfl, rfl, rfl, rfl, rfl, rfl, rfl, rfl, rfl, rfl, rfl, rfl, rfl, rfl, rfl, rfl, rfl, rfl, rfl, rfl, rfl, rfl, rfl, rfl, rfl, rfl, rfl, rfl, rfl, trivial⟩
      have M13 := M12.grow hb13
      have hO11 := hO10.grow hb13
      clear hK K0 e0 K1 e1 K2 e2 K3 e3 K4 e4 K5 e5 K6 e6 K7 e7 K8 e8 K9 e9 K10 e10 K11 e11 K12 e12 K13 e13 K14 e14 K15 e15 K16 e16 K17 e17 K18 e18 K19 e19 K20 e20 K21 e21 K22 e22 K23 e23 K24 e24 K25 e25 K26 e26 K27 e27 K28 e28 K29 e29 K30 e30 K31 e31 K32 e32 K33 e33 K34 e34 K35 e35 K36 e36 K37 e37 K38 e38 K39 e39 K40 e40 K41 e41 K42 e42 K43 e43 K44 e44 K45 e45 K46 e46 K47 e47 K48 e48 K49 e49 K50 e50 K51 e51 K52 e52 K53 e53 K54 e54 K55 e55 K56 e56
      clear F66 M12
      refine nx ?_
      refine wp_ret ?_
      exact ret1 F67 rfl rfl ⟨rfl, M13.below⟩
end Go.Proofs.YtdjjiblijbjobaaDoor
