/- The law ChunkSeals. Printed by gen_chk7.py. -/
import Derived.Test.YtdjjiblijbjobaaDoorChk0
import Derived.Test.YtdjjiblijbjobaaDoorChk2
namespace Go.Proofs.YtdjjiblijbjobaaDoor
open Go.RowKit

set_option maxRecDepth 100000 in
set_option maxHeartbeats 1000000 in
theorem lawSeals_any (K : List (List UInt8)) (v : Value) (d : List UInt8) (w : World) (HG : Glob w) (hV : Sl w v 32 K.length (K.flatMap dgC)) (h32 : ∀ k ∈ K, k.length = 32) (_hd : d.length ≤ maxLen) : Calls Tryd.prog 6 #[.agg #[v], .string ⟨d.toArray⟩] w fun e w' => e = .returned (.bool true) ∧ Below w.heap.size w w' := by
  by_cases h1 : 400 < d.length ∧ d.length ≤ 65536
  · skip
    refine walk_enter Tryd.func6 rfl rfl rfl fun a0 F0 => ?_
    have M0 := Mem.new w
    refine wsl ?_
    refine sqNew (cs := #[v]) (t := 31) F0 M0 (wantedS rfl) (run_box rfl (F0.ev 0 rfl)) rfl (by decide) fun g0 a1 w1 hgg0 hb1 F1 M1 => ?_
    refine sr (v := (.bool false)) F1 (run_as rfl rfl) rfl rfl rfl fun a2 F2 => ?_
    refine sn ?_
    clear F0 F1 M0
    refine wp_seq ?_
    refine wsl ?_
    refine mvS F2 rfl rfl rfl rfl rfl fun a3 F3 => ?_
    refine sr F3 (run_len rfl (F3.ev 13 rfl) rfl Tryd.underlying9) rfl rfl rfl fun a4 F4 => ?_
    refine sr (v := (.bool true)) F4 (run_gtr rfl (F4.ev 14 rfl) rfl (decide_eq_true (by omega))) rfl rfl rfl fun a5 F5 => ?_
    refine mvS F5 rfl rfl rfl rfl rfl fun a6 F6 => ?_
    refine sq (v := (.string ⟨d.toArray⟩)) F6 (wantedG F6 rfl rfl rfl rfl rfl) (run_mv rfl (F6.ev 1 rfl)) rfl (by decide) fun a7 F7 => ?_
    refine sq (v := (.int .i64 (d.length : Int))) F7 (wantedG F7 rfl rfl rfl rfl rfl) (run_len rfl (F7.ev 17 rfl) rfl Tryd.underlying9) rfl (by decide) fun a8 F8 => ?_
    refine sq (v := (.bool true)) F8 (wantedG F8 rfl rfl rfl rfl rfl) (run_leq rfl (F8.ev 18 rfl) rfl (decide_eq_true (by omega))) rfl (by decide) fun a9 F9 => ?_
    refine sr (v := (.bool true)) F9 (run_pick rfl (F9.ev 16 rfl) (F9.ev 19 rfl) rfl) rfl rfl rfl fun a10 F10 => ?_
    refine mvS F10 rfl rfl rfl rfl rfl fun a11 F11 => ?_
    refine sqSkip F11 (unwantedG F11 rfl rfl rfl rfl rfl) rfl (by decide) fun a12 F12 => ?_
    refine sqSkip F12 (unwantedG F12 rfl rfl rfl rfl rfl) rfl (by decide) fun a13 F13 => ?_
    refine sqSkip F13 (unwantedG F13 rfl rfl rfl rfl rfl) rfl (by decide) fun a14 F14 => ?_
    refine sqSkip F14 (unwantedG F14 rfl rfl rfl rfl rfl) rfl (by decide) fun a15 F15 => ?_
    refine sr (v := (.bool true)) F15 (run_pick rfl (F15.ev 21 rfl) rfl (F15.ev 25 rfl)) rfl rfl rfl fun a16 F16 => ?_
    refine sn ?_
    clear F2 F3 F4 F5 F6 F7 F8 F9 F10 F11 F12 F13 F14 F15
    refine wp_cond_true (F16.ev 26 rfl) ?_
    refine wsl ?_
    refine sqC (v := (.bool true)) F16 M1 (wantedS rfl) (run_call rfl Tryd.func11 (by kernel_rfl) rfl (mapE0 )) rfl (by decide) (fixed39_any w1) fun a17 w2 hb2 F17 M2 => ?_
    refine asS F17 rfl rfl rfl rfl rfl fun a18 F18 => ?_
    refine sn ?_
    clear F16 F17 M1
    refine wp_ret ?_
    refine nxRet ?_
    exact ret1 F18 rfl rfl ⟨rfl, M2.below⟩
  by_cases h3 : 20 < K.length
  · by_cases h4 : 400 < d.length
    · skip
      refine walk_enter Tryd.func6 rfl rfl rfl fun a0 F0 => ?_
      have M0 := Mem.new w
      refine wsl ?_
      refine sqNew (cs := #[v]) (t := 31) F0 M0 (wantedS rfl) (run_box rfl (F0.ev 0 rfl)) rfl (by decide) fun g0 a1 w1 hgg0 hb1 F1 M1 => ?_
      refine sr (v := (.bool false)) F1 (run_as rfl rfl) rfl rfl rfl fun a2 F2 => ?_
      refine sn ?_
      clear F0 F1 M0
      refine wp_seq ?_
      refine wsl ?_
      refine mvS F2 rfl rfl rfl rfl rfl fun a3 F3 => ?_
      refine sr F3 (run_len rfl (F3.ev 13 rfl) rfl Tryd.underlying9) rfl rfl rfl fun a4 F4 => ?_
      refine sr (v := (.bool true)) F4 (run_gtr rfl (F4.ev 14 rfl) rfl (decide_eq_true (by omega))) rfl rfl rfl fun a5 F5 => ?_
      refine mvS F5 rfl rfl rfl rfl rfl fun a6 F6 => ?_
      refine sq (v := (.string ⟨d.toArray⟩)) F6 (wantedG F6 rfl rfl rfl rfl rfl) (run_mv rfl (F6.ev 1 rfl)) rfl (by decide) fun a7 F7 => ?_
      refine sq (v := (.int .i64 (d.length : Int))) F7 (wantedG F7 rfl rfl rfl rfl rfl) (run_len rfl (F7.ev 17 rfl) rfl Tryd.underlying9) rfl (by decide) fun a8 F8 => ?_
      refine sq (v := (.bool false)) F8 (wantedG F8 rfl rfl rfl rfl rfl) (run_leq rfl (F8.ev 18 rfl) rfl (decide_eq_false (by omega))) rfl (by decide) fun a9 F9 => ?_
      refine sr (v := (.bool false)) F9 (run_pick rfl (F9.ev 16 rfl) (F9.ev 19 rfl) rfl) rfl rfl rfl fun a10 F10 => ?_
      refine mvS F10 rfl rfl rfl rfl rfl fun a11 F11 => ?_
      refine sq (v := (.pointer (some ⟨g0, 0, none⟩))) F11 (wantedG F11 rfl rfl rfl rfl rfl) (run_fldA (m := 1) (s := 0) rfl (F11.ev 2 rfl) Tryd.underlying31 rfl rfl (by kernel_rfl) (by decide)) rfl (by decide) fun a12 F12 => ?_
      refine sq (v := v) F12 (wantedG F12 rfl rfl rfl rfl rfl) (run_ldF rfl (F12.ev 22 rfl) (M1.at 0 rfl) rfl (by kernel_rfl)) rfl (by decide) fun a13 F13 => ?_
      refine sq (v := (.int .i64 (K.length : Int))) F13 (wantedG F13 rfl rfl rfl rfl rfl) (run_lenS rfl (F13.ev 23 rfl) (hV.below M1.below) rfl Tryd.underlying29) rfl (by decide) fun a14 F14 => ?_
      refine sq (v := (.bool true)) F14 (wantedG F14 rfl rfl rfl rfl rfl) (run_gtr rfl (F14.ev 24 rfl) rfl (decide_eq_true (by omega))) rfl (by decide) fun a15 F15 => ?_
      refine sr (v := (.bool true)) F15 (run_pick rfl (F15.ev 21 rfl) rfl (F15.ev 25 rfl)) rfl rfl rfl fun a16 F16 => ?_
      refine sn ?_
      clear F2 F3 F4 F5 F6 F7 F8 F9 F10 F11 F12 F13 F14 F15
      refine wp_cond_true (F16.ev 26 rfl) ?_
      refine wsl ?_
      refine sqC (v := (.bool true)) F16 M1 (wantedS rfl) (run_call rfl Tryd.func11 (by kernel_rfl) rfl (mapE0 )) rfl (by decide) (fixed39_any w1) fun a17 w2 hb2 F17 M2 => ?_
      refine asS F17 rfl rfl rfl rfl rfl fun a18 F18 => ?_
      refine sn ?_
      clear F16 F17 M1
      refine wp_ret ?_
      refine nxRet ?_
      exact ret1 F18 rfl rfl ⟨rfl, M2.below⟩
    · skip
      refine walk_enter Tryd.func6 rfl rfl rfl fun a0 F0 => ?_
      have M0 := Mem.new w
      refine wsl ?_
      refine sqNew (cs := #[v]) (t := 31) F0 M0 (wantedS rfl) (run_box rfl (F0.ev 0 rfl)) rfl (by decide) fun g0 a1 w1 hgg0 hb1 F1 M1 => ?_
      refine sr (v := (.bool false)) F1 (run_as rfl rfl) rfl rfl rfl fun a2 F2 => ?_
      refine sn ?_
      clear F0 F1 M0
      refine wp_seq ?_
      refine wsl ?_
      refine mvS F2 rfl rfl rfl rfl rfl fun a3 F3 => ?_
      refine sr F3 (run_len rfl (F3.ev 13 rfl) rfl Tryd.underlying9) rfl rfl rfl fun a4 F4 => ?_
      refine sr (v := (.bool false)) F4 (run_gtr rfl (F4.ev 14 rfl) rfl (decide_eq_false (by omega))) rfl rfl rfl fun a5 F5 => ?_
      refine mvS F5 rfl rfl rfl rfl rfl fun a6 F6 => ?_
      refine sqSkip F6 (unwantedG F6 rfl rfl rfl rfl rfl) rfl (by decide) fun a7 F7 => ?_
      refine sqSkip F7 (unwantedG F7 rfl rfl rfl rfl rfl) rfl (by decide) fun a8 F8 => ?_
      refine sqSkip F8 (unwantedG F8 rfl rfl rfl rfl rfl) rfl (by decide) fun a9 F9 => ?_
      refine sr (v := (.bool false)) F9 (run_pick rfl (F9.ev 16 rfl) (F9.ev 19 rfl) rfl) rfl rfl rfl fun a10 F10 => ?_
      refine mvS F10 rfl rfl rfl rfl rfl fun a11 F11 => ?_
      refine sq (v := (.pointer (some ⟨g0, 0, none⟩))) F11 (wantedG F11 rfl rfl rfl rfl rfl) (run_fldA (m := 1) (s := 0) rfl (F11.ev 2 rfl) Tryd.underlying31 rfl rfl (by kernel_rfl) (by decide)) rfl (by decide) fun a12 F12 => ?_
      refine sq (v := v) F12 (wantedG F12 rfl rfl rfl rfl rfl) (run_ldF rfl (F12.ev 22 rfl) (M1.at 0 rfl) rfl (by kernel_rfl)) rfl (by decide) fun a13 F13 => ?_
      refine sq (v := (.int .i64 (K.length : Int))) F13 (wantedG F13 rfl rfl rfl rfl rfl) (run_lenS rfl (F13.ev 23 rfl) (hV.below M1.below) rfl Tryd.underlying29) rfl (by decide) fun a14 F14 => ?_
      refine sq (v := (.bool true)) F14 (wantedG F14 rfl rfl rfl rfl rfl) (run_gtr rfl (F14.ev 24 rfl) rfl (decide_eq_true (by omega))) rfl (by decide) fun a15 F15 => ?_
      refine sr (v := (.bool true)) F15 (run_pick rfl (F15.ev 21 rfl) rfl (F15.ev 25 rfl)) rfl rfl rfl fun a16 F16 => ?_
      refine sn ?_
      clear F2 F3 F4 F5 F6 F7 F8 F9 F10 F11 F12 F13 F14 F15
      refine wp_cond_true (F16.ev 26 rfl) ?_
      refine wsl ?_
      refine sqC (v := (.bool true)) F16 M1 (wantedS rfl) (run_call rfl Tryd.func11 (by kernel_rfl) rfl (mapE0 )) rfl (by decide) (fixed39_any w1) fun a17 w2 hb2 F17 M2 => ?_
      refine asS F17 rfl rfl rfl rfl rfl fun a18 F18 => ?_
      refine sn ?_
      clear F16 F17 M1
      refine wp_ret ?_
      refine nxRet ?_
      exact ret1 F18 rfl rfl ⟨rfl, M2.below⟩
  by_cases h4 : 400 < d.length
  · have hs : sealC K d = ([], [], 6) := by unfold sealC; rw [if_pos (by omega)]
    refine walk_enter Tryd.func6 rfl rfl rfl fun a0 F0 => ?_
    have M0 := Mem.new w
    refine wsl ?_
    refine sqNew (cs := #[v]) (t := 31) F0 M0 (wantedS rfl) (run_box rfl (F0.ev 0 rfl)) rfl (by decide) fun g0 a1 w1 hgg0 hb1 F1 M1 => ?_
    refine sr (v := (.bool false)) F1 (run_as rfl rfl) rfl rfl rfl fun a2 F2 => ?_
    refine sn ?_
    clear F0 F1 M0
    refine wp_seq ?_
    refine wsl ?_
    refine mvS F2 rfl rfl rfl rfl rfl fun a3 F3 => ?_
    refine sr F3 (run_len rfl (F3.ev 13 rfl) rfl Tryd.underlying9) rfl rfl rfl fun a4 F4 => ?_
    refine sr (v := (.bool true)) F4 (run_gtr rfl (F4.ev 14 rfl) rfl (decide_eq_true (by omega))) rfl rfl rfl fun a5 F5 => ?_
    refine mvS F5 rfl rfl rfl rfl rfl fun a6 F6 => ?_
    refine sq (v := (.string ⟨d.toArray⟩)) F6 (wantedG F6 rfl rfl rfl rfl rfl) (run_mv rfl (F6.ev 1 rfl)) rfl (by decide) fun a7 F7 => ?_
    refine sq (v := (.int .i64 (d.length : Int))) F7 (wantedG F7 rfl rfl rfl rfl rfl) (run_len rfl (F7.ev 17 rfl) rfl Tryd.underlying9) rfl (by decide) fun a8 F8 => ?_
    refine sq (v := (.bool false)) F8 (wantedG F8 rfl rfl rfl rfl rfl) (run_leq rfl (F8.ev 18 rfl) rfl (decide_eq_false (by omega))) rfl (by decide) fun a9 F9 => ?_
    refine sr (v := (.bool false)) F9 (run_pick rfl (F9.ev 16 rfl) (F9.ev 19 rfl) rfl) rfl rfl rfl fun a10 F10 => ?_
    refine mvS F10 rfl rfl rfl rfl rfl fun a11 F11 => ?_
    refine sq (v := (.pointer (some ⟨g0, 0, none⟩))) F11 (wantedG F11 rfl rfl rfl rfl rfl) (run_fldA (m := 1) (s := 0) rfl (F11.ev 2 rfl) Tryd.underlying31 rfl rfl (by kernel_rfl) (by decide)) rfl (by decide) fun a12 F12 => ?_
    refine sq (v := v) F12 (wantedG F12 rfl rfl rfl rfl rfl) (run_ldF rfl (F12.ev 22 rfl) (M1.at 0 rfl) rfl (by kernel_rfl)) rfl (by decide) fun a13 F13 => ?_
    refine sq (v := (.int .i64 (K.length : Int))) F13 (wantedG F13 rfl rfl rfl rfl rfl) (run_lenS rfl (F13.ev 23 rfl) (hV.below M1.below) rfl Tryd.underlying29) rfl (by decide) fun a14 F14 => ?_
    refine sq (v := (.bool false)) F14 (wantedG F14 rfl rfl rfl rfl rfl) (run_gtr rfl (F14.ev 24 rfl) rfl (decide_eq_false (by omega))) rfl (by decide) fun a15 F15 => ?_
    refine sr (v := (.bool false)) F15 (run_pick rfl (F15.ev 21 rfl) rfl (F15.ev 25 rfl)) rfl rfl rfl fun a16 F16 => ?_
    refine sn ?_
    clear F2 F3 F4 F5 F6 F7 F8 F9 F10 F11 F12 F13 F14 F15
    refine cfs (F16.ev 26 rfl) ?_
    refine wsl ?_
    refine sr F16 (run_ldB rfl (F16.ev 2 rfl) (M1.at 0 rfl) Tryd.underlying31 rfl szKy rfl) rfl rfl rfl fun a17 F17 => ?_
    refine mvS F17 rfl rfl rfl rfl rfl fun a18 F18 => ?_
    refine sqC (v := (.tuple #[(.agg #[.string ⟨List.toArray []⟩, .string ⟨List.toArray []⟩]), (.int .i64 6)])) F18 M1 (wantedS rfl) (run_call rfl Tryd.func18 (by kernel_rfl) rfl (mapE2 (F18.ev 29 rfl) (F18.ev 30 rfl))) rfl (by decide) ((by have h := csealK_any K v d w1 (HG.below M1.below) (hV.below M1.below) h32 (by omega); rw [hs] at h; exact h)) fun a19 w2 hb2 F19 M2 => ?_
    refine mvS F19 rfl rfl rfl rfl rfl fun a20 F20 => ?_
    refine sr (v := (.agg #[.string ⟨List.toArray []⟩, .string ⟨List.toArray []⟩])) F20 (run_ext rfl (F20.ev 28 rfl) rfl) rfl rfl rfl fun a21 F21 => ?_
    refine sr (v := (.int .i64 6)) F21 (run_ext rfl (F21.ev 28 rfl) rfl) rfl rfl rfl fun a22 F22 => ?_
    refine sqNew (cs := #[.string ⟨List.toArray []⟩, .string ⟨List.toArray []⟩]) (t := 36) F22 M2 (wantedS rfl) (run_alloc rfl (by kernel_rfl)) rfl (by decide) fun g1 a23 w3 hgg1 hb3 F23 M3 => ?_
    refine sqStore (i := 0) F23 M3 rfl rfl rfl (F23.ev 5 rfl) (F23.ev 32 rfl) rfl szBox rfl rfl (arr_one rfl) fun a24 w4 F24 M4 => ?_
    refine asS F24 rfl rfl rfl rfl rfl fun a25 F25 => ?_
    refine sn ?_
    clear F16 F17 F18 F19 F20 F21 F22 F23 F24 M1 M2 M3
    refine wsl ?_
    refine sr F25 (run_ldB rfl (F25.ev 2 rfl) (M4.at 1 rfl) Tryd.underlying31 rfl szKy rfl) rfl rfl rfl fun a26 F26 => ?_
    refine mvS F26 rfl rfl rfl rfl rfl fun a27 F27 => ?_
    refine sqC (v := (.tuple #[(.agg #[.string ⟨List.toArray []⟩, .string ⟨List.toArray []⟩]), (.int .i64 6)])) F27 M4 (wantedS rfl) (run_call rfl Tryd.func19 (by kernel_rfl) rfl (mapE2 (F27.ev 35 rfl) (F27.ev 36 rfl))) rfl (by decide) ((by have h := rsealK_any K v d w4 (hV.below M4.below) h32 (by omega); rw [hs] at h; exact h)) fun a28 w5 hb5 F28 M5 => ?_
    refine mvS F28 rfl rfl rfl rfl rfl fun a29 F29 => ?_
    refine sr (v := (.agg #[.string ⟨List.toArray []⟩, .string ⟨List.toArray []⟩])) F29 (run_ext rfl (F29.ev 34 rfl) rfl) rfl rfl rfl fun a30 F30 => ?_
    refine sr (v := (.int .i64 6)) F30 (run_ext rfl (F30.ev 34 rfl) rfl) rfl rfl rfl fun a31 F31 => ?_
    refine sqNew (cs := #[.string ⟨List.toArray []⟩, .string ⟨List.toArray []⟩]) (t := 36) F31 M5 (wantedS rfl) (run_alloc rfl (by kernel_rfl)) rfl (by decide) fun g2 a32 w6 hgg2 hb6 F32 M6 => ?_
    refine sqStore (i := 0) F32 M6 rfl rfl rfl (F32.ev 7 rfl) (F32.ev 38 rfl) rfl szBox rfl rfl (arr_one rfl) fun a33 w7 F33 M7 => ?_
    refine asS F33 rfl rfl rfl rfl rfl fun a34 F34 => ?_
    refine sn ?_
    clear F25 F26 F27 F28 F29 F30 F31 F32 F33 M4 M5 M6
    refine wp_seq ?_
    refine wsl ?_
    refine sr F34 (run_ldB rfl (F34.ev 5 rfl) (M7.at 1 rfl) Tryd.underlying36 rfl szBox rfl) rfl rfl rfl fun a35 F35 => ?_
    refine sr F35 (run_ldB rfl (F35.ev 7 rfl) (M7.at 0 rfl) Tryd.underlying36 rfl szBox rfl) rfl rfl rfl fun a36 F36 => ?_
    refine sr (v := (.bool false)) F36 (run_neBox (by rw [beq_self_eq_true]; rfl) rfl (F36.ev 40 rfl) (F36.ev 41 rfl)) rfl rfl rfl fun a37 F37 => ?_
    refine mvS F37 rfl rfl rfl rfl rfl fun a38 F38 => ?_
    refine sq (v := (.int .i64 6)) F38 (wantedG F38 rfl rfl rfl rfl rfl) (run_mv rfl (F38.ev 6 rfl)) rfl (by decide) fun a39 F39 => ?_
    refine sq (v := (.int .i64 6)) F39 (wantedG F39 rfl rfl rfl rfl rfl) (run_mv rfl (F39.ev 8 rfl)) rfl (by decide) fun a40 F40 => ?_
    refine sq (v := (.bool false)) F40 (wantedG F40 rfl rfl rfl rfl rfl) (run_nei rfl (F40.ev 44 rfl) (F40.ev 45 rfl) (bne_eq_false_iff_eq.2 (by omega))) rfl (by decide) fun a41 F41 => ?_
    refine sr (v := (.bool false)) F41 (run_pick rfl (F41.ev 43 rfl) rfl (F41.ev 46 rfl)) rfl rfl rfl fun a42 F42 => ?_
    refine sn ?_
    clear F34 F35 F36 F37 F38 F39 F40 F41
    refine cfs (F42.ev 47 rfl) ?_
    refine wp_seq ?_
    refine wsl ?_
    refine mvS F42 rfl rfl rfl rfl rfl fun a43 F43 => ?_
    refine sr (v := (.bool true)) F43 (run_nei rfl (F43.ev 48 rfl) rfl (bne_iff_ne.2 (by omega))) rfl rfl rfl fun a44 F44 => ?_
    refine sn ?_
    clear F42 F43
    refine wp_cond_true (F44.ev 49 rfl) ?_
    refine wsl ?_
    refine sqC (v := (.bool true)) F44 M7 (wantedS rfl) (run_call rfl Tryd.func11 (by kernel_rfl) rfl (mapE0 )) rfl (by decide) (fixed39_any w7) fun a45 w8 hb8 F45 M8 => ?_
    refine asS F45 rfl rfl rfl rfl rfl fun a46 F46 => ?_
    refine sn ?_
    clear F44 F45 M7
    refine wp_ret ?_
    refine nxRet ?_
    exact ret1 F46 rfl rfl ⟨rfl, M8.below⟩
  by_cases hK : K = []
  · have hs : sealC K d = ([], [], 1) := by unfold sealC; rw [if_neg (by omega), if_pos hK]
    refine walk_enter Tryd.func6 rfl rfl rfl fun a0 F0 => ?_
    have M0 := Mem.new w
    refine wsl ?_
    refine sqNew (cs := #[v]) (t := 31) F0 M0 (wantedS rfl) (run_box rfl (F0.ev 0 rfl)) rfl (by decide) fun g0 a1 w1 hgg0 hb1 F1 M1 => ?_
    refine sr (v := (.bool false)) F1 (run_as rfl rfl) rfl rfl rfl fun a2 F2 => ?_
    refine sn ?_
    clear F0 F1 M0
    refine wp_seq ?_
    refine wsl ?_
    refine mvS F2 rfl rfl rfl rfl rfl fun a3 F3 => ?_
    refine sr F3 (run_len rfl (F3.ev 13 rfl) rfl Tryd.underlying9) rfl rfl rfl fun a4 F4 => ?_
    refine sr (v := (.bool false)) F4 (run_gtr rfl (F4.ev 14 rfl) rfl (decide_eq_false (by omega))) rfl rfl rfl fun a5 F5 => ?_
    refine mvS F5 rfl rfl rfl rfl rfl fun a6 F6 => ?_
    refine sqSkip F6 (unwantedG F6 rfl rfl rfl rfl rfl) rfl (by decide) fun a7 F7 => ?_
    refine sqSkip F7 (unwantedG F7 rfl rfl rfl rfl rfl) rfl (by decide) fun a8 F8 => ?_
    refine sqSkip F8 (unwantedG F8 rfl rfl rfl rfl rfl) rfl (by decide) fun a9 F9 => ?_
    refine sr (v := (.bool false)) F9 (run_pick rfl (F9.ev 16 rfl) (F9.ev 19 rfl) rfl) rfl rfl rfl fun a10 F10 => ?_
    refine mvS F10 rfl rfl rfl rfl rfl fun a11 F11 => ?_
    refine sq (v := (.pointer (some ⟨g0, 0, none⟩))) F11 (wantedG F11 rfl rfl rfl rfl rfl) (run_fldA (m := 1) (s := 0) rfl (F11.ev 2 rfl) Tryd.underlying31 rfl rfl (by kernel_rfl) (by decide)) rfl (by decide) fun a12 F12 => ?_
    refine sq (v := v) F12 (wantedG F12 rfl rfl rfl rfl rfl) (run_ldF rfl (F12.ev 22 rfl) (M1.at 0 rfl) rfl (by kernel_rfl)) rfl (by decide) fun a13 F13 => ?_
    refine sq (v := (.int .i64 (K.length : Int))) F13 (wantedG F13 rfl rfl rfl rfl rfl) (run_lenS rfl (F13.ev 23 rfl) (hV.below M1.below) rfl Tryd.underlying29) rfl (by decide) fun a14 F14 => ?_
    refine sq (v := (.bool false)) F14 (wantedG F14 rfl rfl rfl rfl rfl) (run_gtr rfl (F14.ev 24 rfl) rfl (decide_eq_false (by omega))) rfl (by decide) fun a15 F15 => ?_
    refine sr (v := (.bool false)) F15 (run_pick rfl (F15.ev 21 rfl) rfl (F15.ev 25 rfl)) rfl rfl rfl fun a16 F16 => ?_
    refine sn ?_
    clear F2 F3 F4 F5 F6 F7 F8 F9 F10 F11 F12 F13 F14 F15
    refine cfs (F16.ev 26 rfl) ?_
    refine wsl ?_
    refine sr F16 (run_ldB rfl (F16.ev 2 rfl) (M1.at 0 rfl) Tryd.underlying31 rfl szKy rfl) rfl rfl rfl fun a17 F17 => ?_
    refine mvS F17 rfl rfl rfl rfl rfl fun a18 F18 => ?_
    refine sqC (v := (.tuple #[(.agg #[.string ⟨List.toArray []⟩, .string ⟨List.toArray []⟩]), (.int .i64 1)])) F18 M1 (wantedS rfl) (run_call rfl Tryd.func18 (by kernel_rfl) rfl (mapE2 (F18.ev 29 rfl) (F18.ev 30 rfl))) rfl (by decide) ((by have h := csealK_any K v d w1 (HG.below M1.below) (hV.below M1.below) h32 (by omega); rw [hs] at h; exact h)) fun a19 w2 hb2 F19 M2 => ?_
    refine mvS F19 rfl rfl rfl rfl rfl fun a20 F20 => ?_
    refine sr (v := (.agg #[.string ⟨List.toArray []⟩, .string ⟨List.toArray []⟩])) F20 (run_ext rfl (F20.ev 28 rfl) rfl) rfl rfl rfl fun a21 F21 => ?_
    refine sr (v := (.int .i64 1)) F21 (run_ext rfl (F21.ev 28 rfl) rfl) rfl rfl rfl fun a22 F22 => ?_
    refine sqNew (cs := #[.string ⟨List.toArray []⟩, .string ⟨List.toArray []⟩]) (t := 36) F22 M2 (wantedS rfl) (run_alloc rfl (by kernel_rfl)) rfl (by decide) fun g1 a23 w3 hgg1 hb3 F23 M3 => ?_
    refine sqStore (i := 0) F23 M3 rfl rfl rfl (F23.ev 5 rfl) (F23.ev 32 rfl) rfl szBox rfl rfl (arr_one rfl) fun a24 w4 F24 M4 => ?_
    refine asS F24 rfl rfl rfl rfl rfl fun a25 F25 => ?_
    refine sn ?_
    clear F16 F17 F18 F19 F20 F21 F22 F23 F24 M1 M2 M3
    refine wsl ?_
    refine sr F25 (run_ldB rfl (F25.ev 2 rfl) (M4.at 1 rfl) Tryd.underlying31 rfl szKy rfl) rfl rfl rfl fun a26 F26 => ?_
    refine mvS F26 rfl rfl rfl rfl rfl fun a27 F27 => ?_
    refine sqC (v := (.tuple #[(.agg #[.string ⟨List.toArray []⟩, .string ⟨List.toArray []⟩]), (.int .i64 1)])) F27 M4 (wantedS rfl) (run_call rfl Tryd.func19 (by kernel_rfl) rfl (mapE2 (F27.ev 35 rfl) (F27.ev 36 rfl))) rfl (by decide) ((by have h := rsealK_any K v d w4 (hV.below M4.below) h32 (by omega); rw [hs] at h; exact h)) fun a28 w5 hb5 F28 M5 => ?_
    refine mvS F28 rfl rfl rfl rfl rfl fun a29 F29 => ?_
    refine sr (v := (.agg #[.string ⟨List.toArray []⟩, .string ⟨List.toArray []⟩])) F29 (run_ext rfl (F29.ev 34 rfl) rfl) rfl rfl rfl fun a30 F30 => ?_
    refine sr (v := (.int .i64 1)) F30 (run_ext rfl (F30.ev 34 rfl) rfl) rfl rfl rfl fun a31 F31 => ?_
    refine sqNew (cs := #[.string ⟨List.toArray []⟩, .string ⟨List.toArray []⟩]) (t := 36) F31 M5 (wantedS rfl) (run_alloc rfl (by kernel_rfl)) rfl (by decide) fun g2 a32 w6 hgg2 hb6 F32 M6 => ?_
    refine sqStore (i := 0) F32 M6 rfl rfl rfl (F32.ev 7 rfl) (F32.ev 38 rfl) rfl szBox rfl rfl (arr_one rfl) fun a33 w7 F33 M7 => ?_
    refine asS F33 rfl rfl rfl rfl rfl fun a34 F34 => ?_
    refine sn ?_
    clear F25 F26 F27 F28 F29 F30 F31 F32 F33 M4 M5 M6
    refine wp_seq ?_
    refine wsl ?_
    refine sr F34 (run_ldB rfl (F34.ev 5 rfl) (M7.at 1 rfl) Tryd.underlying36 rfl szBox rfl) rfl rfl rfl fun a35 F35 => ?_
    refine sr F35 (run_ldB rfl (F35.ev 7 rfl) (M7.at 0 rfl) Tryd.underlying36 rfl szBox rfl) rfl rfl rfl fun a36 F36 => ?_
    refine sr (v := (.bool false)) F36 (run_neBox (by rw [beq_self_eq_true]; rfl) rfl (F36.ev 40 rfl) (F36.ev 41 rfl)) rfl rfl rfl fun a37 F37 => ?_
    refine mvS F37 rfl rfl rfl rfl rfl fun a38 F38 => ?_
    refine sq (v := (.int .i64 1)) F38 (wantedG F38 rfl rfl rfl rfl rfl) (run_mv rfl (F38.ev 6 rfl)) rfl (by decide) fun a39 F39 => ?_
    refine sq (v := (.int .i64 1)) F39 (wantedG F39 rfl rfl rfl rfl rfl) (run_mv rfl (F39.ev 8 rfl)) rfl (by decide) fun a40 F40 => ?_
    refine sq (v := (.bool false)) F40 (wantedG F40 rfl rfl rfl rfl rfl) (run_nei rfl (F40.ev 44 rfl) (F40.ev 45 rfl) (bne_eq_false_iff_eq.2 (by omega))) rfl (by decide) fun a41 F41 => ?_
    refine sr (v := (.bool false)) F41 (run_pick rfl (F41.ev 43 rfl) rfl (F41.ev 46 rfl)) rfl rfl rfl fun a42 F42 => ?_
    refine sn ?_
    clear F34 F35 F36 F37 F38 F39 F40 F41
    refine cfs (F42.ev 47 rfl) ?_
    refine wp_seq ?_
    refine wsl ?_
    refine mvS F42 rfl rfl rfl rfl rfl fun a43 F43 => ?_
    refine sr (v := (.bool true)) F43 (run_nei rfl (F43.ev 48 rfl) rfl (bne_iff_ne.2 (by omega))) rfl rfl rfl fun a44 F44 => ?_
    refine sn ?_
    clear F42 F43
    refine wp_cond_true (F44.ev 49 rfl) ?_
    refine wsl ?_
    refine sqC (v := (.bool true)) F44 M7 (wantedS rfl) (run_call rfl Tryd.func11 (by kernel_rfl) rfl (mapE0 )) rfl (by decide) (fixed39_any w7) fun a45 w8 hb8 F45 M8 => ?_
    refine asS F45 rfl rfl rfl rfl rfl fun a46 F46 => ?_
    refine sn ?_
    clear F44 F45 M7
    refine wp_ret ?_
    refine nxRet ?_
    exact ret1 F46 rfl rfl ⟨rfl, M8.below⟩
  have hl0 : 0 < K.length := List.length_pos_iff.2 hK
  have hpl := pack_len d
  have hdl := dataC_len K d
  have hNl := nameC_len K d
  have hs0 : sealC K d = (nameC K d, dataC K d, 0) := by unfold sealC; rw [if_neg (by omega), if_neg hK]
  have hop0 := openC_seal K d hK (by omega) (by omega)
  have hep0 : epochC (dataC K d) = (K.length - 1, 0) := by unfold epochC; rw [if_neg (by omega), dataC_get K d (by omega)]
  obtain ⟨Nm, hNm⟩ : ∃ N, nameC K d = N := ⟨_, rfl⟩
  obtain ⟨Dt, hDt⟩ : ∃ D, dataC K d = D := ⟨_, rfl⟩
  rw [hNm, hDt] at hs0 hop0
  rw [hDt] at hep0 hdl
  rw [hNm] at hNl
  refine walk_enter Tryd.func6 rfl rfl rfl fun a0 F0 => ?_
  have M0 := Mem.new w
  refine wsl ?_
  refine sqNew (cs := #[v]) (t := 31) F0 M0 (wantedS rfl) (run_box rfl (F0.ev 0 rfl)) rfl (by decide) fun g0 a1 w1 hgg0 hb1 F1 M1 => ?_
  refine sr (v := (.bool false)) F1 (run_as rfl rfl) rfl rfl rfl fun a2 F2 => ?_
  refine sn ?_
  clear F0 F1 M0
  refine wp_seq ?_
  refine wsl ?_
  refine mvS F2 rfl rfl rfl rfl rfl fun a3 F3 => ?_
  refine sr F3 (run_len rfl (F3.ev 13 rfl) rfl Tryd.underlying9) rfl rfl rfl fun a4 F4 => ?_
  refine sr (v := (.bool false)) F4 (run_gtr rfl (F4.ev 14 rfl) rfl (decide_eq_false (by omega))) rfl rfl rfl fun a5 F5 => ?_
  refine mvS F5 rfl rfl rfl rfl rfl fun a6 F6 => ?_
  refine sqSkip F6 (unwantedG F6 rfl rfl rfl rfl rfl) rfl (by decide) fun a7 F7 => ?_
  refine sqSkip F7 (unwantedG F7 rfl rfl rfl rfl rfl) rfl (by decide) fun a8 F8 => ?_
  refine sqSkip F8 (unwantedG F8 rfl rfl rfl rfl rfl) rfl (by decide) fun a9 F9 => ?_
  refine sr (v := (.bool false)) F9 (run_pick rfl (F9.ev 16 rfl) (F9.ev 19 rfl) rfl) rfl rfl rfl fun a10 F10 => ?_
  refine mvS F10 rfl rfl rfl rfl rfl fun a11 F11 => ?_
  refine sq (v := (.pointer (some ⟨g0, 0, none⟩))) F11 (wantedG F11 rfl rfl rfl rfl rfl) (run_fldA (m := 1) (s := 0) rfl (F11.ev 2 rfl) Tryd.underlying31 rfl rfl (by kernel_rfl) (by decide)) rfl (by decide) fun a12 F12 => ?_
  refine sq (v := v) F12 (wantedG F12 rfl rfl rfl rfl rfl) (run_ldF rfl (F12.ev 22 rfl) (M1.at 0 rfl) rfl (by kernel_rfl)) rfl (by decide) fun a13 F13 => ?_
  refine sq (v := (.int .i64 (K.length : Int))) F13 (wantedG F13 rfl rfl rfl rfl rfl) (run_lenS rfl (F13.ev 23 rfl) (hV.below M1.below) rfl Tryd.underlying29) rfl (by decide) fun a14 F14 => ?_
  refine sq (v := (.bool false)) F14 (wantedG F14 rfl rfl rfl rfl rfl) (run_gtr rfl (F14.ev 24 rfl) rfl (decide_eq_false (by omega))) rfl (by decide) fun a15 F15 => ?_
  refine sr (v := (.bool false)) F15 (run_pick rfl (F15.ev 21 rfl) rfl (F15.ev 25 rfl)) rfl rfl rfl fun a16 F16 => ?_
  refine sn ?_
  clear F2 F3 F4 F5 F6 F7 F8 F9 F10 F11 F12 F13 F14 F15
  refine cfs (F16.ev 26 rfl) ?_
  refine wsl ?_
  refine sr F16 (run_ldB rfl (F16.ev 2 rfl) (M1.at 0 rfl) Tryd.underlying31 rfl szKy rfl) rfl rfl rfl fun a17 F17 => ?_
  refine mvS F17 rfl rfl rfl rfl rfl fun a18 F18 => ?_
  refine sqC (v := (.tuple #[(.agg #[.string ⟨Nm.toArray⟩, .string ⟨Dt.toArray⟩]), (.int .i64 0)])) F18 M1 (wantedS rfl) (run_call rfl Tryd.func18 (by kernel_rfl) rfl (mapE2 (F18.ev 29 rfl) (F18.ev 30 rfl))) rfl (by decide) ((by have h := csealK_any K v d w1 (HG.below M1.below) (hV.below M1.below) h32 (by omega); rw [hs0] at h; exact h)) fun a19 w2 hb2 F19 M2 => ?_
  refine mvS F19 rfl rfl rfl rfl rfl fun a20 F20 => ?_
  refine sr (v := (.agg #[.string ⟨Nm.toArray⟩, .string ⟨Dt.toArray⟩])) F20 (run_ext rfl (F20.ev 28 rfl) rfl) rfl rfl rfl fun a21 F21 => ?_
  refine sr (v := (.int .i64 0)) F21 (run_ext rfl (F21.ev 28 rfl) rfl) rfl rfl rfl fun a22 F22 => ?_
  refine sqNew (cs := #[.string ⟨List.toArray []⟩, .string ⟨List.toArray []⟩]) (t := 36) F22 M2 (wantedS rfl) (run_alloc rfl (by kernel_rfl)) rfl (by decide) fun g1 a23 w3 hgg1 hb3 F23 M3 => ?_
  refine sqStore (i := 0) F23 M3 rfl rfl rfl (F23.ev 5 rfl) (F23.ev 32 rfl) rfl szBox rfl rfl (arr_one rfl) fun a24 w4 F24 M4 => ?_
  refine asS F24 rfl rfl rfl rfl rfl fun a25 F25 => ?_
  refine sn ?_
  clear F16 F17 F18 F19 F20 F21 F22 F23 F24 M1 M2 M3
  refine wsl ?_
  refine sr F25 (run_ldB rfl (F25.ev 2 rfl) (M4.at 1 rfl) Tryd.underlying31 rfl szKy rfl) rfl rfl rfl fun a26 F26 => ?_
  refine mvS F26 rfl rfl rfl rfl rfl fun a27 F27 => ?_
  refine sqC (v := (.tuple #[(.agg #[.string ⟨Nm.toArray⟩, .string ⟨Dt.toArray⟩]), (.int .i64 0)])) F27 M4 (wantedS rfl) (run_call rfl Tryd.func19 (by kernel_rfl) rfl (mapE2 (F27.ev 35 rfl) (F27.ev 36 rfl))) rfl (by decide) ((by have h := rsealK_any K v d w4 (hV.below M4.below) h32 (by omega); rw [hs0] at h; exact h)) fun a28 w5 hb5 F28 M5 => ?_
  refine mvS F28 rfl rfl rfl rfl rfl fun a29 F29 => ?_
  refine sr (v := (.agg #[.string ⟨Nm.toArray⟩, .string ⟨Dt.toArray⟩])) F29 (run_ext rfl (F29.ev 34 rfl) rfl) rfl rfl rfl fun a30 F30 => ?_
  refine sr (v := (.int .i64 0)) F30 (run_ext rfl (F30.ev 34 rfl) rfl) rfl rfl rfl fun a31 F31 => ?_
  refine sqNew (cs := #[.string ⟨List.toArray []⟩, .string ⟨List.toArray []⟩]) (t := 36) F31 M5 (wantedS rfl) (run_alloc rfl (by kernel_rfl)) rfl (by decide) fun g2 a32 w6 hgg2 hb6 F32 M6 => ?_
  refine sqStore (i := 0) F32 M6 rfl rfl rfl (F32.ev 7 rfl) (F32.ev 38 rfl) rfl szBox rfl rfl (arr_one rfl) fun a33 w7 F33 M7 => ?_
  refine asS F33 rfl rfl rfl rfl rfl fun a34 F34 => ?_
  refine sn ?_
  clear F25 F26 F27 F28 F29 F30 F31 F32 F33 M4 M5 M6
  refine wp_seq ?_
  refine wsl ?_
  refine sr F34 (run_ldB rfl (F34.ev 5 rfl) (M7.at 1 rfl) Tryd.underlying36 rfl szBox rfl) rfl rfl rfl fun a35 F35 => ?_
  refine sr F35 (run_ldB rfl (F35.ev 7 rfl) (M7.at 0 rfl) Tryd.underlying36 rfl szBox rfl) rfl rfl rfl fun a36 F36 => ?_
  refine sr (v := (.bool false)) F36 (run_neBox (by rw [beq_self_eq_true]; rfl) rfl (F36.ev 40 rfl) (F36.ev 41 rfl)) rfl rfl rfl fun a37 F37 => ?_
  refine mvS F37 rfl rfl rfl rfl rfl fun a38 F38 => ?_
  refine sq (v := (.int .i64 0)) F38 (wantedG F38 rfl rfl rfl rfl rfl) (run_mv rfl (F38.ev 6 rfl)) rfl (by decide) fun a39 F39 => ?_
  refine sq (v := (.int .i64 0)) F39 (wantedG F39 rfl rfl rfl rfl rfl) (run_mv rfl (F39.ev 8 rfl)) rfl (by decide) fun a40 F40 => ?_
  refine sq (v := (.bool false)) F40 (wantedG F40 rfl rfl rfl rfl rfl) (run_nei rfl (F40.ev 44 rfl) (F40.ev 45 rfl) (bne_eq_false_iff_eq.2 (by omega))) rfl (by decide) fun a41 F41 => ?_
  refine sr (v := (.bool false)) F41 (run_pick rfl (F41.ev 43 rfl) rfl (F41.ev 46 rfl)) rfl rfl rfl fun a42 F42 => ?_
  refine sn ?_
  clear F34 F35 F36 F37 F38 F39 F40 F41
  refine cfs (F42.ev 47 rfl) ?_
  refine wp_seq ?_
  refine wsl ?_
  refine mvS F42 rfl rfl rfl rfl rfl fun a43 F43 => ?_
  refine sr (v := (.bool false)) F43 (run_nei rfl (F43.ev 48 rfl) rfl (bne_eq_false_iff_eq.2 (by omega))) rfl rfl rfl fun a44 F44 => ?_
  refine sn ?_
  clear F42 F43
  refine cfs (F44.ev 49 rfl) ?_
  refine wsl ?_
  refine sr F44 (run_ldB rfl (F44.ev 2 rfl) (M7.at 2 rfl) Tryd.underlying31 rfl szKy rfl) rfl rfl rfl fun a45 F45 => ?_
  refine sr F45 (run_ldB rfl (F45.ev 5 rfl) (M7.at 1 rfl) Tryd.underlying36 rfl szBox rfl) rfl rfl rfl fun a46 F46 => ?_
  refine sqC (v := (.tuple #[(.string ⟨d.toArray⟩), (.int .i64 0)])) F46 M7 (wantedS rfl) (run_call rfl Tryd.func20 (by kernel_rfl) rfl (mapE2 (F46.ev 52 rfl) (F46.ev 53 rfl))) rfl (by decide) ((by have h := copen_any K v Nm Dt w7 (HG.below M7.below) (hV.below M7.below) h32 (by omega) (by omega); rw [hop0] at h; exact h)) fun a47 w8 hb8 F47 M8 => ?_
  refine mvS F47 rfl rfl rfl rfl rfl fun a48 F48 => ?_
  refine sr (v := (.string ⟨d.toArray⟩)) F48 (run_ext rfl (F48.ev 51 rfl) rfl) rfl rfl rfl fun a49 F49 => ?_
  refine sr (v := (.int .i64 0)) F49 (run_ext rfl (F49.ev 51 rfl) rfl) rfl rfl rfl fun a50 F50 => ?_
  refine asS F50 rfl rfl rfl rfl rfl fun a51 F51 => ?_
  refine asS F51 rfl rfl rfl rfl rfl fun a52 F52 => ?_
  refine sn ?_
  clear F44 F45 F46 F47 F48 F49 F50 F51 M7
  refine wsl ?_
  refine sr F52 (run_ldB rfl (F52.ev 5 rfl) (M8.at 1 rfl) Tryd.underlying36 rfl szBox rfl) rfl rfl rfl fun a53 F53 => ?_
  refine sqC (v := (.tuple #[(.int .i64 ((K.length - 1 : Nat) : Int)), (.int .i64 0)])) F53 M8 (wantedS rfl) (run_call rfl Tryd.func21 (by kernel_rfl) rfl (mapE1 (F53.ev 58 rfl))) rfl (by decide) ((by have h := cepoch_any Nm Dt w8; rw [hep0] at h; exact h)) fun a54 w9 hb9 F54 M9 => ?_
  refine mvS F54 rfl rfl rfl rfl rfl fun a55 F55 => ?_
  refine sr (v := (.int .i64 ((K.length - 1 : Nat) : Int))) F55 (run_ext rfl (F55.ev 57 rfl) rfl) rfl rfl rfl fun a56 F56 => ?_
  refine sr (v := (.int .i64 0)) F56 (run_ext rfl (F56.ev 57 rfl) rfl) rfl rfl rfl fun a57 F57 => ?_
  refine asS F57 rfl rfl rfl rfl rfl fun a58 F58 => ?_
  refine asS F58 rfl rfl rfl rfl rfl fun a59 F59 => ?_
  refine sn ?_
  clear F52 F53 F54 F55 F56 F57 F58 M8
  refine wsl ?_
  refine sqC (v := (.bool true)) F59 M9 (wantedS rfl) (run_call rfl Tryd.func11 (by kernel_rfl) rfl (mapE0 )) rfl (by decide) (fixed39_any w9) fun a60 w10 hb10 F60 M10 => ?_
  refine mvS F60 rfl rfl rfl rfl rfl fun a61 F61 => ?_
  refine sq (v := (.string ⟨d.toArray⟩)) F61 (wantedG F61 rfl rfl rfl rfl rfl) (run_mv rfl (F61.ev 9 rfl)) rfl (by decide) fun a62 F62 => ?_
  refine sq (v := (.string ⟨d.toArray⟩)) F62 (wantedG F62 rfl rfl rfl rfl rfl) (run_mv rfl (F62.ev 1 rfl)) rfl (by decide) fun a63 F63 => ?_
  refine sq (v := (.bool true)) F63 (wantedG F63 rfl rfl rfl rfl rfl) (run_eqs rfl (F63.ev 64 rfl) (F63.ev 65 rfl) (by simp)) rfl (by decide) fun a64 F64 => ?_
  refine sr (v := (.bool true)) F64 (run_pick rfl (F64.ev 63 rfl) (F64.ev 66 rfl) rfl) rfl rfl rfl fun a65 F65 => ?_
  refine mvS F65 rfl rfl rfl rfl rfl fun a66 F66 => ?_
  refine sq (v := (.int .i64 0)) F66 (wantedG F66 rfl rfl rfl rfl rfl) (run_mv rfl (F66.ev 10 rfl)) rfl (by decide) fun a67 F67 => ?_
  refine sq (v := (.bool true)) F67 (wantedG F67 rfl rfl rfl rfl rfl) (run_eqi rfl (F67.ev 69 rfl) rfl (beq_iff_eq.2 (by omega))) rfl (by decide) fun a68 F68 => ?_
  refine sr (v := (.bool true)) F68 (run_pick rfl (F68.ev 68 rfl) (F68.ev 70 rfl) rfl) rfl rfl rfl fun a69 F69 => ?_
  refine mvS F69 rfl rfl rfl rfl rfl fun a70 F70 => ?_
  refine sq (v := (.int .i64 ((K.length - 1 : Nat) : Int))) F70 (wantedG F70 rfl rfl rfl rfl rfl) (run_mv rfl (F70.ev 11 rfl)) rfl (by decide) fun a71 F71 => ?_
  refine sq (v := (.pointer (some ⟨g0, 0, none⟩))) F71 (wantedG F71 rfl rfl rfl rfl rfl) (run_fldA (m := 1) (s := 0) rfl (F71.ev 2 rfl) Tryd.underlying31 rfl rfl (by kernel_rfl) (by decide)) rfl (by decide) fun a72 F72 => ?_
  refine sq (v := v) F72 (wantedG F72 rfl rfl rfl rfl rfl) (run_ldF rfl (F72.ev 74 rfl) (M10.at 2 rfl) rfl (by kernel_rfl)) rfl (by decide) fun a73 F73 => ?_
  refine sq (v := (.int .i64 (K.length : Int))) F73 (wantedG F73 rfl rfl rfl rfl rfl) (run_lenS rfl (F73.ev 75 rfl) (hV.below M10.below) rfl Tryd.underlying29) rfl (by decide) fun a74 F74 => ?_
  refine sq (v := (.int .i64 ((K.length - 1 : Nat) : Int))) F74 (wantedG F74 rfl rfl rfl rfl rfl) (run_sub (r := ((K.length - 1 : Nat) : Int)) rfl (F74.ev 76 rfl) rfl (by rw [IntKind.wrap_i64]; omega)) rfl (by decide) fun a75 F75 => ?_
  refine sq (v := (.bool true)) F75 (wantedG F75 rfl rfl rfl rfl rfl) (run_eqi rfl (F75.ev 73 rfl) (F75.ev 77 rfl) (beq_iff_eq.2 (by omega))) rfl (by decide) fun a76 F76 => ?_
  refine sr (v := (.bool true)) F76 (run_pick rfl (F76.ev 72 rfl) (F76.ev 78 rfl) rfl) rfl rfl rfl fun a77 F77 => ?_
  refine mvS F77 rfl rfl rfl rfl rfl fun a78 F78 => ?_
  refine sq (v := (.int .i64 0)) F78 (wantedG F78 rfl rfl rfl rfl rfl) (run_mv rfl (F78.ev 12 rfl)) rfl (by decide) fun a79 F79 => ?_
  refine sq (v := (.bool true)) F79 (wantedG F79 rfl rfl rfl rfl rfl) (run_eqi rfl (F79.ev 81 rfl) rfl (beq_iff_eq.2 (by omega))) rfl (by decide) fun a80 F80 => ?_
  refine sr (v := (.bool true)) F80 (run_pick rfl (F80.ev 80 rfl) (F80.ev 82 rfl) rfl) rfl rfl rfl fun a81 F81 => ?_
  refine asS F81 rfl rfl rfl rfl rfl fun a82 F82 => ?_
  refine sn ?_
  clear F59 F60 F61 F62 F63 F64 F65 F66 F67 F68 F69 F70 F71 F72 F73 F74 F75 F76 F77 F78 F79 F80 F81 M9
  refine wp_ret ?_
  exact ret1 F82 rfl rfl ⟨rfl, M10.below⟩
end Go.Proofs.YtdjjiblijbjobaaDoor
