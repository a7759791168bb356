/- The law ChunkOpens. Printed by gen_chk7.py. -/
import Derived.Test.YtdjjiblijbjobaaDoorChk0
import Derived.Test.YtdjjiblijbjobaaDoorChk2
namespace Go.Proofs.YtdjjiblijbjobaaDoor
open Go.RowKit

set_option maxRecDepth 100000 in
set_option maxHeartbeats 1000000 in
theorem lawOpens39_any (K : List (List UInt8)) (v : Value) (nm x : List UInt8) (w : World) (HG : Glob w) (hV : Sl w v 32 K.length (K.flatMap dgC)) (h32 : ∀ k ∈ K, k.length = 32) : Calls Tryd.prog 7 #[.agg #[v], .agg #[.string ⟨nm.toArray⟩, .string ⟨x.toArray⟩]] w fun e w' => e = .returned (.bool true) ∧ Below w.heap.size w w' := by
  by_cases h1 : 600 < x.length
  · skip
    refine walk_enter Tryd.func7 rfl rfl rfl fun a0 F0 => ?_
    have M0 := Mem.new w
    refine wsl ?_
    refine sqNew (cs := #[v]) (t := 31) F0 M0 (wantedS rfl) (run_box rfl (F0.ev 0 rfl)) rfl (by decide) fun g0 a1 w1 hgg0 hb1 F1 M1 => ?_
    refine sqNew (cs := #[.string ⟨nm.toArray⟩, .string ⟨x.toArray⟩]) (t := 36) F1 M1 (wantedS rfl) (run_box rfl (F1.ev 1 rfl)) rfl (by decide) fun g1 a2 w2 hgg1 hb2 F2 M2 => ?_
    refine sr (v := (.bool false)) F2 (run_as rfl rfl) rfl rfl rfl fun a3 F3 => ?_
    refine sn ?_
    clear F0 F1 F2 M0 M1
    refine wp_seq ?_
    refine wsl ?_
    refine sr F3 (run_fldA (m := 1) (s := 1) rfl (F3.ev 3 rfl) Tryd.underlying36 rfl rfl (by kernel_rfl) (by decide)) rfl rfl rfl fun a4 F4 => ?_
    refine sr (v := (.string ⟨x.toArray⟩)) F4 (run_ldF rfl (F4.ev 13 rfl) (M2.at 0 rfl) rfl (by kernel_rfl)) rfl rfl rfl fun a5 F5 => ?_
    refine sr F5 (run_len rfl (F5.ev 14 rfl) rfl Tryd.underlying9) rfl rfl rfl fun a6 F6 => ?_
    refine sr (v := (.bool true)) F6 (run_gtr rfl (F6.ev 15 rfl) rfl (decide_eq_true (by omega))) rfl rfl rfl fun a7 F7 => ?_
    refine mvS F7 rfl rfl rfl rfl rfl fun a8 F8 => ?_
    refine sqSkip F8 (unwantedG F8 rfl rfl rfl rfl rfl) rfl (by decide) fun a9 F9 => ?_
    refine sqSkip F9 (unwantedG F9 rfl rfl rfl rfl rfl) rfl (by decide) fun a10 F10 => ?_
    refine sqSkip F10 (unwantedG F10 rfl rfl rfl rfl rfl) rfl (by decide) fun a11 F11 => ?_
    refine sqSkip F11 (unwantedG F11 rfl rfl rfl rfl rfl) rfl (by decide) fun a12 F12 => ?_
    refine sr (v := (.bool true)) F12 (run_pick rfl (F12.ev 17 rfl) rfl (F12.ev 21 rfl)) rfl rfl rfl fun a13 F13 => ?_
    refine mvS F13 rfl rfl rfl rfl rfl fun a14 F14 => ?_
    refine sqSkip F14 (unwantedG F14 rfl rfl rfl rfl rfl) rfl (by decide) fun a15 F15 => ?_
    refine sqSkip F15 (unwantedG F15 rfl rfl rfl rfl rfl) rfl (by decide) fun a16 F16 => ?_
    refine sqSkip F16 (unwantedG F16 rfl rfl rfl rfl rfl) rfl (by decide) fun a17 F17 => ?_
    refine sqSkip F17 (unwantedG F17 rfl rfl rfl rfl rfl) rfl (by decide) fun a18 F18 => ?_
    refine sr (v := (.bool true)) F18 (run_pick rfl (F18.ev 23 rfl) rfl (F18.ev 27 rfl)) rfl rfl rfl fun a19 F19 => ?_
    refine sn ?_
    clear F3 F4 F5 F6 F7 F8 F9 F10 F11 F12 F13 F14 F15 F16 F17 F18
    refine wp_cond_true (F19.ev 28 rfl) ?_
    refine wsl ?_
    refine sqC (v := (.bool true)) F19 M2 (wantedS rfl) (run_call rfl Tryd.func11 (by kernel_rfl) rfl (mapE0 )) rfl (by decide) (fixed39_any w2) fun a20 w3 hb3 F20 M3 => ?_
    refine asS F20 rfl rfl rfl rfl rfl fun a21 F21 => ?_
    refine sn ?_
    clear F19 F20 M2
    refine wp_ret ?_
    refine nxRet ?_
    exact ret1 F21 rfl rfl ⟨rfl, M3.below⟩
  by_cases h2 : 100 < nm.length
  · skip
    refine walk_enter Tryd.func7 rfl rfl rfl fun a0 F0 => ?_
    have M0 := Mem.new w
    refine wsl ?_
    refine sqNew (cs := #[v]) (t := 31) F0 M0 (wantedS rfl) (run_box rfl (F0.ev 0 rfl)) rfl (by decide) fun g0 a1 w1 hgg0 hb1 F1 M1 => ?_
    refine sqNew (cs := #[.string ⟨nm.toArray⟩, .string ⟨x.toArray⟩]) (t := 36) F1 M1 (wantedS rfl) (run_box rfl (F1.ev 1 rfl)) rfl (by decide) fun g1 a2 w2 hgg1 hb2 F2 M2 => ?_
    refine sr (v := (.bool false)) F2 (run_as rfl rfl) rfl rfl rfl fun a3 F3 => ?_
    refine sn ?_
    clear F0 F1 F2 M0 M1
    refine wp_seq ?_
    refine wsl ?_
    refine sr F3 (run_fldA (m := 1) (s := 1) rfl (F3.ev 3 rfl) Tryd.underlying36 rfl rfl (by kernel_rfl) (by decide)) rfl rfl rfl fun a4 F4 => ?_
    refine sr (v := (.string ⟨x.toArray⟩)) F4 (run_ldF rfl (F4.ev 13 rfl) (M2.at 0 rfl) rfl (by kernel_rfl)) rfl rfl rfl fun a5 F5 => ?_
    refine sr F5 (run_len rfl (F5.ev 14 rfl) rfl Tryd.underlying9) rfl rfl rfl fun a6 F6 => ?_
    refine sr (v := (.bool false)) F6 (run_gtr rfl (F6.ev 15 rfl) rfl (decide_eq_false (by omega))) rfl rfl rfl fun a7 F7 => ?_
    refine mvS F7 rfl rfl rfl rfl rfl fun a8 F8 => ?_
    refine sq (v := (.pointer (some ⟨g1, 0, none⟩))) F8 (wantedG F8 rfl rfl rfl rfl rfl) (run_fldA (m := 1) (s := 0) rfl (F8.ev 3 rfl) Tryd.underlying36 rfl rfl (by kernel_rfl) (by decide)) rfl (by decide) fun a9 F9 => ?_
    refine sq (v := (.string ⟨nm.toArray⟩)) F9 (wantedG F9 rfl rfl rfl rfl rfl) (run_ldF rfl (F9.ev 18 rfl) (M2.at 0 rfl) rfl (by kernel_rfl)) rfl (by decide) fun a10 F10 => ?_
    refine sq (v := (.int .i64 (nm.length : Int))) F10 (wantedG F10 rfl rfl rfl rfl rfl) (run_len rfl (F10.ev 19 rfl) rfl Tryd.underlying9) rfl (by decide) fun a11 F11 => ?_
    refine sq (v := (.bool true)) F11 (wantedG F11 rfl rfl rfl rfl rfl) (run_gtr rfl (F11.ev 20 rfl) rfl (decide_eq_true (by omega))) rfl (by decide) fun a12 F12 => ?_
    refine sr (v := (.bool true)) F12 (run_pick rfl (F12.ev 17 rfl) rfl (F12.ev 21 rfl)) rfl rfl rfl fun a13 F13 => ?_
    refine mvS F13 rfl rfl rfl rfl rfl fun a14 F14 => ?_
    refine sqSkip F14 (unwantedG F14 rfl rfl rfl rfl rfl) rfl (by decide) fun a15 F15 => ?_
    refine sqSkip F15 (unwantedG F15 rfl rfl rfl rfl rfl) rfl (by decide) fun a16 F16 => ?_
    refine sqSkip F16 (unwantedG F16 rfl rfl rfl rfl rfl) rfl (by decide) fun a17 F17 => ?_
    refine sqSkip F17 (unwantedG F17 rfl rfl rfl rfl rfl) rfl (by decide) fun a18 F18 => ?_
    refine sr (v := (.bool true)) F18 (run_pick rfl (F18.ev 23 rfl) rfl (F18.ev 27 rfl)) rfl rfl rfl fun a19 F19 => ?_
    refine sn ?_
    clear F3 F4 F5 F6 F7 F8 F9 F10 F11 F12 F13 F14 F15 F16 F17 F18
    refine wp_cond_true (F19.ev 28 rfl) ?_
    refine wsl ?_
    refine sqC (v := (.bool true)) F19 M2 (wantedS rfl) (run_call rfl Tryd.func11 (by kernel_rfl) rfl (mapE0 )) rfl (by decide) (fixed39_any w2) fun a20 w3 hb3 F20 M3 => ?_
    refine asS F20 rfl rfl rfl rfl rfl fun a21 F21 => ?_
    refine sn ?_
    clear F19 F20 M2
    refine wp_ret ?_
    refine nxRet ?_
    exact ret1 F21 rfl rfl ⟨rfl, M3.below⟩
  by_cases h3 : 20 < K.length
  · skip
    refine walk_enter Tryd.func7 rfl rfl rfl fun a0 F0 => ?_
    have M0 := Mem.new w
    refine wsl ?_
    refine sqNew (cs := #[v]) (t := 31) F0 M0 (wantedS rfl) (run_box rfl (F0.ev 0 rfl)) rfl (by decide) fun g0 a1 w1 hgg0 hb1 F1 M1 => ?_
    refine sqNew (cs := #[.string ⟨nm.toArray⟩, .string ⟨x.toArray⟩]) (t := 36) F1 M1 (wantedS rfl) (run_box rfl (F1.ev 1 rfl)) rfl (by decide) fun g1 a2 w2 hgg1 hb2 F2 M2 => ?_
    refine sr (v := (.bool false)) F2 (run_as rfl rfl) rfl rfl rfl fun a3 F3 => ?_
    refine sn ?_
    clear F0 F1 F2 M0 M1
    refine wp_seq ?_
    refine wsl ?_
    refine sr F3 (run_fldA (m := 1) (s := 1) rfl (F3.ev 3 rfl) Tryd.underlying36 rfl rfl (by kernel_rfl) (by decide)) rfl rfl rfl fun a4 F4 => ?_
    refine sr (v := (.string ⟨x.toArray⟩)) F4 (run_ldF rfl (F4.ev 13 rfl) (M2.at 0 rfl) rfl (by kernel_rfl)) rfl rfl rfl fun a5 F5 => ?_
    refine sr F5 (run_len rfl (F5.ev 14 rfl) rfl Tryd.underlying9) rfl rfl rfl fun a6 F6 => ?_
    refine sr (v := (.bool false)) F6 (run_gtr rfl (F6.ev 15 rfl) rfl (decide_eq_false (by omega))) rfl rfl rfl fun a7 F7 => ?_
    refine mvS F7 rfl rfl rfl rfl rfl fun a8 F8 => ?_
    refine sq (v := (.pointer (some ⟨g1, 0, none⟩))) F8 (wantedG F8 rfl rfl rfl rfl rfl) (run_fldA (m := 1) (s := 0) rfl (F8.ev 3 rfl) Tryd.underlying36 rfl rfl (by kernel_rfl) (by decide)) rfl (by decide) fun a9 F9 => ?_
    refine sq (v := (.string ⟨nm.toArray⟩)) F9 (wantedG F9 rfl rfl rfl rfl rfl) (run_ldF rfl (F9.ev 18 rfl) (M2.at 0 rfl) rfl (by kernel_rfl)) rfl (by decide) fun a10 F10 => ?_
    refine sq (v := (.int .i64 (nm.length : Int))) F10 (wantedG F10 rfl rfl rfl rfl rfl) (run_len rfl (F10.ev 19 rfl) rfl Tryd.underlying9) rfl (by decide) fun a11 F11 => ?_
    refine sq (v := (.bool false)) F11 (wantedG F11 rfl rfl rfl rfl rfl) (run_gtr rfl (F11.ev 20 rfl) rfl (decide_eq_false (by omega))) rfl (by decide) fun a12 F12 => ?_
    refine sr (v := (.bool false)) F12 (run_pick rfl (F12.ev 17 rfl) rfl (F12.ev 21 rfl)) rfl rfl rfl fun a13 F13 => ?_
    refine mvS F13 rfl rfl rfl rfl rfl fun a14 F14 => ?_
    refine sq (v := (.pointer (some ⟨g0, 0, none⟩))) F14 (wantedG F14 rfl rfl rfl rfl rfl) (run_fldA (m := 1) (s := 0) rfl (F14.ev 2 rfl) Tryd.underlying31 rfl rfl (by kernel_rfl) (by decide)) rfl (by decide) fun a15 F15 => ?_
    refine sq (v := v) F15 (wantedG F15 rfl rfl rfl rfl rfl) (run_ldF rfl (F15.ev 24 rfl) (M2.at 1 rfl) rfl (by kernel_rfl)) rfl (by decide) fun a16 F16 => ?_
    refine sq (v := (.int .i64 (K.length : Int))) F16 (wantedG F16 rfl rfl rfl rfl rfl) (run_lenS rfl (F16.ev 25 rfl) (hV.below M2.below) rfl Tryd.underlying29) rfl (by decide) fun a17 F17 => ?_
    refine sq (v := (.bool true)) F17 (wantedG F17 rfl rfl rfl rfl rfl) (run_gtr rfl (F17.ev 26 rfl) rfl (decide_eq_true (by omega))) rfl (by decide) fun a18 F18 => ?_
    refine sr (v := (.bool true)) F18 (run_pick rfl (F18.ev 23 rfl) rfl (F18.ev 27 rfl)) rfl rfl rfl fun a19 F19 => ?_
    refine sn ?_
    clear F3 F4 F5 F6 F7 F8 F9 F10 F11 F12 F13 F14 F15 F16 F17 F18
    refine wp_cond_true (F19.ev 28 rfl) ?_
    refine wsl ?_
    refine sqC (v := (.bool true)) F19 M2 (wantedS rfl) (run_call rfl Tryd.func11 (by kernel_rfl) rfl (mapE0 )) rfl (by decide) (fixed39_any w2) fun a20 w3 hb3 F20 M3 => ?_
    refine asS F20 rfl rfl rfl rfl rfl fun a21 F21 => ?_
    refine sn ?_
    clear F19 F20 M2
    refine wp_ret ?_
    refine nxRet ?_
    exact ret1 F21 rfl rfl ⟨rfl, M3.below⟩
  obtain ⟨U, hU⟩ : ∃ U, (openC K nm x).1 = U := ⟨_, rfl⟩
  obtain ⟨e0, he0⟩ : ∃ e, (openC K nm x).2 = e := ⟨_, rfl⟩
  have hop : openC K nm x = (U, e0) := by rw [← hU, ← he0]
  obtain ⟨q0, hq0⟩ : ∃ e, (epochC x).1 = e := ⟨_, rfl⟩
  obtain ⟨q1, hq1⟩ : ∃ e, (epochC x).2 = e := ⟨_, rfl⟩
  have hep : epochC x = (q0, q1) := by rw [← hq0, ← hq1]
  refine walk_enter Tryd.func7 rfl rfl rfl fun a0 F0 => ?_
  have M0 := Mem.new w
  refine wsl ?_
  refine sqNew (cs := #[v]) (t := 31) F0 M0 (wantedS rfl) (run_box rfl (F0.ev 0 rfl)) rfl (by decide) fun g0 a1 w1 hgg0 hb1 F1 M1 => ?_
  refine sqNew (cs := #[.string ⟨nm.toArray⟩, .string ⟨x.toArray⟩]) (t := 36) F1 M1 (wantedS rfl) (run_box rfl (F1.ev 1 rfl)) rfl (by decide) fun g1 a2 w2 hgg1 hb2 F2 M2 => ?_
  refine sr (v := (.bool false)) F2 (run_as rfl rfl) rfl rfl rfl fun a3 F3 => ?_
  refine sn ?_
  clear F0 F1 F2 M0 M1
  refine wp_seq ?_
  refine wsl ?_
  refine sr F3 (run_fldA (m := 1) (s := 1) rfl (F3.ev 3 rfl) Tryd.underlying36 rfl rfl (by kernel_rfl) (by decide)) rfl rfl rfl fun a4 F4 => ?_
  refine sr (v := (.string ⟨x.toArray⟩)) F4 (run_ldF rfl (F4.ev 13 rfl) (M2.at 0 rfl) rfl (by kernel_rfl)) rfl rfl rfl fun a5 F5 => ?_
  refine sr F5 (run_len rfl (F5.ev 14 rfl) rfl Tryd.underlying9) rfl rfl rfl fun a6 F6 => ?_
  refine sr (v := (.bool false)) F6 (run_gtr rfl (F6.ev 15 rfl) rfl (decide_eq_false (by omega))) rfl rfl rfl fun a7 F7 => ?_
  refine mvS F7 rfl rfl rfl rfl rfl fun a8 F8 => ?_
  refine sq (v := (.pointer (some ⟨g1, 0, none⟩))) F8 (wantedG F8 rfl rfl rfl rfl rfl) (run_fldA (m := 1) (s := 0) rfl (F8.ev 3 rfl) Tryd.underlying36 rfl rfl (by kernel_rfl) (by decide)) rfl (by decide) fun a9 F9 => ?_
  refine sq (v := (.string ⟨nm.toArray⟩)) F9 (wantedG F9 rfl rfl rfl rfl rfl) (run_ldF rfl (F9.ev 18 rfl) (M2.at 0 rfl) rfl (by kernel_rfl)) rfl (by decide) fun a10 F10 => ?_
  refine sq (v := (.int .i64 (nm.length : Int))) F10 (wantedG F10 rfl rfl rfl rfl rfl) (run_len rfl (F10.ev 19 rfl) rfl Tryd.underlying9) rfl (by decide) fun a11 F11 => ?_
  refine sq (v := (.bool false)) F11 (wantedG F11 rfl rfl rfl rfl rfl) (run_gtr rfl (F11.ev 20 rfl) rfl (decide_eq_false (by omega))) rfl (by decide) fun a12 F12 => ?_
  refine sr (v := (.bool false)) F12 (run_pick rfl (F12.ev 17 rfl) rfl (F12.ev 21 rfl)) rfl rfl rfl fun a13 F13 => ?_
  refine mvS F13 rfl rfl rfl rfl rfl fun a14 F14 => ?_
  refine sq (v := (.pointer (some ⟨g0, 0, none⟩))) F14 (wantedG F14 rfl rfl rfl rfl rfl) (run_fldA (m := 1) (s := 0) rfl (F14.ev 2 rfl) Tryd.underlying31 rfl rfl (by kernel_rfl) (by decide)) rfl (by decide) fun a15 F15 => ?_
  refine sq (v := v) F15 (wantedG F15 rfl rfl rfl rfl rfl) (run_ldF rfl (F15.ev 24 rfl) (M2.at 1 rfl) rfl (by kernel_rfl)) rfl (by decide) fun a16 F16 => ?_
  refine sq (v := (.int .i64 (K.length : Int))) F16 (wantedG F16 rfl rfl rfl rfl rfl) (run_lenS rfl (F16.ev 25 rfl) (hV.below M2.below) rfl Tryd.underlying29) rfl (by decide) fun a17 F17 => ?_
  refine sq (v := (.bool false)) F17 (wantedG F17 rfl rfl rfl rfl rfl) (run_gtr rfl (F17.ev 26 rfl) rfl (decide_eq_false (by omega))) rfl (by decide) fun a18 F18 => ?_
  refine sr (v := (.bool false)) F18 (run_pick rfl (F18.ev 23 rfl) rfl (F18.ev 27 rfl)) rfl rfl rfl fun a19 F19 => ?_
  refine sn ?_
  clear F3 F4 F5 F6 F7 F8 F9 F10 F11 F12 F13 F14 F15 F16 F17 F18
  refine cfs (F19.ev 28 rfl) ?_
  refine wsl ?_
  refine sr F19 (run_ldB rfl (F19.ev 2 rfl) (M2.at 1 rfl) Tryd.underlying31 rfl szKy rfl) rfl rfl rfl fun a20 F20 => ?_
  refine sr F20 (run_ldB rfl (F20.ev 3 rfl) (M2.at 0 rfl) Tryd.underlying36 rfl szBox rfl) rfl rfl rfl fun a21 F21 => ?_
  refine sqC (v := (.tuple #[(.string ⟨U.toArray⟩), (.int .i64 e0)])) F21 M2 (wantedS rfl) (run_call rfl Tryd.func20 (by kernel_rfl) rfl (mapE2 (F21.ev 31 rfl) (F21.ev 32 rfl))) rfl (by decide) ((by have h := copen_any K v nm x w2 (HG.below M2.below) (hV.below M2.below) h32 (by omega) (by omega); rw [hop] at h; exact h)) fun a22 w3 hb3 F22 M3 => ?_
  refine mvS F22 rfl rfl rfl rfl rfl fun a23 F23 => ?_
  refine sr (v := (.string ⟨U.toArray⟩)) F23 (run_ext rfl (F23.ev 30 rfl) rfl) rfl rfl rfl fun a24 F24 => ?_
  refine sr (v := (.int .i64 e0)) F24 (run_ext rfl (F24.ev 30 rfl) rfl) rfl rfl rfl fun a25 F25 => ?_
  refine asS F25 rfl rfl rfl rfl rfl fun a26 F26 => ?_
  refine asS F26 rfl rfl rfl rfl rfl fun a27 F27 => ?_
  refine sn ?_
  clear F19 F20 F21 F22 F23 F24 F25 F26 M2
  refine wsl ?_
  refine sr F27 (run_ldB rfl (F27.ev 2 rfl) (M3.at 1 rfl) Tryd.underlying31 rfl szKy rfl) rfl rfl rfl fun a28 F28 => ?_
  refine sr F28 (run_ldB rfl (F28.ev 3 rfl) (M3.at 0 rfl) Tryd.underlying36 rfl szBox rfl) rfl rfl rfl fun a29 F29 => ?_
  refine sqC (v := (.tuple #[(.string ⟨U.toArray⟩), (.int .i64 e0)])) F29 M3 (wantedS rfl) (run_call rfl Tryd.func22 (by kernel_rfl) rfl (mapE2 (F29.ev 37 rfl) (F29.ev 38 rfl))) rfl (by decide) ((by have h := ropen39_any K v nm x w3 (hV.below M3.below) h32 (by omega) (by omega); rw [hop] at h; exact h)) fun a30 w4 hb4 F30 M4 => ?_
  refine mvS F30 rfl rfl rfl rfl rfl fun a31 F31 => ?_
  refine sr (v := (.string ⟨U.toArray⟩)) F31 (run_ext rfl (F31.ev 36 rfl) rfl) rfl rfl rfl fun a32 F32 => ?_
  refine sr (v := (.int .i64 e0)) F32 (run_ext rfl (F32.ev 36 rfl) rfl) rfl rfl rfl fun a33 F33 => ?_
  refine asS F33 rfl rfl rfl rfl rfl fun a34 F34 => ?_
  refine asS F34 rfl rfl rfl rfl rfl fun a35 F35 => ?_
  refine sn ?_
  clear F27 F28 F29 F30 F31 F32 F33 F34 M3
  refine wsl ?_
  refine sr F35 (run_ldB rfl (F35.ev 3 rfl) (M4.at 0 rfl) Tryd.underlying36 rfl szBox rfl) rfl rfl rfl fun a36 F36 => ?_
  refine sqC (v := (.tuple #[(.int .i64 (q0 : Int)), (.int .i64 q1)])) F36 M4 (wantedS rfl) (run_call rfl Tryd.func21 (by kernel_rfl) rfl (mapE1 (F36.ev 43 rfl))) rfl (by decide) ((by have h := cepoch_any nm x w4; rw [hep] at h; exact h)) fun a37 w5 hb5 F37 M5 => ?_
  refine mvS F37 rfl rfl rfl rfl rfl fun a38 F38 => ?_
  refine sr (v := (.int .i64 (q0 : Int))) F38 (run_ext rfl (F38.ev 42 rfl) rfl) rfl rfl rfl fun a39 F39 => ?_
  refine sr (v := (.int .i64 q1)) F39 (run_ext rfl (F39.ev 42 rfl) rfl) rfl rfl rfl fun a40 F40 => ?_
  refine asS F40 rfl rfl rfl rfl rfl fun a41 F41 => ?_
  refine asS F41 rfl rfl rfl rfl rfl fun a42 F42 => ?_
  refine sn ?_
  clear F35 F36 F37 F38 F39 F40 F41 M4
  refine wsl ?_
  refine sr F42 (run_ldB rfl (F42.ev 3 rfl) (M5.at 0 rfl) Tryd.underlying36 rfl szBox rfl) rfl rfl rfl fun a43 F43 => ?_
  refine sqC (v := (.tuple #[(.int .i64 (q0 : Int)), (.int .i64 q1)])) F43 M5 (wantedS rfl) (run_call rfl Tryd.func23 (by kernel_rfl) rfl (mapE1 (F43.ev 48 rfl))) rfl (by decide) ((by have h := repoch_any nm x w5; rw [hep] at h; exact h)) fun a44 w6 hb6 F44 M6 => ?_
  refine mvS F44 rfl rfl rfl rfl rfl fun a45 F45 => ?_
  refine sr (v := (.int .i64 (q0 : Int))) F45 (run_ext rfl (F45.ev 47 rfl) rfl) rfl rfl rfl fun a46 F46 => ?_
  refine sr (v := (.int .i64 q1)) F46 (run_ext rfl (F46.ev 47 rfl) rfl) rfl rfl rfl fun a47 F47 => ?_
  refine asS F47 rfl rfl rfl rfl rfl fun a48 F48 => ?_
  refine asS F48 rfl rfl rfl rfl rfl fun a49 F49 => ?_
  refine sn ?_
  clear F42 F43 F44 F45 F46 F47 F48 M5
  refine wsl ?_
  refine sqC (v := (.bool true)) F49 M6 (wantedS rfl) (run_call rfl Tryd.func11 (by kernel_rfl) rfl (mapE0 )) rfl (by decide) (fixed39_any w6) fun a50 w7 hb7 F50 M7 => ?_
  refine mvS F50 rfl rfl rfl rfl rfl fun a51 F51 => ?_
  refine sq (v := (.string ⟨U.toArray⟩)) F51 (wantedG F51 rfl rfl rfl rfl rfl) (run_mv rfl (F51.ev 5 rfl)) rfl (by decide) fun a52 F52 => ?_
  refine sq (v := (.string ⟨U.toArray⟩)) F52 (wantedG F52 rfl rfl rfl rfl rfl) (run_mv rfl (F52.ev 7 rfl)) rfl (by decide) fun a53 F53 => ?_
  refine sq (v := (.bool true)) F53 (wantedG F53 rfl rfl rfl rfl rfl) (run_eqs rfl (F53.ev 54 rfl) (F53.ev 55 rfl) (by simp)) rfl (by decide) fun a54 F54 => ?_
  refine sr (v := (.bool true)) F54 (run_pick rfl (F54.ev 53 rfl) (F54.ev 56 rfl) rfl) rfl rfl rfl fun a55 F55 => ?_
  refine mvS F55 rfl rfl rfl rfl rfl fun a56 F56 => ?_
  refine sq (v := (.int .i64 e0)) F56 (wantedG F56 rfl rfl rfl rfl rfl) (run_mv rfl (F56.ev 6 rfl)) rfl (by decide) fun a57 F57 => ?_
  refine sq (v := (.int .i64 e0)) F57 (wantedG F57 rfl rfl rfl rfl rfl) (run_mv rfl (F57.ev 8 rfl)) rfl (by decide) fun a58 F58 => ?_
  refine sq (v := (.bool true)) F58 (wantedG F58 rfl rfl rfl rfl rfl) (run_eqi rfl (F58.ev 59 rfl) (F58.ev 60 rfl) (beq_iff_eq.2 (by omega))) rfl (by decide) fun a59 F59 => ?_
  refine sr (v := (.bool true)) F59 (run_pick rfl (F59.ev 58 rfl) (F59.ev 61 rfl) rfl) rfl rfl rfl fun a60 F60 => ?_
  refine mvS F60 rfl rfl rfl rfl rfl fun a61 F61 => ?_
  refine sq (v := (.int .i64 (q0 : Int))) F61 (wantedG F61 rfl rfl rfl rfl rfl) (run_mv rfl (F61.ev 9 rfl)) rfl (by decide) fun a62 F62 => ?_
  refine sq (v := (.int .i64 (q0 : Int))) F62 (wantedG F62 rfl rfl rfl rfl rfl) (run_mv rfl (F62.ev 11 rfl)) rfl (by decide) fun a63 F63 => ?_
  refine sq (v := (.bool true)) F63 (wantedG F63 rfl rfl rfl rfl rfl) (run_eqi rfl (F63.ev 64 rfl) (F63.ev 65 rfl) (beq_iff_eq.2 (by omega))) rfl (by decide) fun a64 F64 => ?_
  refine sr (v := (.bool true)) F64 (run_pick rfl (F64.ev 63 rfl) (F64.ev 66 rfl) rfl) rfl rfl rfl fun a65 F65 => ?_
  refine mvS F65 rfl rfl rfl rfl rfl fun a66 F66 => ?_
  refine sq (v := (.int .i64 q1)) F66 (wantedG F66 rfl rfl rfl rfl rfl) (run_mv rfl (F66.ev 10 rfl)) rfl (by decide) fun a67 F67 => ?_
  refine sq (v := (.int .i64 q1)) F67 (wantedG F67 rfl rfl rfl rfl rfl) (run_mv rfl (F67.ev 12 rfl)) rfl (by decide) fun a68 F68 => ?_
  refine sq (v := (.bool true)) F68 (wantedG F68 rfl rfl rfl rfl rfl) (run_eqi rfl (F68.ev 69 rfl) (F68.ev 70 rfl) (beq_iff_eq.2 (by omega))) rfl (by decide) fun a69 F69 => ?_
  refine sr (v := (.bool true)) F69 (run_pick rfl (F69.ev 68 rfl) (F69.ev 71 rfl) rfl) rfl rfl rfl fun a70 F70 => ?_
  refine asS F70 rfl rfl rfl rfl rfl fun a71 F71 => ?_
  refine sn ?_
  clear F49 F50 F51 F52 F53 F54 F55 F56 F57 F58 F59 F60 F61 F62 F63 F64 F65 F66 F67 F68 F69 F70 M6
  refine wp_ret ?_
  exact ret1 F71 rfl rfl ⟨rfl, M7.below⟩
end Go.Proofs.YtdjjiblijbjobaaDoor
