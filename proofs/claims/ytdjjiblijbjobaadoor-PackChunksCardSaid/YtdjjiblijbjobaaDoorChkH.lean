/- The law PackChunks. Printed by gen_chk11.py. -/
import Derived.Test.YtdjjiblijbjobaaDoorChk2
import Derived.Test.YtdjjiblijbjobaaDoorPackM
import Derived.Test.YtdjjiblijbjobaaDoorPackU
namespace Go.Proofs.YtdjjiblijbjobaaDoor
open Go.RowKit

set_option maxRecDepth 100000 in
set_option maxHeartbeats 1000000 in
theorem lawPackChunks_any (K : List (List UInt8)) (v : Value) (D : List (List UInt8)) (vd : Value) (w : World) (HG : Glob w) (hV : Sl w v 32 K.length (K.flatMap dgC)) (h32 : ∀ k ∈ K, k.length = 32) (hD : Strs w vd D ∧ D.length ≤ maxLen) : Calls Tryd.prog 10 #[.agg #[v], vd] w fun e w' => e = .returned (.bool true) ∧ Below w.heap.size w w' := by
  have hVd := Strs.sl hD.1
  by_cases h8 : 8 < D.length
  · skip
    refine walk_enter Tryd.func10 rfl rfl rfl fun a0 F0 => ?_
    have M0 := Mem.new w
    refine wsl ?_
    refine sqNew (cs := #[v]) (t := 31) F0 M0 (wantedS rfl) (run_box rfl (F0.ev 0 rfl)) rfl (by decide) fun g0 a1 w1 hgg0 hb1 F1 M1 => ?_
    refine sr (v := (.bool false)) F1 (run_as rfl rfl) rfl rfl rfl fun a2 F2 => ?_
    refine sn ?_
    clear F0 F1 M0
    refine wp_seq ?_
    refine wsl ?_
    refine mvS F2 rfl rfl rfl rfl rfl fun a3 F3 => ?_
    refine sr F3 (run_lenS rfl (F3.ev 18 rfl) (hVd.below M1.below) rfl Tryd.underlying23) rfl rfl rfl fun a4 F4 => ?_
    refine sr (v := (.bool true)) F4 (run_gtr rfl (F4.ev 19 rfl) rfl (decide_eq_true (by omega))) rfl rfl rfl fun a5 F5 => ?_
    refine mvS F5 rfl rfl rfl rfl rfl fun a6 F6 => ?_
    refine sqSkip F6 (unwantedG F6 rfl rfl rfl rfl rfl) rfl (by decide) fun a7 F7 => ?_
    refine sqSkip F7 (unwantedG F7 rfl rfl rfl rfl rfl) rfl (by decide) fun a8 F8 => ?_
    refine sqSkip F8 (unwantedG F8 rfl rfl rfl rfl rfl) rfl (by decide) fun a9 F9 => ?_
    refine sqSkip F9 (unwantedG F9 rfl rfl rfl rfl rfl) rfl (by decide) fun a10 F10 => ?_
    refine sr (v := (.bool true)) F10 (run_pick rfl (F10.ev 21 rfl) rfl (F10.ev 25 rfl)) rfl rfl rfl fun a11 F11 => ?_
    refine sn ?_
    clear F2 F3 F4 F5 F6 F7 F8 F9 F10
    refine wp_cond_true (F11.ev 26 rfl) ?_
    refine wsl ?_
    refine sqC (v := (.bool true)) F11 M1 (wantedS rfl) (run_call rfl Tryd.func28 (by kernel_rfl) rfl (mapE0 )) rfl (by decide) (awake40_any w1) fun a12 w2 hb2 F12 M2 => ?_
    refine asS F12 rfl rfl rfl rfl rfl fun a13 F13 => ?_
    refine sn ?_
    clear F11 F12 M1
    refine wp_ret ?_
    refine nxRet ?_
    exact ret1 F13 rfl rfl ⟨rfl, M2.below⟩
  by_cases h5 : 5 < K.length
  · skip
    refine walk_enter Tryd.func10 rfl rfl rfl fun a0 F0 => ?_
    have M0 := Mem.new w
    refine wsl ?_
    refine sqNew (cs := #[v]) (t := 31) F0 M0 (wantedS rfl) (run_box rfl (F0.ev 0 rfl)) rfl (by decide) fun g0 a1 w1 hgg0 hb1 F1 M1 => ?_
    refine sr (v := (.bool false)) F1 (run_as rfl rfl) rfl rfl rfl fun a2 F2 => ?_
    refine sn ?_
    clear F0 F1 M0
    refine wp_seq ?_
    refine wsl ?_
    refine mvS F2 rfl rfl rfl rfl rfl fun a3 F3 => ?_
    refine sr F3 (run_lenS rfl (F3.ev 18 rfl) (hVd.below M1.below) rfl Tryd.underlying23) rfl rfl rfl fun a4 F4 => ?_
    refine sr (v := (.bool false)) F4 (run_gtr rfl (F4.ev 19 rfl) rfl (decide_eq_false (by omega))) rfl rfl rfl fun a5 F5 => ?_
    refine mvS F5 rfl rfl rfl rfl rfl fun a6 F6 => ?_
    refine sq (v := (.pointer (some ⟨g0, 0, none⟩))) F6 (wantedG F6 rfl rfl rfl rfl rfl) (run_fldA (m := 1) (s := 0) rfl (F6.ev 2 rfl) Tryd.underlying31 rfl rfl (by kernel_rfl) (by decide)) rfl (by decide) fun a7 F7 => ?_
    refine sq (v := v) F7 (wantedG F7 rfl rfl rfl rfl rfl) (run_ldF rfl (F7.ev 22 rfl) (M1.at 0 rfl) rfl (by kernel_rfl)) rfl (by decide) fun a8 F8 => ?_
    refine sq (v := (.int .i64 (K.length : Int))) F8 (wantedG F8 rfl rfl rfl rfl rfl) (run_lenS rfl (F8.ev 23 rfl) (hV.below M1.below) rfl Tryd.underlying29) rfl (by decide) fun a9 F9 => ?_
    refine sq (v := (.bool true)) F9 (wantedG F9 rfl rfl rfl rfl rfl) (run_gtr rfl (F9.ev 24 rfl) rfl (decide_eq_true (by omega))) rfl (by decide) fun a10 F10 => ?_
    refine sr (v := (.bool true)) F10 (run_pick rfl (F10.ev 21 rfl) rfl (F10.ev 25 rfl)) rfl rfl rfl fun a11 F11 => ?_
    refine sn ?_
    clear F2 F3 F4 F5 F6 F7 F8 F9 F10
    refine wp_cond_true (F11.ev 26 rfl) ?_
    refine wsl ?_
    refine sqC (v := (.bool true)) F11 M1 (wantedS rfl) (run_call rfl Tryd.func28 (by kernel_rfl) rfl (mapE0 )) rfl (by decide) (awake40_any w1) fun a12 w2 hb2 F12 M2 => ?_
    refine asS F12 rfl rfl rfl rfl rfl fun a13 F13 => ?_
    refine sn ?_
    clear F11 F12 M1
    refine wp_ret ?_
    refine nxRet ?_
    exact ret1 F13 rfl rfl ⟨rfl, M2.below⟩
  refine walk_enter Tryd.func10 rfl rfl rfl fun a0 F0 => ?_
  have M0 := Mem.new w
  refine wsl ?_
  refine sqNew (cs := #[v]) (t := 31) F0 M0 (wantedS rfl) (run_box rfl (F0.ev 0 rfl)) rfl (by decide) fun g0 a1 w1 hgg0 hb1 F1 M1 => ?_
  refine sr (v := (.bool false)) F1 (run_as rfl rfl) rfl rfl rfl fun a2 F2 => ?_
  refine sn ?_
  clear F0 F1 M0
  refine wp_seq ?_
  refine wsl ?_
  refine mvS F2 rfl rfl rfl rfl rfl fun a3 F3 => ?_
  refine sr F3 (run_lenS rfl (F3.ev 18 rfl) (hVd.below M1.below) rfl Tryd.underlying23) rfl rfl rfl fun a4 F4 => ?_
  refine sr (v := (.bool false)) F4 (run_gtr rfl (F4.ev 19 rfl) rfl (decide_eq_false (by omega))) rfl rfl rfl fun a5 F5 => ?_
  refine mvS F5 rfl rfl rfl rfl rfl fun a6 F6 => ?_
  refine sq (v := (.pointer (some ⟨g0, 0, none⟩))) F6 (wantedG F6 rfl rfl rfl rfl rfl) (run_fldA (m := 1) (s := 0) rfl (F6.ev 2 rfl) Tryd.underlying31 rfl rfl (by kernel_rfl) (by decide)) rfl (by decide) fun a7 F7 => ?_
  refine sq (v := v) F7 (wantedG F7 rfl rfl rfl rfl rfl) (run_ldF rfl (F7.ev 22 rfl) (M1.at 0 rfl) rfl (by kernel_rfl)) rfl (by decide) fun a8 F8 => ?_
  refine sq (v := (.int .i64 (K.length : Int))) F8 (wantedG F8 rfl rfl rfl rfl rfl) (run_lenS rfl (F8.ev 23 rfl) (hV.below M1.below) rfl Tryd.underlying29) rfl (by decide) fun a9 F9 => ?_
  refine sq (v := (.bool false)) F9 (wantedG F9 rfl rfl rfl rfl rfl) (run_gtr rfl (F9.ev 24 rfl) rfl (decide_eq_false (by omega))) rfl (by decide) fun a10 F10 => ?_
  refine sr (v := (.bool false)) F10 (run_pick rfl (F10.ev 21 rfl) rfl (F10.ev 25 rfl)) rfl rfl rfl fun a11 F11 => ?_
  refine sn ?_
  clear F2 F3 F4 F5 F6 F7 F8 F9 F10
  refine cfs (F11.ev 26 rfl) ?_
  refine wsl ?_
  refine sqOwn0 (size := 2) (e := 36) F11 M1 (wantedS rfl) (run_none (m := 2) rfl elBox.un (by kernel_rfl)) rfl (by decide) fun v1 a12 w2 hO1 hb2 M2 F12 => ?_
  refine asS F12 rfl rfl rfl rfl rfl fun a13 F13 => ?_
  refine sn ?_
  clear F11 F12 M1
  refine wp_seq ?_
  refine wsl ?_
  refine sr (v := (.int .i64 0)) F13 (run_as rfl rfl) rfl rfl rfl fun a14 F14 => ?_
  refine sn ?_
  clear F13
  refine wp_block ?_
  refine wkLoop (fun m a w2 => ∃ (i : Nat) (v5 : Value), i ≤ D.length ∧ m = D.length - i ∧ (∀ s ∈ D.take i, s.length ≤ 200) ∧ (i = 0 ∨ K ≠ []) ∧ OwnR w [(g0, isB 31 #[v])] w2 36 2 v5 ((D.take i).map (bxC K)).length (((D.take i).map (bxC K)).flatMap boxC) ∧ Fr a 115 [(1, vd), (2, .pointer (some ⟨g0, 0, none⟩)), (5, v5), (6, .int .i64 (i : Int))] ∧ Mem w [(g0, isB 31 #[v])] w2) D.length ⟨0, v1, Nat.zero_le _, rfl, by simp, .inl rfl, hO1, F14.sub ⟨rfl, rfl, rfl, rfl, trivial⟩, M2⟩ ?_
  rintro m a0 w1 ⟨i, v5, hi, rfl, hsm, hik, hO0, F0, M0⟩
  by_cases h1 : i < D.length
  · obtain ⟨X, hX⟩ : ∃ X, D[i]? = some X := ⟨_, List.getElem?_eq_getElem h1⟩
    obtain ⟨n5, hn5⟩ : ∃ n, ((D.take i).map (bxC K)).length = n := ⟨_, rfl⟩
    obtain ⟨xs5, hxs5⟩ : ∃ x, ((D.take i).map (bxC K)).flatMap boxC = x := ⟨_, rfl⟩
    have hni : n5 = i := by rw [← hn5, List.length_map, List.length_take]; omega
    rw [hn5, hxs5] at hO0
    by_cases h2 : 200 < X.length
    · skip
      refine wp_seq ?_
      refine wsl ?_
      refine mvS F0 rfl rfl rfl rfl rfl fun a1 F1 => ?_
      refine mvS F1 rfl rfl rfl rfl rfl fun a2 F2 => ?_
      refine sr F2 (run_lenS rfl (F2.ev 30 rfl) (hVd.below M0.below) rfl Tryd.underlying23) rfl rfl rfl fun a3 F3 => ?_
      refine sr (v := (.bool true)) F3 (run_lss rfl (F3.ev 29 rfl) (F3.ev 31 rfl) (decide_eq_true (by omega))) rfl rfl rfl fun a4 F4 => ?_
      refine sn ?_
      clear F0 F1 F2 F3
      refine cts (F4.ev 32 rfl) ?_
      refine wp_seq ?_
      refine wp_block ?_
      refine wp_seq ?_
      refine wsl ?_
      refine mvS F4 rfl rfl rfl rfl rfl fun a5 F5 => ?_
      refine mvS F5 rfl rfl rfl rfl rfl fun a6 F6 => ?_
      refine sr (v := (slPtr vd (i * 1))) F6 (run_atP (i := i) rfl (F6.ev 35 rfl) (F6.ev 36 rfl) rfl (hVd.below M0.below) (by omega) elStr.un (by kernel_rfl)) rfl rfl rfl fun a7 F7 => ?_
      refine sr (v := (.string ⟨X.toArray⟩)) F7 (run_ldP rfl (F7.ev 37 rfl) (hVd.below M0.below) (map_at hX) (by kernel_rfl)) rfl rfl rfl fun a8 F8 => ?_
      refine sr F8 (run_len rfl (F8.ev 38 rfl) rfl Tryd.underlying9) rfl rfl rfl fun a9 F9 => ?_
      refine sr (v := (.bool true)) F9 (run_gtr rfl (F9.ev 39 rfl) rfl (decide_eq_true (by omega))) rfl rfl rfl fun a10 F10 => ?_
      refine sn ?_
      clear F4 F5 F6 F7 F8 F9
      refine wp_cond_true (F10.ev 40 rfl) ?_
      refine wsl ?_
      refine sqC (v := (.bool true)) F10 M0 (wantedS rfl) (run_call rfl Tryd.func28 (by kernel_rfl) rfl (mapE0 )) rfl (by decide) (awake40_any w1) fun a11 w2 hb2 F11 M1 => ?_
      have hO1 := hO0.grow hb2
      refine asS F11 rfl rfl rfl rfl rfl fun a12 F12 => ?_
      refine sn ?_
      clear F10 F11 M0
      refine wp_ret ?_
      refine nxRet ?_
      refine bkRet ?_
      refine nxRet ?_
      refine nxRet ?_
      refine bkRet ?_
      refine nxRet ?_
      exact ret1 F12 rfl rfl ⟨rfl, M1.below⟩
    by_cases hK : K = []
    · have hs : sealC K X = ([], [], 1) := by unfold sealC; rw [if_neg (by omega), if_pos hK]
      refine wp_seq ?_
      refine wsl ?_
      refine mvS F0 rfl rfl rfl rfl rfl fun a1 F1 => ?_
      refine mvS F1 rfl rfl rfl rfl rfl fun a2 F2 => ?_
      refine sr F2 (run_lenS rfl (F2.ev 30 rfl) (hVd.below M0.below) rfl Tryd.underlying23) rfl rfl rfl fun a3 F3 => ?_
      refine sr (v := (.bool true)) F3 (run_lss rfl (F3.ev 29 rfl) (F3.ev 31 rfl) (decide_eq_true (by omega))) rfl rfl rfl fun a4 F4 => ?_
      refine sn ?_
      clear F0 F1 F2 F3
      refine cts (F4.ev 32 rfl) ?_
      refine wp_seq ?_
      refine wp_block ?_
      refine wp_seq ?_
      refine wsl ?_
      refine mvS F4 rfl rfl rfl rfl rfl fun a5 F5 => ?_
      refine mvS F5 rfl rfl rfl rfl rfl fun a6 F6 => ?_
      refine sr (v := (slPtr vd (i * 1))) F6 (run_atP (i := i) rfl (F6.ev 35 rfl) (F6.ev 36 rfl) rfl (hVd.below M0.below) (by omega) elStr.un (by kernel_rfl)) rfl rfl rfl fun a7 F7 => ?_
      refine sr (v := (.string ⟨X.toArray⟩)) F7 (run_ldP rfl (F7.ev 37 rfl) (hVd.below M0.below) (map_at hX) (by kernel_rfl)) rfl rfl rfl fun a8 F8 => ?_
      refine sr F8 (run_len rfl (F8.ev 38 rfl) rfl Tryd.underlying9) rfl rfl rfl fun a9 F9 => ?_
      refine sr (v := (.bool false)) F9 (run_gtr rfl (F9.ev 39 rfl) rfl (decide_eq_false (by omega))) rfl rfl rfl fun a10 F10 => ?_
      refine sn ?_
      clear F4 F5 F6 F7 F8 F9
      refine cfs (F10.ev 40 rfl) ?_
      refine wp_seq ?_
      refine wp_region_new 115 [some (.agg #[v]), some vd, some (.int .i64 (i : Int)), some (slPtr vd (i * 1)), some (.string ⟨X.toArray⟩), some (.tuple #[(.agg #[.string ⟨List.toArray []⟩, .string ⟨List.toArray []⟩]), (.int .i64 1)]), some (.tuple #[(.agg #[.string ⟨List.toArray []⟩, .string ⟨List.toArray []⟩]), (.int .i64 1)]), some (.agg #[.string ⟨List.toArray []⟩, .string ⟨List.toArray []⟩]), some (.int .i64 1), none, none, some (.int .i64 1)] [] [⟨9, 7, 10, 36, #[.string ⟨List.toArray []⟩, .string ⟨List.toArray []⟩], #[.string ⟨List.toArray []⟩, .string ⟨List.toArray []⟩]⟩] (by kernel_rfl) (by kernel_rfl) F10.size (Mem.new w1) ?_ ?_ fun a11 w2 gs hI => ?_
      · intro d hd
        simp only [List.mem_cons, List.not_mem_nil, or_false] at hd
        rcases hd with rfl <;> exact ⟨Nat.le_of_ble_eq_true (by kernel_rfl), _, rfl, rfl⟩
      · refine ⟨?_, ?_, ?_, ?_, ?_, ?_, ?_, ?_, ?_, ?_, ?_, ?_, trivial⟩
        · refine .val 43 (fun vx _ => vx = (.agg #[v])) rfl (hT_val rfl rfl) (by simp) fun a W hS hh hd hst => ⟨wanted_yes rfl, ?_⟩
          exact givn_run (run_ldB rfl (eval_tmp (hh 2 _ rfl (F10.at 2 rfl))) ((M0.grow hS.below).at 0 rfl) Tryd.underlying31 rfl szKy rfl)
        · refine .val 44 (fun vx _ => vx = vd) rfl (hT_val rfl rfl) (by simp) fun a W hS hh hd hst => ⟨wanted_yes rfl, ?_⟩
          exact givn_run (run_mv rfl (eval_tmp (hh 1 _ rfl (F10.at 1 rfl))))
        · refine .val 45 (fun vx _ => vx = (.int .i64 (i : Int))) rfl (hT_val rfl rfl) (by simp) fun a W hS hh hd hst => ⟨wanted_yes rfl, ?_⟩
          exact givn_run (run_mv rfl (eval_tmp (hh 6 _ rfl (F10.at 6 rfl))))
        · refine .val 46 (fun vx _ => vx = (slPtr vd (i * 1))) rfl (hT_val rfl rfl) (by simp) fun a W hS hh hd hst => ⟨wanted_yes rfl, ?_⟩
          exact givn_run (run_atP (i := i) rfl (eval_tmp (hd 1 44 _ (by kernel_rfl) rfl)) (eval_tmp (hd 2 45 _ (by kernel_rfl) rfl)) rfl (hVd.below (M0.grow hS.below).below) (by omega) elStr.un (by kernel_rfl))
        · refine .val 47 (fun vx _ => vx = (.string ⟨X.toArray⟩)) rfl (hT_val rfl rfl) (by simp) fun a W hS hh hd hst => ⟨wanted_yes rfl, ?_⟩
          exact givn_run (run_ldP rfl (eval_tmp (hd 3 46 _ (by kernel_rfl) rfl)) (hVd.below (M0.grow hS.below).below) (map_at hX) (by kernel_rfl))
        · refine .val 48 (fun vx _ => vx = (.tuple #[(.agg #[.string ⟨List.toArray []⟩, .string ⟨List.toArray []⟩]), (.int .i64 1)])) rfl (hT_val rfl rfl) (by simp) fun a W hS hh hd hst => ⟨wanted_yes rfl, ?_⟩
          exact givn_call (run_call rfl Tryd.func18 (by kernel_rfl) rfl (mapE2 (eval_tmp (hd 0 43 _ (by kernel_rfl) rfl)) (eval_tmp (hd 4 47 _ (by kernel_rfl) rfl)))) ((by have h := csealK_any K v X W (HG.below (M0.grow hS.below).below) (hV.below (M0.grow hS.below).below) h32 (by omega); rw [hs] at h; exact h))
        · refine .val 42 (fun vx _ => vx = (.tuple #[(.agg #[.string ⟨List.toArray []⟩, .string ⟨List.toArray []⟩]), (.int .i64 1)])) rfl (hT_val rfl rfl) (by simp) fun a W hS hh hd hst => ⟨wanted_yes rfl, ?_⟩
          exact givn_run (run_mv rfl (eval_tmp (hd 5 48 _ (by kernel_rfl) rfl)))
        · refine .val 49 (fun vx _ => vx = (.agg #[.string ⟨List.toArray []⟩, .string ⟨List.toArray []⟩])) rfl (hT_val rfl rfl) (by simp) fun a W hS hh hd hst => ⟨wanted_yes rfl, ?_⟩
          exact givn_run (run_ext rfl (eval_tmp (hd 6 42 _ (by kernel_rfl) rfl)) rfl)
        · refine .val 50 (fun vx _ => vx = (.int .i64 1)) rfl (hT_val rfl rfl) (by simp) fun a W hS hh hd hst => ⟨wanted_yes rfl, ?_⟩
          exact givn_run (run_ext rfl (eval_tmp (hd 6 42 _ (by kernel_rfl) rfl)) rfl)
        · exact .new 0 _ rfl rfl rfl rfl rfl (by simp) (fun y e hy he => by rcases y with _ | _ | y <;> simp at hy <;> (try subst hy) <;> simp at he ⊢) fun a W => ⟨wanted_yes rfl, run_alloc rfl (by kernel_rfl)⟩
        · exact .put 0 _ rfl rfl rfl (by simp) (fun y e hy he => by rcases y with _ | _ | y <;> simp at hy <;> (try subst hy) <;> simp at he ⊢) (by kernel_rfl) 2 36 _ _ rfl rfl (fun a hh hd => (eval_tmp (hd 7 49 _ (by kernel_rfl) rfl))) rfl szBox rfl rfl (arr_one rfl)
        · refine .val 8 (fun vx _ => vx = (.int .i64 1)) rfl (hT_val rfl rfl) (by simp) fun a W hS hh hd hst => ⟨wanted_yes rfl, ?_⟩
          exact givn_run (run_as rfl (eval_tmp (hd 8 50 _ (by kernel_rfl) rfl)))
      obtain ⟨pg2, qg2, Bg2, fg2⟩ := hI.blk 0 _ rfl rfl
      generalize gs 0 = g2 at pg2 qg2 Bg2 fg2
      have hb2 := hI.mem.below
      have M1 := M0.add (cs := #[.string ⟨List.toArray []⟩, .string ⟨List.toArray []⟩]) hb2 qg2 Bg2
      have hO1 := hO0.add (S := isB 36 #[.string ⟨List.toArray []⟩, .string ⟨List.toArray []⟩]) hb2 qg2
      have F11 : Fr a11 115 [(1, vd), (2, (.pointer (some ⟨g0, 0, none⟩))), (5, v5), (6, (.int .i64 (i : Int))), (7, (.pointer (some ⟨g2, 0, none⟩))), (8, (.int .i64 1)), (29, (.int .i64 (i : Int))), (30, vd), (31, (.int .i64 (D.length : Int))), (32, (.bool true)), (35, vd), (36, (.int .i64 (i : Int))), (37, (slPtr vd (i * 1))), (38, (.string ⟨X.toArray⟩)), (39, (.int .i64 (X.length : Int))), (40, (.bool false)), (49, (.agg #[.string ⟨List.toArray []⟩, .string ⟨List.toArray []⟩])), (50, (.int .i64 1))] := fr_of_holds hI.size (hI.defers.trans F10.defers) ⟨hI.had 1 _ rfl (F10.at 1 rfl), hI.had 2 _ rfl (F10.at 2 rfl), hI.had 5 _ rfl (F10.at 5 rfl), hI.had 6 _ rfl (F10.at 6 rfl), pg2, hI.val 11 _ 8 _ rfl rfl rfl rfl, hI.had 29 _ rfl (F10.at 29 rfl), hI.had 30 _ rfl (F10.at 30 rfl), hI.had 31 _ rfl (F10.at 31 rfl), hI.had 32 _ rfl (F10.at 32 rfl), hI.had 35 _ rfl (F10.at 35 rfl), hI.had 36 _ rfl (F10.at 36 rfl), hI.had 37 _ rfl (F10.at 37 rfl), hI.had 38 _ rfl (F10.at 38 rfl), hI.had 39 _ rfl (F10.at 39 rfl), hI.had 40 _ rfl (F10.at 40 rfl), hI.val 7 _ 49 _ rfl rfl rfl rfl, hI.val 8 _ 50 _ rfl rfl rfl rfl, trivial⟩
      clear hI pg2 Bg2 fg2
      clear F10 M0
      refine nx ?_
      refine wp_seq ?_
      refine wsl ?_
      refine mvS F11 rfl rfl rfl rfl rfl fun a12 F12 => ?_
      refine sr (v := (.bool true)) F12 (run_nei rfl (F12.ev 51 rfl) rfl (bne_iff_ne.2 (by omega))) rfl rfl rfl fun a13 F13 => ?_
      refine sn ?_
      clear F11 F12
      refine wp_cond_true (F13.ev 52 rfl) ?_
      refine wsl ?_
      refine sqC (v := (.bool true)) F13 M1 (wantedS rfl) (run_call rfl Tryd.func28 (by kernel_rfl) rfl (mapE0 )) rfl (by decide) (awake40_any w2) fun a14 w3 hb3 F14 M2 => ?_
      have hO2 := hO1.grow hb3
      refine asS F14 rfl rfl rfl rfl rfl fun a15 F15 => ?_
      refine sn ?_
      clear F13 F14 M1
      refine wp_ret ?_
      refine nxRet ?_
      refine bkRet ?_
      refine nxRet ?_
      refine nxRet ?_
      refine bkRet ?_
      refine nxRet ?_
      exact ret1 F15 rfl rfl ⟨rfl, M2.below⟩
    have hs0 : sealC K X = (nameC K X, dataC K X, 0) := by unfold sealC; rw [if_neg (by omega), if_neg hK]
    have hmp := map_bx K D i hX
    have hsm2 : ∀ s ∈ D.take (i + 1), s.length ≤ 200 := by
      intro s hs
      rw [List.take_succ_eq_append_getElem h1] at hs
      rcases List.mem_append.1 hs with hs | hs
      · exact hsm s hs
      · rw [List.mem_singleton.1 hs, (List.getElem?_eq_some_iff.1 hX).2]; omega
    have hbx : bxC K X = (nameC K X, dataC K X) := rfl
    obtain ⟨Nm, hNm⟩ : ∃ N, nameC K X = N := ⟨_, rfl⟩
    obtain ⟨Dt, hDt⟩ : ∃ D, dataC K X = D := ⟨_, rfl⟩
    rw [hNm, hDt] at hs0 hbx
    have hs := hs0
    rw [hbx] at hmp
    have hl2 : ((D.take (i + 1)).map (bxC K)).length = n5 + 1 := by rw [hmp, List.length_append, hn5]; rfl
    have hx2 : ((D.take (i + 1)).map (bxC K)).flatMap boxC = xs5 ++ [.string ⟨Nm.toArray⟩, .string ⟨Dt.toArray⟩] := by rw [hmp, List.flatMap_append, hxs5]; rfl
    refine wp_seq ?_
    refine wsl ?_
    refine mvS F0 rfl rfl rfl rfl rfl fun a1 F1 => ?_
    refine mvS F1 rfl rfl rfl rfl rfl fun a2 F2 => ?_
    refine sr F2 (run_lenS rfl (F2.ev 30 rfl) (hVd.below M0.below) rfl Tryd.underlying23) rfl rfl rfl fun a3 F3 => ?_
    refine sr (v := (.bool true)) F3 (run_lss rfl (F3.ev 29 rfl) (F3.ev 31 rfl) (decide_eq_true (by omega))) rfl rfl rfl fun a4 F4 => ?_
    refine sn ?_
    clear F0 F1 F2 F3
    refine cts (F4.ev 32 rfl) ?_
    refine wp_seq ?_
    refine wp_block ?_
    refine wp_seq ?_
    refine wsl ?_
    refine mvS F4 rfl rfl rfl rfl rfl fun a5 F5 => ?_
    refine mvS F5 rfl rfl rfl rfl rfl fun a6 F6 => ?_
    refine sr (v := (slPtr vd (i * 1))) F6 (run_atP (i := i) rfl (F6.ev 35 rfl) (F6.ev 36 rfl) rfl (hVd.below M0.below) (by omega) elStr.un (by kernel_rfl)) rfl rfl rfl fun a7 F7 => ?_
    refine sr (v := (.string ⟨X.toArray⟩)) F7 (run_ldP rfl (F7.ev 37 rfl) (hVd.below M0.below) (map_at hX) (by kernel_rfl)) rfl rfl rfl fun a8 F8 => ?_
    refine sr F8 (run_len rfl (F8.ev 38 rfl) rfl Tryd.underlying9) rfl rfl rfl fun a9 F9 => ?_
    refine sr (v := (.bool false)) F9 (run_gtr rfl (F9.ev 39 rfl) rfl (decide_eq_false (by omega))) rfl rfl rfl fun a10 F10 => ?_
    refine sn ?_
    clear F4 F5 F6 F7 F8 F9
    refine cfs (F10.ev 40 rfl) ?_
    refine wp_seq ?_
    refine wp_region_new 115 [some (.agg #[v]), some vd, some (.int .i64 (i : Int)), some (slPtr vd (i * 1)), some (.string ⟨X.toArray⟩), some (.tuple #[(.agg #[.string ⟨Nm.toArray⟩, .string ⟨Dt.toArray⟩]), (.int .i64 0)]), some (.tuple #[(.agg #[.string ⟨Nm.toArray⟩, .string ⟨Dt.toArray⟩]), (.int .i64 0)]), some (.agg #[.string ⟨Nm.toArray⟩, .string ⟨Dt.toArray⟩]), some (.int .i64 0), none, none, some (.int .i64 0)] [] [⟨9, 7, 10, 36, #[.string ⟨List.toArray []⟩, .string ⟨List.toArray []⟩], #[.string ⟨Nm.toArray⟩, .string ⟨Dt.toArray⟩]⟩] (by kernel_rfl) (by kernel_rfl) F10.size (Mem.new w1) ?_ ?_ fun a11 w2 gs hI => ?_
    · intro d hd
      simp only [List.mem_cons, List.not_mem_nil, or_false] at hd
      rcases hd with rfl <;> exact ⟨Nat.le_of_ble_eq_true (by kernel_rfl), _, rfl, rfl⟩
    · refine ⟨?_, ?_, ?_, ?_, ?_, ?_, ?_, ?_, ?_, ?_, ?_, ?_, trivial⟩
      · refine .val 43 (fun vx _ => vx = (.agg #[v])) rfl (hT_val rfl rfl) (by simp) fun a W hS hh hd hst => ⟨wanted_yes rfl, ?_⟩
        exact givn_run (run_ldB rfl (eval_tmp (hh 2 _ rfl (F10.at 2 rfl))) ((M0.grow hS.below).at 0 rfl) Tryd.underlying31 rfl szKy rfl)
      · refine .val 44 (fun vx _ => vx = vd) rfl (hT_val rfl rfl) (by simp) fun a W hS hh hd hst => ⟨wanted_yes rfl, ?_⟩
        exact givn_run (run_mv rfl (eval_tmp (hh 1 _ rfl (F10.at 1 rfl))))
      · refine .val 45 (fun vx _ => vx = (.int .i64 (i : Int))) rfl (hT_val rfl rfl) (by simp) fun a W hS hh hd hst => ⟨wanted_yes rfl, ?_⟩
        exact givn_run (run_mv rfl (eval_tmp (hh 6 _ rfl (F10.at 6 rfl))))
      · refine .val 46 (fun vx _ => vx = (slPtr vd (i * 1))) rfl (hT_val rfl rfl) (by simp) fun a W hS hh hd hst => ⟨wanted_yes rfl, ?_⟩
        exact givn_run (run_atP (i := i) rfl (eval_tmp (hd 1 44 _ (by kernel_rfl) rfl)) (eval_tmp (hd 2 45 _ (by kernel_rfl) rfl)) rfl (hVd.below (M0.grow hS.below).below) (by omega) elStr.un (by kernel_rfl))
      · refine .val 47 (fun vx _ => vx = (.string ⟨X.toArray⟩)) rfl (hT_val rfl rfl) (by simp) fun a W hS hh hd hst => ⟨wanted_yes rfl, ?_⟩
        exact givn_run (run_ldP rfl (eval_tmp (hd 3 46 _ (by kernel_rfl) rfl)) (hVd.below (M0.grow hS.below).below) (map_at hX) (by kernel_rfl))
      · refine .val 48 (fun vx _ => vx = (.tuple #[(.agg #[.string ⟨Nm.toArray⟩, .string ⟨Dt.toArray⟩]), (.int .i64 0)])) rfl (hT_val rfl rfl) (by simp) fun a W hS hh hd hst => ⟨wanted_yes rfl, ?_⟩
        exact givn_call (run_call rfl Tryd.func18 (by kernel_rfl) rfl (mapE2 (eval_tmp (hd 0 43 _ (by kernel_rfl) rfl)) (eval_tmp (hd 4 47 _ (by kernel_rfl) rfl)))) ((by have h := csealK_any K v X W (HG.below (M0.grow hS.below).below) (hV.below (M0.grow hS.below).below) h32 (by omega); rw [hs] at h; exact h))
      · refine .val 42 (fun vx _ => vx = (.tuple #[(.agg #[.string ⟨Nm.toArray⟩, .string ⟨Dt.toArray⟩]), (.int .i64 0)])) rfl (hT_val rfl rfl) (by simp) fun a W hS hh hd hst => ⟨wanted_yes rfl, ?_⟩
        exact givn_run (run_mv rfl (eval_tmp (hd 5 48 _ (by kernel_rfl) rfl)))
      · refine .val 49 (fun vx _ => vx = (.agg #[.string ⟨Nm.toArray⟩, .string ⟨Dt.toArray⟩])) rfl (hT_val rfl rfl) (by simp) fun a W hS hh hd hst => ⟨wanted_yes rfl, ?_⟩
        exact givn_run (run_ext rfl (eval_tmp (hd 6 42 _ (by kernel_rfl) rfl)) rfl)
      · refine .val 50 (fun vx _ => vx = (.int .i64 0)) rfl (hT_val rfl rfl) (by simp) fun a W hS hh hd hst => ⟨wanted_yes rfl, ?_⟩
        exact givn_run (run_ext rfl (eval_tmp (hd 6 42 _ (by kernel_rfl) rfl)) rfl)
      · exact .new 0 _ rfl rfl rfl rfl rfl (by simp) (fun y e hy he => by rcases y with _ | _ | y <;> simp at hy <;> (try subst hy) <;> simp at he ⊢) fun a W => ⟨wanted_yes rfl, run_alloc rfl (by kernel_rfl)⟩
      · exact .put 0 _ rfl rfl rfl (by simp) (fun y e hy he => by rcases y with _ | _ | y <;> simp at hy <;> (try subst hy) <;> simp at he ⊢) (by kernel_rfl) 2 36 _ _ rfl rfl (fun a hh hd => (eval_tmp (hd 7 49 _ (by kernel_rfl) rfl))) rfl szBox rfl rfl (arr_one rfl)
      · refine .val 8 (fun vx _ => vx = (.int .i64 0)) rfl (hT_val rfl rfl) (by simp) fun a W hS hh hd hst => ⟨wanted_yes rfl, ?_⟩
        exact givn_run (run_as rfl (eval_tmp (hd 8 50 _ (by kernel_rfl) rfl)))
    obtain ⟨pg3, qg3, Bg3, fg3⟩ := hI.blk 0 _ rfl rfl
    generalize gs 0 = g3 at pg3 qg3 Bg3 fg3
    have hb2 := hI.mem.below
    have M1 := M0.add (cs := #[.string ⟨Nm.toArray⟩, .string ⟨Dt.toArray⟩]) hb2 qg3 Bg3
    have hO1 := hO0.add (S := isB 36 #[.string ⟨Nm.toArray⟩, .string ⟨Dt.toArray⟩]) hb2 qg3
    have F11 : Fr a11 115 [(1, vd), (2, (.pointer (some ⟨g0, 0, none⟩))), (5, v5), (6, (.int .i64 (i : Int))), (7, (.pointer (some ⟨g3, 0, none⟩))), (8, (.int .i64 0)), (29, (.int .i64 (i : Int))), (30, vd), (31, (.int .i64 (D.length : Int))), (32, (.bool true)), (35, vd), (36, (.int .i64 (i : Int))), (37, (slPtr vd (i * 1))), (38, (.string ⟨X.toArray⟩)), (39, (.int .i64 (X.length : Int))), (40, (.bool false)), (49, (.agg #[.string ⟨Nm.toArray⟩, .string ⟨Dt.toArray⟩])), (50, (.int .i64 0))] := fr_of_holds hI.size (hI.defers.trans F10.defers) ⟨hI.had 1 _ rfl (F10.at 1 rfl), hI.had 2 _ rfl (F10.at 2 rfl), hI.had 5 _ rfl (F10.at 5 rfl), hI.had 6 _ rfl (F10.at 6 rfl), pg3, hI.val 11 _ 8 _ rfl rfl rfl rfl, hI.had 29 _ rfl (F10.at 29 rfl), hI.had 30 _ rfl (F10.at 30 rfl), hI.had 31 _ rfl (F10.at 31 rfl), hI.had 32 _ rfl (F10.at 32 rfl), hI.had 35 _ rfl (F10.at 35 rfl), hI.had 36 _ rfl (F10.at 36 rfl), hI.had 37 _ rfl (F10.at 37 rfl), hI.had 38 _ rfl (F10.at 38 rfl), hI.had 39 _ rfl (F10.at 39 rfl), hI.had 40 _ rfl (F10.at 40 rfl), hI.val 7 _ 49 _ rfl rfl rfl rfl, hI.val 8 _ 50 _ rfl rfl rfl rfl, trivial⟩
    clear hI pg3 Bg3 fg3
    clear F10 M0
    refine nx ?_
    refine wp_seq ?_
    refine wsl ?_
    refine mvS F11 rfl rfl rfl rfl rfl fun a12 F12 => ?_
    refine sr (v := (.bool false)) F12 (run_nei rfl (F12.ev 51 rfl) rfl (bne_eq_false_iff_eq.2 (by omega))) rfl rfl rfl fun a13 F13 => ?_
    refine sn ?_
    clear F11 F12
    refine cfs (F13.ev 52 rfl) ?_
    refine wp_region_lit ?_
    refine mvS F13 rfl rfl rfl rfl rfl fun a14 F14 => ?_
    refine sr F14 (run_ldB rfl (F14.ev 7 rfl) (M1.at 0 rfl) Tryd.underlying36 rfl szBox rfl) rfl rfl rfl fun a15 F15 => ?_
    refine sqRow (cs := #[.string ⟨Nm.toArray⟩, .string ⟨Dt.toArray⟩]) (t := 36) (m := 1) F15 M1 (wantedS rfl) (run_boxes1 rfl (F15.ev 55 rfl)) rfl (by decide) fun g4 a16 w3 hgg4 hb3 F16 M2 => ?_
    have hO2 := hO1.add (S := isB 36 #[.string ⟨Nm.toArray⟩, .string ⟨Dt.toArray⟩]) hb3 hgg4
    refine sqAppend (news := [.string ⟨Nm.toArray⟩, .string ⟨Dt.toArray⟩]) elBox F16 M2 hO2 rfl rfl (F16.ev 54 rfl) (F16.ev 56 rfl) rfl (blkNews (M2.at 0 rfl)) (all_one rfl) (by unfold maxLen; omega) (by omega) rfl (by decide) fun v5 a17 w4 hO3 M3 hnilv5 F17 => ?_
    refine asS F17 rfl rfl rfl rfl rfl fun a18 F18 => ?_
    refine sqEnd ?_
    clear F13 F14 F15 F16 F17 M1 M2
    refine bkEnd ?_
    refine nx ?_
    refine wp_region_lit ?_
    refine mvS F18 rfl rfl rfl rfl rfl fun a19 F19 => ?_
    refine sr F19 (run_add (r := ((i + 1 : Nat) : Int)) rfl (F19.ev 33 rfl) rfl (by rw [IntKind.wrap_i64]; omega)) rfl rfl rfl fun a20 F20 => ?_
    refine asS F20 rfl rfl rfl rfl rfl fun a21 F21 => ?_
    refine sn ?_
    clear F18 F19 F20
    exact ⟨_, by omega, i + 1, v5, by omega, rfl, hsm2, .inr hK, by rw [hl2, hx2]; exact hO3.sub (.cons _ (.cons _ (.refl _))), F21.sub ⟨rfl, rfl, rfl, rfl, trivial⟩, M3.sub (.cons _ (.cons _ (.refl _)))⟩
  · have hie : i = D.length := by omega
    rw [hie, List.take_length] at hO0 hsm
    obtain ⟨L, hL⟩ : ∃ L, D.map (bxC K) = L := ⟨_, rfl⟩
    have hLl : L.length = D.length := by rw [← hL, List.length_map]
    have hts := texts_small K D hsm
    rw [hL] at hO0 hts
    by_cases he : (makeS L).2 = 0
    case neg =>
      obtain ⟨B, hB⟩ : ∃ B, (makeS L).1 = B := ⟨_, rfl⟩
      obtain ⟨eB, heB⟩ : ∃ e, (makeS L).2 = e := ⟨_, rfl⟩
      have hmk : makeS L = (B, eB) := by rw [← hB, ← heB]
      rw [heB] at he
      refine wp_seq ?_
      refine wsl ?_
      refine mvS F0 rfl rfl rfl rfl rfl fun a1 F1 => ?_
      refine mvS F1 rfl rfl rfl rfl rfl fun a2 F2 => ?_
      refine sr F2 (run_lenS rfl (F2.ev 30 rfl) (hVd.below M0.below) rfl Tryd.underlying23) rfl rfl rfl fun a3 F3 => ?_
      refine sr (v := (.bool false)) F3 (run_lss rfl (F3.ev 29 rfl) (F3.ev 31 rfl) (decide_eq_false (by omega))) rfl rfl rfl fun a4 F4 => ?_
      refine sn ?_
      clear F0 F1 F2 F3
      refine wp_cond_false (F4.ev 32 rfl) ?_
      refine wp_exit ?_
      refine nxExit ?_
      refine nxExit ?_
      refine bkHere ?_
      refine nx ?_
      refine wsl ?_
      refine mvS F4 rfl rfl rfl rfl rfl fun a5 F5 => ?_
      refine sqC (v := (.tuple #[(.string ⟨B.toArray⟩), (.int .i64 eB)])) F5 M0 (wantedS rfl) (run_call rfl Tryd.func29 (by kernel_rfl) rfl (mapE1 (F5.ev 59 rfl))) rfl (by decide) ((by have h := pmake_any L v5 w1 (Sl.own hO0) (by omega) (by omega); rw [hmk] at h; exact h)) fun a6 w2 hb2 F6 M1 => ?_
      have hO1 := hO0.grow hb2
      refine mvS F6 rfl rfl rfl rfl rfl fun a7 F7 => ?_
      refine sr (v := (.string ⟨B.toArray⟩)) F7 (run_ext rfl (F7.ev 58 rfl) rfl) rfl rfl rfl fun a8 F8 => ?_
      refine sr (v := (.int .i64 eB)) F8 (run_ext rfl (F8.ev 58 rfl) rfl) rfl rfl rfl fun a9 F9 => ?_
      refine asS F9 rfl rfl rfl rfl rfl fun a10 F10 => ?_
      refine asS F10 rfl rfl rfl rfl rfl fun a11 F11 => ?_
      refine sn ?_
      clear F4 F5 F6 F7 F8 F9 F10 M0
      refine wp_seq ?_
      refine wsl ?_
      refine mvS F11 rfl rfl rfl rfl rfl fun a12 F12 => ?_
      refine sr (v := (.bool true)) F12 (run_nei rfl (F12.ev 63 rfl) rfl (bne_iff_ne.2 (by omega))) rfl rfl rfl fun a13 F13 => ?_
      refine sn ?_
      clear F11 F12
      refine wp_cond_true (F13.ev 64 rfl) ?_
      refine wsl ?_
      refine sqC (v := (.bool true)) F13 M1 (wantedS rfl) (run_call rfl Tryd.func28 (by kernel_rfl) rfl (mapE0 )) rfl (by decide) (awake40_any w2) fun a14 w3 hb3 F14 M2 => ?_
      have hO2 := hO1.grow hb3
      refine asS F14 rfl rfl rfl rfl rfl fun a15 F15 => ?_
      refine sn ?_
      clear F13 F14 M1
      refine wp_ret ?_
      refine nxRet ?_
      exact ret1 F15 rfl rfl ⟨rfl, M2.below⟩
    obtain ⟨hmk0, hof, hLn, hnz, hbl⟩ := ofS_make he
    obtain ⟨B, hB⟩ : ∃ B, bytesS L = B := ⟨_, rfl⟩
    obtain ⟨eB, heB⟩ : ∃ e : Int, e = 0 := ⟨_, rfl⟩
    rw [hB] at hmk0 hof hbl
    have hmk : makeS L = (B, eB) := by rw [hmk0, heB]
    have hnd := (names_apart L [] hnz).2
    have hD0 : 0 < D.length := by rw [← hLl]; exact List.length_pos_iff.2 hLn
    have hKn : K ≠ [] := hik.resolve_left (by omega)
    obtain ⟨Nb, hNb⟩ : ∃ N, nameS B = N := ⟨_, rfl⟩
    refine wp_seq ?_
    refine wsl ?_
    refine mvS F0 rfl rfl rfl rfl rfl fun a1 F1 => ?_
    refine mvS F1 rfl rfl rfl rfl rfl fun a2 F2 => ?_
    refine sr F2 (run_lenS rfl (F2.ev 30 rfl) (hVd.below M0.below) rfl Tryd.underlying23) rfl rfl rfl fun a3 F3 => ?_
    refine sr (v := (.bool false)) F3 (run_lss rfl (F3.ev 29 rfl) (F3.ev 31 rfl) (decide_eq_false (by omega))) rfl rfl rfl fun a4 F4 => ?_
    refine sn ?_
    clear F0 F1 F2 F3
    refine wp_cond_false (F4.ev 32 rfl) ?_
    refine wp_exit ?_
    refine nxExit ?_
    refine nxExit ?_
    refine bkHere ?_
    refine nx ?_
    refine wsl ?_
    refine mvS F4 rfl rfl rfl rfl rfl fun a5 F5 => ?_
    refine sqC (v := (.tuple #[(.string ⟨B.toArray⟩), (.int .i64 eB)])) F5 M0 (wantedS rfl) (run_call rfl Tryd.func29 (by kernel_rfl) rfl (mapE1 (F5.ev 59 rfl))) rfl (by decide) ((by have h := pmake_any L v5 w1 (Sl.own hO0) (by omega) (by omega); rw [hmk] at h; exact h)) fun a6 w2 hb2 F6 M1 => ?_
    have hO1 := hO0.grow hb2
    refine mvS F6 rfl rfl rfl rfl rfl fun a7 F7 => ?_
    refine sr (v := (.string ⟨B.toArray⟩)) F7 (run_ext rfl (F7.ev 58 rfl) rfl) rfl rfl rfl fun a8 F8 => ?_
    refine sr (v := (.int .i64 eB)) F8 (run_ext rfl (F8.ev 58 rfl) rfl) rfl rfl rfl fun a9 F9 => ?_
    refine asS F9 rfl rfl rfl rfl rfl fun a10 F10 => ?_
    refine asS F10 rfl rfl rfl rfl rfl fun a11 F11 => ?_
    refine sn ?_
    clear F4 F5 F6 F7 F8 F9 F10 M0
    refine wp_seq ?_
    refine wsl ?_
    refine mvS F11 rfl rfl rfl rfl rfl fun a12 F12 => ?_
    refine sr (v := (.bool false)) F12 (run_nei rfl (F12.ev 63 rfl) rfl (bne_eq_false_iff_eq.2 (by omega))) rfl rfl rfl fun a13 F13 => ?_
    refine sn ?_
    clear F11 F12
    refine cfs (F13.ev 64 rfl) ?_
    refine wp_seq ?_
    refine wsl ?_
    refine sr (v := (.int .i64 0)) F13 (run_as rfl rfl) rfl rfl rfl fun a14 F14 => ?_
    refine sn ?_
    clear F13
    refine wp_block ?_
    refine wkLoop (fun m a w2 => ∃ i : Nat, i ≤ D.length ∧ m = D.length - i ∧ OwnR w [(g0, isB 31 #[v])] w2 36 2 v5 L.length (L.flatMap boxC) ∧ Fr a 115 [(1, vd), (2, .pointer (some ⟨g0, 0, none⟩)), (5, v5), (9, .string ⟨B.toArray⟩), (11, .int .i64 (i : Int))] ∧ Mem w [(g0, isB 31 #[v])] w2) D.length ⟨0, Nat.zero_le _, rfl, hO1, F14.sub ⟨rfl, rfl, rfl, rfl, rfl, trivial⟩, M1⟩ ?_
    rintro m a0 w1 ⟨i, hi, rfl, hO0, F0, M0⟩
    by_cases h1 : i < D.length
    · obtain ⟨X, hX⟩ : ∃ X, D[i]? = some X := ⟨_, List.getElem?_eq_getElem h1⟩
      have hXl := hsm X (List.mem_of_getElem? hX)
      have hx0 : L[i]? = some (bxC K X) := by rw [← hL, List.getElem?_map, hX]; rfl
      have hop0 := openC_seal K X hKn (by omega) (by omega)
      have hpl := pack_len X
      have hx1l : (bxC K X).1.length = 64 := by dsimp only [bxC]; exact nameC_len K X
      have hx2l : (bxC K X).2.length = (packS X).length + 46 := by dsimp only [bxC]; exact dataC_len K X
      have hop1 : openC K (bxC K X).1 (bxC K X).2 = (X, 0) := by dsimp only [bxC]; exact hop0
      have htk0 : takeS B (bxC K X).1 = (bxC K X, 0) := takeS_some hof (find_own hnd hx0)
      clear hop0
      generalize bxC K X = x at hx0 hop1 htk0 hx1l hx2l
      have hx := hx0
      have htk := htk0
      have hop := hop1
      refine wp_seq ?_
      refine wsl ?_
      refine mvS F0 rfl rfl rfl rfl rfl fun a1 F1 => ?_
      refine mvS F1 rfl rfl rfl rfl rfl fun a2 F2 => ?_
      refine sr F2 (run_lenS rfl (F2.ev 67 rfl) (Sl.own hO0) rfl Tryd.underlying58) rfl rfl rfl fun a3 F3 => ?_
      refine sr (v := (.bool true)) F3 (run_lss rfl (F3.ev 66 rfl) (F3.ev 68 rfl) (decide_eq_true (by omega))) rfl rfl rfl fun a4 F4 => ?_
      refine sn ?_
      clear F0 F1 F2 F3
      refine cts (F4.ev 69 rfl) ?_
      refine wp_seq ?_
      refine wp_block ?_
      refine wsl ?_
      refine mvS F4 rfl rfl rfl rfl rfl fun a5 F5 => ?_
      refine mvS F5 rfl rfl rfl rfl rfl fun a6 F6 => ?_
      refine mvS F6 rfl rfl rfl rfl rfl fun a7 F7 => ?_
      refine sr (v := (slPtr v5 (i * 2))) F7 (run_atP (i := i) rfl (F7.ev 74 rfl) (F7.ev 75 rfl) rfl (Sl.own hO0) (by omega) elBox.un (by kernel_rfl)) rfl rfl rfl fun a8 F8 => ?_
      refine sr (v := (slPtr v5 (i * 2 + 0))) F8 (run_fldP (m2 := 1) (s := 0) rfl (F8.ev 76 rfl) (Sl.own hO0) (by omega) Tryd.underlying36 rfl rfl (by kernel_rfl) (by decide)) rfl rfl rfl fun a9 F9 => ?_
      refine sr (v := (.string ⟨x.1.toArray⟩)) F9 (run_ldP rfl (F9.ev 77 rfl) (Sl.own hO0) (flat_at boxC_len hx 0 rfl) (by kernel_rfl)) rfl rfl rfl fun a10 F10 => ?_
      refine sqC (v := (.tuple #[(.agg #[.string ⟨x.1.toArray⟩, .string ⟨x.2.toArray⟩]), (.int .i64 0)])) F10 M0 (wantedS rfl) (run_call rfl Tryd.func30 (by kernel_rfl) rfl (mapE2 (F10.ev 73 rfl) (F10.ev 78 rfl))) rfl (by decide) ((by have h := ptake_any B x.1 w1 (by omega); rw [htk] at h; exact h)) fun a11 w2 hb2 F11 M1 => ?_
      have hO1 := hO0.grow hb2
      refine mvS F11 rfl rfl rfl rfl rfl fun a12 F12 => ?_
      refine sr (v := (.agg #[.string ⟨x.1.toArray⟩, .string ⟨x.2.toArray⟩])) F12 (run_ext rfl (F12.ev 72 rfl) rfl) rfl rfl rfl fun a13 F13 => ?_
      refine sr (v := (.int .i64 0)) F13 (run_ext rfl (F13.ev 72 rfl) rfl) rfl rfl rfl fun a14 F14 => ?_
      refine sqNew (cs := #[.string ⟨List.toArray []⟩, .string ⟨List.toArray []⟩]) (t := 36) F14 M1 (wantedS rfl) (run_alloc rfl (by kernel_rfl)) rfl (by decide) fun g6 a15 w3 hgg6 hb3 F15 M2 => ?_
      have hO2 := hO1.add (S := isB 36 (#[.string ⟨List.toArray []⟩, .string ⟨List.toArray []⟩])) hb3 hgg6
      refine sqStoreG (i := 0) F15 M2 rfl rfl rfl (F15.ev 12 rfl) (F15.ev 80 rfl) rfl szBox rfl rfl (arr_one rfl) fun a16 w4 hgr4 F16 M3 => ?_
      have hO3 := hO2.upd 0 (S2 := isB 36 (#[.string ⟨x.1.toArray⟩, .string ⟨x.2.toArray⟩])) rfl hgr4
      refine asS F16 rfl rfl rfl rfl rfl fun a17 F17 => ?_
      refine sn ?_
      clear F4 F5 F6 F7 F8 F9 F10 F11 F12 F13 F14 F15 F16 M0 M1 M2
      refine wsl ?_
      refine sr F17 (run_ldB rfl (F17.ev 2 rfl) (M3.at 1 rfl) Tryd.underlying31 rfl szKy rfl) rfl rfl rfl fun a18 F18 => ?_
      refine sr F18 (run_ldB rfl (F18.ev 12 rfl) (M3.at 0 rfl) Tryd.underlying36 rfl szBox rfl) rfl rfl rfl fun a19 F19 => ?_
      refine sqC (v := (.tuple #[(.string ⟨X.toArray⟩), (.int .i64 0)])) F19 M3 (wantedS rfl) (run_call rfl Tryd.func20 (by kernel_rfl) rfl (mapE2 (F19.ev 83 rfl) (F19.ev 84 rfl))) rfl (by decide) ((by have h := copen_any K v x.1 x.2 w4 (HG.below M3.below) (hV.below M3.below) h32 (by omega) (by omega); rw [hop] at h; exact h)) fun a20 w5 hb5 F20 M4 => ?_
      have hO4 := hO3.grow hb5
      refine mvS F20 rfl rfl rfl rfl rfl fun a21 F21 => ?_
      refine sr (v := (.string ⟨X.toArray⟩)) F21 (run_ext rfl (F21.ev 82 rfl) rfl) rfl rfl rfl fun a22 F22 => ?_
      refine sr (v := (.int .i64 0)) F22 (run_ext rfl (F22.ev 82 rfl) rfl) rfl rfl rfl fun a23 F23 => ?_
      refine asS F23 rfl rfl rfl rfl rfl fun a24 F24 => ?_
      refine asS F24 rfl rfl rfl rfl rfl fun a25 F25 => ?_
      refine sn ?_
      clear F17 F18 F19 F20 F21 F22 F23 F24 M3
      refine wsl ?_
      refine mvS F25 rfl rfl rfl rfl rfl fun a26 F26 => ?_
      refine sr (v := (.bool false)) F26 (run_nei rfl (F26.ev 88 rfl) rfl (bne_eq_false_iff_eq.2 (by omega))) rfl rfl rfl fun a27 F27 => ?_
      refine mvS F27 rfl rfl rfl rfl rfl fun a28 F28 => ?_
      refine sq (v := (.int .i64 0)) F28 (wantedG F28 rfl rfl rfl rfl rfl) (run_mv rfl (F28.ev 15 rfl)) rfl (by decide) fun a29 F29 => ?_
      refine sq (v := (.bool false)) F29 (wantedG F29 rfl rfl rfl rfl rfl) (run_nei rfl (F29.ev 91 rfl) rfl (bne_eq_false_iff_eq.2 (by omega))) rfl (by decide) fun a30 F30 => ?_
      refine sr (v := (.bool false)) F30 (run_pick rfl (F30.ev 90 rfl) rfl (F30.ev 92 rfl)) rfl rfl rfl fun a31 F31 => ?_
      refine mvS F31 rfl rfl rfl rfl rfl fun a32 F32 => ?_
      refine sq (v := (.string ⟨X.toArray⟩)) F32 (wantedG F32 rfl rfl rfl rfl rfl) (run_mv rfl (F32.ev 14 rfl)) rfl (by decide) fun a33 F33 => ?_
      refine sq (v := vd) F33 (wantedG F33 rfl rfl rfl rfl rfl) (run_mv rfl (F33.ev 1 rfl)) rfl (by decide) fun a34 F34 => ?_
      refine sq (v := (.int .i64 (i : Int))) F34 (wantedG F34 rfl rfl rfl rfl rfl) (run_mv rfl (F34.ev 11 rfl)) rfl (by decide) fun a35 F35 => ?_
      refine sq (v := (slPtr vd (i * 1))) F35 (wantedG F35 rfl rfl rfl rfl rfl) (run_atP (i := i) rfl (F35.ev 96 rfl) (F35.ev 97 rfl) rfl (hVd.below M4.below) (by omega) elStr.un (by kernel_rfl)) rfl (by decide) fun a36 F36 => ?_
      refine sq (v := (.string ⟨X.toArray⟩)) F36 (wantedG F36 rfl rfl rfl rfl rfl) (run_ldP rfl (F36.ev 98 rfl) (hVd.below M4.below) (map_at hX) (by kernel_rfl)) rfl (by decide) fun a37 F37 => ?_
      refine sq (v := (.bool false)) F37 (wantedG F37 rfl rfl rfl rfl rfl) (run_nes rfl (F37.ev 95 rfl) (F37.ev 99 rfl) (by simp)) rfl (by decide) fun a38 F38 => ?_
      refine sr (v := (.bool false)) F38 (run_pick rfl (F38.ev 94 rfl) rfl (F38.ev 100 rfl)) rfl rfl rfl fun a39 F39 => ?_
      refine sn ?_
      clear F25 F26 F27 F28 F29 F30 F31 F32 F33 F34 F35 F36 F37 F38
      refine wp_cond_false (F39.ev 101 rfl) ?_
      refine wp_skip ?_
      refine bkEnd ?_
      refine nx ?_
      refine wp_region_lit ?_
      refine mvS F39 rfl rfl rfl rfl rfl fun a40 F40 => ?_
      refine sr F40 (run_add (r := ((i + 1 : Nat) : Int)) rfl (F40.ev 70 rfl) rfl (by rw [IntKind.wrap_i64]; omega)) rfl rfl rfl fun a41 F41 => ?_
      refine asS F41 rfl rfl rfl rfl rfl fun a42 F42 => ?_
      refine sn ?_
      clear F39 F40 F41
      exact ⟨_, by omega, i + 1, by omega, rfl, hO4.sub (.cons _ (.refl _)), F42.sub ⟨rfl, rfl, rfl, rfl, rfl, trivial⟩, M4.sub (.cons _ (.refl _))⟩
    · skip
      refine wp_seq ?_
      refine wsl ?_
      refine mvS F0 rfl rfl rfl rfl rfl fun a1 F1 => ?_
      refine mvS F1 rfl rfl rfl rfl rfl fun a2 F2 => ?_
      refine sr F2 (run_lenS rfl (F2.ev 67 rfl) (Sl.own hO0) rfl Tryd.underlying58) rfl rfl rfl fun a3 F3 => ?_
      refine sr (v := (.bool false)) F3 (run_lss rfl (F3.ev 66 rfl) (F3.ev 68 rfl) (decide_eq_false (by omega))) rfl rfl rfl fun a4 F4 => ?_
      refine sn ?_
      clear F0 F1 F2 F3
      refine wp_cond_false (F4.ev 69 rfl) ?_
      refine wp_exit ?_
      refine nxExit ?_
      refine nxExit ?_
      refine bkHere ?_
      refine nx ?_
      refine wsl ?_
      refine mvS F4 rfl rfl rfl rfl rfl fun a5 F5 => ?_
      refine sqC (v := (.tuple #[(.string ⟨B.toArray⟩), (.int .i64 eB)])) F5 M0 (wantedS rfl) (run_call rfl Tryd.func29 (by kernel_rfl) rfl (mapE1 (F5.ev 103 rfl))) rfl (by decide) ((by have h := pmake_any L v5 w1 (Sl.own hO0) (by omega) (by omega); rw [hmk] at h; exact h)) fun a6 w2 hb2 F6 M1 => ?_
      have hO1 := hO0.grow hb2
      refine mvS F6 rfl rfl rfl rfl rfl fun a7 F7 => ?_
      refine sr (v := (.string ⟨B.toArray⟩)) F7 (run_ext rfl (F7.ev 102 rfl) rfl) rfl rfl rfl fun a8 F8 => ?_
      refine sr (v := (.int .i64 eB)) F8 (run_ext rfl (F8.ev 102 rfl) rfl) rfl rfl rfl fun a9 F9 => ?_
      refine asS F9 rfl rfl rfl rfl rfl fun a10 F10 => ?_
      refine asS F10 rfl rfl rfl rfl rfl fun a11 F11 => ?_
      refine sn ?_
      clear F4 F5 F6 F7 F8 F9 F10 M0
      refine wsl ?_
      refine mvS F11 rfl rfl rfl rfl rfl fun a12 F12 => ?_
      refine sqC (v := (.string ⟨Nb.toArray⟩)) F12 M1 (wantedS rfl) (run_call rfl Tryd.func31 (by kernel_rfl) rfl (mapE1 (F12.ev 107 rfl))) rfl (by decide) ((by rw [← hNb]; exact pname_any B w2 (HG.below M1.below) (by omega))) fun a13 w3 hb3 F13 M2 => ?_
      have hO2 := hO1.grow hb3
      refine mvS F13 rfl rfl rfl rfl rfl fun a14 F14 => ?_
      refine sqC (v := (.string ⟨Nb.toArray⟩)) F14 M2 (wantedS rfl) (run_call rfl Tryd.func31 (by kernel_rfl) rfl (mapE1 (F14.ev 109 rfl))) rfl (by decide) ((by rw [← hNb]; exact pname_any B w3 (HG.below M2.below) (by omega))) fun a15 w4 hb4 F15 M3 => ?_
      have hO3 := hO2.grow hb4
      refine sr (v := (.bool true)) F15 (run_eqs rfl (F15.ev 108 rfl) (F15.ev 110 rfl) (by simp)) rfl rfl rfl fun a16 F16 => ?_
      refine mvS F16 rfl rfl rfl rfl rfl fun a17 F17 => ?_
      refine sqC (v := (.bool true)) F17 M3 (wantedG F17 rfl rfl rfl rfl rfl) (run_call rfl Tryd.func28 (by kernel_rfl) rfl (mapE0 )) rfl (by decide) (awake40_any w4) fun a18 w5 hb5 F18 M4 => ?_
      have hO4 := hO3.grow hb5
      refine sr (v := (.bool true)) F18 (run_pick rfl (F18.ev 112 rfl) (F18.ev 113 rfl) rfl) rfl rfl rfl fun a19 F19 => ?_
      refine asS F19 rfl rfl rfl rfl rfl fun a20 F20 => ?_
      refine sn ?_
      clear F11 F12 F13 F14 F15 F16 F17 F18 F19 M1 M2 M3
      refine wp_ret ?_
      exact ret1 F20 rfl rfl ⟨rfl, M4.below⟩
end Go.Proofs.YtdjjiblijbjobaaDoor
