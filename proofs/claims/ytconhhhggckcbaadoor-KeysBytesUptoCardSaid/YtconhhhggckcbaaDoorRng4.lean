/- The walks of keys.Make and keys.Rotate. Printed by gen_key17.py. -/
import Derived.Test.YtconhhhggckcbaaDoorRng3
import Derived.Test.YtconhhhggckcbaaDoorShr1
import Derived.Test.YtconhhhggckcbaaDoorShr4
namespace Go.Proofs.YtconhhhggckcbaaDoor
open Go.RowKit

attribute [local irreducible] sealS keyedS nonceS openS
set_option maxRecDepth 100000 in
set_option maxHeartbeats 1000000 in
theorem kmake_any (k no : List UInt8) (w : World) (HG : Glob w) (hLk : k.length = 32) : Calls Tryd.prog 13 #[.agg (cells8 k), .string ⟨no.toArray⟩] w fun e w' => ∃ u, e = .returned u ∧ Kp.sat w.heap.size (.tup4 (.st (.row 76 33 (((makeS k no).1).length) (((makeS k no).1).flatMap epF))) (.st (.row 23 32 (((makeS k no).2.1).length) (((makeS k no).2.1).flatMap dgC))) (.row 54 33 (((makeS k no).2.2.1).length) (((makeS k no).2.2.1).flatMap shareC)) (.val (.int .i64 ((makeS k no).2.2.2)))) u w' ∧ Below w.heap.size w w' := by
  by_cases hno : no.length = 64
  · have hs : makeS k no = ([⟨keyedS k checkT, []⟩], [k], shS k no, 0) := by unfold makeS; rw [if_pos hno]; rfl
    refine walk_enter Tryd.func13 rfl rfl rfl fun a0 F0 => ?_
    have M0 := Mem.new w
    refine wsl ?_
    refine sqNew (cs := (cells8 k)) (t := 23) F0 M0 (wantedS rfl) (run_box rfl (F0.ev 0 rfl)) rfl (by decide) fun g0 a1 w1 hgg0 hb1 F1 M1 => ?_
    refine sqNew (cs := #[.slice none 0 0]) (t := 27) F1 M1 (wantedS rfl) (run_alloc rfl (by kernel_rfl)) rfl (by decide) fun g1 a2 w2 hgg1 hb2 F2 M2 => ?_
    refine sqNew (cs := #[.slice none 0 0]) (t := 30) F2 M2 (wantedS rfl) (run_alloc rfl (by kernel_rfl)) rfl (by decide) fun g2 a3 w3 hgg2 hb3 F3 M3 => ?_
    refine sr (v := (.slice none 0 0)) F3 (run_as rfl rfl) rfl rfl rfl fun a4 F4 => ?_
    refine sr (v := (.int .i64 0)) F4 (run_as rfl rfl) rfl rfl rfl fun a5 F5 => ?_
    refine sn ?_
    clear F0 F1 F2 F3 F4 M0 M1 M2
    refine wsl ?_
    refine sr F5 (run_ldB rfl (F5.ev 2 rfl) (M3.at 2 rfl) Tryd.underlying23 rfl sz32k (szOf hLk)) rfl rfl rfl fun a6 F6 => ?_
    refine mvS F6 rfl rfl rfl rfl rfl fun a7 F7 => ?_
    refine sqT (T := fun u wx => Kp.sat w3.heap.size (.tup2 (.row 54 33 5 ((shS k no).flatMap shareC)) (.val (.int .i64 0))) u wx ∧ Below w3.heap.size w3 wx) F7 (wantedS rfl) (run_call rfl Tryd.func38 (by kernel_rfl) rfl (mapE3 (F7.ev 12 rfl) rfl (F7.ev 13 rfl))) rfl (by decide) ((split_any k no w3 hLk hno).mono fun e w2 ⟨⟨v, h1, h2⟩, h3⟩ => ⟨_, h1, ⟨v, _, rfl, h2, rfl⟩, h3⟩) fun u3 a8 w4 hT4 F8 => ?_
    obtain ⟨⟨vz4a, _, rfl, hz4a, rfl⟩, hb4⟩ := hT4
    have hO1 := OwnR.ofCall M3 (show World.ownsRow w4 _ 54 33 vz4a 5 ((shS k no).flatMap shareC) from hz4a)
    have M4 := M3.grow hb4
    refine mvS F8 rfl rfl rfl rfl rfl fun a9 F9 => ?_
    refine sr (v := vz4a) F9 (run_ext rfl (F9.ev 11 rfl) rfl) rfl rfl rfl fun a10 F10 => ?_
    refine sr (v := (.int .i64 0)) F10 (run_ext rfl (F10.ev 11 rfl) rfl) rfl rfl rfl fun a11 F11 => ?_
    refine asS F11 rfl rfl rfl rfl rfl fun a12 F12 => ?_
    refine asS F12 rfl rfl rfl rfl rfl fun a13 F13 => ?_
    refine sn ?_
    clear F5 F6 F7 F8 F9 F10 F11 F12 M3
    refine wp_seq ?_
    refine wsl ?_
    refine mvS F13 rfl rfl rfl rfl rfl fun a14 F14 => ?_
    refine sr (v := (.bool false)) F14 (run_nei rfl (F14.ev 17 rfl) rfl (bne_eq_false_iff_eq.2 (by omega))) rfl rfl rfl fun a15 F15 => ?_
    refine sn ?_
    clear F13 F14
    refine cfs (F15.ev 18 rfl) ?_
    refine wsl ?_
    refine sr F15 (run_ldB rfl (F15.ev 2 rfl) (M4.at 2 rfl) Tryd.underlying23 rfl sz32k (szOf hLk)) rfl rfl rfl fun a16 F16 => ?_
    refine sqC (v := (.agg (cells8 (keyedS k [99, 104, 101, 99, 107])))) F16 M4 (wantedS rfl) (run_call rfl Tryd.func39 (by kernel_rfl) rfl (mapE1 (F16.ev 22 rfl))) rfl (by decide) (kcheck_any k w4 (HG.below M4.below) hLk) fun a17 w5 hb5 F17 M5 => ?_
    have hO2 := hO1.grow hb5
    refine sr (v := (.agg (epC (⟨keyedS k [99, 104, 101, 99, 107], []⟩)))) F17 (run_blt (vs := #[(0, .agg (cells8 (keyedS k [99, 104, 101, 99, 107])))]) (cs := epC ⟨keyedS k [99, 104, 101, 99, 107], []⟩) rfl (bltE1 (F17.ev 23 rfl)) (built_ep1 _ (keyedS_len _ _))) rfl rfl rfl fun a18 F18 => ?_
    refine sqOwnN (cs := ([⟨keyedS k [99, 104, 101, 99, 107], []⟩].flatMap epF)) (size := 33) (e := 76) (m := 1) F18 M5 (wantedS rfl) (run_eps1 (e := ⟨keyedS k [99, 104, 101, 99, 107], []⟩) (keyedS_len _ _) rfl (F18.ev 24 rfl)) (flat_lenG epF_len [⟨keyedS k [99, 104, 101, 99, 107], []⟩]) (by unfold maxLen; omega) rfl (by decide) fun v5 a19 w6 hO3 hb6 M6 F19 => ?_
    have hO4 := hO2.grow hb6
    refine sr (v := (.agg #[v5])) F19 (run_blt1 rfl (F19.ev 25 rfl) (own_slice hO3.owns) fun _ _ _ => by kernel_rfl) rfl rfl rfl fun a20 F20 => ?_
    refine sqNew (cs := #[.slice none 0 0]) (t := 27) F20 M6 (wantedS rfl) (run_alloc rfl (by kernel_rfl)) rfl (by decide) fun g6 a21 w7 hgg6 hb7 F21 M7 => ?_
    have hO5 := hO4.add (S := isB 27 (#[.slice none 0 0])) hb7 hgg6
    have hO6 := hO3.add (S := isB 27 (#[.slice none 0 0])) hb7 hgg6
    refine sqStoreG (i := 0) F21 M7 rfl rfl rfl (F21.ev 10 rfl) (F21.ev 26 rfl) rfl szRg rfl rfl (one_own hO6.owns) fun a22 w8 hgr8 F22 M8 => ?_
    have hO7 := hO5.upd 0 (S2 := isB 27 #[v5]) rfl hgr8
    have hO8 := hO6.upd 0 (S2 := isB 27 #[v5]) rfl hgr8
    refine sn ?_
    clear F15 F16 F17 F18 F19 F20 F21 M4 M5 M6 M7
    refine wp_seq ?_
    have hMs := M8.sub (.cons_cons _ (.cons _ (.cons _ (.cons_cons _ .slnil))))
    have hfM : ∀ xq ∈ [(g6, isB 27 (#[v5])), (g0, isB 23 (cells8 k))], xq.1 ∉ [g1, g2] := by
      intro xq hx hg
      simp only [List.mem_cons, List.not_mem_nil, or_false] at hx hg
      rcases hx with rfl | rfl <;> rcases hg with hg | hg <;> first | exact absurd hg (setAt_ne M8.nd (i := 0) (j := 2) rfl rfl (by decide)) | exact absurd hg (setAt_ne M8.nd (i := 0) (j := 1) rfl rfl (by decide)) | exact absurd hg (setAt_ne M8.nd (i := 3) (j := 2) rfl rfl (by decide)) | exact absurd hg (setAt_ne M8.nd (i := 3) (j := 1) rfl rfl (by decide))
    have hfG : ∀ gq ∈ [g1, g2], w.heap.size ≤ gq := by
      intro gq hg
      simp only [List.mem_cons, List.not_mem_nil, or_false] at hg
      rcases hg with rfl | rfl
      · exact M8.ge 2 rfl
      · exact M8.ge 1 rfl
    have hfovz4a : ∀ gq ∈ [g1, g2], (vz4a : Value).ownBlock ≠ some gq := by
      intro gq hg
      simp only [List.mem_cons, List.not_mem_nil, or_false] at hg
      rcases hg with rfl | rfl
      · exact hO7.far _ (List.mem_of_getElem? (i := 2) rfl)
      · exact hO7.far _ (List.mem_of_getElem? (i := 1) rfl)
    have hfov5 : ∀ gq ∈ [g1, g2], (v5 : Value).ownBlock ≠ some gq := by
      intro gq hg
      simp only [List.mem_cons, List.not_mem_nil, or_false] at hg
      rcases hg with rfl | rfl
      · exact hO8.far _ (List.mem_of_getElem? (i := 2) rfl)
      · exact hO8.far _ (List.mem_of_getElem? (i := 1) rfl)
    refine wp_region_p 32 [.val (.agg #[v5]), .val (.agg (cells8 k)), .row 23 32 1 ([k].flatMap dgC), .st (.row 23 32 1 ([k].flatMap dgC)), .val vz4a, .any, .any, .val vz4a, .val (.int .i64 0)] [] [] [⟨5, g1, 27, #[.slice none 0 0], .val (.agg #[v5])⟩, ⟨6, g2, 30, #[.slice none 0 0], .st (.row 23 32 1 ([k].flatMap dgC))⟩] [] (by kernel_rfl) (by kernel_rfl) F22.size ?_ ?_ ?_ ?_ (by kernel_rfl) ?_ fun a23 w9 gs hI => ?_
    · intro d hd
      cases hd
    · intro b hb
      simp only [List.mem_cons, List.not_mem_nil, or_false] at hb
      rcases hb with rfl | rfl
      · exact ⟨Nat.le_of_ble_eq_true (by kernel_rfl), M8.at 2 rfl⟩
      · exact ⟨Nat.le_of_ble_eq_true (by kernel_rfl), M8.at 1 rfl⟩
    · have hne01 : g1 ≠ g2 := setAt_ne M8.nd (i := 2) (j := 1) rfl rfl (by decide)
      intro x y b c hx hy hne
      rcases x with _ | _ | x <;> rcases y with _ | _ | y <;> simp at hx hy hne <;> subst hx <;> subst hy <;> first | exact hne01 | exact hne01.symm
    · intro r hr
      cases hr
    · refine ⟨?_, ?_, ?_, ?_, ?_, ?_, ?_, ?_, ?_, trivial⟩
      · refine .val 27 rfl (by simp) (by simp) (by simp) fun a W hK hh hd => ⟨wanted_yes rfl, ?_⟩
        exact givz_run (run_ldB rfl (eval_tmp (hh 10 _ rfl (F22.at 10 rfl))) ((hMs.keepW hK hfM hfG).at 0 rfl) Tryd.underlying27 rfl szRg rfl) rfl
      · refine .val 28 rfl (by simp) (by simp) (by simp) fun a W hK hh hd => ⟨wanted_yes rfl, ?_⟩
        exact givz_run (run_ldB rfl (eval_tmp (hh 2 _ rfl (F22.at 2 rfl))) ((hMs.keepW hK hfM hfG).at 1 rfl) Tryd.underlying23 rfl sz32k (szOf hLk)) rfl
      · refine .val 29 rfl (by simp) (by simp) (by simp) fun a W hK hh hd => ⟨wanted_yes rfl, ?_⟩
        exact givz_newRow 23 (List.toArray ([k].flatMap dgC)) 32 1 hK.size (by rw [List.size_toArray]; exact flat_lenG dgC_len _) (by decide) (run_keys1 hLk rfl (eval_tmp (hd.valz (j := 1) (s := 28) (by kernel_rfl) (by simp) rfl rfl)))
      · refine .val 30 rfl (by simp) (by simp) (by simp) fun a W hK hh hd => ⟨wanted_yes rfl, ?_⟩
        obtain ⟨vz_3_2, ey2, hz_3_2⟩ := hd.getz (j := 2) (s := 29) (by kernel_rfl) (by simp) rfl rfl
        exact givz_run (run_blt1 rfl (eval_tmp ey2) (own_slice hz_3_2) fun _ _ _ => by kernel_rfl) ⟨_, rfl, hz_3_2⟩
      · refine .val 31 rfl (by simp) (by simp) (by simp) fun a W hK hh hd => ⟨wanted_yes rfl, ?_⟩
        exact givz_run (run_mv rfl (eval_tmp (hh 8 _ rfl (F22.at 8 rfl)))) rfl
      · refine .putO 0 _ rfl rfl rfl (by simp) (fun y e hy he => by rcases y with _ | _ | y <;> simp at hy <;> (try subst hy) <;> simp at he ⊢) (by simp) 1 27 _ _ rfl (fun a hh => eval_tmp (hh 4 _ rfl (F22.at 4 rfl))) (fun a W hK hh hd => ?_) rfl szRg rfl
        rw [show a.eval _ = _ from (eval_tmp (hd.valz (j := 0) (s := 27) (by kernel_rfl) (by simp) rfl rfl))]
        exact ⟨rfl, rfl, (one_own hO8.owns)⟩
      · refine .putO 1 _ rfl rfl rfl (by simp) (fun y e hy he => by rcases y with _ | _ | y <;> simp at hy <;> (try subst hy) <;> simp at he ⊢) (by simp) 1 30 _ _ rfl (fun a hh => eval_tmp (hh 5 _ rfl (F22.at 5 rfl))) (fun a W hK hh hd => ?_) rfl szKy rfl
        obtain ⟨_, ey3, ⟨vz_6_3, rfl, hz_6_3⟩⟩ := hd.getz (j := 3) (s := 30) (by kernel_rfl) (by simp) rfl rfl
        rw [show a.eval _ = _ from (eval_tmp ey3)]
        exact ⟨⟨_, rfl, hz_6_3⟩, rfl, (one_own hz_6_3)⟩
      · refine .val 6 rfl (by simp) (by simp) (by simp) fun a W hK hh hd => ⟨wanted_yes rfl, ?_⟩
        exact givz_run (run_as rfl (eval_tmp (hd.valz (j := 4) (s := 31) (by kernel_rfl) (by simp) rfl rfl))) rfl
      · refine .val 7 rfl (by simp) (by simp) (by simp) fun a W hK hh hd => ⟨wanted_yes rfl, ?_⟩
        exact givz_run (run_as rfl rfl) rfl
    have e6_ : a23.tmps[6]? = some vz4a := by
      obtain ⟨vq, hq1, hq2⟩ := hI.val 7 _ 6 rfl rfl rfl (by simp) (fun _ h => by cases h)
      rw [hq1]
      exact congrArg some hq2
    have e7_ : a23.tmps[7]? = some (.int .i64 0) := by
      obtain ⟨vq, hq1, hq2⟩ := hI.val 8 _ 7 rfl rfl rfl (by simp) (fun _ h => by cases h)
      rw [hq1]
      exact congrArg some hq2
    have fg1z := (hI.old _ (List.mem_of_getElem? (i := 0) rfl)).2 (by kernel_rfl)
    obtain ⟨_, Bg1, rfl⟩ := fg1z
    have Bg1 : Blk w9 g1 27 (#[v5]) := Bg1
    have fg2z := (hI.old _ (List.mem_of_getElem? (i := 1) rfl)).2 (by kernel_rfl)
    obtain ⟨_, Bg2, ⟨vz8_, rfl, hz8_⟩⟩ := fg2z
    have Bg2 : Blk w9 g2 30 (#[vz8_]) := Bg2
    have M9 := hMs.keepW hI.keep hfM hfG
    have hO9 := (hO7.sub (.cons_cons _ (.cons _ (.cons _ (.cons_cons _ .slnil))))).keepW hI.keep hfovz4a
    have hO10 := (hO8.sub (.cons_cons _ (.cons _ (.cons _ (.cons_cons _ .slnil))))).keepW hI.keep hfov5
    have hO11 := OwnR.ofCall hMs (show World.ownsRow w9 _ 23 32 vz8_ 1 ([k].flatMap dgC) from hz8_)
    have hO12 := hO9.addFar (S := isB 27 (#[v5])) (hfovz4a g1 (by simp))
    have hO13 := hO10.addFar (S := isB 27 (#[v5])) (hfov5 g1 (by simp))
    have hO14 := hO11.addFar (S := isB 27 (#[v5])) (own_ne_ty hO11.owns Bg1 (by kernel_rfl))
    have M10 := M9.put1 (cs := #[v5]) (M8.ge 2 rfl) Bg1 (fun y hy hq => hfM y hy (by rw [hq]; simp))
    have hO15 := hO12.addFar (S := isB 30 (#[vz8_])) (hfovz4a g2 (by simp))
    have hO16 := hO13.addFar (S := isB 30 (#[vz8_])) (hfov5 g2 (by simp))
    have hO17 := hO14.addFar (S := isB 30 (#[vz8_])) (own_ne_ty hO14.owns Bg2 (by kernel_rfl))
    have M11 := M10.put1 (cs := #[vz8_]) (M8.ge 1 rfl) Bg2 (far_cons (setAt_ne M8.nd (i := 2) (j := 1) rfl rfl (by decide)) (fun y hy hq => hfM y hy (by rw [hq]; simp)))
    have F23 : Fr a23 32 [(0, (.agg (cells8 k))), (1, (.string ⟨no.toArray⟩)), (2, (.pointer (some ⟨g0, 0, none⟩))), (4, (.pointer (some ⟨g1, 0, none⟩))), (5, (.pointer (some ⟨g2, 0, none⟩))), (6, vz4a), (7, (.int .i64 0)), (9, (.int .i64 0)), (10, (.pointer (some ⟨g6, 0, none⟩))), (11, (.tuple #[vz4a, (.int .i64 0)])), (12, (.agg (cells8 k))), (13, (.string ⟨no.toArray⟩)), (14, (.tuple #[vz4a, (.int .i64 0)])), (15, vz4a), (16, (.int .i64 0)), (17, (.int .i64 0)), (18, (.bool false)), (22, (.agg (cells8 k))), (23, (.agg (cells8 (keyedS k [99, 104, 101, 99, 107])))), (24, (.agg (epC (⟨keyedS k [99, 104, 101, 99, 107], []⟩)))), (25, v5), (26, (.agg #[v5]))] := fr_of_holds hI.tsz (hI.defers.trans F22.defers) ⟨hI.had 0 _ rfl (F22.at 0 rfl), hI.had 1 _ rfl (F22.at 1 rfl), hI.had 2 _ rfl (F22.at 2 rfl), hI.had 4 _ rfl (F22.at 4 rfl), hI.had 5 _ rfl (F22.at 5 rfl), e6_, e7_, hI.had 9 _ rfl (F22.at 9 rfl), hI.had 10 _ rfl (F22.at 10 rfl), hI.had 11 _ rfl (F22.at 11 rfl), hI.had 12 _ rfl (F22.at 12 rfl), hI.had 13 _ rfl (F22.at 13 rfl), hI.had 14 _ rfl (F22.at 14 rfl), hI.had 15 _ rfl (F22.at 15 rfl), hI.had 16 _ rfl (F22.at 16 rfl), hI.had 17 _ rfl (F22.at 17 rfl), hI.had 18 _ rfl (F22.at 18 rfl), hI.had 22 _ rfl (F22.at 22 rfl), hI.had 23 _ rfl (F22.at 23 rfl), hI.had 24 _ rfl (F22.at 24 rfl), hI.had 25 _ rfl (F22.at 25 rfl), hI.had 26 _ rfl (F22.at 26 rfl), trivial⟩
    clear F22 M8 M9 M10
    refine nx ?_
    refine wp_ret ?_
    exact retV F23 (results_LLTT F23 rfl rfl rfl (loadVar_all (M11.at 1 rfl) Tryd.underlying27 rfl szRg rfl) (loadVar_all (M11.at 0 rfl) Tryd.underlying30 rfl szKy rfl) rfl rfl) ⟨_, rfl, by rw [hs]; exact ⟨_, _, _, _, rfl, ⟨_, rfl, hO16.owns⟩, ⟨_, rfl, hO17.owns⟩, by rw [shS_len]; exact hO15.owns, rfl⟩, M11.below⟩
  · have hs : makeS k no = ([], [], [], 1) := by unfold makeS; rw [if_neg hno]
    refine walk_enter Tryd.func13 rfl rfl rfl fun a0 F0 => ?_
    have M0 := Mem.new w
    refine wsl ?_
    refine sqNew (cs := (cells8 k)) (t := 23) F0 M0 (wantedS rfl) (run_box rfl (F0.ev 0 rfl)) rfl (by decide) fun g0 a1 w1 hgg0 hb1 F1 M1 => ?_
    refine sqNew (cs := #[.slice none 0 0]) (t := 27) F1 M1 (wantedS rfl) (run_alloc rfl (by kernel_rfl)) rfl (by decide) fun g1 a2 w2 hgg1 hb2 F2 M2 => ?_
    refine sqNew (cs := #[.slice none 0 0]) (t := 30) F2 M2 (wantedS rfl) (run_alloc rfl (by kernel_rfl)) rfl (by decide) fun g2 a3 w3 hgg2 hb3 F3 M3 => ?_
    refine sr (v := (.slice none 0 0)) F3 (run_as rfl rfl) rfl rfl rfl fun a4 F4 => ?_
    refine sr (v := (.int .i64 0)) F4 (run_as rfl rfl) rfl rfl rfl fun a5 F5 => ?_
    refine sn ?_
    clear F0 F1 F2 F3 F4 M0 M1 M2
    refine wsl ?_
    refine sr F5 (run_ldB rfl (F5.ev 2 rfl) (M3.at 2 rfl) Tryd.underlying23 rfl sz32k (szOf hLk)) rfl rfl rfl fun a6 F6 => ?_
    refine mvS F6 rfl rfl rfl rfl rfl fun a7 F7 => ?_
    refine sqC (v := (.tuple #[(.slice none 0 0), (.int .i64 1)])) F7 M3 (wantedS rfl) (run_call rfl Tryd.func38 (by kernel_rfl) rfl (mapE3 (F7.ev 12 rfl) rfl (F7.ev 13 rfl))) rfl (by decide) (splitE_any k no w3 hLk hno) fun a8 w4 hb4 F8 M4 => ?_
    refine mvS F8 rfl rfl rfl rfl rfl fun a9 F9 => ?_
    refine sr (v := (.slice none 0 0)) F9 (run_ext rfl (F9.ev 11 rfl) rfl) rfl rfl rfl fun a10 F10 => ?_
    refine sr (v := (.int .i64 1)) F10 (run_ext rfl (F10.ev 11 rfl) rfl) rfl rfl rfl fun a11 F11 => ?_
    refine asS F11 rfl rfl rfl rfl rfl fun a12 F12 => ?_
    refine asS F12 rfl rfl rfl rfl rfl fun a13 F13 => ?_
    refine sn ?_
    clear F5 F6 F7 F8 F9 F10 F11 F12 M3
    refine wp_seq ?_
    refine wsl ?_
    refine mvS F13 rfl rfl rfl rfl rfl fun a14 F14 => ?_
    refine sr (v := (.bool true)) F14 (run_nei rfl (F14.ev 17 rfl) rfl (bne_iff_ne.2 (by omega))) rfl rfl rfl fun a15 F15 => ?_
    refine sn ?_
    clear F13 F14
    refine wp_cond_true (F15.ev 18 rfl) ?_
    refine wsl ?_
    refine sr (v := (.agg #[.slice none 0 0])) F15 (run_blt (vs := #[]) (cs := #[.slice none 0 0]) rfl (by simp) (by kernel_rfl)) rfl rfl rfl fun a16 F16 => ?_
    refine sr (v := (.agg #[.slice none 0 0])) F16 (run_blt (vs := #[]) (cs := #[.slice none 0 0]) rfl (by simp) (by kernel_rfl)) rfl rfl rfl fun a17 F17 => ?_
    refine mvS F17 rfl rfl rfl rfl rfl fun a18 F18 => ?_
    refine sqStore (i := 1) F18 M4 rfl rfl rfl (F18.ev 4 rfl) (F18.ev 19 rfl) rfl szRg rfl rfl (arr_one rfl) fun a19 w5 F19 M5 => ?_
    refine sqStore (i := 0) F19 M5 rfl rfl rfl (F19.ev 5 rfl) (F19.ev 20 rfl) rfl szKy rfl rfl (arr_one rfl) fun a20 w6 F20 M6 => ?_
    refine sr (v := (.slice none 0 0)) F20 (run_as rfl rfl) rfl rfl rfl fun a21 F21 => ?_
    refine asS F21 rfl rfl rfl rfl rfl fun a22 F22 => ?_
    refine sn ?_
    clear F15 F16 F17 F18 F19 F20 F21 M4 M5
    refine wp_ret ?_
    refine nxRet ?_
    exact retV F22 (results_LLTT F22 rfl rfl rfl (loadVar_all (M6.at 1 rfl) Tryd.underlying27 rfl szRg rfl) (loadVar_all (M6.at 0 rfl) Tryd.underlying30 rfl szKy rfl) rfl rfl) ⟨_, rfl, by rw [hs]; exact ⟨_, _, _, _, rfl, ⟨_, rfl, ⟨rfl, .inl ⟨rfl, rfl⟩⟩⟩, ⟨_, rfl, ⟨rfl, .inl ⟨rfl, rfl⟩⟩⟩, ⟨rfl, .inl ⟨rfl, rfl⟩⟩, rfl⟩, M6.below⟩
set_option maxRecDepth 100000 in
set_option maxHeartbeats 1000000 in
theorem krot_any (E : List Ep) (K : List (List UInt8)) (k no : List UInt8) (v u : Value) (w : World) (HG : Glob w) (hV : Sl w v 33 E.length (E.flatMap epF)) (hE32 : ∀ e ∈ E, e.c.length = 32) (hU : Sl w u 32 K.length (K.flatMap dgC)) (h32 : ∀ k ∈ K, k.length = 32) (hLk : k.length = 32) (hEl : E.length < 2 ^ 36) (hKl : K.length < 2 ^ 36) : Calls Tryd.prog 19 #[.agg #[v], .agg #[u], .agg (cells8 k), .string ⟨no.toArray⟩] w fun e w' => ∃ u, e = .returned u ∧ Kp.sat w.heap.size (.tup4 (.st (.row 76 33 (((rotS E K k no).1).length) (((rotS E K k no).1).flatMap epF))) (.st (.row 23 32 (((rotS E K k no).2.1).length) (((rotS E K k no).2.1).flatMap dgC))) (.row 54 33 (((rotS E K k no).2.2.1).length) (((rotS E K k no).2.2.1).flatMap shareC)) (.val (.int .i64 ((rotS E K k no).2.2.2)))) u w' ∧ Below w.heap.size w w' := by
  by_cases hck : checkS E K = 0
  · have hcd : ¬ (K = [] ∨ K.length ≠ E.length) := by
      intro h
      unfold checkS at hck
      rw [if_pos h] at hck
      cases hck
    have hK0 : 0 < K.length := List.length_pos_iff.2 fun h => hcd (.inl h)
    have hKE : K.length = E.length := Classical.not_not.1 fun h => hcd (.inr h)
    by_cases h100 : 100 ≤ K.length
    · have hr : rotE E K k no = 6 := by unfold rotE; rw [if_neg (fun h => h hck), if_pos h100]
      have hs : rotS E K k no = ([], [], [], 6) := by unfold rotS; rw [hr, if_neg (by omega)]
      refine walk_enter Tryd.func19 rfl rfl rfl fun a0 F0 => ?_
      have M0 := Mem.new w
      refine wsl ?_
      refine sqNew (cs := #[v]) (t := 27) F0 M0 (wantedS rfl) (run_box rfl (F0.ev 0 rfl)) rfl (by decide) fun g0 a1 w1 hgg0 hb1 F1 M1 => ?_
      refine sqNew (cs := #[u]) (t := 30) F1 M1 (wantedS rfl) (run_box rfl (F1.ev 1 rfl)) rfl (by decide) fun g1 a2 w2 hgg1 hb2 F2 M2 => ?_
      refine sqNew (cs := (cells8 k)) (t := 23) F2 M2 (wantedS rfl) (run_box rfl (F2.ev 2 rfl)) rfl (by decide) fun g2 a3 w3 hgg2 hb3 F3 M3 => ?_
      refine sqNew (cs := #[.slice none 0 0]) (t := 27) F3 M3 (wantedS rfl) (run_alloc rfl (by kernel_rfl)) rfl (by decide) fun g3 a4 w4 hgg3 hb4 F4 M4 => ?_
      refine sqNew (cs := #[.slice none 0 0]) (t := 30) F4 M4 (wantedS rfl) (run_alloc rfl (by kernel_rfl)) rfl (by decide) fun g4 a5 w5 hgg4 hb5 F5 M5 => ?_
      refine sr (v := (.slice none 0 0)) F5 (run_as rfl rfl) rfl rfl rfl fun a6 F6 => ?_
      refine sr (v := (.int .i64 0)) F6 (run_as rfl rfl) rfl rfl rfl fun a7 F7 => ?_
      refine sn ?_
      clear F0 F1 F2 F3 F4 F5 F6 M0 M1 M2 M3 M4
      refine wsl ?_
      refine sr F7 (run_ldB rfl (F7.ev 4 rfl) (M5.at 4 rfl) Tryd.underlying27 rfl szRg rfl) rfl rfl rfl fun a8 F8 => ?_
      refine sr F8 (run_ldB rfl (F8.ev 5 rfl) (M5.at 3 rfl) Tryd.underlying30 rfl szKy rfl) rfl rfl rfl fun a9 F9 => ?_
      refine sqC (v := (.int .i64 0)) F9 M5 (wantedS rfl) (run_call rfl Tryd.func21 (by kernel_rfl) rfl (mapE2 (F9.ev 16 rfl) (F9.ev 17 rfl))) rfl (by decide) ((by have h := kchk_any E K v u w5 (HG.below M5.below) (hV.below M5.below) hE32 (hU.below M5.below) h32 (by omega) (by omega); rw [hck] at h; exact h)) fun a10 w6 hb6 F10 M6 => ?_
      refine asS F10 rfl rfl rfl rfl rfl fun a11 F11 => ?_
      refine sn ?_
      clear F7 F8 F9 F10 M5
      refine wp_seq ?_
      refine wsl ?_
      refine mvS F11 rfl rfl rfl rfl rfl fun a12 F12 => ?_
      refine sr (v := (.bool true)) F12 (run_eqi rfl (F12.ev 19 rfl) rfl (beq_self_eq_true _)) rfl rfl rfl fun a13 F13 => ?_
      refine mvS F13 rfl rfl rfl rfl rfl fun a14 F14 => ?_
      refine sq (v := (.pointer (some ⟨g0, 0, none⟩))) F14 (wantedG F14 rfl rfl rfl rfl rfl) (run_fldA (m := 1) (s := 0) rfl (F14.ev 4 rfl) Tryd.underlying27 rfl rfl (by kernel_rfl) (by decide)) rfl (by decide) fun a15 F15 => ?_
      refine sq (v := v) F15 (wantedG F15 rfl rfl rfl rfl rfl) (run_ldF rfl (F15.ev 22 rfl) (M6.at 4 rfl) rfl (by kernel_rfl)) rfl (by decide) fun a16 F16 => ?_
      refine sq (v := (.int .i64 (E.length : Int))) F16 (wantedG F16 rfl rfl rfl rfl rfl) (run_lenS rfl (F16.ev 23 rfl) (hV.below M6.below) rfl Tryd.underlying25) rfl (by decide) fun a17 F17 => ?_
      refine sq (v := (.bool true)) F17 (wantedG F17 rfl rfl rfl rfl rfl) (run_geq rfl (F17.ev 24 rfl) rfl (decide_eq_true (by omega))) rfl (by decide) fun a18 F18 => ?_
      refine sr (v := (.bool true)) F18 (run_pick rfl (F18.ev 21 rfl) (F18.ev 25 rfl) rfl) rfl rfl rfl fun a19 F19 => ?_
      refine sn ?_
      clear F11 F12 F13 F14 F15 F16 F17 F18
      refine wp_cond_true (F19.ev 26 rfl) ?_
      refine wp_region_lit ?_
      refine sr (v := (.int .i64 6)) F19 (run_as rfl rfl) rfl rfl rfl fun a20 F20 => ?_
      refine sn ?_
      clear F19
      refine wp_seq ?_
      refine wsl ?_
      refine mvS F20 rfl rfl rfl rfl rfl fun a21 F21 => ?_
      refine sr (v := (.bool false)) F21 (run_eqi rfl (F21.ev 27 rfl) rfl rfl) rfl rfl rfl fun a22 F22 => ?_
      refine mvS F22 rfl rfl rfl rfl rfl fun a23 F23 => ?_
      refine sqSkip F23 (unwantedG F23 rfl rfl rfl rfl rfl) rfl (by decide) fun a24 F24 => ?_
      refine sqSkip F24 (unwantedG F24 rfl rfl rfl rfl rfl) rfl (by decide) fun a25 F25 => ?_
      refine sqSkip F25 (unwantedG F25 rfl rfl rfl rfl rfl) rfl (by decide) fun a26 F26 => ?_
      refine sqSkip F26 (unwantedG F26 rfl rfl rfl rfl rfl) rfl (by decide) fun a27 F27 => ?_
      refine sr (v := (.bool false)) F27 (run_pick rfl (F27.ev 29 rfl) (F27.ev 33 rfl) rfl) rfl rfl rfl fun a28 F28 => ?_
      refine sn ?_
      clear F20 F21 F22 F23 F24 F25 F26 F27
      refine cfs (F28.ev 34 rfl) ?_
      refine wp_seq ?_
      refine wsl ?_
      refine mvS F28 rfl rfl rfl rfl rfl fun a29 F29 => ?_
      refine sr (v := (.bool true)) F29 (run_nei rfl (F29.ev 35 rfl) rfl rfl) rfl rfl rfl fun a30 F30 => ?_
      refine sn ?_
      clear F28 F29
      refine wp_cond_true (F30.ev 36 rfl) ?_
      refine wsl ?_
      refine sr (v := (.agg #[.slice none 0 0])) F30 (run_blt (vs := #[]) (cs := #[.slice none 0 0]) rfl (by simp) (by kernel_rfl)) rfl rfl rfl fun a31 F31 => ?_
      refine sr (v := (.agg #[.slice none 0 0])) F31 (run_blt (vs := #[]) (cs := #[.slice none 0 0]) rfl (by simp) (by kernel_rfl)) rfl rfl rfl fun a32 F32 => ?_
      refine mvS F32 rfl rfl rfl rfl rfl fun a33 F33 => ?_
      refine sqStore (i := 1) F33 M6 rfl rfl rfl (F33.ev 8 rfl) (F33.ev 37 rfl) rfl szRg rfl rfl (arr_one rfl) fun a34 w7 F34 M7 => ?_
      refine sqStore (i := 0) F34 M7 rfl rfl rfl (F34.ev 9 rfl) (F34.ev 38 rfl) rfl szKy rfl rfl (arr_one rfl) fun a35 w8 F35 M8 => ?_
      refine sr (v := (.slice none 0 0)) F35 (run_as rfl rfl) rfl rfl rfl fun a36 F36 => ?_
      refine asS F36 rfl rfl rfl rfl rfl fun a37 F37 => ?_
      refine sn ?_
      clear F30 F31 F32 F33 F34 F35 F36 M6 M7
      refine wp_ret ?_
      refine nxRet ?_
      exact retV F37 (results_LLTT F37 rfl rfl rfl (loadVar_all (M8.at 1 rfl) Tryd.underlying27 rfl szRg rfl) (loadVar_all (M8.at 0 rfl) Tryd.underlying30 rfl szKy rfl) rfl rfl) ⟨_, rfl, by rw [hs]; exact ⟨_, _, _, _, rfl, ⟨_, rfl, ⟨rfl, .inl ⟨rfl, rfl⟩⟩⟩, ⟨_, rfl, ⟨rfl, .inl ⟨rfl, rfl⟩⟩⟩, ⟨rfl, .inl ⟨rfl, rfl⟩⟩, rfl⟩, M8.below⟩
    by_cases hin : k ∈ K
    · have hr : rotE E K k no = 8 := by unfold rotE; rw [if_neg (fun h => h hck), if_neg h100, if_pos hin]
      have hs : rotS E K k no = ([], [], [], 8) := by unfold rotS; rw [hr, if_neg (by omega)]
      refine walk_enter Tryd.func19 rfl rfl rfl fun a0 F0 => ?_
      have M0 := Mem.new w
      refine wsl ?_
      refine sqNew (cs := #[v]) (t := 27) F0 M0 (wantedS rfl) (run_box rfl (F0.ev 0 rfl)) rfl (by decide) fun g0 a1 w1 hgg0 hb1 F1 M1 => ?_
      refine sqNew (cs := #[u]) (t := 30) F1 M1 (wantedS rfl) (run_box rfl (F1.ev 1 rfl)) rfl (by decide) fun g1 a2 w2 hgg1 hb2 F2 M2 => ?_
      refine sqNew (cs := (cells8 k)) (t := 23) F2 M2 (wantedS rfl) (run_box rfl (F2.ev 2 rfl)) rfl (by decide) fun g2 a3 w3 hgg2 hb3 F3 M3 => ?_
      refine sqNew (cs := #[.slice none 0 0]) (t := 27) F3 M3 (wantedS rfl) (run_alloc rfl (by kernel_rfl)) rfl (by decide) fun g3 a4 w4 hgg3 hb4 F4 M4 => ?_
      refine sqNew (cs := #[.slice none 0 0]) (t := 30) F4 M4 (wantedS rfl) (run_alloc rfl (by kernel_rfl)) rfl (by decide) fun g4 a5 w5 hgg4 hb5 F5 M5 => ?_
      refine sr (v := (.slice none 0 0)) F5 (run_as rfl rfl) rfl rfl rfl fun a6 F6 => ?_
      refine sr (v := (.int .i64 0)) F6 (run_as rfl rfl) rfl rfl rfl fun a7 F7 => ?_
      refine sn ?_
      clear F0 F1 F2 F3 F4 F5 F6 M0 M1 M2 M3 M4
      refine wsl ?_
      refine sr F7 (run_ldB rfl (F7.ev 4 rfl) (M5.at 4 rfl) Tryd.underlying27 rfl szRg rfl) rfl rfl rfl fun a8 F8 => ?_
      refine sr F8 (run_ldB rfl (F8.ev 5 rfl) (M5.at 3 rfl) Tryd.underlying30 rfl szKy rfl) rfl rfl rfl fun a9 F9 => ?_
      refine sqC (v := (.int .i64 0)) F9 M5 (wantedS rfl) (run_call rfl Tryd.func21 (by kernel_rfl) rfl (mapE2 (F9.ev 16 rfl) (F9.ev 17 rfl))) rfl (by decide) ((by have h := kchk_any E K v u w5 (HG.below M5.below) (hV.below M5.below) hE32 (hU.below M5.below) h32 (by omega) (by omega); rw [hck] at h; exact h)) fun a10 w6 hb6 F10 M6 => ?_
      refine asS F10 rfl rfl rfl rfl rfl fun a11 F11 => ?_
      refine sn ?_
      clear F7 F8 F9 F10 M5
      refine wp_seq ?_
      refine wsl ?_
      refine mvS F11 rfl rfl rfl rfl rfl fun a12 F12 => ?_
      refine sr (v := (.bool true)) F12 (run_eqi rfl (F12.ev 19 rfl) rfl (beq_self_eq_true _)) rfl rfl rfl fun a13 F13 => ?_
      refine mvS F13 rfl rfl rfl rfl rfl fun a14 F14 => ?_
      refine sq (v := (.pointer (some ⟨g0, 0, none⟩))) F14 (wantedG F14 rfl rfl rfl rfl rfl) (run_fldA (m := 1) (s := 0) rfl (F14.ev 4 rfl) Tryd.underlying27 rfl rfl (by kernel_rfl) (by decide)) rfl (by decide) fun a15 F15 => ?_
      refine sq (v := v) F15 (wantedG F15 rfl rfl rfl rfl rfl) (run_ldF rfl (F15.ev 22 rfl) (M6.at 4 rfl) rfl (by kernel_rfl)) rfl (by decide) fun a16 F16 => ?_
      refine sq (v := (.int .i64 (E.length : Int))) F16 (wantedG F16 rfl rfl rfl rfl rfl) (run_lenS rfl (F16.ev 23 rfl) (hV.below M6.below) rfl Tryd.underlying25) rfl (by decide) fun a17 F17 => ?_
      refine sq (v := (.bool false)) F17 (wantedG F17 rfl rfl rfl rfl rfl) (run_geq rfl (F17.ev 24 rfl) rfl (decide_eq_false (by omega))) rfl (by decide) fun a18 F18 => ?_
      refine sr (v := (.bool false)) F18 (run_pick rfl (F18.ev 21 rfl) (F18.ev 25 rfl) rfl) rfl rfl rfl fun a19 F19 => ?_
      refine sn ?_
      clear F11 F12 F13 F14 F15 F16 F17 F18
      refine cfs (F19.ev 26 rfl) ?_
      refine wp_seq ?_
      refine wsl ?_
      refine mvS F19 rfl rfl rfl rfl rfl fun a20 F20 => ?_
      refine sr (v := (.bool true)) F20 (run_eqi rfl (F20.ev 27 rfl) rfl (beq_self_eq_true _)) rfl rfl rfl fun a21 F21 => ?_
      refine mvS F21 rfl rfl rfl rfl rfl fun a22 F22 => ?_
      refine sq (v := (.pointer (some ⟨g1, 0, none⟩))) F22 (wantedG F22 rfl rfl rfl rfl rfl) (run_fldA (m := 1) (s := 0) rfl (F22.ev 5 rfl) Tryd.underlying30 rfl rfl (by kernel_rfl) (by decide)) rfl (by decide) fun a23 F23 => ?_
      refine sq (v := u) F23 (wantedG F23 rfl rfl rfl rfl rfl) (run_ldF rfl (F23.ev 30 rfl) (M6.at 3 rfl) rfl (by kernel_rfl)) rfl (by decide) fun a24 F24 => ?_
      refine sq (v := (.agg (cells8 k))) F24 (wantedG F24 rfl rfl rfl rfl rfl) (run_ldB rfl (F24.ev 6 rfl) (M6.at 2 rfl) Tryd.underlying23 rfl sz32k (szOf hLk)) rfl (by decide) fun a25 F25 => ?_
      refine sqC (v := (.bool true)) F25 M6 (wantedG F25 rfl rfl rfl rfl rfl) (run_call rfl Tryd.func42 (by kernel_rfl) rfl (mapE2 (F25.ev 31 rfl) (F25.ev 32 rfl))) rfl (by decide) ((by have h := contains_key K u k w6 (hU.below M6.below) h32 hLk (by omega); rw [decide_eq_true hin] at h; exact h)) fun a26 w7 hb7 F26 M7 => ?_
      refine sr (v := (.bool true)) F26 (run_pick rfl (F26.ev 29 rfl) (F26.ev 33 rfl) rfl) rfl rfl rfl fun a27 F27 => ?_
      refine sn ?_
      clear F19 F20 F21 F22 F23 F24 F25 F26 M6
      refine wp_cond_true (F27.ev 34 rfl) ?_
      refine wp_region_lit ?_
      refine sr (v := (.int .i64 8)) F27 (run_as rfl rfl) rfl rfl rfl fun a28 F28 => ?_
      refine sn ?_
      clear F27
      refine wp_seq ?_
      refine wsl ?_
      refine mvS F28 rfl rfl rfl rfl rfl fun a29 F29 => ?_
      refine sr (v := (.bool true)) F29 (run_nei rfl (F29.ev 35 rfl) rfl rfl) rfl rfl rfl fun a30 F30 => ?_
      refine sn ?_
      clear F28 F29
      refine wp_cond_true (F30.ev 36 rfl) ?_
      refine wsl ?_
      refine sr (v := (.agg #[.slice none 0 0])) F30 (run_blt (vs := #[]) (cs := #[.slice none 0 0]) rfl (by simp) (by kernel_rfl)) rfl rfl rfl fun a31 F31 => ?_
      refine sr (v := (.agg #[.slice none 0 0])) F31 (run_blt (vs := #[]) (cs := #[.slice none 0 0]) rfl (by simp) (by kernel_rfl)) rfl rfl rfl fun a32 F32 => ?_
      refine mvS F32 rfl rfl rfl rfl rfl fun a33 F33 => ?_
      refine sqStore (i := 1) F33 M7 rfl rfl rfl (F33.ev 8 rfl) (F33.ev 37 rfl) rfl szRg rfl rfl (arr_one rfl) fun a34 w8 F34 M8 => ?_
      refine sqStore (i := 0) F34 M8 rfl rfl rfl (F34.ev 9 rfl) (F34.ev 38 rfl) rfl szKy rfl rfl (arr_one rfl) fun a35 w9 F35 M9 => ?_
      refine sr (v := (.slice none 0 0)) F35 (run_as rfl rfl) rfl rfl rfl fun a36 F36 => ?_
      refine asS F36 rfl rfl rfl rfl rfl fun a37 F37 => ?_
      refine sn ?_
      clear F30 F31 F32 F33 F34 F35 F36 M7 M8
      refine wp_ret ?_
      refine nxRet ?_
      exact retV F37 (results_LLTT F37 rfl rfl rfl (loadVar_all (M9.at 1 rfl) Tryd.underlying27 rfl szRg rfl) (loadVar_all (M9.at 0 rfl) Tryd.underlying30 rfl szKy rfl) rfl rfl) ⟨_, rfl, by rw [hs]; exact ⟨_, _, _, _, rfl, ⟨_, rfl, ⟨rfl, .inl ⟨rfl, rfl⟩⟩⟩, ⟨_, rfl, ⟨rfl, .inl ⟨rfl, rfl⟩⟩⟩, ⟨rfl, .inl ⟨rfl, rfl⟩⟩, rfl⟩, M9.below⟩
    by_cases hno : no.length = 64
    · have hr : rotE E K k no = 0 := by unfold rotE; rw [if_neg (fun h => h hck), if_neg h100, if_neg hin, if_pos hno]
      obtain ⟨x, hx⟩ : ∃ x, K[K.length - 1]? = some x := ⟨K[K.length - 1]'(by omega), List.getElem?_eq_getElem (by omega)⟩
      have hLx := h32 x (List.mem_of_getElem? hx)
      have hgx : K.getD (K.length - 1) [] = x := by rw [List.getD_eq_getElem?_getD, hx]; rfl
      have hs : rotS E K k no = (E ++ [epS k x], K ++ [k], shS k no, 0) := by unfold rotS; rw [if_pos hr, hgx]
      refine walk_enter Tryd.func19 rfl rfl rfl fun a0 F0 => ?_
      have M0 := Mem.new w
      refine wsl ?_
      refine sqNew (cs := #[v]) (t := 27) F0 M0 (wantedS rfl) (run_box rfl (F0.ev 0 rfl)) rfl (by decide) fun g0 a1 w1 hgg0 hb1 F1 M1 => ?_
      refine sqNew (cs := #[u]) (t := 30) F1 M1 (wantedS rfl) (run_box rfl (F1.ev 1 rfl)) rfl (by decide) fun g1 a2 w2 hgg1 hb2 F2 M2 => ?_
      refine sqNew (cs := (cells8 k)) (t := 23) F2 M2 (wantedS rfl) (run_box rfl (F2.ev 2 rfl)) rfl (by decide) fun g2 a3 w3 hgg2 hb3 F3 M3 => ?_
      refine sqNew (cs := #[.slice none 0 0]) (t := 27) F3 M3 (wantedS rfl) (run_alloc rfl (by kernel_rfl)) rfl (by decide) fun g3 a4 w4 hgg3 hb4 F4 M4 => ?_
      refine sqNew (cs := #[.slice none 0 0]) (t := 30) F4 M4 (wantedS rfl) (run_alloc rfl (by kernel_rfl)) rfl (by decide) fun g4 a5 w5 hgg4 hb5 F5 M5 => ?_
      refine sr (v := (.slice none 0 0)) F5 (run_as rfl rfl) rfl rfl rfl fun a6 F6 => ?_
      refine sr (v := (.int .i64 0)) F6 (run_as rfl rfl) rfl rfl rfl fun a7 F7 => ?_
      refine sn ?_
      clear F0 F1 F2 F3 F4 F5 F6 M0 M1 M2 M3 M4
      refine wsl ?_
      refine sr F7 (run_ldB rfl (F7.ev 4 rfl) (M5.at 4 rfl) Tryd.underlying27 rfl szRg rfl) rfl rfl rfl fun a8 F8 => ?_
      refine sr F8 (run_ldB rfl (F8.ev 5 rfl) (M5.at 3 rfl) Tryd.underlying30 rfl szKy rfl) rfl rfl rfl fun a9 F9 => ?_
      refine sqC (v := (.int .i64 0)) F9 M5 (wantedS rfl) (run_call rfl Tryd.func21 (by kernel_rfl) rfl (mapE2 (F9.ev 16 rfl) (F9.ev 17 rfl))) rfl (by decide) ((by have h := kchk_any E K v u w5 (HG.below M5.below) (hV.below M5.below) hE32 (hU.below M5.below) h32 (by omega) (by omega); rw [hck] at h; exact h)) fun a10 w6 hb6 F10 M6 => ?_
      refine asS F10 rfl rfl rfl rfl rfl fun a11 F11 => ?_
      refine sn ?_
      clear F7 F8 F9 F10 M5
      refine wp_seq ?_
      refine wsl ?_
      refine mvS F11 rfl rfl rfl rfl rfl fun a12 F12 => ?_
      refine sr (v := (.bool true)) F12 (run_eqi rfl (F12.ev 19 rfl) rfl (beq_self_eq_true _)) rfl rfl rfl fun a13 F13 => ?_
      refine mvS F13 rfl rfl rfl rfl rfl fun a14 F14 => ?_
      refine sq (v := (.pointer (some ⟨g0, 0, none⟩))) F14 (wantedG F14 rfl rfl rfl rfl rfl) (run_fldA (m := 1) (s := 0) rfl (F14.ev 4 rfl) Tryd.underlying27 rfl rfl (by kernel_rfl) (by decide)) rfl (by decide) fun a15 F15 => ?_
      refine sq (v := v) F15 (wantedG F15 rfl rfl rfl rfl rfl) (run_ldF rfl (F15.ev 22 rfl) (M6.at 4 rfl) rfl (by kernel_rfl)) rfl (by decide) fun a16 F16 => ?_
      refine sq (v := (.int .i64 (E.length : Int))) F16 (wantedG F16 rfl rfl rfl rfl rfl) (run_lenS rfl (F16.ev 23 rfl) (hV.below M6.below) rfl Tryd.underlying25) rfl (by decide) fun a17 F17 => ?_
      refine sq (v := (.bool false)) F17 (wantedG F17 rfl rfl rfl rfl rfl) (run_geq rfl (F17.ev 24 rfl) rfl (decide_eq_false (by omega))) rfl (by decide) fun a18 F18 => ?_
      refine sr (v := (.bool false)) F18 (run_pick rfl (F18.ev 21 rfl) (F18.ev 25 rfl) rfl) rfl rfl rfl fun a19 F19 => ?_
      refine sn ?_
      clear F11 F12 F13 F14 F15 F16 F17 F18
      refine cfs (F19.ev 26 rfl) ?_
      refine wp_seq ?_
      refine wsl ?_
      refine mvS F19 rfl rfl rfl rfl rfl fun a20 F20 => ?_
      refine sr (v := (.bool true)) F20 (run_eqi rfl (F20.ev 27 rfl) rfl (beq_self_eq_true _)) rfl rfl rfl fun a21 F21 => ?_
      refine mvS F21 rfl rfl rfl rfl rfl fun a22 F22 => ?_
      refine sq (v := (.pointer (some ⟨g1, 0, none⟩))) F22 (wantedG F22 rfl rfl rfl rfl rfl) (run_fldA (m := 1) (s := 0) rfl (F22.ev 5 rfl) Tryd.underlying30 rfl rfl (by kernel_rfl) (by decide)) rfl (by decide) fun a23 F23 => ?_
      refine sq (v := u) F23 (wantedG F23 rfl rfl rfl rfl rfl) (run_ldF rfl (F23.ev 30 rfl) (M6.at 3 rfl) rfl (by kernel_rfl)) rfl (by decide) fun a24 F24 => ?_
      refine sq (v := (.agg (cells8 k))) F24 (wantedG F24 rfl rfl rfl rfl rfl) (run_ldB rfl (F24.ev 6 rfl) (M6.at 2 rfl) Tryd.underlying23 rfl sz32k (szOf hLk)) rfl (by decide) fun a25 F25 => ?_
      refine sqC (v := (.bool false)) F25 M6 (wantedG F25 rfl rfl rfl rfl rfl) (run_call rfl Tryd.func42 (by kernel_rfl) rfl (mapE2 (F25.ev 31 rfl) (F25.ev 32 rfl))) rfl (by decide) ((by have h := contains_key K u k w6 (hU.below M6.below) h32 hLk (by omega); rw [decide_eq_false hin] at h; exact h)) fun a26 w7 hb7 F26 M7 => ?_
      refine sr (v := (.bool false)) F26 (run_pick rfl (F26.ev 29 rfl) (F26.ev 33 rfl) rfl) rfl rfl rfl fun a27 F27 => ?_
      refine sn ?_
      clear F19 F20 F21 F22 F23 F24 F25 F26 M6
      refine cfs (F27.ev 34 rfl) ?_
      refine wp_seq ?_
      refine wsl ?_
      refine mvS F27 rfl rfl rfl rfl rfl fun a28 F28 => ?_
      refine sr (v := (.bool false)) F28 (run_nei rfl (F28.ev 35 rfl) rfl (bne_self_eq_false _)) rfl rfl rfl fun a29 F29 => ?_
      refine sn ?_
      clear F27 F28
      refine cfs (F29.ev 36 rfl) ?_
      refine wsl ?_
      refine sr F29 (run_ldB rfl (F29.ev 6 rfl) (M7.at 2 rfl) Tryd.underlying23 rfl sz32k (szOf hLk)) rfl rfl rfl fun a30 F30 => ?_
      refine mvS F30 rfl rfl rfl rfl rfl fun a31 F31 => ?_
      refine sqT (T := fun u wx => Kp.sat w7.heap.size (.tup2 (.row 54 33 5 ((shS k no).flatMap shareC)) (.val (.int .i64 0))) u wx ∧ Below w7.heap.size w7 wx) F31 (wantedS rfl) (run_call rfl Tryd.func38 (by kernel_rfl) rfl (mapE3 (F31.ev 41 rfl) rfl (F31.ev 42 rfl))) rfl (by decide) ((split_any k no w7 hLk hno).mono fun e w2 ⟨⟨v, h1, h2⟩, h3⟩ => ⟨_, h1, ⟨v, _, rfl, h2, rfl⟩, h3⟩) fun u5 a32 w8 hT8 F32 => ?_
      obtain ⟨⟨vz6a, _, rfl, hz6a, rfl⟩, hb8⟩ := hT8
      have hO1 := OwnR.ofCall M7 (show World.ownsRow w8 _ 54 33 vz6a 5 ((shS k no).flatMap shareC) from hz6a)
      have M8 := M7.grow hb8
      refine mvS F32 rfl rfl rfl rfl rfl fun a33 F33 => ?_
      refine sr (v := vz6a) F33 (run_ext rfl (F33.ev 40 rfl) rfl) rfl rfl rfl fun a34 F34 => ?_
      refine sr (v := (.int .i64 0)) F34 (run_ext rfl (F34.ev 40 rfl) rfl) rfl rfl rfl fun a35 F35 => ?_
      refine asS F35 rfl rfl rfl rfl rfl fun a36 F36 => ?_
      refine asS F36 rfl rfl rfl rfl rfl fun a37 F37 => ?_
      refine sn ?_
      clear F29 F30 F31 F32 F33 F34 F35 F36 M7
      refine wp_seq ?_
      refine wsl ?_
      refine mvS F37 rfl rfl rfl rfl rfl fun a38 F38 => ?_
      refine sr (v := (.bool false)) F38 (run_nei rfl (F38.ev 46 rfl) rfl (bne_eq_false_iff_eq.2 (by omega))) rfl rfl rfl fun a39 F39 => ?_
      refine sn ?_
      clear F37 F38
      refine cfs (F39.ev 47 rfl) ?_
      refine wsl ?_
      refine sr F39 (run_fldA (m := 1) (s := 0) rfl (F39.ev 5 rfl) Tryd.underlying30 rfl rfl (by kernel_rfl) (by decide)) rfl rfl rfl fun a40 F40 => ?_
      refine sr (v := u) F40 (run_ldF rfl (F40.ev 51 rfl) (M8.at 3 rfl) rfl (by kernel_rfl)) rfl rfl rfl fun a41 F41 => ?_
      refine sr F41 (run_fldA (m := 1) (s := 0) rfl (F41.ev 5 rfl) Tryd.underlying30 rfl rfl (by kernel_rfl) (by decide)) rfl rfl rfl fun a42 F42 => ?_
      refine sr (v := u) F42 (run_ldF rfl (F42.ev 53 rfl) (M8.at 3 rfl) rfl (by kernel_rfl)) rfl rfl rfl fun a43 F43 => ?_
      refine sr F43 (run_lenS rfl (F43.ev 54 rfl) (hU.below M8.below) rfl Tryd.underlying28) rfl rfl rfl fun a44 F44 => ?_
      refine sr F44 (run_sub (r := ((K.length - 1 : Nat) : Int)) rfl (F44.ev 55 rfl) rfl (by rw [IntKind.wrap_i64]; omega)) rfl rfl rfl fun a45 F45 => ?_
      refine sr (v := (slPtr u ((K.length - 1) * 32))) F45 (run_atP (i := (K.length - 1)) rfl (F45.ev 52 rfl) (F45.ev 56 rfl) rfl (hU.below M8.below) (by omega) elKey.un (by kernel_rfl)) rfl rfl rfl fun a46 F46 => ?_
      refine sr (v := (.agg (cells8 x))) F46 (ldKey hLx (run_ldPS (ys := dgC x) rfl (F46.ev 57 rfl) (hU.below M8.below) (by omega) (fun j u hj => flat_at dgC_len hx j hj) (by kernel_rfl) (by kernel_rfl))) rfl rfl rfl fun a47 F47 => ?_
      refine sqNew (cs := (cells8 (List.replicate 32 0))) (t := 23) F47 M8 (wantedS rfl) (run_alloc rfl (by kernel_rfl)) rfl (by decide) fun g7 a48 w9 hgg7 hb9 F48 M9 => ?_
      have hO2 := hO1.add (S := isB 23 (cells8 (List.replicate 32 0))) hb9 hgg7
      refine sqStoreG (i := 0) F48 M9 rfl rfl rfl (F48.ev 14 rfl) (F48.ev 58 rfl) rfl sz32k (szOf hLx) (szOf List.length_replicate) (cells8_one _) fun a49 w10 hgr10 F49 M10 => ?_
      have hO3 := hO2.upd 0 (S2 := isB 23 (cells8 x)) rfl hgr10
      refine sn ?_
      clear F39 F40 F41 F42 F43 F44 F45 F46 F47 F48 M8 M9
      refine wp_seq ?_
      refine wp_region_p 77 [.val (.pointer (some ⟨g0, 0, none⟩)), .val v, .row 76 33 E.length (E.flatMap epF), .val (.agg (cells8 k)), .val (.agg (cells8 x)), .val (.agg (epC (epS k x))), .new 76 (List.toArray ([epS k x].flatMap epF)) 1, .row 76 33 (E.length + 1) ((E.flatMap epF) ++ ([epS k x].flatMap epF)), .row 76 33 (E.length + 1) ((E.flatMap epF) ++ ([epS k x].flatMap epF))] [none, none, some 7, none, none, none, some 7, none, none] [] [] [] (by kernel_rfl) (by kernel_rfl) F49.size ?_ ?_ ?_ ?_ (by kernel_rfl) ?_ fun a50 w11 gs hI => ?_
      · intro d hd
        cases hd
      · intro b hb
        cases hb
      · intro x y b c hx hy hne
        simp at hx
      · intro r hr
        cases hr
      · refine ⟨?_, ?_, ?_, ?_, ?_, ?_, ?_, ?_, ?_, trivial⟩
        · refine .val 59 rfl (by simp) (by simp) (by simp) fun a W hK hh hd => ⟨wanted_yes rfl, ?_⟩
          exact givz_run (run_fldA (m := 1) (s := 0) rfl (eval_tmp (hh 4 _ rfl (F49.at 4 rfl))) Tryd.underlying27 rfl rfl (by kernel_rfl) (by decide)) rfl
        · refine .val 60 rfl (by simp) (by simp) (by simp) fun a W hK hh hd => ⟨wanted_yes rfl, ?_⟩
          exact givz_run (run_ldF rfl (eval_tmp (hd.valz (j := 0) (s := 59) (by kernel_rfl) (by simp) rfl rfl)) ((M10.grow hK.below).at 5 rfl) rfl (by kernel_rfl)) rfl
        · refine .val 61 rfl (by simp) (by simp) (by simp) fun a W hK hh hd => ⟨wanted_yes rfl, ?_⟩
          exact givz_call (run_call rfl Tryd.func43 (by kernel_rfl) rfl (mapE1 (eval_tmp (hd.valz (j := 1) (s := 60) (by kernel_rfl) (by simp) rfl rfl)))) hK.size (clone_ep E.length (E.flatMap epF) v W (hV.below (M10.grow hK.below).below) (flat_one epF_one _) (by omega))
        · refine .val 62 rfl (by simp) (by simp) (by simp) fun a W hK hh hd => ⟨wanted_yes rfl, ?_⟩
          exact givz_run (run_ldB rfl (eval_tmp (hh 6 _ rfl (F49.at 6 rfl))) ((M10.grow hK.below).at 3 rfl) Tryd.underlying23 rfl sz32k (szOf hLk)) rfl
        · refine .val 63 rfl (by simp) (by simp) (by simp) fun a W hK hh hd => ⟨wanted_yes rfl, ?_⟩
          exact givz_run (run_ldB rfl (eval_tmp (hh 14 _ rfl (F49.at 14 rfl))) ((M10.grow hK.below).at 0 rfl) Tryd.underlying23 rfl sz32k (szOf hLx)) rfl
        · refine .val 64 rfl (by simp) (by simp) (by simp) fun a W hK hh hd => ⟨wanted_yes rfl, ?_⟩
          exact givz_callV (run_call rfl Tryd.func44 (by kernel_rfl) rfl (mapE2 (eval_tmp (hd.valz (j := 3) (s := 62) (by kernel_rfl) (by simp) rfl rfl)) (eval_tmp (hd.valz (j := 4) (s := 63) (by kernel_rfl) (by simp) rfl rfl)))) (kepoch_any k x W (HG.below (M10.grow hK.below).below) hLk hLx)
        · refine .val 65 rfl (by simp) (by simp) (by simp) fun a W hK hh hd => ⟨wanted_yes rfl, ?_⟩
          exact givz_new 76 _ 1 hK.size (run_eps1 (e := (epS k x)) (keyedS_len _ _) rfl (eval_tmp (hd.valz (j := 5) (s := 64) (by kernel_rfl) (by simp) rfl rfl)))
        · refine .app 66 2 61 76 33 E.length (E.flatMap epF) rfl (by simp) (by simp) (by simp) (by kernel_rfl) (by simp) rfl rfl (by kernel_rfl) (by kernel_rfl) (by kernel_rfl) fun a W u hK hh hd hu hO => ⟨wanted_yes rfl, ?_⟩
          obtain ⟨_, ey6, ⟨gz_7_6, hg_7_6, rfl, hz_7_6⟩⟩ := hd.getKz (j := 6) (s := 65) (by kernel_rfl) (by simp) rfl rfl
          exact givz_app (news := ([epS k x].flatMap epF)) elEp rfl (eval_tmp hu) (eval_tmp ey6) hO hK.size (flat_lenG epF_len [epS k x]) hz_7_6 (flat_one epF_one _) (by unfold maxLen; omega) (by omega)
        · refine .val 15 rfl (by simp) (by simp) (by simp) fun a W hK hh hd => ⟨wanted_yes rfl, ?_⟩
          obtain ⟨vz_8_7, ey7, hz_8_7⟩ := hd.getz (j := 7) (s := 66) (by kernel_rfl) (by simp) rfl rfl
          exact givz_run (run_as rfl (eval_tmp ey7)) hz_8_7
      obtain ⟨vz8_, e15_, hz8_⟩ := hI.val 8 _ 15 rfl rfl rfl (by simp) (fun _ h => by cases h)
      have hb11 := KeepW.below hI.keep
      have M11 := M10.grow hb11
      have hO4 := hO3.grow hb11
      have hO5 := OwnR.ofCall M10 (show World.ownsRow w11 _ 76 33 vz8_ (E.length + 1) ((E.flatMap epF) ++ ([epS k x].flatMap epF)) from hz8_)
      have F50 : Fr a50 77 [(0, (.agg #[v])), (1, (.agg #[u])), (2, (.agg (cells8 k))), (3, (.string ⟨no.toArray⟩)), (4, (.pointer (some ⟨g0, 0, none⟩))), (5, (.pointer (some ⟨g1, 0, none⟩))), (6, (.pointer (some ⟨g2, 0, none⟩))), (8, (.pointer (some ⟨g3, 0, none⟩))), (9, (.pointer (some ⟨g4, 0, none⟩))), (10, (.slice none 0 0)), (11, (.int .i64 0)), (12, (.int .i64 0)), (13, vz6a), (14, (.pointer (some ⟨g7, 0, none⟩))), (15, vz8_), (16, (.agg #[v])), (17, (.agg #[u])), (18, (.int .i64 0)), (19, (.int .i64 0)), (20, (.bool true)), (21, (.bool true)), (22, (.pointer (some ⟨g0, 0, none⟩))), (23, v), (24, (.int .i64 (E.length : Int))), (25, (.bool false)), (26, (.bool false)), (27, (.int .i64 0)), (28, (.bool true)), (29, (.bool true)), (30, (.pointer (some ⟨g1, 0, none⟩))), (31, u), (32, (.agg (cells8 k))), (33, (.bool false)), (34, (.bool false)), (35, (.int .i64 0)), (36, (.bool false)), (40, (.tuple #[vz6a, (.int .i64 0)])), (41, (.agg (cells8 k))), (42, (.string ⟨no.toArray⟩)), (43, (.tuple #[vz6a, (.int .i64 0)])), (44, vz6a), (45, (.int .i64 0)), (46, (.int .i64 0)), (47, (.bool false)), (51, (.pointer (some ⟨g1, 0, none⟩))), (52, u), (53, (.pointer (some ⟨g1, 0, none⟩))), (54, u), (55, (.int .i64 (K.length : Int))), (56, (.int .i64 ((K.length - 1 : Nat) : Int))), (57, (slPtr u ((K.length - 1) * 32))), (58, (.agg (cells8 x)))] := fr_of_holds hI.tsz (hI.defers.trans F49.defers) ⟨hI.had 0 _ rfl (F49.at 0 rfl), hI.had 1 _ rfl (F49.at 1 rfl), hI.had 2 _ rfl (F49.at 2 rfl), hI.had 3 _ rfl (F49.at 3 rfl), hI.had 4 _ rfl (F49.at 4 rfl), hI.had 5 _ rfl (F49.at 5 rfl), hI.had 6 _ rfl (F49.at 6 rfl), hI.had 8 _ rfl (F49.at 8 rfl), hI.had 9 _ rfl (F49.at 9 rfl), hI.had 10 _ rfl (F49.at 10 rfl), hI.had 11 _ rfl (F49.at 11 rfl), hI.had 12 _ rfl (F49.at 12 rfl), hI.had 13 _ rfl (F49.at 13 rfl), hI.had 14 _ rfl (F49.at 14 rfl), e15_, hI.had 16 _ rfl (F49.at 16 rfl), hI.had 17 _ rfl (F49.at 17 rfl), hI.had 18 _ rfl (F49.at 18 rfl), hI.had 19 _ rfl (F49.at 19 rfl), hI.had 20 _ rfl (F49.at 20 rfl), hI.had 21 _ rfl (F49.at 21 rfl), hI.had 22 _ rfl (F49.at 22 rfl), hI.had 23 _ rfl (F49.at 23 rfl), hI.had 24 _ rfl (F49.at 24 rfl), hI.had 25 _ rfl (F49.at 25 rfl), hI.had 26 _ rfl (F49.at 26 rfl), hI.had 27 _ rfl (F49.at 27 rfl), hI.had 28 _ rfl (F49.at 28 rfl), hI.had 29 _ rfl (F49.at 29 rfl), hI.had 30 _ rfl (F49.at 30 rfl), hI.had 31 _ rfl (F49.at 31 rfl), hI.had 32 _ rfl (F49.at 32 rfl), hI.had 33 _ rfl (F49.at 33 rfl), hI.had 34 _ rfl (F49.at 34 rfl), hI.had 35 _ rfl (F49.at 35 rfl), hI.had 36 _ rfl (F49.at 36 rfl), hI.had 40 _ rfl (F49.at 40 rfl), hI.had 41 _ rfl (F49.at 41 rfl), hI.had 42 _ rfl (F49.at 42 rfl), hI.had 43 _ rfl (F49.at 43 rfl), hI.had 44 _ rfl (F49.at 44 rfl), hI.had 45 _ rfl (F49.at 45 rfl), hI.had 46 _ rfl (F49.at 46 rfl), hI.had 47 _ rfl (F49.at 47 rfl), hI.had 51 _ rfl (F49.at 51 rfl), hI.had 52 _ rfl (F49.at 52 rfl), hI.had 53 _ rfl (F49.at 53 rfl), hI.had 54 _ rfl (F49.at 54 rfl), hI.had 55 _ rfl (F49.at 55 rfl), hI.had 56 _ rfl (F49.at 56 rfl), hI.had 57 _ rfl (F49.at 57 rfl), hI.had 58 _ rfl (F49.at 58 rfl), trivial⟩
      clear F49 M10
      refine nx ?_
      refine wp_seq ?_
      have hMs := M11.sub (.cons_cons _ (.cons _ (.cons _ (.cons_cons _ (.cons_cons _ (.cons_cons _ .slnil))))))
      have hfM : ∀ xq ∈ [(g7, isB 23 (cells8 x)), (g2, isB 23 (cells8 k)), (g1, isB 30 (#[u])), (g0, isB 27 (#[v]))], xq.1 ∉ [g3, g4] := by
        intro xq hx hg
        simp only [List.mem_cons, List.not_mem_nil, or_false] at hx hg
        rcases hx with rfl | rfl | rfl | rfl <;> rcases hg with hg | hg <;> first | exact absurd hg (setAt_ne M11.nd (i := 0) (j := 2) rfl rfl (by decide)) | exact absurd hg (setAt_ne M11.nd (i := 0) (j := 1) rfl rfl (by decide)) | exact absurd hg (setAt_ne M11.nd (i := 3) (j := 2) rfl rfl (by decide)) | exact absurd hg (setAt_ne M11.nd (i := 3) (j := 1) rfl rfl (by decide)) | exact absurd hg (setAt_ne M11.nd (i := 4) (j := 2) rfl rfl (by decide)) | exact absurd hg (setAt_ne M11.nd (i := 4) (j := 1) rfl rfl (by decide)) | exact absurd hg (setAt_ne M11.nd (i := 5) (j := 2) rfl rfl (by decide)) | exact absurd hg (setAt_ne M11.nd (i := 5) (j := 1) rfl rfl (by decide))
      have hfG : ∀ gq ∈ [g3, g4], w.heap.size ≤ gq := by
        intro gq hg
        simp only [List.mem_cons, List.not_mem_nil, or_false] at hg
        rcases hg with rfl | rfl
        · exact M11.ge 2 rfl
        · exact M11.ge 1 rfl
      have hfovz6a : ∀ gq ∈ [g3, g4], (vz6a : Value).ownBlock ≠ some gq := by
        intro gq hg
        simp only [List.mem_cons, List.not_mem_nil, or_false] at hg
        rcases hg with rfl | rfl
        · exact hO4.far _ (List.mem_of_getElem? (i := 2) rfl)
        · exact hO4.far _ (List.mem_of_getElem? (i := 1) rfl)
      have hfovz8_ : ∀ gq ∈ [g3, g4], (vz8_ : Value).ownBlock ≠ some gq := by
        intro gq hg
        simp only [List.mem_cons, List.not_mem_nil, or_false] at hg
        rcases hg with rfl | rfl
        · exact hO5.far _ (List.mem_of_getElem? (i := 2) rfl)
        · exact hO5.far _ (List.mem_of_getElem? (i := 1) rfl)
      refine wp_region_p 77 [.val vz8_, .val (.agg #[vz8_]), .val (.pointer (some ⟨g1, 0, none⟩)), .val u, .row 23 32 K.length (K.flatMap dgC), .val (.agg (cells8 k)), .new 23 (List.toArray ([k].flatMap dgC)) 1, .row 23 32 (K.length + 1) ((K.flatMap dgC) ++ ([k].flatMap dgC)), .st (.row 23 32 (K.length + 1) ((K.flatMap dgC) ++ ([k].flatMap dgC))), .val vz6a, .any, .any, .val vz6a, .val (.int .i64 0)] [none, none, none, none, some 7, none, some 7, none, none, none, none, none, none, none] [] [⟨10, g3, 27, #[.slice none 0 0], .val (.agg #[vz8_])⟩, ⟨11, g4, 30, #[.slice none 0 0], .st (.row 23 32 (K.length + 1) ((K.flatMap dgC) ++ ([k].flatMap dgC)))⟩] [] (by kernel_rfl) (by kernel_rfl) F50.size ?_ ?_ ?_ ?_ (by kernel_rfl) ?_ fun a51 w12 gs hI => ?_
      · intro d hd
        cases hd
      · intro b hb
        simp only [List.mem_cons, List.not_mem_nil, or_false] at hb
        rcases hb with rfl | rfl
        · exact ⟨Nat.le_of_ble_eq_true (by kernel_rfl), M11.at 2 rfl⟩
        · exact ⟨Nat.le_of_ble_eq_true (by kernel_rfl), M11.at 1 rfl⟩
      · have hne01 : g3 ≠ g4 := setAt_ne M11.nd (i := 2) (j := 1) rfl rfl (by decide)
        intro x y b c hx hy hne
        rcases x with _ | _ | x <;> rcases y with _ | _ | y <;> simp at hx hy hne <;> subst hx <;> subst hy <;> first | exact hne01 | exact hne01.symm
      · intro r hr
        cases hr
      · refine ⟨?_, ?_, ?_, ?_, ?_, ?_, ?_, ?_, ?_, ?_, ?_, ?_, ?_, ?_, trivial⟩
        · refine .val 67 rfl (by simp) (by simp) (by simp) fun a W hK hh hd => ⟨wanted_yes rfl, ?_⟩
          exact givz_run (run_mv rfl (eval_tmp (hh 15 _ rfl (F50.at 15 rfl)))) rfl
        · refine .val 68 rfl (by simp) (by simp) (by simp) fun a W hK hh hd => ⟨wanted_yes rfl, ?_⟩
          exact givz_run (run_blt1 rfl (eval_tmp (hd.valz (j := 0) (s := 67) (by kernel_rfl) (by simp) rfl rfl)) (own_slice hO5.owns) fun _ _ _ => by kernel_rfl) rfl
        · refine .val 69 rfl (by simp) (by simp) (by simp) fun a W hK hh hd => ⟨wanted_yes rfl, ?_⟩
          exact givz_run (run_fldA (m := 1) (s := 0) rfl (eval_tmp (hh 5 _ rfl (F50.at 5 rfl))) Tryd.underlying30 rfl rfl (by kernel_rfl) (by decide)) rfl
        · refine .val 70 rfl (by simp) (by simp) (by simp) fun a W hK hh hd => ⟨wanted_yes rfl, ?_⟩
          exact givz_run (run_ldF rfl (eval_tmp (hd.valz (j := 2) (s := 69) (by kernel_rfl) (by simp) rfl rfl)) ((hMs.keepW hK hfM hfG).at 2 rfl) rfl (by kernel_rfl)) rfl
        · refine .val 71 rfl (by simp) (by simp) (by simp) fun a W hK hh hd => ⟨wanted_yes rfl, ?_⟩
          exact givz_call (run_call rfl Tryd.func45 (by kernel_rfl) rfl (mapE1 (eval_tmp (hd.valz (j := 3) (s := 70) (by kernel_rfl) (by simp) rfl rfl)))) hK.size (clone_key K.length (K.flatMap dgC) u W (hU.below (hMs.keepW hK hfM hfG).below) (flat_one dgC_one _) (by omega))
        · refine .val 72 rfl (by simp) (by simp) (by simp) fun a W hK hh hd => ⟨wanted_yes rfl, ?_⟩
          exact givz_run (run_ldB rfl (eval_tmp (hh 6 _ rfl (F50.at 6 rfl))) ((hMs.keepW hK hfM hfG).at 1 rfl) Tryd.underlying23 rfl sz32k (szOf hLk)) rfl
        · refine .val 73 rfl (by simp) (by simp) (by simp) fun a W hK hh hd => ⟨wanted_yes rfl, ?_⟩
          exact givz_new 23 _ 1 hK.size (run_keys1 hLk rfl (eval_tmp (hd.valz (j := 5) (s := 72) (by kernel_rfl) (by simp) rfl rfl)))
        · refine .app 74 4 71 23 32 K.length (K.flatMap dgC) rfl (by simp) (by simp) (by simp) (by kernel_rfl) (by simp) rfl rfl (by kernel_rfl) (by kernel_rfl) (by kernel_rfl) fun a W u hK hh hd hu hO => ⟨wanted_yes rfl, ?_⟩
          obtain ⟨_, ey6, ⟨gz_7_6, hg_7_6, rfl, hz_7_6⟩⟩ := hd.getKz (j := 6) (s := 73) (by kernel_rfl) (by simp) rfl rfl
          exact givz_app (news := ([k].flatMap dgC)) elKey rfl (eval_tmp hu) (eval_tmp ey6) hO hK.size (flat_lenG dgC_len [k]) hz_7_6 (flat_one dgC_one _) (by unfold maxLen; omega) (by omega)
        · refine .val 75 rfl (by simp) (by simp) (by simp) fun a W hK hh hd => ⟨wanted_yes rfl, ?_⟩
          obtain ⟨vz_8_7, ey7, hz_8_7⟩ := hd.getz (j := 7) (s := 74) (by kernel_rfl) (by simp) rfl rfl
          exact givz_run (run_blt1 rfl (eval_tmp ey7) (own_slice hz_8_7) fun _ _ _ => by kernel_rfl) ⟨_, rfl, hz_8_7⟩
        · refine .val 76 rfl (by simp) (by simp) (by simp) fun a W hK hh hd => ⟨wanted_yes rfl, ?_⟩
          exact givz_run (run_mv rfl (eval_tmp (hh 13 _ rfl (F50.at 13 rfl)))) rfl
        · refine .putO 0 _ rfl rfl rfl (by simp) (fun y e hy he => by rcases y with _ | _ | y <;> simp at hy <;> (try subst hy) <;> simp at he ⊢) (by simp) 1 27 _ _ rfl (fun a hh => eval_tmp (hh 8 _ rfl (F50.at 8 rfl))) (fun a W hK hh hd => ?_) rfl szRg rfl
          rw [show a.eval _ = _ from (eval_tmp (hd.valz (j := 1) (s := 68) (by kernel_rfl) (by simp) rfl rfl))]
          exact ⟨rfl, rfl, (one_own hO5.owns)⟩
        · refine .putO 1 _ rfl rfl rfl (by simp) (fun y e hy he => by rcases y with _ | _ | y <;> simp at hy <;> (try subst hy) <;> simp at he ⊢) (by simp) 1 30 _ _ rfl (fun a hh => eval_tmp (hh 9 _ rfl (F50.at 9 rfl))) (fun a W hK hh hd => ?_) rfl szKy rfl
          obtain ⟨_, ey8, ⟨vz_11_8, rfl, hz_11_8⟩⟩ := hd.getz (j := 8) (s := 75) (by kernel_rfl) (by simp) rfl rfl
          rw [show a.eval _ = _ from (eval_tmp ey8)]
          exact ⟨⟨_, rfl, hz_11_8⟩, rfl, (one_own hz_11_8)⟩
        · refine .val 10 rfl (by simp) (by simp) (by simp) fun a W hK hh hd => ⟨wanted_yes rfl, ?_⟩
          exact givz_run (run_as rfl (eval_tmp (hd.valz (j := 9) (s := 76) (by kernel_rfl) (by simp) rfl rfl))) rfl
        · refine .val 11 rfl (by simp) (by simp) (by simp) fun a W hK hh hd => ⟨wanted_yes rfl, ?_⟩
          exact givz_run (run_as rfl rfl) rfl
      have e10_ : a51.tmps[10]? = some vz6a := by
        obtain ⟨vq, hq1, hq2⟩ := hI.val 12 _ 10 rfl rfl rfl (by simp) (fun _ h => by cases h)
        rw [hq1]
        exact congrArg some hq2
      have e11_ : a51.tmps[11]? = some (.int .i64 0) := by
        obtain ⟨vq, hq1, hq2⟩ := hI.val 13 _ 11 rfl rfl rfl (by simp) (fun _ h => by cases h)
        rw [hq1]
        exact congrArg some hq2
      have fg3z := (hI.old _ (List.mem_of_getElem? (i := 0) rfl)).2 (by kernel_rfl)
      obtain ⟨_, Bg3, rfl⟩ := fg3z
      have Bg3 : Blk w12 g3 27 (#[vz8_]) := Bg3
      have fg4z := (hI.old _ (List.mem_of_getElem? (i := 1) rfl)).2 (by kernel_rfl)
      obtain ⟨_, Bg4, ⟨vz10_, rfl, hz10_⟩⟩ := fg4z
      have Bg4 : Blk w12 g4 30 (#[vz10_]) := Bg4
      have M12 := hMs.keepW hI.keep hfM hfG
      have hO6 := (hO4.sub (.cons_cons _ (.cons _ (.cons _ (.cons_cons _ (.cons_cons _ (.cons_cons _ .slnil))))))).keepW hI.keep hfovz6a
      have hO7 := (hO5.sub (.cons_cons _ (.cons _ (.cons _ (.cons_cons _ (.cons_cons _ (.cons_cons _ .slnil))))))).keepW hI.keep hfovz8_
      have hO8 := OwnR.ofCall hMs (show World.ownsRow w12 _ 23 32 vz10_ (K.length + 1) ((K.flatMap dgC) ++ ([k].flatMap dgC)) from hz10_)
      have hO9 := hO6.addFar (S := isB 27 (#[vz8_])) (hfovz6a g3 (by simp))
      have hO10 := hO7.addFar (S := isB 27 (#[vz8_])) (hfovz8_ g3 (by simp))
      have hO11 := hO8.addFar (S := isB 27 (#[vz8_])) (own_ne_ty hO8.owns Bg3 (by kernel_rfl))
      have M13 := M12.put1 (cs := #[vz8_]) (M11.ge 2 rfl) Bg3 (fun y hy hq => hfM y hy (by rw [hq]; simp))
      have hO12 := hO9.addFar (S := isB 30 (#[vz10_])) (hfovz6a g4 (by simp))
      have hO13 := hO10.addFar (S := isB 30 (#[vz10_])) (hfovz8_ g4 (by simp))
      have hO14 := hO11.addFar (S := isB 30 (#[vz10_])) (own_ne_ty hO11.owns Bg4 (by kernel_rfl))
      have M14 := M13.put1 (cs := #[vz10_]) (M11.ge 1 rfl) Bg4 (far_cons (setAt_ne M11.nd (i := 2) (j := 1) rfl rfl (by decide)) (fun y hy hq => hfM y hy (by rw [hq]; simp)))
      have F51 : Fr a51 77 [(0, (.agg #[v])), (1, (.agg #[u])), (2, (.agg (cells8 k))), (3, (.string ⟨no.toArray⟩)), (4, (.pointer (some ⟨g0, 0, none⟩))), (5, (.pointer (some ⟨g1, 0, none⟩))), (6, (.pointer (some ⟨g2, 0, none⟩))), (8, (.pointer (some ⟨g3, 0, none⟩))), (9, (.pointer (some ⟨g4, 0, none⟩))), (10, vz6a), (11, (.int .i64 0)), (12, (.int .i64 0)), (14, (.pointer (some ⟨g7, 0, none⟩))), (16, (.agg #[v])), (17, (.agg #[u])), (18, (.int .i64 0)), (19, (.int .i64 0)), (20, (.bool true)), (21, (.bool true)), (22, (.pointer (some ⟨g0, 0, none⟩))), (23, v), (24, (.int .i64 (E.length : Int))), (25, (.bool false)), (26, (.bool false)), (27, (.int .i64 0)), (28, (.bool true)), (29, (.bool true)), (30, (.pointer (some ⟨g1, 0, none⟩))), (31, u), (32, (.agg (cells8 k))), (33, (.bool false)), (34, (.bool false)), (35, (.int .i64 0)), (36, (.bool false)), (40, (.tuple #[vz6a, (.int .i64 0)])), (41, (.agg (cells8 k))), (42, (.string ⟨no.toArray⟩)), (43, (.tuple #[vz6a, (.int .i64 0)])), (44, vz6a), (45, (.int .i64 0)), (46, (.int .i64 0)), (47, (.bool false)), (51, (.pointer (some ⟨g1, 0, none⟩))), (52, u), (53, (.pointer (some ⟨g1, 0, none⟩))), (54, u), (55, (.int .i64 (K.length : Int))), (56, (.int .i64 ((K.length - 1 : Nat) : Int))), (57, (slPtr u ((K.length - 1) * 32))), (58, (.agg (cells8 x)))] := fr_of_holds hI.tsz (hI.defers.trans F50.defers) ⟨hI.had 0 _ rfl (F50.at 0 rfl), hI.had 1 _ rfl (F50.at 1 rfl), hI.had 2 _ rfl (F50.at 2 rfl), hI.had 3 _ rfl (F50.at 3 rfl), hI.had 4 _ rfl (F50.at 4 rfl), hI.had 5 _ rfl (F50.at 5 rfl), hI.had 6 _ rfl (F50.at 6 rfl), hI.had 8 _ rfl (F50.at 8 rfl), hI.had 9 _ rfl (F50.at 9 rfl), e10_, e11_, hI.had 12 _ rfl (F50.at 12 rfl), hI.had 14 _ rfl (F50.at 14 rfl), hI.had 16 _ rfl (F50.at 16 rfl), hI.had 17 _ rfl (F50.at 17 rfl), hI.had 18 _ rfl (F50.at 18 rfl), hI.had 19 _ rfl (F50.at 19 rfl), hI.had 20 _ rfl (F50.at 20 rfl), hI.had 21 _ rfl (F50.at 21 rfl), hI.had 22 _ rfl (F50.at 22 rfl), hI.had 23 _ rfl (F50.at 23 rfl), hI.had 24 _ rfl (F50.at 24 rfl), hI.had 25 _ rfl (F50.at 25 rfl), hI.had 26 _ rfl (F50.at 26 rfl), hI.had 27 _ rfl (F50.at 27 rfl), hI.had 28 _ rfl (F50.at 28 rfl), hI.had 29 _ rfl (F50.at 29 rfl), hI.had 30 _ rfl (F50.at 30 rfl), hI.had 31 _ rfl (F50.at 31 rfl), hI.had 32 _ rfl (F50.at 32 rfl), hI.had 33 _ rfl (F50.at 33 rfl), hI.had 34 _ rfl (F50.at 34 rfl), hI.had 35 _ rfl (F50.at 35 rfl), hI.had 36 _ rfl (F50.at 36 rfl), hI.had 40 _ rfl (F50.at 40 rfl), hI.had 41 _ rfl (F50.at 41 rfl), hI.had 42 _ rfl (F50.at 42 rfl), hI.had 43 _ rfl (F50.at 43 rfl), hI.had 44 _ rfl (F50.at 44 rfl), hI.had 45 _ rfl (F50.at 45 rfl), hI.had 46 _ rfl (F50.at 46 rfl), hI.had 47 _ rfl (F50.at 47 rfl), hI.had 51 _ rfl (F50.at 51 rfl), hI.had 52 _ rfl (F50.at 52 rfl), hI.had 53 _ rfl (F50.at 53 rfl), hI.had 54 _ rfl (F50.at 54 rfl), hI.had 55 _ rfl (F50.at 55 rfl), hI.had 56 _ rfl (F50.at 56 rfl), hI.had 57 _ rfl (F50.at 57 rfl), hI.had 58 _ rfl (F50.at 58 rfl), trivial⟩
      clear F50 M11 M12 M13
      refine nx ?_
      refine wp_ret ?_
      exact retV F51 (results_LLTT F51 rfl rfl rfl (loadVar_all (M14.at 1 rfl) Tryd.underlying27 rfl szRg rfl) (loadVar_all (M14.at 0 rfl) Tryd.underlying30 rfl szKy rfl) rfl rfl) ⟨_, rfl, by rw [hs]; exact ⟨_, _, _, _, rfl, ⟨_, rfl, by rw [List.length_append, List.flatMap_append]; exact hO13.owns⟩, ⟨_, rfl, by rw [List.length_append, List.flatMap_append]; exact hO14.owns⟩, by rw [shS_len]; exact hO12.owns, rfl⟩, M14.below⟩
    · have hr : rotE E K k no = 1 := by unfold rotE; rw [if_neg (fun h => h hck), if_neg h100, if_neg hin, if_neg hno]
      have hs : rotS E K k no = ([], [], [], 1) := by unfold rotS; rw [hr, if_neg (by omega)]
      refine walk_enter Tryd.func19 rfl rfl rfl fun a0 F0 => ?_
      have M0 := Mem.new w
      refine wsl ?_
      refine sqNew (cs := #[v]) (t := 27) F0 M0 (wantedS rfl) (run_box rfl (F0.ev 0 rfl)) rfl (by decide) fun g0 a1 w1 hgg0 hb1 F1 M1 => ?_
      refine sqNew (cs := #[u]) (t := 30) F1 M1 (wantedS rfl) (run_box rfl (F1.ev 1 rfl)) rfl (by decide) fun g1 a2 w2 hgg1 hb2 F2 M2 => ?_
      refine sqNew (cs := (cells8 k)) (t := 23) F2 M2 (wantedS rfl) (run_box rfl (F2.ev 2 rfl)) rfl (by decide) fun g2 a3 w3 hgg2 hb3 F3 M3 => ?_
      refine sqNew (cs := #[.slice none 0 0]) (t := 27) F3 M3 (wantedS rfl) (run_alloc rfl (by kernel_rfl)) rfl (by decide) fun g3 a4 w4 hgg3 hb4 F4 M4 => ?_
      refine sqNew (cs := #[.slice none 0 0]) (t := 30) F4 M4 (wantedS rfl) (run_alloc rfl (by kernel_rfl)) rfl (by decide) fun g4 a5 w5 hgg4 hb5 F5 M5 => ?_
      refine sr (v := (.slice none 0 0)) F5 (run_as rfl rfl) rfl rfl rfl fun a6 F6 => ?_
      refine sr (v := (.int .i64 0)) F6 (run_as rfl rfl) rfl rfl rfl fun a7 F7 => ?_
      refine sn ?_
      clear F0 F1 F2 F3 F4 F5 F6 M0 M1 M2 M3 M4
      refine wsl ?_
      refine sr F7 (run_ldB rfl (F7.ev 4 rfl) (M5.at 4 rfl) Tryd.underlying27 rfl szRg rfl) rfl rfl rfl fun a8 F8 => ?_
      refine sr F8 (run_ldB rfl (F8.ev 5 rfl) (M5.at 3 rfl) Tryd.underlying30 rfl szKy rfl) rfl rfl rfl fun a9 F9 => ?_
      refine sqC (v := (.int .i64 0)) F9 M5 (wantedS rfl) (run_call rfl Tryd.func21 (by kernel_rfl) rfl (mapE2 (F9.ev 16 rfl) (F9.ev 17 rfl))) rfl (by decide) ((by have h := kchk_any E K v u w5 (HG.below M5.below) (hV.below M5.below) hE32 (hU.below M5.below) h32 (by omega) (by omega); rw [hck] at h; exact h)) fun a10 w6 hb6 F10 M6 => ?_
      refine asS F10 rfl rfl rfl rfl rfl fun a11 F11 => ?_
      refine sn ?_
      clear F7 F8 F9 F10 M5
      refine wp_seq ?_
      refine wsl ?_
      refine mvS F11 rfl rfl rfl rfl rfl fun a12 F12 => ?_
      refine sr (v := (.bool true)) F12 (run_eqi rfl (F12.ev 19 rfl) rfl (beq_self_eq_true _)) rfl rfl rfl fun a13 F13 => ?_
      refine mvS F13 rfl rfl rfl rfl rfl fun a14 F14 => ?_
      refine sq (v := (.pointer (some ⟨g0, 0, none⟩))) F14 (wantedG F14 rfl rfl rfl rfl rfl) (run_fldA (m := 1) (s := 0) rfl (F14.ev 4 rfl) Tryd.underlying27 rfl rfl (by kernel_rfl) (by decide)) rfl (by decide) fun a15 F15 => ?_
      refine sq (v := v) F15 (wantedG F15 rfl rfl rfl rfl rfl) (run_ldF rfl (F15.ev 22 rfl) (M6.at 4 rfl) rfl (by kernel_rfl)) rfl (by decide) fun a16 F16 => ?_
      refine sq (v := (.int .i64 (E.length : Int))) F16 (wantedG F16 rfl rfl rfl rfl rfl) (run_lenS rfl (F16.ev 23 rfl) (hV.below M6.below) rfl Tryd.underlying25) rfl (by decide) fun a17 F17 => ?_
      refine sq (v := (.bool false)) F17 (wantedG F17 rfl rfl rfl rfl rfl) (run_geq rfl (F17.ev 24 rfl) rfl (decide_eq_false (by omega))) rfl (by decide) fun a18 F18 => ?_
      refine sr (v := (.bool false)) F18 (run_pick rfl (F18.ev 21 rfl) (F18.ev 25 rfl) rfl) rfl rfl rfl fun a19 F19 => ?_
      refine sn ?_
      clear F11 F12 F13 F14 F15 F16 F17 F18
      refine cfs (F19.ev 26 rfl) ?_
      refine wp_seq ?_
      refine wsl ?_
      refine mvS F19 rfl rfl rfl rfl rfl fun a20 F20 => ?_
      refine sr (v := (.bool true)) F20 (run_eqi rfl (F20.ev 27 rfl) rfl (beq_self_eq_true _)) rfl rfl rfl fun a21 F21 => ?_
      refine mvS F21 rfl rfl rfl rfl rfl fun a22 F22 => ?_
      refine sq (v := (.pointer (some ⟨g1, 0, none⟩))) F22 (wantedG F22 rfl rfl rfl rfl rfl) (run_fldA (m := 1) (s := 0) rfl (F22.ev 5 rfl) Tryd.underlying30 rfl rfl (by kernel_rfl) (by decide)) rfl (by decide) fun a23 F23 => ?_
      refine sq (v := u) F23 (wantedG F23 rfl rfl rfl rfl rfl) (run_ldF rfl (F23.ev 30 rfl) (M6.at 3 rfl) rfl (by kernel_rfl)) rfl (by decide) fun a24 F24 => ?_
      refine sq (v := (.agg (cells8 k))) F24 (wantedG F24 rfl rfl rfl rfl rfl) (run_ldB rfl (F24.ev 6 rfl) (M6.at 2 rfl) Tryd.underlying23 rfl sz32k (szOf hLk)) rfl (by decide) fun a25 F25 => ?_
      refine sqC (v := (.bool false)) F25 M6 (wantedG F25 rfl rfl rfl rfl rfl) (run_call rfl Tryd.func42 (by kernel_rfl) rfl (mapE2 (F25.ev 31 rfl) (F25.ev 32 rfl))) rfl (by decide) ((by have h := contains_key K u k w6 (hU.below M6.below) h32 hLk (by omega); rw [decide_eq_false hin] at h; exact h)) fun a26 w7 hb7 F26 M7 => ?_
      refine sr (v := (.bool false)) F26 (run_pick rfl (F26.ev 29 rfl) (F26.ev 33 rfl) rfl) rfl rfl rfl fun a27 F27 => ?_
      refine sn ?_
      clear F19 F20 F21 F22 F23 F24 F25 F26 M6
      refine cfs (F27.ev 34 rfl) ?_
      refine wp_seq ?_
      refine wsl ?_
      refine mvS F27 rfl rfl rfl rfl rfl fun a28 F28 => ?_
      refine sr (v := (.bool false)) F28 (run_nei rfl (F28.ev 35 rfl) rfl (bne_self_eq_false _)) rfl rfl rfl fun a29 F29 => ?_
      refine sn ?_
      clear F27 F28
      refine cfs (F29.ev 36 rfl) ?_
      refine wsl ?_
      refine sr F29 (run_ldB rfl (F29.ev 6 rfl) (M7.at 2 rfl) Tryd.underlying23 rfl sz32k (szOf hLk)) rfl rfl rfl fun a30 F30 => ?_
      refine mvS F30 rfl rfl rfl rfl rfl fun a31 F31 => ?_
      refine sqC (v := (.tuple #[(.slice none 0 0), (.int .i64 1)])) F31 M7 (wantedS rfl) (run_call rfl Tryd.func38 (by kernel_rfl) rfl (mapE3 (F31.ev 41 rfl) rfl (F31.ev 42 rfl))) rfl (by decide) (splitE_any k no w7 hLk hno) fun a32 w8 hb8 F32 M8 => ?_
      refine mvS F32 rfl rfl rfl rfl rfl fun a33 F33 => ?_
      refine sr (v := (.slice none 0 0)) F33 (run_ext rfl (F33.ev 40 rfl) rfl) rfl rfl rfl fun a34 F34 => ?_
      refine sr (v := (.int .i64 1)) F34 (run_ext rfl (F34.ev 40 rfl) rfl) rfl rfl rfl fun a35 F35 => ?_
      refine asS F35 rfl rfl rfl rfl rfl fun a36 F36 => ?_
      refine asS F36 rfl rfl rfl rfl rfl fun a37 F37 => ?_
      refine sn ?_
      clear F29 F30 F31 F32 F33 F34 F35 F36 M7
      refine wp_seq ?_
      refine wsl ?_
      refine mvS F37 rfl rfl rfl rfl rfl fun a38 F38 => ?_
      refine sr (v := (.bool true)) F38 (run_nei rfl (F38.ev 46 rfl) rfl (bne_iff_ne.2 (by omega))) rfl rfl rfl fun a39 F39 => ?_
      refine sn ?_
      clear F37 F38
      refine wp_cond_true (F39.ev 47 rfl) ?_
      refine wsl ?_
      refine sr (v := (.agg #[.slice none 0 0])) F39 (run_blt (vs := #[]) (cs := #[.slice none 0 0]) rfl (by simp) (by kernel_rfl)) rfl rfl rfl fun a40 F40 => ?_
      refine sr (v := (.agg #[.slice none 0 0])) F40 (run_blt (vs := #[]) (cs := #[.slice none 0 0]) rfl (by simp) (by kernel_rfl)) rfl rfl rfl fun a41 F41 => ?_
      refine mvS F41 rfl rfl rfl rfl rfl fun a42 F42 => ?_
      refine sqStore (i := 1) F42 M8 rfl rfl rfl (F42.ev 8 rfl) (F42.ev 48 rfl) rfl szRg rfl rfl (arr_one rfl) fun a43 w9 F43 M9 => ?_
      refine sqStore (i := 0) F43 M9 rfl rfl rfl (F43.ev 9 rfl) (F43.ev 49 rfl) rfl szKy rfl rfl (arr_one rfl) fun a44 w10 F44 M10 => ?_
      refine sr (v := (.slice none 0 0)) F44 (run_as rfl rfl) rfl rfl rfl fun a45 F45 => ?_
      refine asS F45 rfl rfl rfl rfl rfl fun a46 F46 => ?_
      refine sn ?_
      clear F39 F40 F41 F42 F43 F44 F45 M8 M9
      refine wp_ret ?_
      refine nxRet ?_
      exact retV F46 (results_LLTT F46 rfl rfl rfl (loadVar_all (M10.at 1 rfl) Tryd.underlying27 rfl szRg rfl) (loadVar_all (M10.at 0 rfl) Tryd.underlying30 rfl szKy rfl) rfl rfl) ⟨_, rfl, by rw [hs]; exact ⟨_, _, _, _, rfl, ⟨_, rfl, ⟨rfl, .inl ⟨rfl, rfl⟩⟩⟩, ⟨_, rfl, ⟨rfl, .inl ⟨rfl, rfl⟩⟩⟩, ⟨rfl, .inl ⟨rfl, rfl⟩⟩, rfl⟩, M10.below⟩
  · have hr : rotE E K k no = checkS E K := by unfold rotE; rw [if_pos hck]
    have hs : rotS E K k no = ([], [], [], checkS E K) := by unfold rotS; rw [hr, if_neg hck]
    refine walk_enter Tryd.func19 rfl rfl rfl fun a0 F0 => ?_
    have M0 := Mem.new w
    refine wsl ?_
    refine sqNew (cs := #[v]) (t := 27) F0 M0 (wantedS rfl) (run_box rfl (F0.ev 0 rfl)) rfl (by decide) fun g0 a1 w1 hgg0 hb1 F1 M1 => ?_
    refine sqNew (cs := #[u]) (t := 30) F1 M1 (wantedS rfl) (run_box rfl (F1.ev 1 rfl)) rfl (by decide) fun g1 a2 w2 hgg1 hb2 F2 M2 => ?_
    refine sqNew (cs := (cells8 k)) (t := 23) F2 M2 (wantedS rfl) (run_box rfl (F2.ev 2 rfl)) rfl (by decide) fun g2 a3 w3 hgg2 hb3 F3 M3 => ?_
    refine sqNew (cs := #[.slice none 0 0]) (t := 27) F3 M3 (wantedS rfl) (run_alloc rfl (by kernel_rfl)) rfl (by decide) fun g3 a4 w4 hgg3 hb4 F4 M4 => ?_
    refine sqNew (cs := #[.slice none 0 0]) (t := 30) F4 M4 (wantedS rfl) (run_alloc rfl (by kernel_rfl)) rfl (by decide) fun g4 a5 w5 hgg4 hb5 F5 M5 => ?_
    refine sr (v := (.slice none 0 0)) F5 (run_as rfl rfl) rfl rfl rfl fun a6 F6 => ?_
    refine sr (v := (.int .i64 0)) F6 (run_as rfl rfl) rfl rfl rfl fun a7 F7 => ?_
    refine sn ?_
    clear F0 F1 F2 F3 F4 F5 F6 M0 M1 M2 M3 M4
    refine wsl ?_
    refine sr F7 (run_ldB rfl (F7.ev 4 rfl) (M5.at 4 rfl) Tryd.underlying27 rfl szRg rfl) rfl rfl rfl fun a8 F8 => ?_
    refine sr F8 (run_ldB rfl (F8.ev 5 rfl) (M5.at 3 rfl) Tryd.underlying30 rfl szKy rfl) rfl rfl rfl fun a9 F9 => ?_
    refine sqC (v := (.int .i64 (checkS E K))) F9 M5 (wantedS rfl) (run_call rfl Tryd.func21 (by kernel_rfl) rfl (mapE2 (F9.ev 16 rfl) (F9.ev 17 rfl))) rfl (by decide) (kchk_any E K v u w5 (HG.below M5.below) (hV.below M5.below) hE32 (hU.below M5.below) h32 (by omega) (by omega)) fun a10 w6 hb6 F10 M6 => ?_
    refine asS F10 rfl rfl rfl rfl rfl fun a11 F11 => ?_
    refine sn ?_
    clear F7 F8 F9 F10 M5
    refine wp_seq ?_
    refine wsl ?_
    refine mvS F11 rfl rfl rfl rfl rfl fun a12 F12 => ?_
    refine sr (v := (.bool false)) F12 (run_eqi rfl (F12.ev 19 rfl) rfl (beq_eq_false_iff_ne.2 hck)) rfl rfl rfl fun a13 F13 => ?_
    refine mvS F13 rfl rfl rfl rfl rfl fun a14 F14 => ?_
    refine sqSkip F14 (unwantedG F14 rfl rfl rfl rfl rfl) rfl (by decide) fun a15 F15 => ?_
    refine sqSkip F15 (unwantedG F15 rfl rfl rfl rfl rfl) rfl (by decide) fun a16 F16 => ?_
    refine sqSkip F16 (unwantedG F16 rfl rfl rfl rfl rfl) rfl (by decide) fun a17 F17 => ?_
    refine sqSkip F17 (unwantedG F17 rfl rfl rfl rfl rfl) rfl (by decide) fun a18 F18 => ?_
    refine sr (v := (.bool false)) F18 (run_pick rfl (F18.ev 21 rfl) (F18.ev 25 rfl) rfl) rfl rfl rfl fun a19 F19 => ?_
    refine sn ?_
    clear F11 F12 F13 F14 F15 F16 F17 F18
    refine cfs (F19.ev 26 rfl) ?_
    refine wp_seq ?_
    refine wsl ?_
    refine mvS F19 rfl rfl rfl rfl rfl fun a20 F20 => ?_
    refine sr (v := (.bool false)) F20 (run_eqi rfl (F20.ev 27 rfl) rfl (beq_eq_false_iff_ne.2 hck)) rfl rfl rfl fun a21 F21 => ?_
    refine mvS F21 rfl rfl rfl rfl rfl fun a22 F22 => ?_
    refine sqSkip F22 (unwantedG F22 rfl rfl rfl rfl rfl) rfl (by decide) fun a23 F23 => ?_
    refine sqSkip F23 (unwantedG F23 rfl rfl rfl rfl rfl) rfl (by decide) fun a24 F24 => ?_
    refine sqSkip F24 (unwantedG F24 rfl rfl rfl rfl rfl) rfl (by decide) fun a25 F25 => ?_
    refine sqSkip F25 (unwantedG F25 rfl rfl rfl rfl rfl) rfl (by decide) fun a26 F26 => ?_
    refine sr (v := (.bool false)) F26 (run_pick rfl (F26.ev 29 rfl) (F26.ev 33 rfl) rfl) rfl rfl rfl fun a27 F27 => ?_
    refine sn ?_
    clear F19 F20 F21 F22 F23 F24 F25 F26
    refine cfs (F27.ev 34 rfl) ?_
    refine wp_seq ?_
    refine wsl ?_
    refine mvS F27 rfl rfl rfl rfl rfl fun a28 F28 => ?_
    refine sr (v := (.bool true)) F28 (run_nei rfl (F28.ev 35 rfl) rfl (bne_iff_ne.2 hck)) rfl rfl rfl fun a29 F29 => ?_
    refine sn ?_
    clear F27 F28
    refine wp_cond_true (F29.ev 36 rfl) ?_
    refine wsl ?_
    refine sr (v := (.agg #[.slice none 0 0])) F29 (run_blt (vs := #[]) (cs := #[.slice none 0 0]) rfl (by simp) (by kernel_rfl)) rfl rfl rfl fun a30 F30 => ?_
    refine sr (v := (.agg #[.slice none 0 0])) F30 (run_blt (vs := #[]) (cs := #[.slice none 0 0]) rfl (by simp) (by kernel_rfl)) rfl rfl rfl fun a31 F31 => ?_
    refine mvS F31 rfl rfl rfl rfl rfl fun a32 F32 => ?_
    refine sqStore (i := 1) F32 M6 rfl rfl rfl (F32.ev 8 rfl) (F32.ev 37 rfl) rfl szRg rfl rfl (arr_one rfl) fun a33 w7 F33 M7 => ?_
    refine sqStore (i := 0) F33 M7 rfl rfl rfl (F33.ev 9 rfl) (F33.ev 38 rfl) rfl szKy rfl rfl (arr_one rfl) fun a34 w8 F34 M8 => ?_
    refine sr (v := (.slice none 0 0)) F34 (run_as rfl rfl) rfl rfl rfl fun a35 F35 => ?_
    refine asS F35 rfl rfl rfl rfl rfl fun a36 F36 => ?_
    refine sn ?_
    clear F29 F30 F31 F32 F33 F34 F35 M6 M7
    refine wp_ret ?_
    refine nxRet ?_
    exact retV F36 (results_LLTT F36 rfl rfl rfl (loadVar_all (M8.at 1 rfl) Tryd.underlying27 rfl szRg rfl) (loadVar_all (M8.at 0 rfl) Tryd.underlying30 rfl szKy rfl) rfl rfl) ⟨_, rfl, by rw [hs]; exact ⟨_, _, _, _, rfl, ⟨_, rfl, ⟨rfl, .inl ⟨rfl, rfl⟩⟩⟩, ⟨_, rfl, ⟨rfl, .inl ⟨rfl, rfl⟩⟩⟩, ⟨rfl, .inl ⟨rfl, rfl⟩⟩, rfl⟩, M8.below⟩
end Go.Proofs.YtconhhhggckcbaaDoor
