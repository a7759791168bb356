/- The walk of the reference's Take. Printed by gen_ses3.py. -/
import Derived.Test.YtioioibcldgknaaDoorSes3a
import Derived.Test.YtioioibcldgknaaDoorRtexts
namespace Go.Proofs.YtioioibcldgknaaDoor
open Go.RowKit

attribute [local simp] xorS_len tagS_len keyedS_len nonceS_len
theorem rtexts_err {b : List UInt8} {e : Int} (h : textsS b = .error e) (w : World) (hb : b.length < 2 ^ 42) : Calls Tryd.prog 14 #[.string ⟨b.toArray⟩] w fun x w' => x = .returned (.tuple #[.slice none 0 0, .int .i64 e]) ∧ Below w.heap.size w w' :=
  (rtexts_any b w hb).mono fun x w' ⟨u, h1, h2, h3⟩ => by unfold TxR at h2; rw [h] at h2; subst h2; exact ⟨h1, h3⟩
theorem rtexts_ok {b : List UInt8} {X : List (List UInt8)} (h : textsS b = .ok X) (w : World) (hb : b.length < 2 ^ 42) : Calls Tryd.prog 14 #[.string ⟨b.toArray⟩] w fun x w' => ∃ u, x = .returned u ∧ (∃ v, u = .tuple #[v, .int .i64 0] ∧ w'.ownsRow w.heap.size 9 1 v X.length (X.map tx)) ∧ Below w.heap.size w w' :=
  (rtexts_any b w hb).mono fun x w' ⟨u, h1, h2, h3⟩ => by unfold TxR at h2; rw [h] at h2; exact ⟨u, h1, h2, h3⟩
set_option maxRecDepth 100000 in
set_option maxHeartbeats 1000000 in
theorem rstake_any (c : Ch) (f : List UInt8) (w : World) (hLc : c.k.length = 32) (hcn : c.n < 2 ^ 64) (hm : c.m.length < 2 ^ 27) (hf : f.length < 2 ^ 28) : Calls Tryd.prog 19 #[.agg (chA c), .string ⟨f.toArray⟩] w fun e w' => e = .returned (.tuple #[.agg (chA (takeS c f).1), .string ⟨(takeS c f).2.1.toArray⟩, .int .i64 (takeS c f).2.2]) ∧ Below w.heap.size w w' := by
  cases hT : textsS f with
  | error e =>
    have he := textsS_err f.length f e (Nat.le_refl _) hT
    have hs : takeS c f = (noCh, [], e) := by unfold takeS; rw [hT]
    refine walk_enter Tryd.func19 rfl rfl rfl fun a0 hF0 => ?_
    have hM0 := Mem.new w
    refine wp_seq ?_
    refine wp_region_lit ?_
    refine sqNew (cs := (chA c)) (t := 26) hF0 hM0 (wantedS rfl) (run_box rfl (hF0.ev 0 rfl)) rfl (by decide) fun g0 a1 w1 hgg0 hb1 hF1 hM1 => ?_
    refine sqNew (cs := (chA noCh)) (t := 26) hF1 hM1 (wantedS rfl) (run_alloc rfl (by kernel_rfl)) rfl (by decide) fun g1 a2 w2 hgg1 hb2 hF2 hM2 => ?_
    refine sq (v := (.string ⟨List.toArray []⟩)) hF2 (wantedS rfl) (run_as rfl rfl) rfl (by decide) fun a3 hF3 => ?_
    refine sq (v := (.int .i64 0)) hF3 (wantedS rfl) (run_as rfl rfl) rfl (by decide) fun a4 hF4 => ?_
    refine sqEnd ?_
    clear hF0 hF1 hF2 hF3 hM0 hM1
    refine nx ?_
    refine wp_seq ?_
    refine wp_region_lit ?_
    refine sq (v := (.agg (chA noCh))) hF4 (wantedS rfl) (run_blt (vs := #[]) (cs := chA noCh) rfl (by simp) built_ch0) rfl (by decide) fun a5 hF5 => ?_
    refine sqNew (cs := (chA noCh)) (t := 26) hF5 hM2 (wantedS rfl) (run_alloc rfl (by kernel_rfl)) rfl (by decide) fun g2 a6 w3 hgg2 hb3 hF6 hM3 => ?_
    refine sqStore (i := 0) hF6 hM3 rfl rfl rfl (hF6.ev 7 rfl) (hF6.ev 15 rfl) rfl szCh (chA_size noCh_len) (chA_size noCh_len) (chA_one _) fun a7 w4 hF7 hM4 => ?_
    refine sqEnd ?_
    clear hF4 hF5 hF6 hM2 hM3
    refine nx ?_
    refine wp_seq ?_
    refine wp_region_lit ?_
    refine sq (v := (.string ⟨f.toArray⟩)) hF7 (wantedS rfl) (run_mv rfl (hF7.ev 1 rfl)) rfl (by decide) fun a8 hF8 => ?_
    refine sqC (v := (.tuple #[(.slice none 0 0), (.int .i64 e)])) hF8 hM4 (wantedS rfl) (run_call rfl Tryd.func14 (by kernel_rfl) rfl (mapE1 (hF8.ev 17 rfl))) rfl (by decide) (rtexts_err hT w4 (by omega)) fun a9 w5 hb5 hF9 hM5 => ?_
    refine sq (v := (.tuple #[(.slice none 0 0), (.int .i64 e)])) hF9 (wantedS rfl) (run_mv rfl (hF9.ev 18 rfl)) rfl (by decide) fun a10 hF10 => ?_
    refine sq (v := (.slice none 0 0)) hF10 (wantedS rfl) (run_ext rfl (hF10.ev 16 rfl) rfl) rfl (by decide) fun a11 hF11 => ?_
    refine sq (v := (.int .i64 e)) hF11 (wantedS rfl) (run_ext rfl (hF11.ev 16 rfl) rfl) rfl (by decide) fun a12 hF12 => ?_
    refine sq (v := (.slice none 0 0)) hF12 (wantedS rfl) (run_as rfl (hF12.ev 19 rfl)) rfl (by decide) fun a13 hF13 => ?_
    refine sq (v := (.int .i64 e)) hF13 (wantedS rfl) (run_as rfl (hF13.ev 20 rfl)) rfl (by decide) fun a14 hF14 => ?_
    refine sqEnd ?_
    clear hF7 hF8 hF9 hF10 hF11 hF12 hF13 hM4
    refine nx ?_
    refine wp_seq ?_
    refine wp_seq ?_
    refine wp_region_lit ?_
    refine sq (v := (.int .i64 e)) hF14 (wantedS rfl) (run_mv rfl (hF14.ev 9 rfl)) rfl (by decide) fun a15 hF15 => ?_
    refine sq (v := (.bool true)) hF15 (wantedS rfl) (run_nei rfl (hF15.ev 21 rfl) rfl (bne_iff_ne.2 (by omega))) rfl (by decide) fun a16 hF16 => ?_
    refine sqEnd ?_
    clear hF14 hF15
    refine nx ?_
    refine wp_cond_true (hF16.ev 22 rfl) ?_
    refine wp_seq ?_
    refine wp_region_lit ?_
    refine sq (v := (.agg (chA noCh))) hF16 (wantedS rfl) (run_ldB rfl (hF16.ev 7 rfl) (hM5.at 0 rfl) Tryd.underlying26 rfl szCh (chA_size noCh_len)) rfl (by decide) fun a17 hF17 => ?_
    refine sq (v := (.int .i64 e)) hF17 (wantedS rfl) (run_mv rfl (hF17.ev 9 rfl)) rfl (by decide) fun a18 hF18 => ?_
    refine sqStore (i := 1) hF18 hM5 rfl rfl rfl (hF18.ev 4 rfl) (hF18.ev 23 rfl) rfl szCh (chA_size noCh_len) (chA_size noCh_len) (chA_one _) fun a19 w6 hF19 hM6 => ?_
    refine sq (v := (.string ⟨List.toArray []⟩)) hF19 (wantedS rfl) (run_as rfl rfl) rfl (by decide) fun a20 hF20 => ?_
    refine sq (v := (.int .i64 e)) hF20 (wantedS rfl) (run_as rfl (hF20.ev 24 rfl)) rfl (by decide) fun a21 hF21 => ?_
    refine sqEnd ?_
    clear hF16 hF17 hF18 hF19 hF20 hM5
    refine nx ?_
    refine wp_ret ?_
    refine nxRet ?_
    exact retBTT hF21 rfl rfl (hM6.at 1 rfl) Tryd.underlying26 rfl szCh (chA_size noCh_len) rfl rfl ⟨by rw [hs], hM6.below⟩
  | ok X =>
    have hs0 : takeS c f = takeL c X := by unfold takeS; rw [hT]
    have hbk := (textsS_back f.length f X (Nat.le_refl _) hT).1
    by_cases h3 : X.length = 3
    · obtain ⟨ta, tb, tc, hXe⟩ := len3 h3
      have hXa : X[0]? = some ta := by rw [hXe]; rfl
      have hXb : X[1]? = some tb := by rw [hXe]; rfl
      have hXc : X[2]? = some tc := by rw [hXe]; rfl
      have hfl : ta.length + tb.length + tc.length ≤ f.length := by
        rw [← hbk, hXe, rowS_cons, rowS_cons, rowS_cons]
        simp only [List.length_append]
        omega
      by_cases h8 : tb.length = 8
      · by_cases hma : ta = c.m
        · have hs1 : takeS c f = takeB c (getS tb) tc := by rw [hs0, hXe]; simp only [takeL]; rw [if_neg (by simp [h8]), if_neg (by simp [hma])]
          have hgl := getS_lt tb
          obtain ⟨gn, hgn⟩ : ∃ gn, getS tb = gn := ⟨_, rfl⟩
          have hneq : (!(ta == c.m)) = false := by rw [hma, beq_self_eq_true]; rfl
          by_cases hold : getS tb < c.n
          · have hs : takeS c f = (noCh, [], 19) := by rw [hs1]; unfold takeB; rw [if_pos hold]
            refine walk_enter Tryd.func19 rfl rfl rfl fun a0 hF0 => ?_
            have hM0 := Mem.new w
            refine wp_seq ?_
            refine wp_region_lit ?_
            refine sqNew (cs := (chA c)) (t := 26) hF0 hM0 (wantedS rfl) (run_box rfl (hF0.ev 0 rfl)) rfl (by decide) fun g0 a1 w1 hgg0 hb1 hF1 hM1 => ?_
            refine sqNew (cs := (chA noCh)) (t := 26) hF1 hM1 (wantedS rfl) (run_alloc rfl (by kernel_rfl)) rfl (by decide) fun g1 a2 w2 hgg1 hb2 hF2 hM2 => ?_
            refine sq (v := (.string ⟨List.toArray []⟩)) hF2 (wantedS rfl) (run_as rfl rfl) rfl (by decide) fun a3 hF3 => ?_
            refine sq (v := (.int .i64 0)) hF3 (wantedS rfl) (run_as rfl rfl) rfl (by decide) fun a4 hF4 => ?_
            refine sqEnd ?_
            clear hF0 hF1 hF2 hF3 hM0 hM1
            refine nx ?_
            refine wp_seq ?_
            refine wp_region_lit ?_
            refine sq (v := (.agg (chA noCh))) hF4 (wantedS rfl) (run_blt (vs := #[]) (cs := chA noCh) rfl (by simp) built_ch0) rfl (by decide) fun a5 hF5 => ?_
            refine sqNew (cs := (chA noCh)) (t := 26) hF5 hM2 (wantedS rfl) (run_alloc rfl (by kernel_rfl)) rfl (by decide) fun g2 a6 w3 hgg2 hb3 hF6 hM3 => ?_
            refine sqStore (i := 0) hF6 hM3 rfl rfl rfl (hF6.ev 7 rfl) (hF6.ev 15 rfl) rfl szCh (chA_size noCh_len) (chA_size noCh_len) (chA_one _) fun a7 w4 hF7 hM4 => ?_
            refine sqEnd ?_
            clear hF4 hF5 hF6 hM2 hM3
            refine nx ?_
            refine wp_seq ?_
            refine wp_region_lit ?_
            refine sq (v := (.string ⟨f.toArray⟩)) hF7 (wantedS rfl) (run_mv rfl (hF7.ev 1 rfl)) rfl (by decide) fun a8 hF8 => ?_
            refine sqT (T := fun u wx => (∃ v, u = .tuple #[v, .int .i64 0] ∧ wx.ownsRow w4.heap.size 9 1 v X.length (X.map tx)) ∧ Below w4.heap.size w4 wx) hF8 (wantedS rfl) (run_call rfl Tryd.func14 (by kernel_rfl) rfl (mapE1 (hF8.ev 17 rfl))) rfl (by decide) (rtexts_ok hT w4 (by omega)) fun u3 a9 w5 hT5 hF9 => ?_
            obtain ⟨⟨v4, rfl, hr5⟩, hb5⟩ := hT5
            obtain ⟨gr, cr, rfl, hcapgr, hggr, hM5⟩ := OwnR.ofCallMem hM4 hb5 hr5 (by omega)
            refine sq (v := (.tuple #[(.slice (some ⟨gr, 0, none⟩) X.length cr), (.int .i64 0)])) hF9 (wantedS rfl) (run_mv rfl (hF9.ev 18 rfl)) rfl (by decide) fun a10 hF10 => ?_
            refine sq (v := (.slice (some ⟨gr, 0, none⟩) X.length cr)) hF10 (wantedS rfl) (run_ext rfl (hF10.ev 16 rfl) rfl) rfl (by decide) fun a11 hF11 => ?_
            refine sq (v := (.int .i64 0)) hF11 (wantedS rfl) (run_ext rfl (hF11.ev 16 rfl) rfl) rfl (by decide) fun a12 hF12 => ?_
            refine sq (v := (.slice (some ⟨gr, 0, none⟩) X.length cr)) hF12 (wantedS rfl) (run_as rfl (hF12.ev 19 rfl)) rfl (by decide) fun a13 hF13 => ?_
            refine sq (v := (.int .i64 0)) hF13 (wantedS rfl) (run_as rfl (hF13.ev 20 rfl)) rfl (by decide) fun a14 hF14 => ?_
            refine sqEnd ?_
            clear hF7 hF8 hF9 hF10 hF11 hF12 hF13 hM4
            refine nx ?_
            refine wp_seq ?_
            refine wp_seq ?_
            refine wp_region_lit ?_
            refine sq (v := (.int .i64 0)) hF14 (wantedS rfl) (run_mv rfl (hF14.ev 9 rfl)) rfl (by decide) fun a15 hF15 => ?_
            refine sq (v := (.bool false)) hF15 (wantedS rfl) (run_nei rfl (hF15.ev 21 rfl) rfl (bne_eq_false_iff_eq.2 (by omega))) rfl (by decide) fun a16 hF16 => ?_
            refine sqEnd ?_
            clear hF14 hF15
            refine nx ?_
            refine wp_cond_false (hF16.ev 22 rfl) ?_
            refine wp_skip ?_
            refine nx ?_
            refine wp_seq ?_
            refine wp_seq ?_
            refine wp_region_lit ?_
            refine sq (v := (.slice (some ⟨gr, 0, none⟩) X.length cr)) hF16 (wantedS rfl) (run_mv rfl (hF16.ev 8 rfl)) rfl (by decide) fun a17 hF17 => ?_
            refine sq (v := (.int .i64 (X.length : Int))) hF17 (wantedS rfl) (run_lenS rfl (hF17.ev 25 rfl) (slOfRow (c := cr) (hM5.ob 0 rfl)) rfl Tryd.underlying34) rfl (by decide) fun a18 hF18 => ?_
            refine sq (v := (.bool false)) hF18 (wantedS rfl) (run_nei rfl (hF18.ev 26 rfl) rfl (bne_eq_false_iff_eq.2 (by omega))) rfl (by decide) fun a19 hF19 => ?_
            refine sq (v := (.bool false)) hF19 (wantedS rfl) (run_mv rfl (hF19.ev 27 rfl)) rfl (by decide) fun a20 hF20 => ?_
            refine sq (v := (.slice (some ⟨gr, 0, none⟩) X.length cr)) hF20 (wantedG hF20 rfl rfl rfl rfl rfl) (run_mv rfl (hF20.ev 8 rfl)) rfl (by decide) fun a21 hF21 => ?_
            refine sq (v := (slPtr (.slice (some ⟨gr, 0, none⟩) X.length cr) (1 * 1))) hF21 (wantedG hF21 rfl rfl rfl rfl rfl) (run_atP (i := 1) rfl (hF21.ev 29 rfl) rfl rfl (slOfRow (c := cr) (hM5.ob 0 rfl)) (by omega) elStr.un (by kernel_rfl)) rfl (by decide) fun a22 hF22 => ?_
            refine sq (v := (.string ⟨tb.toArray⟩)) hF22 (wantedG hF22 rfl rfl rfl rfl rfl) (run_ldP rfl (hF22.ev 30 rfl) (slOfRow (c := cr) (hM5.ob 0 rfl)) (map_at hXb) (by kernel_rfl)) rfl (by decide) fun a23 hF23 => ?_
            refine sq (v := (.int .i64 (tb.length : Int))) hF23 (wantedG hF23 rfl rfl rfl rfl rfl) (run_len rfl (hF23.ev 31 rfl) rfl Tryd.underlying9) rfl (by decide) fun a24 hF24 => ?_
            refine sq (v := (.bool false)) hF24 (wantedG hF24 rfl rfl rfl rfl rfl) (run_nei rfl (hF24.ev 32 rfl) rfl (bne_eq_false_iff_eq.2 (by omega))) rfl (by decide) fun a25 hF25 => ?_
            refine sq (v := (.bool false)) hF25 (wantedS rfl) (run_pick rfl (hF25.ev 28 rfl) rfl (hF25.ev 33 rfl)) rfl (by decide) fun a26 hF26 => ?_
            refine sqEnd ?_
            clear hF16 hF17 hF18 hF19 hF20 hF21 hF22 hF23 hF24 hF25
            refine nx ?_
            refine wp_cond_false (hF26.ev 34 rfl) ?_
            refine wp_skip ?_
            refine nx ?_
            refine wp_seq ?_
            refine wp_seq ?_
            obtain ⟨KL, hKL⟩ : ∃ KL, KL = [kval (.slice (some ⟨gr, 0, none⟩) X.length cr), kval (slPtr (.slice (some ⟨gr, 0, none⟩) X.length cr) (0 * 1)), kval (.string ⟨ta.toArray⟩), kval (.pointer (some ⟨g0, 0, none⟩)), kval (.string ⟨c.m.toArray⟩), kval (.bool false)] := ⟨_, rfl⟩
            have K0 : KL.getD 0 kany = kval (.slice (some ⟨gr, 0, none⟩) X.length cr) := by rw [hKL]; rfl
            have K1 : KL.getD 1 kany = kval (slPtr (.slice (some ⟨gr, 0, none⟩) X.length cr) (0 * 1)) := by rw [hKL]; rfl
            have K2 : KL.getD 2 kany = kval (.string ⟨ta.toArray⟩) := by rw [hKL]; rfl
            have K3 : KL.getD 3 kany = kval (.pointer (some ⟨g0, 0, none⟩)) := by rw [hKL]; rfl
            have K4 : KL.getD 4 kany = kval (.string ⟨c.m.toArray⟩) := by rw [hKL]; rfl
            have K5 : KL.getD 5 kany = kval (.bool false) := by rw [hKL]; rfl
            clear hKL
            refine wp_region_kd 98 (by kernel_rfl) (by kernel_rfl) (by kernel_rfl) hF26.size KL ?_ ?_
            · refine ⟨?_, ?_, ?_, ?_, ?_, ?_, trivial⟩
              · refine asks_mk fun a W hS hh hd => ⟨wanted_yes rfl, ?_⟩
                exact giv_run (run_mv rfl (eval_tmp (hh 8 _ rfl (hF26.at 8 rfl)))) K0
              · refine asks_mk fun a W hS hh hd => ⟨wanted_yes rfl, ?_⟩
                exact giv_run (run_atP (i := 0) rfl (eval_tmp (hd.val (j := 0) (s := 36) (by kernel_rfl) K0)) rfl rfl (slOfRow (c := cr) ((hM5.grow hS).ob 0 rfl)) (by omega) elStr.un (by kernel_rfl)) K1
              · refine asks_mk fun a W hS hh hd => ⟨wanted_yes rfl, ?_⟩
                exact giv_run (run_ldP rfl (eval_tmp (hd.val (j := 1) (s := 37) (by kernel_rfl) K1)) (slOfRow (c := cr) ((hM5.grow hS).ob 0 rfl)) (map_at hXa) (by kernel_rfl)) K2
              · refine asks_mk fun a W hS hh hd => ⟨wanted_yes rfl, ?_⟩
                exact giv_run (run_fldA (m := 1) (s := 0) rfl (eval_tmp (hh 2 _ rfl (hF26.at 2 rfl))) Tryd.underlying26 rfl rfl (by kernel_rfl) (by decide)) K3
              · refine asks_mk fun a W hS hh hd => ⟨wanted_yes rfl, ?_⟩
                exact giv_run (run_ldF rfl (eval_tmp (hd.val (j := 3) (s := 39) (by kernel_rfl) K3)) ((hM5.grow hS).at 3 rfl) rfl (by kernel_rfl)) K4
              · refine asks_mk fun a W hS hh hd => ⟨wanted_yes rfl, ?_⟩
                exact giv_run (run_nes rfl (eval_tmp (hd.val (j := 2) (s := 38) (by kernel_rfl) K2)) (eval_tmp (hd.val (j := 4) (s := 40) (by kernel_rfl) K4)) hneq) K5
            · intro a27 w6 hb6 hK
              have e0 := hK.val (i := 0) (s := 36) (by kernel_rfl) K0
              have e1 := hK.val (i := 1) (s := 37) (by kernel_rfl) K1
              have e2 := hK.val (i := 2) (s := 38) (by kernel_rfl) K2
              have e3 := hK.val (i := 3) (s := 39) (by kernel_rfl) K3
              have e4 := hK.val (i := 4) (s := 40) (by kernel_rfl) K4
              have e5 := hK.val (i := 5) (s := 41) (by kernel_rfl) K5
              have hF27 : Fr a27 98 [(0, (.agg (chA c))), (1, (.string ⟨f.toArray⟩)), (2, (.pointer (some ⟨g0, 0, none⟩))), (4, (.pointer (some ⟨g1, 0, none⟩))), (5, (.string ⟨List.toArray []⟩)), (6, (.int .i64 0)), (7, (.pointer (some ⟨g2, 0, none⟩))), (8, (.slice (some ⟨gr, 0, none⟩) X.length cr)), (9, (.int .i64 0)), (15, (.agg (chA noCh))), (16, (.tuple #[(.slice (some ⟨gr, 0, none⟩) X.length cr), (.int .i64 0)])), (17, (.string ⟨f.toArray⟩)), (18, (.tuple #[(.slice (some ⟨gr, 0, none⟩) X.length cr), (.int .i64 0)])), (19, (.slice (some ⟨gr, 0, none⟩) X.length cr)), (20, (.int .i64 0)), (21, (.int .i64 0)), (22, (.bool false)), (25, (.slice (some ⟨gr, 0, none⟩) X.length cr)), (26, (.int .i64 (X.length : Int))), (27, (.bool false)), (28, (.bool false)), (29, (.slice (some ⟨gr, 0, none⟩) X.length cr)), (30, (slPtr (.slice (some ⟨gr, 0, none⟩) X.length cr) (1 * 1))), (31, (.string ⟨tb.toArray⟩)), (32, (.int .i64 (tb.length : Int))), (33, (.bool false)), (34, (.bool false)), (41, (.bool false))] := (hK.fr hF26 [(.slice (some ⟨gr, 0, none⟩) X.length cr), (slPtr (.slice (some ⟨gr, 0, none⟩) X.length cr) (0 * 1)), (.string ⟨ta.toArray⟩), (.pointer (some ⟨g0, 0, none⟩)), (.string ⟨c.m.toArray⟩), (.bool false)] ⟨e0, e1, e2, e3, e4, e5, trivial⟩).sub ⟨rfl, rfl, rfl, rfl, rfl, rfl, rfl, rfl, rfl, rfl, rfl, rfl, rfl, rfl, rfl, rfl, rfl, rfl, rfl, rfl, rfl, rfl, rfl, rfl, rfl, rfl, rfl, rfl, trivial⟩
              have hM6 := hM5.grow hb6
              clear hK K0 e0 K1 e1 K2 e2 K3 e3 K4 e4 K5 e5
              clear hF26 hM5
              refine nx ?_
              refine wp_cond_false (hF27.ev 41 rfl) ?_
              refine wp_skip ?_
              refine nx ?_
              refine wp_seq ?_
              refine wp_region_lit ?_
              refine sq (v := (.slice (some ⟨gr, 0, none⟩) X.length cr)) hF27 (wantedS rfl) (run_mv rfl (hF27.ev 8 rfl)) rfl (by decide) fun a28 hF28 => ?_
              refine sq (v := (slPtr (.slice (some ⟨gr, 0, none⟩) X.length cr) (1 * 1))) hF28 (wantedS rfl) (run_atP (i := 1) rfl (hF28.ev 43 rfl) rfl rfl (slOfRow (c := cr) (hM6.ob 0 rfl)) (by omega) elStr.un (by kernel_rfl)) rfl (by decide) fun a29 hF29 => ?_
              refine sq (v := (.string ⟨tb.toArray⟩)) hF29 (wantedS rfl) (run_ldP rfl (hF29.ev 44 rfl) (slOfRow (c := cr) (hM6.ob 0 rfl)) (map_at hXb) (by kernel_rfl)) rfl (by decide) fun a30 hF30 => ?_
              refine sqC (v := (.int .u64 (getS tb : Int))) hF30 hM6 (wantedS rfl) (run_call rfl Tryd.func41 (by kernel_rfl) rfl (mapE1 (hF30.ev 45 rfl))) rfl (by decide) (rget_any tb w6 (by omega)) fun a31 w7 hb7 hF31 hM7 => ?_
              refine sq (v := (.int .u64 (getS tb : Int))) hF31 (wantedS rfl) (run_as rfl (hF31.ev 46 rfl)) rfl (by decide) fun a32 hF32 => ?_
              refine sqEnd ?_
              clear hF27 hF28 hF29 hF30 hF31 hM6
              refine nx ?_
              refine wp_seq ?_
              refine wp_seq ?_
              refine wp_region_lit ?_
              refine sq (v := (.int .u64 (getS tb : Int))) hF32 (wantedS rfl) (run_mv rfl (hF32.ev 10 rfl)) rfl (by decide) fun a33 hF33 => ?_
              refine sq (v := (.pointer (some ⟨g0, 1, none⟩))) hF33 (wantedS rfl) (run_fldA (m := 1) (s := 1) rfl (hF33.ev 2 rfl) Tryd.underlying26 rfl rfl (by kernel_rfl) (by decide)) rfl (by decide) fun a34 hF34 => ?_
              refine sq (v := (.int .u64 (c.n : Int))) hF34 (wantedS rfl) (run_ldF rfl (hF34.ev 48 rfl) (hM7.at 3 rfl) rfl (by kernel_rfl)) rfl (by decide) fun a35 hF35 => ?_
              refine sq (v := (.bool true)) hF35 (wantedS rfl) (run_lss rfl (hF35.ev 47 rfl) (hF35.ev 49 rfl) (decide_eq_true (by omega))) rfl (by decide) fun a36 hF36 => ?_
              refine sqEnd ?_
              clear hF32 hF33 hF34 hF35
              refine nx ?_
              refine wp_cond_true (hF36.ev 50 rfl) ?_
              refine wp_seq ?_
              refine wp_region_lit ?_
              refine sq (v := (.agg (chA noCh))) hF36 (wantedS rfl) (run_ldB rfl (hF36.ev 7 rfl) (hM7.at 1 rfl) Tryd.underlying26 rfl szCh (chA_size noCh_len)) rfl (by decide) fun a37 hF37 => ?_
              refine sqStore (i := 2) hF37 hM7 rfl rfl rfl (hF37.ev 4 rfl) (hF37.ev 51 rfl) rfl szCh (chA_size noCh_len) (chA_size noCh_len) (chA_one _) fun a38 w8 hF38 hM8 => ?_
              refine sq (v := (.string ⟨List.toArray []⟩)) hF38 (wantedS rfl) (run_as rfl rfl) rfl (by decide) fun a39 hF39 => ?_
              refine sq (v := (.int .i64 19)) hF39 (wantedS rfl) (run_as rfl rfl) rfl (by decide) fun a40 hF40 => ?_
              refine sqEnd ?_
              clear hF36 hF37 hF38 hF39 hM7
              refine nx ?_
              refine wp_ret ?_
              refine nxRet ?_
              exact retBTT hF40 rfl rfl (hM8.at 2 rfl) Tryd.underlying26 rfl szCh (chA_size noCh_len) rfl rfl ⟨by rw [hs], hM8.below⟩
          by_cases hfar : 1000 < getS tb - c.n
          · have hs : takeS c f = (noCh, [], 6) := by rw [hs1]; unfold takeB; rw [if_neg hold, if_pos (.inl hfar)]
            refine walk_enter Tryd.func19 rfl rfl rfl fun a0 hF0 => ?_
            have hM0 := Mem.new w
            refine wp_seq ?_
            refine wp_region_lit ?_
            refine sqNew (cs := (chA c)) (t := 26) hF0 hM0 (wantedS rfl) (run_box rfl (hF0.ev 0 rfl)) rfl (by decide) fun g0 a1 w1 hgg0 hb1 hF1 hM1 => ?_
            refine sqNew (cs := (chA noCh)) (t := 26) hF1 hM1 (wantedS rfl) (run_alloc rfl (by kernel_rfl)) rfl (by decide) fun g1 a2 w2 hgg1 hb2 hF2 hM2 => ?_
            refine sq (v := (.string ⟨List.toArray []⟩)) hF2 (wantedS rfl) (run_as rfl rfl) rfl (by decide) fun a3 hF3 => ?_
            refine sq (v := (.int .i64 0)) hF3 (wantedS rfl) (run_as rfl rfl) rfl (by decide) fun a4 hF4 => ?_
            refine sqEnd ?_
            clear hF0 hF1 hF2 hF3 hM0 hM1
            refine nx ?_
            refine wp_seq ?_
            refine wp_region_lit ?_
            refine sq (v := (.agg (chA noCh))) hF4 (wantedS rfl) (run_blt (vs := #[]) (cs := chA noCh) rfl (by simp) built_ch0) rfl (by decide) fun a5 hF5 => ?_
            refine sqNew (cs := (chA noCh)) (t := 26) hF5 hM2 (wantedS rfl) (run_alloc rfl (by kernel_rfl)) rfl (by decide) fun g2 a6 w3 hgg2 hb3 hF6 hM3 => ?_
            refine sqStore (i := 0) hF6 hM3 rfl rfl rfl (hF6.ev 7 rfl) (hF6.ev 15 rfl) rfl szCh (chA_size noCh_len) (chA_size noCh_len) (chA_one _) fun a7 w4 hF7 hM4 => ?_
            refine sqEnd ?_
            clear hF4 hF5 hF6 hM2 hM3
            refine nx ?_
            refine wp_seq ?_
            refine wp_region_lit ?_
            refine sq (v := (.string ⟨f.toArray⟩)) hF7 (wantedS rfl) (run_mv rfl (hF7.ev 1 rfl)) rfl (by decide) fun a8 hF8 => ?_
            refine sqT (T := fun u wx => (∃ v, u = .tuple #[v, .int .i64 0] ∧ wx.ownsRow w4.heap.size 9 1 v X.length (X.map tx)) ∧ Below w4.heap.size w4 wx) hF8 (wantedS rfl) (run_call rfl Tryd.func14 (by kernel_rfl) rfl (mapE1 (hF8.ev 17 rfl))) rfl (by decide) (rtexts_ok hT w4 (by omega)) fun u3 a9 w5 hT5 hF9 => ?_
            obtain ⟨⟨v4, rfl, hr5⟩, hb5⟩ := hT5
            obtain ⟨gr, cr, rfl, hcapgr, hggr, hM5⟩ := OwnR.ofCallMem hM4 hb5 hr5 (by omega)
            refine sq (v := (.tuple #[(.slice (some ⟨gr, 0, none⟩) X.length cr), (.int .i64 0)])) hF9 (wantedS rfl) (run_mv rfl (hF9.ev 18 rfl)) rfl (by decide) fun a10 hF10 => ?_
            refine sq (v := (.slice (some ⟨gr, 0, none⟩) X.length cr)) hF10 (wantedS rfl) (run_ext rfl (hF10.ev 16 rfl) rfl) rfl (by decide) fun a11 hF11 => ?_
            refine sq (v := (.int .i64 0)) hF11 (wantedS rfl) (run_ext rfl (hF11.ev 16 rfl) rfl) rfl (by decide) fun a12 hF12 => ?_
            refine sq (v := (.slice (some ⟨gr, 0, none⟩) X.length cr)) hF12 (wantedS rfl) (run_as rfl (hF12.ev 19 rfl)) rfl (by decide) fun a13 hF13 => ?_
            refine sq (v := (.int .i64 0)) hF13 (wantedS rfl) (run_as rfl (hF13.ev 20 rfl)) rfl (by decide) fun a14 hF14 => ?_
            refine sqEnd ?_
            clear hF7 hF8 hF9 hF10 hF11 hF12 hF13 hM4
            refine nx ?_
            refine wp_seq ?_
            refine wp_seq ?_
            refine wp_region_lit ?_
            refine sq (v := (.int .i64 0)) hF14 (wantedS rfl) (run_mv rfl (hF14.ev 9 rfl)) rfl (by decide) fun a15 hF15 => ?_
            refine sq (v := (.bool false)) hF15 (wantedS rfl) (run_nei rfl (hF15.ev 21 rfl) rfl (bne_eq_false_iff_eq.2 (by omega))) rfl (by decide) fun a16 hF16 => ?_
            refine sqEnd ?_
            clear hF14 hF15
            refine nx ?_
            refine wp_cond_false (hF16.ev 22 rfl) ?_
            refine wp_skip ?_
            refine nx ?_
            refine wp_seq ?_
            refine wp_seq ?_
            refine wp_region_lit ?_
            refine sq (v := (.slice (some ⟨gr, 0, none⟩) X.length cr)) hF16 (wantedS rfl) (run_mv rfl (hF16.ev 8 rfl)) rfl (by decide) fun a17 hF17 => ?_
            refine sq (v := (.int .i64 (X.length : Int))) hF17 (wantedS rfl) (run_lenS rfl (hF17.ev 25 rfl) (slOfRow (c := cr) (hM5.ob 0 rfl)) rfl Tryd.underlying34) rfl (by decide) fun a18 hF18 => ?_
            refine sq (v := (.bool false)) hF18 (wantedS rfl) (run_nei rfl (hF18.ev 26 rfl) rfl (bne_eq_false_iff_eq.2 (by omega))) rfl (by decide) fun a19 hF19 => ?_
            refine sq (v := (.bool false)) hF19 (wantedS rfl) (run_mv rfl (hF19.ev 27 rfl)) rfl (by decide) fun a20 hF20 => ?_
            refine sq (v := (.slice (some ⟨gr, 0, none⟩) X.length cr)) hF20 (wantedG hF20 rfl rfl rfl rfl rfl) (run_mv rfl (hF20.ev 8 rfl)) rfl (by decide) fun a21 hF21 => ?_
            refine sq (v := (slPtr (.slice (some ⟨gr, 0, none⟩) X.length cr) (1 * 1))) hF21 (wantedG hF21 rfl rfl rfl rfl rfl) (run_atP (i := 1) rfl (hF21.ev 29 rfl) rfl rfl (slOfRow (c := cr) (hM5.ob 0 rfl)) (by omega) elStr.un (by kernel_rfl)) rfl (by decide) fun a22 hF22 => ?_
            refine sq (v := (.string ⟨tb.toArray⟩)) hF22 (wantedG hF22 rfl rfl rfl rfl rfl) (run_ldP rfl (hF22.ev 30 rfl) (slOfRow (c := cr) (hM5.ob 0 rfl)) (map_at hXb) (by kernel_rfl)) rfl (by decide) fun a23 hF23 => ?_
            refine sq (v := (.int .i64 (tb.length : Int))) hF23 (wantedG hF23 rfl rfl rfl rfl rfl) (run_len rfl (hF23.ev 31 rfl) rfl Tryd.underlying9) rfl (by decide) fun a24 hF24 => ?_
            refine sq (v := (.bool false)) hF24 (wantedG hF24 rfl rfl rfl rfl rfl) (run_nei rfl (hF24.ev 32 rfl) rfl (bne_eq_false_iff_eq.2 (by omega))) rfl (by decide) fun a25 hF25 => ?_
            refine sq (v := (.bool false)) hF25 (wantedS rfl) (run_pick rfl (hF25.ev 28 rfl) rfl (hF25.ev 33 rfl)) rfl (by decide) fun a26 hF26 => ?_
            refine sqEnd ?_
            clear hF16 hF17 hF18 hF19 hF20 hF21 hF22 hF23 hF24 hF25
            refine nx ?_
            refine wp_cond_false (hF26.ev 34 rfl) ?_
            refine wp_skip ?_
            refine nx ?_
            refine wp_seq ?_
            refine wp_seq ?_
            obtain ⟨KL, hKL⟩ : ∃ KL, KL = [kval (.slice (some ⟨gr, 0, none⟩) X.length cr), kval (slPtr (.slice (some ⟨gr, 0, none⟩) X.length cr) (0 * 1)), kval (.string ⟨ta.toArray⟩), kval (.pointer (some ⟨g0, 0, none⟩)), kval (.string ⟨c.m.toArray⟩), kval (.bool false)] := ⟨_, rfl⟩
            have K0 : KL.getD 0 kany = kval (.slice (some ⟨gr, 0, none⟩) X.length cr) := by rw [hKL]; rfl
            have K1 : KL.getD 1 kany = kval (slPtr (.slice (some ⟨gr, 0, none⟩) X.length cr) (0 * 1)) := by rw [hKL]; rfl
            have K2 : KL.getD 2 kany = kval (.string ⟨ta.toArray⟩) := by rw [hKL]; rfl
            have K3 : KL.getD 3 kany = kval (.pointer (some ⟨g0, 0, none⟩)) := by rw [hKL]; rfl
            have K4 : KL.getD 4 kany = kval (.string ⟨c.m.toArray⟩) := by rw [hKL]; rfl
            have K5 : KL.getD 5 kany = kval (.bool false) := by rw [hKL]; rfl
            clear hKL
            refine wp_region_kd 98 (by kernel_rfl) (by kernel_rfl) (by kernel_rfl) hF26.size KL ?_ ?_
            · refine ⟨?_, ?_, ?_, ?_, ?_, ?_, trivial⟩
              · refine asks_mk fun a W hS hh hd => ⟨wanted_yes rfl, ?_⟩
                exact giv_run (run_mv rfl (eval_tmp (hh 8 _ rfl (hF26.at 8 rfl)))) K0
              · refine asks_mk fun a W hS hh hd => ⟨wanted_yes rfl, ?_⟩
                exact giv_run (run_atP (i := 0) rfl (eval_tmp (hd.val (j := 0) (s := 36) (by kernel_rfl) K0)) rfl rfl (slOfRow (c := cr) ((hM5.grow hS).ob 0 rfl)) (by omega) elStr.un (by kernel_rfl)) K1
              · refine asks_mk fun a W hS hh hd => ⟨wanted_yes rfl, ?_⟩
                exact giv_run (run_ldP rfl (eval_tmp (hd.val (j := 1) (s := 37) (by kernel_rfl) K1)) (slOfRow (c := cr) ((hM5.grow hS).ob 0 rfl)) (map_at hXa) (by kernel_rfl)) K2
              · refine asks_mk fun a W hS hh hd => ⟨wanted_yes rfl, ?_⟩
                exact giv_run (run_fldA (m := 1) (s := 0) rfl (eval_tmp (hh 2 _ rfl (hF26.at 2 rfl))) Tryd.underlying26 rfl rfl (by kernel_rfl) (by decide)) K3
              · refine asks_mk fun a W hS hh hd => ⟨wanted_yes rfl, ?_⟩
                exact giv_run (run_ldF rfl (eval_tmp (hd.val (j := 3) (s := 39) (by kernel_rfl) K3)) ((hM5.grow hS).at 3 rfl) rfl (by kernel_rfl)) K4
              · refine asks_mk fun a W hS hh hd => ⟨wanted_yes rfl, ?_⟩
                exact giv_run (run_nes rfl (eval_tmp (hd.val (j := 2) (s := 38) (by kernel_rfl) K2)) (eval_tmp (hd.val (j := 4) (s := 40) (by kernel_rfl) K4)) hneq) K5
            · intro a27 w6 hb6 hK
              have e0 := hK.val (i := 0) (s := 36) (by kernel_rfl) K0
              have e1 := hK.val (i := 1) (s := 37) (by kernel_rfl) K1
              have e2 := hK.val (i := 2) (s := 38) (by kernel_rfl) K2
              have e3 := hK.val (i := 3) (s := 39) (by kernel_rfl) K3
              have e4 := hK.val (i := 4) (s := 40) (by kernel_rfl) K4
              have e5 := hK.val (i := 5) (s := 41) (by kernel_rfl) K5
              have hF27 : Fr a27 98 [(0, (.agg (chA c))), (1, (.string ⟨f.toArray⟩)), (2, (.pointer (some ⟨g0, 0, none⟩))), (4, (.pointer (some ⟨g1, 0, none⟩))), (5, (.string ⟨List.toArray []⟩)), (6, (.int .i64 0)), (7, (.pointer (some ⟨g2, 0, none⟩))), (8, (.slice (some ⟨gr, 0, none⟩) X.length cr)), (9, (.int .i64 0)), (15, (.agg (chA noCh))), (16, (.tuple #[(.slice (some ⟨gr, 0, none⟩) X.length cr), (.int .i64 0)])), (17, (.string ⟨f.toArray⟩)), (18, (.tuple #[(.slice (some ⟨gr, 0, none⟩) X.length cr), (.int .i64 0)])), (19, (.slice (some ⟨gr, 0, none⟩) X.length cr)), (20, (.int .i64 0)), (21, (.int .i64 0)), (22, (.bool false)), (25, (.slice (some ⟨gr, 0, none⟩) X.length cr)), (26, (.int .i64 (X.length : Int))), (27, (.bool false)), (28, (.bool false)), (29, (.slice (some ⟨gr, 0, none⟩) X.length cr)), (30, (slPtr (.slice (some ⟨gr, 0, none⟩) X.length cr) (1 * 1))), (31, (.string ⟨tb.toArray⟩)), (32, (.int .i64 (tb.length : Int))), (33, (.bool false)), (34, (.bool false)), (41, (.bool false))] := (hK.fr hF26 [(.slice (some ⟨gr, 0, none⟩) X.length cr), (slPtr (.slice (some ⟨gr, 0, none⟩) X.length cr) (0 * 1)), (.string ⟨ta.toArray⟩), (.pointer (some ⟨g0, 0, none⟩)), (.string ⟨c.m.toArray⟩), (.bool false)] ⟨e0, e1, e2, e3, e4, e5, trivial⟩).sub ⟨rfl, rfl, rfl, rfl, rfl, rfl, rfl, rfl, rfl, rfl, rfl, rfl, rfl, rfl, rfl, rfl, rfl, rfl, rfl, rfl, rfl, rfl, rfl, rfl, rfl, rfl, rfl, rfl, trivial⟩
              have hM6 := hM5.grow hb6
              clear hK K0 e0 K1 e1 K2 e2 K3 e3 K4 e4 K5 e5
              clear hF26 hM5
              refine nx ?_
              refine wp_cond_false (hF27.ev 41 rfl) ?_
              refine wp_skip ?_
              refine nx ?_
              refine wp_seq ?_
              refine wp_region_lit ?_
              refine sq (v := (.slice (some ⟨gr, 0, none⟩) X.length cr)) hF27 (wantedS rfl) (run_mv rfl (hF27.ev 8 rfl)) rfl (by decide) fun a28 hF28 => ?_
              refine sq (v := (slPtr (.slice (some ⟨gr, 0, none⟩) X.length cr) (1 * 1))) hF28 (wantedS rfl) (run_atP (i := 1) rfl (hF28.ev 43 rfl) rfl rfl (slOfRow (c := cr) (hM6.ob 0 rfl)) (by omega) elStr.un (by kernel_rfl)) rfl (by decide) fun a29 hF29 => ?_
              refine sq (v := (.string ⟨tb.toArray⟩)) hF29 (wantedS rfl) (run_ldP rfl (hF29.ev 44 rfl) (slOfRow (c := cr) (hM6.ob 0 rfl)) (map_at hXb) (by kernel_rfl)) rfl (by decide) fun a30 hF30 => ?_
              refine sqC (v := (.int .u64 (getS tb : Int))) hF30 hM6 (wantedS rfl) (run_call rfl Tryd.func41 (by kernel_rfl) rfl (mapE1 (hF30.ev 45 rfl))) rfl (by decide) (rget_any tb w6 (by omega)) fun a31 w7 hb7 hF31 hM7 => ?_
              refine sq (v := (.int .u64 (getS tb : Int))) hF31 (wantedS rfl) (run_as rfl (hF31.ev 46 rfl)) rfl (by decide) fun a32 hF32 => ?_
              refine sqEnd ?_
              clear hF27 hF28 hF29 hF30 hF31 hM6
              refine nx ?_
              refine wp_seq ?_
              refine wp_seq ?_
              refine wp_region_lit ?_
              refine sq (v := (.int .u64 (getS tb : Int))) hF32 (wantedS rfl) (run_mv rfl (hF32.ev 10 rfl)) rfl (by decide) fun a33 hF33 => ?_
              refine sq (v := (.pointer (some ⟨g0, 1, none⟩))) hF33 (wantedS rfl) (run_fldA (m := 1) (s := 1) rfl (hF33.ev 2 rfl) Tryd.underlying26 rfl rfl (by kernel_rfl) (by decide)) rfl (by decide) fun a34 hF34 => ?_
              refine sq (v := (.int .u64 (c.n : Int))) hF34 (wantedS rfl) (run_ldF rfl (hF34.ev 48 rfl) (hM7.at 3 rfl) rfl (by kernel_rfl)) rfl (by decide) fun a35 hF35 => ?_
              refine sq (v := (.bool false)) hF35 (wantedS rfl) (run_lss rfl (hF35.ev 47 rfl) (hF35.ev 49 rfl) (decide_eq_false (by omega))) rfl (by decide) fun a36 hF36 => ?_
              refine sqEnd ?_
              clear hF32 hF33 hF34 hF35
              refine nx ?_
              refine wp_cond_false (hF36.ev 50 rfl) ?_
              refine wp_skip ?_
              refine nx ?_
              refine wp_seq ?_
              refine wp_seq ?_
              refine wp_region_lit ?_
              refine sq (v := (.int .u64 (getS tb : Int))) hF36 (wantedS rfl) (run_mv rfl (hF36.ev 10 rfl)) rfl (by decide) fun a37 hF37 => ?_
              refine sq (v := (.pointer (some ⟨g0, 1, none⟩))) hF37 (wantedS rfl) (run_fldA (m := 1) (s := 1) rfl (hF37.ev 2 rfl) Tryd.underlying26 rfl rfl (by kernel_rfl) (by decide)) rfl (by decide) fun a38 hF38 => ?_
              refine sq (v := (.int .u64 (c.n : Int))) hF38 (wantedS rfl) (run_ldF rfl (hF38.ev 53 rfl) (hM7.at 3 rfl) rfl (by kernel_rfl)) rfl (by decide) fun a39 hF39 => ?_
              refine sq (v := (.int .u64 ((getS tb - c.n : Nat) : Int))) hF39 (wantedS rfl) (run_sub (r := ((getS tb - c.n : Nat) : Int)) rfl (hF39.ev 52 rfl) (hF39.ev 54 rfl) (by rw [IntKind.wrap_u64]; omega)) rfl (by decide) fun a40 hF40 => ?_
              refine sq (v := (.bool true)) hF40 (wantedS rfl) (run_gtr rfl (hF40.ev 55 rfl) rfl (decide_eq_true (by omega))) rfl (by decide) fun a41 hF41 => ?_
              refine sq (v := (.bool true)) hF41 (wantedS rfl) (run_mv rfl (hF41.ev 56 rfl)) rfl (by decide) fun a42 hF42 => ?_
              refine sqSkip hF42 (unwantedG hF42 rfl rfl rfl rfl rfl) rfl (by decide) fun a43 hF43 => ?_
              refine sqSkip hF43 (unwantedG hF43 rfl rfl rfl rfl rfl) rfl (by decide) fun a44 hF44 => ?_
              refine sq (v := (.bool true)) hF44 (wantedS rfl) (run_pick rfl (hF44.ev 57 rfl) rfl (hF44.ev 59 rfl)) rfl (by decide) fun a45 hF45 => ?_
              refine sqEnd ?_
              clear hF36 hF37 hF38 hF39 hF40 hF41 hF42 hF43 hF44
              refine nx ?_
              refine wp_cond_true (hF45.ev 60 rfl) ?_
              refine wp_seq ?_
              refine wp_region_lit ?_
              refine sq (v := (.agg (chA noCh))) hF45 (wantedS rfl) (run_ldB rfl (hF45.ev 7 rfl) (hM7.at 1 rfl) Tryd.underlying26 rfl szCh (chA_size noCh_len)) rfl (by decide) fun a46 hF46 => ?_
              refine sqStore (i := 2) hF46 hM7 rfl rfl rfl (hF46.ev 4 rfl) (hF46.ev 61 rfl) rfl szCh (chA_size noCh_len) (chA_size noCh_len) (chA_one _) fun a47 w8 hF47 hM8 => ?_
              refine sq (v := (.string ⟨List.toArray []⟩)) hF47 (wantedS rfl) (run_as rfl rfl) rfl (by decide) fun a48 hF48 => ?_
              refine sq (v := (.int .i64 6)) hF48 (wantedS rfl) (run_as rfl rfl) rfl (by decide) fun a49 hF49 => ?_
              refine sqEnd ?_
              clear hF45 hF46 hF47 hF48 hM7
              refine nx ?_
              refine wp_ret ?_
              refine nxRet ?_
              exact retBTT hF49 rfl rfl (hM8.at 2 rfl) Tryd.underlying26 rfl szCh (chA_size noCh_len) rfl rfl ⟨by rw [hs], hM8.below⟩
          by_cases hmx : getS tb = mostN
          · have hs : takeS c f = (noCh, [], 6) := by rw [hs1]; unfold takeB; rw [if_neg hold, if_pos (.inr hmx)]
            unfold mostN at hmx
            refine walk_enter Tryd.func19 rfl rfl rfl fun a0 hF0 => ?_
            have hM0 := Mem.new w
            refine wp_seq ?_
            refine wp_region_lit ?_
            refine sqNew (cs := (chA c)) (t := 26) hF0 hM0 (wantedS rfl) (run_box rfl (hF0.ev 0 rfl)) rfl (by decide) fun g0 a1 w1 hgg0 hb1 hF1 hM1 => ?_
            refine sqNew (cs := (chA noCh)) (t := 26) hF1 hM1 (wantedS rfl) (run_alloc rfl (by kernel_rfl)) rfl (by decide) fun g1 a2 w2 hgg1 hb2 hF2 hM2 => ?_
            refine sq (v := (.string ⟨List.toArray []⟩)) hF2 (wantedS rfl) (run_as rfl rfl) rfl (by decide) fun a3 hF3 => ?_
            refine sq (v := (.int .i64 0)) hF3 (wantedS rfl) (run_as rfl rfl) rfl (by decide) fun a4 hF4 => ?_
            refine sqEnd ?_
            clear hF0 hF1 hF2 hF3 hM0 hM1
            refine nx ?_
            refine wp_seq ?_
            refine wp_region_lit ?_
            refine sq (v := (.agg (chA noCh))) hF4 (wantedS rfl) (run_blt (vs := #[]) (cs := chA noCh) rfl (by simp) built_ch0) rfl (by decide) fun a5 hF5 => ?_
            refine sqNew (cs := (chA noCh)) (t := 26) hF5 hM2 (wantedS rfl) (run_alloc rfl (by kernel_rfl)) rfl (by decide) fun g2 a6 w3 hgg2 hb3 hF6 hM3 => ?_
            refine sqStore (i := 0) hF6 hM3 rfl rfl rfl (hF6.ev 7 rfl) (hF6.ev 15 rfl) rfl szCh (chA_size noCh_len) (chA_size noCh_len) (chA_one _) fun a7 w4 hF7 hM4 => ?_
            refine sqEnd ?_
            clear hF4 hF5 hF6 hM2 hM3
            refine nx ?_
            refine wp_seq ?_
            refine wp_region_lit ?_
            refine sq (v := (.string ⟨f.toArray⟩)) hF7 (wantedS rfl) (run_mv rfl (hF7.ev 1 rfl)) rfl (by decide) fun a8 hF8 => ?_
            refine sqT (T := fun u wx => (∃ v, u = .tuple #[v, .int .i64 0] ∧ wx.ownsRow w4.heap.size 9 1 v X.length (X.map tx)) ∧ Below w4.heap.size w4 wx) hF8 (wantedS rfl) (run_call rfl Tryd.func14 (by kernel_rfl) rfl (mapE1 (hF8.ev 17 rfl))) rfl (by decide) (rtexts_ok hT w4 (by omega)) fun u3 a9 w5 hT5 hF9 => ?_
            obtain ⟨⟨v4, rfl, hr5⟩, hb5⟩ := hT5
            obtain ⟨gr, cr, rfl, hcapgr, hggr, hM5⟩ := OwnR.ofCallMem hM4 hb5 hr5 (by omega)
            refine sq (v := (.tuple #[(.slice (some ⟨gr, 0, none⟩) X.length cr), (.int .i64 0)])) hF9 (wantedS rfl) (run_mv rfl (hF9.ev 18 rfl)) rfl (by decide) fun a10 hF10 => ?_
            refine sq (v := (.slice (some ⟨gr, 0, none⟩) X.length cr)) hF10 (wantedS rfl) (run_ext rfl (hF10.ev 16 rfl) rfl) rfl (by decide) fun a11 hF11 => ?_
            refine sq (v := (.int .i64 0)) hF11 (wantedS rfl) (run_ext rfl (hF11.ev 16 rfl) rfl) rfl (by decide) fun a12 hF12 => ?_
            refine sq (v := (.slice (some ⟨gr, 0, none⟩) X.length cr)) hF12 (wantedS rfl) (run_as rfl (hF12.ev 19 rfl)) rfl (by decide) fun a13 hF13 => ?_
            refine sq (v := (.int .i64 0)) hF13 (wantedS rfl) (run_as rfl (hF13.ev 20 rfl)) rfl (by decide) fun a14 hF14 => ?_
            refine sqEnd ?_
            clear hF7 hF8 hF9 hF10 hF11 hF12 hF13 hM4
            refine nx ?_
            refine wp_seq ?_
            refine wp_seq ?_
            refine wp_region_lit ?_
            refine sq (v := (.int .i64 0)) hF14 (wantedS rfl) (run_mv rfl (hF14.ev 9 rfl)) rfl (by decide) fun a15 hF15 => ?_
            refine sq (v := (.bool false)) hF15 (wantedS rfl) (run_nei rfl (hF15.ev 21 rfl) rfl (bne_eq_false_iff_eq.2 (by omega))) rfl (by decide) fun a16 hF16 => ?_
            refine sqEnd ?_
            clear hF14 hF15
            refine nx ?_
            refine wp_cond_false (hF16.ev 22 rfl) ?_
            refine wp_skip ?_
            refine nx ?_
            refine wp_seq ?_
            refine wp_seq ?_
            refine wp_region_lit ?_
            refine sq (v := (.slice (some ⟨gr, 0, none⟩) X.length cr)) hF16 (wantedS rfl) (run_mv rfl (hF16.ev 8 rfl)) rfl (by decide) fun a17 hF17 => ?_
            refine sq (v := (.int .i64 (X.length : Int))) hF17 (wantedS rfl) (run_lenS rfl (hF17.ev 25 rfl) (slOfRow (c := cr) (hM5.ob 0 rfl)) rfl Tryd.underlying34) rfl (by decide) fun a18 hF18 => ?_
            refine sq (v := (.bool false)) hF18 (wantedS rfl) (run_nei rfl (hF18.ev 26 rfl) rfl (bne_eq_false_iff_eq.2 (by omega))) rfl (by decide) fun a19 hF19 => ?_
            refine sq (v := (.bool false)) hF19 (wantedS rfl) (run_mv rfl (hF19.ev 27 rfl)) rfl (by decide) fun a20 hF20 => ?_
            refine sq (v := (.slice (some ⟨gr, 0, none⟩) X.length cr)) hF20 (wantedG hF20 rfl rfl rfl rfl rfl) (run_mv rfl (hF20.ev 8 rfl)) rfl (by decide) fun a21 hF21 => ?_
            refine sq (v := (slPtr (.slice (some ⟨gr, 0, none⟩) X.length cr) (1 * 1))) hF21 (wantedG hF21 rfl rfl rfl rfl rfl) (run_atP (i := 1) rfl (hF21.ev 29 rfl) rfl rfl (slOfRow (c := cr) (hM5.ob 0 rfl)) (by omega) elStr.un (by kernel_rfl)) rfl (by decide) fun a22 hF22 => ?_
            refine sq (v := (.string ⟨tb.toArray⟩)) hF22 (wantedG hF22 rfl rfl rfl rfl rfl) (run_ldP rfl (hF22.ev 30 rfl) (slOfRow (c := cr) (hM5.ob 0 rfl)) (map_at hXb) (by kernel_rfl)) rfl (by decide) fun a23 hF23 => ?_
            refine sq (v := (.int .i64 (tb.length : Int))) hF23 (wantedG hF23 rfl rfl rfl rfl rfl) (run_len rfl (hF23.ev 31 rfl) rfl Tryd.underlying9) rfl (by decide) fun a24 hF24 => ?_
            refine sq (v := (.bool false)) hF24 (wantedG hF24 rfl rfl rfl rfl rfl) (run_nei rfl (hF24.ev 32 rfl) rfl (bne_eq_false_iff_eq.2 (by omega))) rfl (by decide) fun a25 hF25 => ?_
            refine sq (v := (.bool false)) hF25 (wantedS rfl) (run_pick rfl (hF25.ev 28 rfl) rfl (hF25.ev 33 rfl)) rfl (by decide) fun a26 hF26 => ?_
            refine sqEnd ?_
            clear hF16 hF17 hF18 hF19 hF20 hF21 hF22 hF23 hF24 hF25
            refine nx ?_
            refine wp_cond_false (hF26.ev 34 rfl) ?_
            refine wp_skip ?_
            refine nx ?_
            refine wp_seq ?_
            refine wp_seq ?_
            obtain ⟨KL, hKL⟩ : ∃ KL, KL = [kval (.slice (some ⟨gr, 0, none⟩) X.length cr), kval (slPtr (.slice (some ⟨gr, 0, none⟩) X.length cr) (0 * 1)), kval (.string ⟨ta.toArray⟩), kval (.pointer (some ⟨g0, 0, none⟩)), kval (.string ⟨c.m.toArray⟩), kval (.bool false)] := ⟨_, rfl⟩
            have K0 : KL.getD 0 kany = kval (.slice (some ⟨gr, 0, none⟩) X.length cr) := by rw [hKL]; rfl
            have K1 : KL.getD 1 kany = kval (slPtr (.slice (some ⟨gr, 0, none⟩) X.length cr) (0 * 1)) := by rw [hKL]; rfl
            have K2 : KL.getD 2 kany = kval (.string ⟨ta.toArray⟩) := by rw [hKL]; rfl
            have K3 : KL.getD 3 kany = kval (.pointer (some ⟨g0, 0, none⟩)) := by rw [hKL]; rfl
            have K4 : KL.getD 4 kany = kval (.string ⟨c.m.toArray⟩) := by rw [hKL]; rfl
            have K5 : KL.getD 5 kany = kval (.bool false) := by rw [hKL]; rfl
            clear hKL
            refine wp_region_kd 98 (by kernel_rfl) (by kernel_rfl) (by kernel_rfl) hF26.size KL ?_ ?_
            · refine ⟨?_, ?_, ?_, ?_, ?_, ?_, trivial⟩
              · refine asks_mk fun a W hS hh hd => ⟨wanted_yes rfl, ?_⟩
                exact giv_run (run_mv rfl (eval_tmp (hh 8 _ rfl (hF26.at 8 rfl)))) K0
              · refine asks_mk fun a W hS hh hd => ⟨wanted_yes rfl, ?_⟩
                exact giv_run (run_atP (i := 0) rfl (eval_tmp (hd.val (j := 0) (s := 36) (by kernel_rfl) K0)) rfl rfl (slOfRow (c := cr) ((hM5.grow hS).ob 0 rfl)) (by omega) elStr.un (by kernel_rfl)) K1
              · refine asks_mk fun a W hS hh hd => ⟨wanted_yes rfl, ?_⟩
                exact giv_run (run_ldP rfl (eval_tmp (hd.val (j := 1) (s := 37) (by kernel_rfl) K1)) (slOfRow (c := cr) ((hM5.grow hS).ob 0 rfl)) (map_at hXa) (by kernel_rfl)) K2
              · refine asks_mk fun a W hS hh hd => ⟨wanted_yes rfl, ?_⟩
                exact giv_run (run_fldA (m := 1) (s := 0) rfl (eval_tmp (hh 2 _ rfl (hF26.at 2 rfl))) Tryd.underlying26 rfl rfl (by kernel_rfl) (by decide)) K3
              · refine asks_mk fun a W hS hh hd => ⟨wanted_yes rfl, ?_⟩
                exact giv_run (run_ldF rfl (eval_tmp (hd.val (j := 3) (s := 39) (by kernel_rfl) K3)) ((hM5.grow hS).at 3 rfl) rfl (by kernel_rfl)) K4
              · refine asks_mk fun a W hS hh hd => ⟨wanted_yes rfl, ?_⟩
                exact giv_run (run_nes rfl (eval_tmp (hd.val (j := 2) (s := 38) (by kernel_rfl) K2)) (eval_tmp (hd.val (j := 4) (s := 40) (by kernel_rfl) K4)) hneq) K5
            · intro a27 w6 hb6 hK
              have e0 := hK.val (i := 0) (s := 36) (by kernel_rfl) K0
              have e1 := hK.val (i := 1) (s := 37) (by kernel_rfl) K1
              have e2 := hK.val (i := 2) (s := 38) (by kernel_rfl) K2
              have e3 := hK.val (i := 3) (s := 39) (by kernel_rfl) K3
              have e4 := hK.val (i := 4) (s := 40) (by kernel_rfl) K4
              have e5 := hK.val (i := 5) (s := 41) (by kernel_rfl) K5
              have hF27 : Fr a27 98 [(0, (.agg (chA c))), (1, (.string ⟨f.toArray⟩)), (2, (.pointer (some ⟨g0, 0, none⟩))), (4, (.pointer (some ⟨g1, 0, none⟩))), (5, (.string ⟨List.toArray []⟩)), (6, (.int .i64 0)), (7, (.pointer (some ⟨g2, 0, none⟩))), (8, (.slice (some ⟨gr, 0, none⟩) X.length cr)), (9, (.int .i64 0)), (15, (.agg (chA noCh))), (16, (.tuple #[(.slice (some ⟨gr, 0, none⟩) X.length cr), (.int .i64 0)])), (17, (.string ⟨f.toArray⟩)), (18, (.tuple #[(.slice (some ⟨gr, 0, none⟩) X.length cr), (.int .i64 0)])), (19, (.slice (some ⟨gr, 0, none⟩) X.length cr)), (20, (.int .i64 0)), (21, (.int .i64 0)), (22, (.bool false)), (25, (.slice (some ⟨gr, 0, none⟩) X.length cr)), (26, (.int .i64 (X.length : Int))), (27, (.bool false)), (28, (.bool false)), (29, (.slice (some ⟨gr, 0, none⟩) X.length cr)), (30, (slPtr (.slice (some ⟨gr, 0, none⟩) X.length cr) (1 * 1))), (31, (.string ⟨tb.toArray⟩)), (32, (.int .i64 (tb.length : Int))), (33, (.bool false)), (34, (.bool false)), (41, (.bool false))] := (hK.fr hF26 [(.slice (some ⟨gr, 0, none⟩) X.length cr), (slPtr (.slice (some ⟨gr, 0, none⟩) X.length cr) (0 * 1)), (.string ⟨ta.toArray⟩), (.pointer (some ⟨g0, 0, none⟩)), (.string ⟨c.m.toArray⟩), (.bool false)] ⟨e0, e1, e2, e3, e4, e5, trivial⟩).sub ⟨rfl, rfl, rfl, rfl, rfl, rfl, rfl, rfl, rfl, rfl, rfl, rfl, rfl, rfl, rfl, rfl, rfl, rfl, rfl, rfl, rfl, rfl, rfl, rfl, rfl, rfl, rfl, rfl, trivial⟩
              have hM6 := hM5.grow hb6
              clear hK K0 e0 K1 e1 K2 e2 K3 e3 K4 e4 K5 e5
              clear hF26 hM5
              refine nx ?_
              refine wp_cond_false (hF27.ev 41 rfl) ?_
              refine wp_skip ?_
              refine nx ?_
              refine wp_seq ?_
              refine wp_region_lit ?_
              refine sq (v := (.slice (some ⟨gr, 0, none⟩) X.length cr)) hF27 (wantedS rfl) (run_mv rfl (hF27.ev 8 rfl)) rfl (by decide) fun a28 hF28 => ?_
              refine sq (v := (slPtr (.slice (some ⟨gr, 0, none⟩) X.length cr) (1 * 1))) hF28 (wantedS rfl) (run_atP (i := 1) rfl (hF28.ev 43 rfl) rfl rfl (slOfRow (c := cr) (hM6.ob 0 rfl)) (by omega) elStr.un (by kernel_rfl)) rfl (by decide) fun a29 hF29 => ?_
              refine sq (v := (.string ⟨tb.toArray⟩)) hF29 (wantedS rfl) (run_ldP rfl (hF29.ev 44 rfl) (slOfRow (c := cr) (hM6.ob 0 rfl)) (map_at hXb) (by kernel_rfl)) rfl (by decide) fun a30 hF30 => ?_
              refine sqC (v := (.int .u64 (getS tb : Int))) hF30 hM6 (wantedS rfl) (run_call rfl Tryd.func41 (by kernel_rfl) rfl (mapE1 (hF30.ev 45 rfl))) rfl (by decide) (rget_any tb w6 (by omega)) fun a31 w7 hb7 hF31 hM7 => ?_
              refine sq (v := (.int .u64 (getS tb : Int))) hF31 (wantedS rfl) (run_as rfl (hF31.ev 46 rfl)) rfl (by decide) fun a32 hF32 => ?_
              refine sqEnd ?_
              clear hF27 hF28 hF29 hF30 hF31 hM6
              refine nx ?_
              refine wp_seq ?_
              refine wp_seq ?_
              refine wp_region_lit ?_
              refine sq (v := (.int .u64 (getS tb : Int))) hF32 (wantedS rfl) (run_mv rfl (hF32.ev 10 rfl)) rfl (by decide) fun a33 hF33 => ?_
              refine sq (v := (.pointer (some ⟨g0, 1, none⟩))) hF33 (wantedS rfl) (run_fldA (m := 1) (s := 1) rfl (hF33.ev 2 rfl) Tryd.underlying26 rfl rfl (by kernel_rfl) (by decide)) rfl (by decide) fun a34 hF34 => ?_
              refine sq (v := (.int .u64 (c.n : Int))) hF34 (wantedS rfl) (run_ldF rfl (hF34.ev 48 rfl) (hM7.at 3 rfl) rfl (by kernel_rfl)) rfl (by decide) fun a35 hF35 => ?_
              refine sq (v := (.bool false)) hF35 (wantedS rfl) (run_lss rfl (hF35.ev 47 rfl) (hF35.ev 49 rfl) (decide_eq_false (by omega))) rfl (by decide) fun a36 hF36 => ?_
              refine sqEnd ?_
              clear hF32 hF33 hF34 hF35
              refine nx ?_
              refine wp_cond_false (hF36.ev 50 rfl) ?_
              refine wp_skip ?_
              refine nx ?_
              refine wp_seq ?_
              refine wp_seq ?_
              refine wp_region_lit ?_
              refine sq (v := (.int .u64 (getS tb : Int))) hF36 (wantedS rfl) (run_mv rfl (hF36.ev 10 rfl)) rfl (by decide) fun a37 hF37 => ?_
              refine sq (v := (.pointer (some ⟨g0, 1, none⟩))) hF37 (wantedS rfl) (run_fldA (m := 1) (s := 1) rfl (hF37.ev 2 rfl) Tryd.underlying26 rfl rfl (by kernel_rfl) (by decide)) rfl (by decide) fun a38 hF38 => ?_
              refine sq (v := (.int .u64 (c.n : Int))) hF38 (wantedS rfl) (run_ldF rfl (hF38.ev 53 rfl) (hM7.at 3 rfl) rfl (by kernel_rfl)) rfl (by decide) fun a39 hF39 => ?_
              refine sq (v := (.int .u64 ((getS tb - c.n : Nat) : Int))) hF39 (wantedS rfl) (run_sub (r := ((getS tb - c.n : Nat) : Int)) rfl (hF39.ev 52 rfl) (hF39.ev 54 rfl) (by rw [IntKind.wrap_u64]; omega)) rfl (by decide) fun a40 hF40 => ?_
              refine sq (v := (.bool false)) hF40 (wantedS rfl) (run_gtr rfl (hF40.ev 55 rfl) rfl (decide_eq_false (by omega))) rfl (by decide) fun a41 hF41 => ?_
              refine sq (v := (.bool false)) hF41 (wantedS rfl) (run_mv rfl (hF41.ev 56 rfl)) rfl (by decide) fun a42 hF42 => ?_
              refine sq (v := (.int .u64 (getS tb : Int))) hF42 (wantedG hF42 rfl rfl rfl rfl rfl) (run_mv rfl (hF42.ev 10 rfl)) rfl (by decide) fun a43 hF43 => ?_
              refine sq (v := (.bool true)) hF43 (wantedG hF43 rfl rfl rfl rfl rfl) (run_eqi rfl (hF43.ev 58 rfl) rfl (beq_iff_eq.2 (by omega))) rfl (by decide) fun a44 hF44 => ?_
              refine sq (v := (.bool true)) hF44 (wantedS rfl) (run_pick rfl (hF44.ev 57 rfl) rfl (hF44.ev 59 rfl)) rfl (by decide) fun a45 hF45 => ?_
              refine sqEnd ?_
              clear hF36 hF37 hF38 hF39 hF40 hF41 hF42 hF43 hF44
              refine nx ?_
              refine wp_cond_true (hF45.ev 60 rfl) ?_
              refine wp_seq ?_
              refine wp_region_lit ?_
              refine sq (v := (.agg (chA noCh))) hF45 (wantedS rfl) (run_ldB rfl (hF45.ev 7 rfl) (hM7.at 1 rfl) Tryd.underlying26 rfl szCh (chA_size noCh_len)) rfl (by decide) fun a46 hF46 => ?_
              refine sqStore (i := 2) hF46 hM7 rfl rfl rfl (hF46.ev 4 rfl) (hF46.ev 61 rfl) rfl szCh (chA_size noCh_len) (chA_size noCh_len) (chA_one _) fun a47 w8 hF47 hM8 => ?_
              refine sq (v := (.string ⟨List.toArray []⟩)) hF47 (wantedS rfl) (run_as rfl rfl) rfl (by decide) fun a48 hF48 => ?_
              refine sq (v := (.int .i64 6)) hF48 (wantedS rfl) (run_as rfl rfl) rfl (by decide) fun a49 hF49 => ?_
              refine sqEnd ?_
              clear hF45 hF46 hF47 hF48 hM7
              refine nx ?_
              refine wp_ret ?_
              refine nxRet ?_
              exact retBTT hF49 rfl rfl (hM8.at 2 rfl) Tryd.underlying26 rfl szCh (chA_size noCh_len) rfl rfl ⟨by rw [hs], hM8.below⟩
          have hs2 : ∀ N, getS tb - c.n = N → takeS c f = if (openS (keyedS (nxS c.k N) [115, 101, 110, 100]) (headS c.m (getS tb)) tc).2 = 0 then (⟨c.m, getS tb + 1, nextS (nxS c.k N)⟩, (openS (keyedS (nxS c.k N) [115, 101, 110, 100]) (headS c.m (getS tb)) tc).1, 0) else (noCh, [], (openS (keyedS (nxS c.k N) [115, 101, 110, 100]) (headS c.m (getS tb)) tc).2) := by
            intro N hN
            rw [hs1]; unfold takeB; rw [if_neg hold, if_neg (by omega), hN]; rfl
          unfold mostN at hmx
          obtain ⟨N, hN⟩ : ∃ N, getS tb - c.n = N := ⟨_, rfl⟩
          have hs3 := hs2 N hN
          clear hs2
          have hhl := headS_len c.m (getS tb) (by omega)
          by_cases hop : (openS (keyedS (nxS c.k N) [115, 101, 110, 100]) (headS c.m (getS tb)) tc).2 = 0
          · have hs : takeS c f = (Ch.mk c.m (getS tb + 1) (nextS (nxS c.k N)), (openS (keyedS (nxS c.k N) [115, 101, 110, 100]) (headS c.m (getS tb)) tc).1, 0) := by rw [hs3, if_pos hop]
            refine walk_enter Tryd.func19 rfl rfl rfl fun a0 hF0 => ?_
            have hM0 := Mem.new w
            refine wp_seq ?_
            refine wp_region_lit ?_
            refine sqNew (cs := (chA c)) (t := 26) hF0 hM0 (wantedS rfl) (run_box rfl (hF0.ev 0 rfl)) rfl (by decide) fun g0 a1 w1 hgg0 hb1 hF1 hM1 => ?_
            refine sqNew (cs := (chA noCh)) (t := 26) hF1 hM1 (wantedS rfl) (run_alloc rfl (by kernel_rfl)) rfl (by decide) fun g1 a2 w2 hgg1 hb2 hF2 hM2 => ?_
            refine sq (v := (.string ⟨List.toArray []⟩)) hF2 (wantedS rfl) (run_as rfl rfl) rfl (by decide) fun a3 hF3 => ?_
            refine sq (v := (.int .i64 0)) hF3 (wantedS rfl) (run_as rfl rfl) rfl (by decide) fun a4 hF4 => ?_
            refine sqEnd ?_
            clear hF0 hF1 hF2 hF3 hM0 hM1
            refine nx ?_
            refine wp_seq ?_
            refine wp_region_lit ?_
            refine sq (v := (.agg (chA noCh))) hF4 (wantedS rfl) (run_blt (vs := #[]) (cs := chA noCh) rfl (by simp) built_ch0) rfl (by decide) fun a5 hF5 => ?_
            refine sqNew (cs := (chA noCh)) (t := 26) hF5 hM2 (wantedS rfl) (run_alloc rfl (by kernel_rfl)) rfl (by decide) fun g2 a6 w3 hgg2 hb3 hF6 hM3 => ?_
            refine sqStore (i := 0) hF6 hM3 rfl rfl rfl (hF6.ev 7 rfl) (hF6.ev 15 rfl) rfl szCh (chA_size noCh_len) (chA_size noCh_len) (chA_one _) fun a7 w4 hF7 hM4 => ?_
            refine sqEnd ?_
            clear hF4 hF5 hF6 hM2 hM3
            refine nx ?_
            refine wp_seq ?_
            refine wp_region_lit ?_
            refine sq (v := (.string ⟨f.toArray⟩)) hF7 (wantedS rfl) (run_mv rfl (hF7.ev 1 rfl)) rfl (by decide) fun a8 hF8 => ?_
            refine sqT (T := fun u wx => (∃ v, u = .tuple #[v, .int .i64 0] ∧ wx.ownsRow w4.heap.size 9 1 v X.length (X.map tx)) ∧ Below w4.heap.size w4 wx) hF8 (wantedS rfl) (run_call rfl Tryd.func14 (by kernel_rfl) rfl (mapE1 (hF8.ev 17 rfl))) rfl (by decide) (rtexts_ok hT w4 (by omega)) fun u3 a9 w5 hT5 hF9 => ?_
            obtain ⟨⟨v4, rfl, hr5⟩, hb5⟩ := hT5
            obtain ⟨gr, cr, rfl, hcapgr, hggr, hM5⟩ := OwnR.ofCallMem hM4 hb5 hr5 (by omega)
            refine sq (v := (.tuple #[(.slice (some ⟨gr, 0, none⟩) X.length cr), (.int .i64 0)])) hF9 (wantedS rfl) (run_mv rfl (hF9.ev 18 rfl)) rfl (by decide) fun a10 hF10 => ?_
            refine sq (v := (.slice (some ⟨gr, 0, none⟩) X.length cr)) hF10 (wantedS rfl) (run_ext rfl (hF10.ev 16 rfl) rfl) rfl (by decide) fun a11 hF11 => ?_
            refine sq (v := (.int .i64 0)) hF11 (wantedS rfl) (run_ext rfl (hF11.ev 16 rfl) rfl) rfl (by decide) fun a12 hF12 => ?_
            refine sq (v := (.slice (some ⟨gr, 0, none⟩) X.length cr)) hF12 (wantedS rfl) (run_as rfl (hF12.ev 19 rfl)) rfl (by decide) fun a13 hF13 => ?_
            refine sq (v := (.int .i64 0)) hF13 (wantedS rfl) (run_as rfl (hF13.ev 20 rfl)) rfl (by decide) fun a14 hF14 => ?_
            refine sqEnd ?_
            clear hF7 hF8 hF9 hF10 hF11 hF12 hF13 hM4
            refine nx ?_
            refine wp_seq ?_
            refine wp_seq ?_
            refine wp_region_lit ?_
            refine sq (v := (.int .i64 0)) hF14 (wantedS rfl) (run_mv rfl (hF14.ev 9 rfl)) rfl (by decide) fun a15 hF15 => ?_
            refine sq (v := (.bool false)) hF15 (wantedS rfl) (run_nei rfl (hF15.ev 21 rfl) rfl (bne_eq_false_iff_eq.2 (by omega))) rfl (by decide) fun a16 hF16 => ?_
            refine sqEnd ?_
            clear hF14 hF15
            refine nx ?_
            refine wp_cond_false (hF16.ev 22 rfl) ?_
            refine wp_skip ?_
            refine nx ?_
            refine wp_seq ?_
            refine wp_seq ?_
            refine wp_region_lit ?_
            refine sq (v := (.slice (some ⟨gr, 0, none⟩) X.length cr)) hF16 (wantedS rfl) (run_mv rfl (hF16.ev 8 rfl)) rfl (by decide) fun a17 hF17 => ?_
            refine sq (v := (.int .i64 (X.length : Int))) hF17 (wantedS rfl) (run_lenS rfl (hF17.ev 25 rfl) (slOfRow (c := cr) (hM5.ob 0 rfl)) rfl Tryd.underlying34) rfl (by decide) fun a18 hF18 => ?_
            refine sq (v := (.bool false)) hF18 (wantedS rfl) (run_nei rfl (hF18.ev 26 rfl) rfl (bne_eq_false_iff_eq.2 (by omega))) rfl (by decide) fun a19 hF19 => ?_
            refine sq (v := (.bool false)) hF19 (wantedS rfl) (run_mv rfl (hF19.ev 27 rfl)) rfl (by decide) fun a20 hF20 => ?_
            refine sq (v := (.slice (some ⟨gr, 0, none⟩) X.length cr)) hF20 (wantedG hF20 rfl rfl rfl rfl rfl) (run_mv rfl (hF20.ev 8 rfl)) rfl (by decide) fun a21 hF21 => ?_
            refine sq (v := (slPtr (.slice (some ⟨gr, 0, none⟩) X.length cr) (1 * 1))) hF21 (wantedG hF21 rfl rfl rfl rfl rfl) (run_atP (i := 1) rfl (hF21.ev 29 rfl) rfl rfl (slOfRow (c := cr) (hM5.ob 0 rfl)) (by omega) elStr.un (by kernel_rfl)) rfl (by decide) fun a22 hF22 => ?_
            refine sq (v := (.string ⟨tb.toArray⟩)) hF22 (wantedG hF22 rfl rfl rfl rfl rfl) (run_ldP rfl (hF22.ev 30 rfl) (slOfRow (c := cr) (hM5.ob 0 rfl)) (map_at hXb) (by kernel_rfl)) rfl (by decide) fun a23 hF23 => ?_
            refine sq (v := (.int .i64 (tb.length : Int))) hF23 (wantedG hF23 rfl rfl rfl rfl rfl) (run_len rfl (hF23.ev 31 rfl) rfl Tryd.underlying9) rfl (by decide) fun a24 hF24 => ?_
            refine sq (v := (.bool false)) hF24 (wantedG hF24 rfl rfl rfl rfl rfl) (run_nei rfl (hF24.ev 32 rfl) rfl (bne_eq_false_iff_eq.2 (by omega))) rfl (by decide) fun a25 hF25 => ?_
            refine sq (v := (.bool false)) hF25 (wantedS rfl) (run_pick rfl (hF25.ev 28 rfl) rfl (hF25.ev 33 rfl)) rfl (by decide) fun a26 hF26 => ?_
            refine sqEnd ?_
            clear hF16 hF17 hF18 hF19 hF20 hF21 hF22 hF23 hF24 hF25
            refine nx ?_
            refine wp_cond_false (hF26.ev 34 rfl) ?_
            refine wp_skip ?_
            refine nx ?_
            refine wp_seq ?_
            refine wp_seq ?_
            obtain ⟨KL, hKL⟩ : ∃ KL, KL = [kval (.slice (some ⟨gr, 0, none⟩) X.length cr), kval (slPtr (.slice (some ⟨gr, 0, none⟩) X.length cr) (0 * 1)), kval (.string ⟨ta.toArray⟩), kval (.pointer (some ⟨g0, 0, none⟩)), kval (.string ⟨c.m.toArray⟩), kval (.bool false)] := ⟨_, rfl⟩
            have K0 : KL.getD 0 kany = kval (.slice (some ⟨gr, 0, none⟩) X.length cr) := by rw [hKL]; rfl
            have K1 : KL.getD 1 kany = kval (slPtr (.slice (some ⟨gr, 0, none⟩) X.length cr) (0 * 1)) := by rw [hKL]; rfl
            have K2 : KL.getD 2 kany = kval (.string ⟨ta.toArray⟩) := by rw [hKL]; rfl
            have K3 : KL.getD 3 kany = kval (.pointer (some ⟨g0, 0, none⟩)) := by rw [hKL]; rfl
            have K4 : KL.getD 4 kany = kval (.string ⟨c.m.toArray⟩) := by rw [hKL]; rfl
            have K5 : KL.getD 5 kany = kval (.bool false) := by rw [hKL]; rfl
            clear hKL
            refine wp_region_kd 98 (by kernel_rfl) (by kernel_rfl) (by kernel_rfl) hF26.size KL ?_ ?_
            · refine ⟨?_, ?_, ?_, ?_, ?_, ?_, trivial⟩
              · refine asks_mk fun a W hS hh hd => ⟨wanted_yes rfl, ?_⟩
                exact giv_run (run_mv rfl (eval_tmp (hh 8 _ rfl (hF26.at 8 rfl)))) K0
              · refine asks_mk fun a W hS hh hd => ⟨wanted_yes rfl, ?_⟩
                exact giv_run (run_atP (i := 0) rfl (eval_tmp (hd.val (j := 0) (s := 36) (by kernel_rfl) K0)) rfl rfl (slOfRow (c := cr) ((hM5.grow hS).ob 0 rfl)) (by omega) elStr.un (by kernel_rfl)) K1
              · refine asks_mk fun a W hS hh hd => ⟨wanted_yes rfl, ?_⟩
                exact giv_run (run_ldP rfl (eval_tmp (hd.val (j := 1) (s := 37) (by kernel_rfl) K1)) (slOfRow (c := cr) ((hM5.grow hS).ob 0 rfl)) (map_at hXa) (by kernel_rfl)) K2
              · refine asks_mk fun a W hS hh hd => ⟨wanted_yes rfl, ?_⟩
                exact giv_run (run_fldA (m := 1) (s := 0) rfl (eval_tmp (hh 2 _ rfl (hF26.at 2 rfl))) Tryd.underlying26 rfl rfl (by kernel_rfl) (by decide)) K3
              · refine asks_mk fun a W hS hh hd => ⟨wanted_yes rfl, ?_⟩
                exact giv_run (run_ldF rfl (eval_tmp (hd.val (j := 3) (s := 39) (by kernel_rfl) K3)) ((hM5.grow hS).at 3 rfl) rfl (by kernel_rfl)) K4
              · refine asks_mk fun a W hS hh hd => ⟨wanted_yes rfl, ?_⟩
                exact giv_run (run_nes rfl (eval_tmp (hd.val (j := 2) (s := 38) (by kernel_rfl) K2)) (eval_tmp (hd.val (j := 4) (s := 40) (by kernel_rfl) K4)) hneq) K5
            · intro a27 w6 hb6 hK
              have e0 := hK.val (i := 0) (s := 36) (by kernel_rfl) K0
              have e1 := hK.val (i := 1) (s := 37) (by kernel_rfl) K1
              have e2 := hK.val (i := 2) (s := 38) (by kernel_rfl) K2
              have e3 := hK.val (i := 3) (s := 39) (by kernel_rfl) K3
              have e4 := hK.val (i := 4) (s := 40) (by kernel_rfl) K4
              have e5 := hK.val (i := 5) (s := 41) (by kernel_rfl) K5
              have hF27 : Fr a27 98 [(0, (.agg (chA c))), (1, (.string ⟨f.toArray⟩)), (2, (.pointer (some ⟨g0, 0, none⟩))), (4, (.pointer (some ⟨g1, 0, none⟩))), (5, (.string ⟨List.toArray []⟩)), (6, (.int .i64 0)), (7, (.pointer (some ⟨g2, 0, none⟩))), (8, (.slice (some ⟨gr, 0, none⟩) X.length cr)), (9, (.int .i64 0)), (15, (.agg (chA noCh))), (16, (.tuple #[(.slice (some ⟨gr, 0, none⟩) X.length cr), (.int .i64 0)])), (17, (.string ⟨f.toArray⟩)), (18, (.tuple #[(.slice (some ⟨gr, 0, none⟩) X.length cr), (.int .i64 0)])), (19, (.slice (some ⟨gr, 0, none⟩) X.length cr)), (20, (.int .i64 0)), (21, (.int .i64 0)), (22, (.bool false)), (25, (.slice (some ⟨gr, 0, none⟩) X.length cr)), (26, (.int .i64 (X.length : Int))), (27, (.bool false)), (28, (.bool false)), (29, (.slice (some ⟨gr, 0, none⟩) X.length cr)), (30, (slPtr (.slice (some ⟨gr, 0, none⟩) X.length cr) (1 * 1))), (31, (.string ⟨tb.toArray⟩)), (32, (.int .i64 (tb.length : Int))), (33, (.bool false)), (34, (.bool false)), (41, (.bool false))] := (hK.fr hF26 [(.slice (some ⟨gr, 0, none⟩) X.length cr), (slPtr (.slice (some ⟨gr, 0, none⟩) X.length cr) (0 * 1)), (.string ⟨ta.toArray⟩), (.pointer (some ⟨g0, 0, none⟩)), (.string ⟨c.m.toArray⟩), (.bool false)] ⟨e0, e1, e2, e3, e4, e5, trivial⟩).sub ⟨rfl, rfl, rfl, rfl, rfl, rfl, rfl, rfl, rfl, rfl, rfl, rfl, rfl, rfl, rfl, rfl, rfl, rfl, rfl, rfl, rfl, rfl, rfl, rfl, rfl, rfl, rfl, rfl, trivial⟩
              have hM6 := hM5.grow hb6
              clear hK K0 e0 K1 e1 K2 e2 K3 e3 K4 e4 K5 e5
              clear hF26 hM5
              refine nx ?_
              refine wp_cond_false (hF27.ev 41 rfl) ?_
              refine wp_skip ?_
              refine nx ?_
              refine wp_seq ?_
              refine wp_region_lit ?_
              refine sq (v := (.slice (some ⟨gr, 0, none⟩) X.length cr)) hF27 (wantedS rfl) (run_mv rfl (hF27.ev 8 rfl)) rfl (by decide) fun a28 hF28 => ?_
              refine sq (v := (slPtr (.slice (some ⟨gr, 0, none⟩) X.length cr) (1 * 1))) hF28 (wantedS rfl) (run_atP (i := 1) rfl (hF28.ev 43 rfl) rfl rfl (slOfRow (c := cr) (hM6.ob 0 rfl)) (by omega) elStr.un (by kernel_rfl)) rfl (by decide) fun a29 hF29 => ?_
              refine sq (v := (.string ⟨tb.toArray⟩)) hF29 (wantedS rfl) (run_ldP rfl (hF29.ev 44 rfl) (slOfRow (c := cr) (hM6.ob 0 rfl)) (map_at hXb) (by kernel_rfl)) rfl (by decide) fun a30 hF30 => ?_
              refine sqC (v := (.int .u64 (getS tb : Int))) hF30 hM6 (wantedS rfl) (run_call rfl Tryd.func41 (by kernel_rfl) rfl (mapE1 (hF30.ev 45 rfl))) rfl (by decide) (rget_any tb w6 (by omega)) fun a31 w7 hb7 hF31 hM7 => ?_
              refine sq (v := (.int .u64 (getS tb : Int))) hF31 (wantedS rfl) (run_as rfl (hF31.ev 46 rfl)) rfl (by decide) fun a32 hF32 => ?_
              refine sqEnd ?_
              clear hF27 hF28 hF29 hF30 hF31 hM6
              refine nx ?_
              refine wp_seq ?_
              refine wp_seq ?_
              refine wp_region_lit ?_
              refine sq (v := (.int .u64 (getS tb : Int))) hF32 (wantedS rfl) (run_mv rfl (hF32.ev 10 rfl)) rfl (by decide) fun a33 hF33 => ?_
              refine sq (v := (.pointer (some ⟨g0, 1, none⟩))) hF33 (wantedS rfl) (run_fldA (m := 1) (s := 1) rfl (hF33.ev 2 rfl) Tryd.underlying26 rfl rfl (by kernel_rfl) (by decide)) rfl (by decide) fun a34 hF34 => ?_
              refine sq (v := (.int .u64 (c.n : Int))) hF34 (wantedS rfl) (run_ldF rfl (hF34.ev 48 rfl) (hM7.at 3 rfl) rfl (by kernel_rfl)) rfl (by decide) fun a35 hF35 => ?_
              refine sq (v := (.bool false)) hF35 (wantedS rfl) (run_lss rfl (hF35.ev 47 rfl) (hF35.ev 49 rfl) (decide_eq_false (by omega))) rfl (by decide) fun a36 hF36 => ?_
              refine sqEnd ?_
              clear hF32 hF33 hF34 hF35
              refine nx ?_
              refine wp_cond_false (hF36.ev 50 rfl) ?_
              refine wp_skip ?_
              refine nx ?_
              refine wp_seq ?_
              refine wp_seq ?_
              refine wp_region_lit ?_
              refine sq (v := (.int .u64 (getS tb : Int))) hF36 (wantedS rfl) (run_mv rfl (hF36.ev 10 rfl)) rfl (by decide) fun a37 hF37 => ?_
              refine sq (v := (.pointer (some ⟨g0, 1, none⟩))) hF37 (wantedS rfl) (run_fldA (m := 1) (s := 1) rfl (hF37.ev 2 rfl) Tryd.underlying26 rfl rfl (by kernel_rfl) (by decide)) rfl (by decide) fun a38 hF38 => ?_
              refine sq (v := (.int .u64 (c.n : Int))) hF38 (wantedS rfl) (run_ldF rfl (hF38.ev 53 rfl) (hM7.at 3 rfl) rfl (by kernel_rfl)) rfl (by decide) fun a39 hF39 => ?_
              refine sq (v := (.int .u64 ((getS tb - c.n : Nat) : Int))) hF39 (wantedS rfl) (run_sub (r := ((getS tb - c.n : Nat) : Int)) rfl (hF39.ev 52 rfl) (hF39.ev 54 rfl) (by rw [IntKind.wrap_u64]; omega)) rfl (by decide) fun a40 hF40 => ?_
              refine sq (v := (.bool false)) hF40 (wantedS rfl) (run_gtr rfl (hF40.ev 55 rfl) rfl (decide_eq_false (by omega))) rfl (by decide) fun a41 hF41 => ?_
              refine sq (v := (.bool false)) hF41 (wantedS rfl) (run_mv rfl (hF41.ev 56 rfl)) rfl (by decide) fun a42 hF42 => ?_
              refine sq (v := (.int .u64 (getS tb : Int))) hF42 (wantedG hF42 rfl rfl rfl rfl rfl) (run_mv rfl (hF42.ev 10 rfl)) rfl (by decide) fun a43 hF43 => ?_
              refine sq (v := (.bool false)) hF43 (wantedG hF43 rfl rfl rfl rfl rfl) (run_eqi rfl (hF43.ev 58 rfl) rfl (beq_eq_false_iff_ne.2 (by omega))) rfl (by decide) fun a44 hF44 => ?_
              refine sq (v := (.bool false)) hF44 (wantedS rfl) (run_pick rfl (hF44.ev 57 rfl) rfl (hF44.ev 59 rfl)) rfl (by decide) fun a45 hF45 => ?_
              refine sqEnd ?_
              clear hF36 hF37 hF38 hF39 hF40 hF41 hF42 hF43 hF44
              refine nx ?_
              refine wp_cond_false (hF45.ev 60 rfl) ?_
              refine wp_skip ?_
              refine nx ?_
              refine wp_seq ?_
              refine wp_region_lit ?_
              refine sq (v := (.pointer (some ⟨g0, 2, none⟩))) hF45 (wantedS rfl) (run_fldA (m := 32) (s := 2) rfl (hF45.ev 2 rfl) Tryd.underlying26 rfl rfl (by kernel_rfl) (by decide)) rfl (by decide) fun a46 hF46 => ?_
              refine sq (v := (.agg (cells8 c.k))) hF46 (wantedS rfl) (run_ldK rfl (hF46.ev 62 rfl) (hM7.at 3 rfl) hLc) rfl (by decide) fun a47 hF47 => ?_
              refine sqNew (cs := (cells8 (List.replicate 32 0))) (t := 24) hF47 hM7 (wantedS rfl) (run_alloc rfl (by kernel_rfl)) rfl (by decide) fun g5 a48 w8 hgg5 hb8 hF48 hM8 => ?_
              refine sqStore (i := 0) hF48 hM8 rfl rfl rfl (hF48.ev 11 rfl) (hF48.ev 63 rfl) rfl sz32k (szOf hLc) (szOf List.length_replicate) (cells8_one _) fun a49 w9 hF49 hM9 => ?_
              refine sqEnd ?_
              clear hF45 hF46 hF47 hF48 hM7 hM8
              refine nx ?_
              refine wp_seq ?_
              refine wp_seq ?_
              refine wp_region_lit ?_
              refine sq (v := (.pointer (some ⟨g0, 1, none⟩))) hF49 (wantedS rfl) (run_fldA (m := 1) (s := 1) rfl (hF49.ev 2 rfl) Tryd.underlying26 rfl rfl (by kernel_rfl) (by decide)) rfl (by decide) fun a50 hF50 => ?_
              refine sq (v := (.int .u64 (c.n : Int))) hF50 (wantedS rfl) (run_ldF rfl (hF50.ev 64 rfl) (hM9.at 4 rfl) rfl (by kernel_rfl)) rfl (by decide) fun a51 hF51 => ?_
              refine sq (v := (.int .u64 (c.n : Int))) hF51 (wantedS rfl) (run_as rfl (hF51.ev 65 rfl)) rfl (by decide) fun a52 hF52 => ?_
              refine sqEnd ?_
              clear hF49 hF50 hF51
              refine nx ?_
              refine wp_block ?_
              refine wkLoop (fun m a w2 => ∃ i : Nat, i ≤ N ∧ m = N - i ∧ Fr a 98 [(2, (.pointer (some ⟨g0, 0, none⟩))), (4, (.pointer (some ⟨g1, 0, none⟩))), (7, (.pointer (some ⟨g2, 0, none⟩))), (8, (.slice (some ⟨gr, 0, none⟩) X.length cr)), (10, (.int .u64 (getS tb : Int))), (11, (.pointer (some ⟨g5, 0, none⟩))), (12, .int .u64 ((c.n + i : Nat) : Int))] ∧ Mem w ([(g5, isB 24 (cells8 (nxS c.k i))), (gr, isRow 9 1 X.length (X.map tx)), (g2, isB 26 (chA noCh)), (g1, isB 26 (chA noCh)), (g0, isB 26 (chA c))]) w2) N ⟨0, Nat.zero_le _, rfl, hF52.sub ⟨rfl, rfl, rfl, rfl, rfl, rfl, rfl, trivial⟩, hM9⟩ ?_
              rintro m a0 w40 ⟨i, hi, rfl, hF40, hM40⟩
              by_cases hiN : i < N
              · skip
                refine wp_seq ?_
                refine wp_seq ?_
                refine wp_region_lit ?_
                refine sq (v := (.int .u64 ((c.n + i : Nat) : Int))) hF40 (wantedS rfl) (run_mv rfl (hF40.ev 12 rfl)) rfl (by decide) fun a41 hF41 => ?_
                refine sq (v := (.int .u64 (getS tb : Int))) hF41 (wantedS rfl) (run_mv rfl (hF41.ev 10 rfl)) rfl (by decide) fun a42 hF42 => ?_
                refine sq (v := (.bool true)) hF42 (wantedS rfl) (run_lss rfl (hF42.ev 66 rfl) (hF42.ev 67 rfl) (decide_eq_true (by omega))) rfl (by decide) fun a43 hF43 => ?_
                refine sqEnd ?_
                clear hF40 hF41 hF42
                refine nx ?_
                refine wp_cond_true (hF43.ev 68 rfl) ?_
                refine wp_skip ?_
                refine nx ?_
                refine wp_seq ?_
                refine wp_block ?_
                refine wp_region_lit ?_
                refine sq (v := (.agg (cells8 (nxS c.k i)))) hF43 (wantedS rfl) (run_ldB rfl (hF43.ev 11 rfl) (hM40.at 0 rfl) Tryd.underlying24 rfl sz32k (szOf (nxS_len hLc i))) rfl (by decide) fun a44 hF44 => ?_
                refine sqC (v := (.agg (cells8 (nextS (nxS c.k i))))) hF44 hM40 (wantedS rfl) (run_call rfl Tryd.func22 (by kernel_rfl) rfl (mapE1 (hF44.ev 71 rfl))) rfl (by decide) (rnext_any (nxS c.k i) w40 (nxS_len hLc i)) fun a45 w41 hb41 hF45 hM41 => ?_
                refine sqStore (i := 0) hF45 hM41 rfl rfl rfl (hF45.ev 11 rfl) (hF45.ev 72 rfl) rfl sz32k (szOf (nextS_len _)) (szOf (nxS_len hLc i)) (cells8_one _) fun a46 w42 hF46 hM42 => ?_
                refine sqEnd ?_
                clear hF43 hF44 hF45 hM40 hM41
                refine bkEnd ?_
                refine nx ?_
                refine wp_region_lit ?_
                refine sq (v := (.int .u64 ((c.n + i : Nat) : Int))) hF46 (wantedS rfl) (run_mv rfl (hF46.ev 12 rfl)) rfl (by decide) fun a47 hF47 => ?_
                refine sq (v := (.int .u64 ((c.n + (i + 1) : Nat) : Int))) hF47 (wantedS rfl) (run_add (r := ((c.n + (i + 1) : Nat) : Int)) rfl (hF47.ev 69 rfl) rfl (by rw [IntKind.wrap_u64]; omega)) rfl (by decide) fun a48 hF48 => ?_
                refine sq (v := (.int .u64 ((c.n + (i + 1) : Nat) : Int))) hF48 (wantedS rfl) (run_as rfl (hF48.ev 70 rfl)) rfl (by decide) fun a49 hF49 => ?_
                refine sqEnd ?_
                clear hF46 hF47 hF48
                refine nx ?_
                exact ⟨_, by omega, i + 1, by omega, rfl, hF49.sub ⟨rfl, rfl, rfl, rfl, rfl, rfl, rfl, trivial⟩, hM42⟩
              · have hie : i = N := by omega
                rw [hie] at hM40
                refine wp_seq ?_
                refine wp_seq ?_
                refine wp_region_lit ?_
                refine sq (v := (.int .u64 ((c.n + i : Nat) : Int))) hF40 (wantedS rfl) (run_mv rfl (hF40.ev 12 rfl)) rfl (by decide) fun a41 hF41 => ?_
                refine sq (v := (.int .u64 (getS tb : Int))) hF41 (wantedS rfl) (run_mv rfl (hF41.ev 10 rfl)) rfl (by decide) fun a42 hF42 => ?_
                refine sq (v := (.bool false)) hF42 (wantedS rfl) (run_lss rfl (hF42.ev 66 rfl) (hF42.ev 67 rfl) (decide_eq_false (by omega))) rfl (by decide) fun a43 hF43 => ?_
                refine sqEnd ?_
                clear hF40 hF41 hF42
                refine nx ?_
                refine wp_cond_false (hF43.ev 68 rfl) ?_
                refine wp_exit ?_
                refine nxExit ?_
                refine nxExit ?_
                refine bkHere ?_
                refine nx ?_
                refine wp_seq ?_
                obtain ⟨KL, hKL⟩ : ∃ KL, KL = [kval (.agg (cells8 (nxS c.k N))), kval (.agg (cells8 (keyedS (nxS c.k N) [115, 101, 110, 100]))), kval (.pointer (some ⟨g0, 0, none⟩)), kval (.string ⟨c.m.toArray⟩), kval (.int .u64 (getS tb : Int)), kval (.string ⟨(headS c.m (getS tb)).toArray⟩), kval (.slice (some ⟨gr, 0, none⟩) X.length cr), kval (slPtr (.slice (some ⟨gr, 0, none⟩) X.length cr) (2 * 1)), kval (.string ⟨tc.toArray⟩), kval (.tuple #[(.string ⟨((openS (keyedS (nxS c.k N) [115, 101, 110, 100]) (headS c.m (getS tb)) tc).1).toArray⟩), (.int .i64 ((openS (keyedS (nxS c.k N) [115, 101, 110, 100]) (headS c.m (getS tb)) tc).2))]), kval (.tuple #[(.string ⟨((openS (keyedS (nxS c.k N) [115, 101, 110, 100]) (headS c.m (getS tb)) tc).1).toArray⟩), (.int .i64 ((openS (keyedS (nxS c.k N) [115, 101, 110, 100]) (headS c.m (getS tb)) tc).2))]), kval (.string ⟨((openS (keyedS (nxS c.k N) [115, 101, 110, 100]) (headS c.m (getS tb)) tc).1).toArray⟩), kval (.int .i64 ((openS (keyedS (nxS c.k N) [115, 101, 110, 100]) (headS c.m (getS tb)) tc).2)), kval (.string ⟨((openS (keyedS (nxS c.k N) [115, 101, 110, 100]) (headS c.m (getS tb)) tc).1).toArray⟩), kval (.int .i64 ((openS (keyedS (nxS c.k N) [115, 101, 110, 100]) (headS c.m (getS tb)) tc).2))] := ⟨_, rfl⟩
                have K0 : KL.getD 0 kany = kval (.agg (cells8 (nxS c.k N))) := by rw [hKL]; rfl
                have K1 : KL.getD 1 kany = kval (.agg (cells8 (keyedS (nxS c.k N) [115, 101, 110, 100]))) := by rw [hKL]; rfl
                have K2 : KL.getD 2 kany = kval (.pointer (some ⟨g0, 0, none⟩)) := by rw [hKL]; rfl
                have K3 : KL.getD 3 kany = kval (.string ⟨c.m.toArray⟩) := by rw [hKL]; rfl
                have K4 : KL.getD 4 kany = kval (.int .u64 (getS tb : Int)) := by rw [hKL]; rfl
                have K5 : KL.getD 5 kany = kval (.string ⟨(headS c.m (getS tb)).toArray⟩) := by rw [hKL]; rfl
                have K6 : KL.getD 6 kany = kval (.slice (some ⟨gr, 0, none⟩) X.length cr) := by rw [hKL]; rfl
                have K7 : KL.getD 7 kany = kval (slPtr (.slice (some ⟨gr, 0, none⟩) X.length cr) (2 * 1)) := by rw [hKL]; rfl
                have K8 : KL.getD 8 kany = kval (.string ⟨tc.toArray⟩) := by rw [hKL]; rfl
                have K9 : KL.getD 9 kany = kval (.tuple #[(.string ⟨((openS (keyedS (nxS c.k N) [115, 101, 110, 100]) (headS c.m (getS tb)) tc).1).toArray⟩), (.int .i64 ((openS (keyedS (nxS c.k N) [115, 101, 110, 100]) (headS c.m (getS tb)) tc).2))]) := by rw [hKL]; rfl
                have K10 : KL.getD 10 kany = kval (.tuple #[(.string ⟨((openS (keyedS (nxS c.k N) [115, 101, 110, 100]) (headS c.m (getS tb)) tc).1).toArray⟩), (.int .i64 ((openS (keyedS (nxS c.k N) [115, 101, 110, 100]) (headS c.m (getS tb)) tc).2))]) := by rw [hKL]; rfl
                have K11 : KL.getD 11 kany = kval (.string ⟨((openS (keyedS (nxS c.k N) [115, 101, 110, 100]) (headS c.m (getS tb)) tc).1).toArray⟩) := by rw [hKL]; rfl
                have K12 : KL.getD 12 kany = kval (.int .i64 ((openS (keyedS (nxS c.k N) [115, 101, 110, 100]) (headS c.m (getS tb)) tc).2)) := by rw [hKL]; rfl
                have K13 : KL.getD 13 kany = kval (.string ⟨((openS (keyedS (nxS c.k N) [115, 101, 110, 100]) (headS c.m (getS tb)) tc).1).toArray⟩) := by rw [hKL]; rfl
                have K14 : KL.getD 14 kany = kval (.int .i64 ((openS (keyedS (nxS c.k N) [115, 101, 110, 100]) (headS c.m (getS tb)) tc).2)) := by rw [hKL]; rfl
                clear hKL
                refine wp_region_kd 98 (by kernel_rfl) (by kernel_rfl) (by kernel_rfl) hF43.size KL ?_ ?_
                · refine ⟨?_, ?_, ?_, ?_, ?_, ?_, ?_, ?_, ?_, ?_, ?_, ?_, ?_, ?_, ?_, trivial⟩
                  · refine asks_mk fun a W hS hh hd => ⟨wanted_yes rfl, ?_⟩
                    exact giv_run (run_ldB rfl (eval_tmp (hh 11 _ rfl (hF43.at 11 rfl))) ((hM40.grow hS).at 0 rfl) Tryd.underlying24 rfl sz32k (szOf (nxS_len hLc N))) K0
                  · refine asks_mk fun a W hS hh hd => ⟨wanted_yes rfl, ?_⟩
                    exact giv_call (run_call rfl Tryd.func16 (by kernel_rfl) rfl (mapE2 (eval_tmp (hd.val (j := 0) (s := 74) (by kernel_rfl) K0)) rfl)) (rof43_any (nxS c.k N) [115, 101, 110, 100] W (nxS_len hLc N) (by first | omega | decide | (simp; done) | (simp; omega))) K1
                  · refine asks_mk fun a W hS hh hd => ⟨wanted_yes rfl, ?_⟩
                    exact giv_run (run_fldA (m := 1) (s := 0) rfl (eval_tmp (hh 2 _ rfl (hF43.at 2 rfl))) Tryd.underlying26 rfl rfl (by kernel_rfl) (by decide)) K2
                  · refine asks_mk fun a W hS hh hd => ⟨wanted_yes rfl, ?_⟩
                    exact giv_run (run_ldF rfl (eval_tmp (hd.val (j := 2) (s := 76) (by kernel_rfl) K2)) ((hM40.grow hS).at 4 rfl) rfl (by kernel_rfl)) K3
                  · refine asks_mk fun a W hS hh hd => ⟨wanted_yes rfl, ?_⟩
                    exact giv_run (run_mv rfl (eval_tmp (hh 10 _ rfl (hF43.at 10 rfl)))) K4
                  · refine asks_mk fun a W hS hh hd => ⟨wanted_yes rfl, ?_⟩
                    exact giv_call (run_call rfl Tryd.func15 (by kernel_rfl) rfl (mapE2 (eval_tmp (hd.val (j := 3) (s := 77) (by kernel_rfl) K3)) (eval_tmp (hd.val (j := 4) (s := 78) (by kernel_rfl) K4)))) (rhead_any c.m (getS tb) W (by first | omega | decide | (simp; done) | (simp; omega)) (by omega)) K5
                  · refine asks_mk fun a W hS hh hd => ⟨wanted_yes rfl, ?_⟩
                    exact giv_run (run_mv rfl (eval_tmp (hh 8 _ rfl (hF43.at 8 rfl)))) K6
                  · refine asks_mk fun a W hS hh hd => ⟨wanted_yes rfl, ?_⟩
                    exact giv_run (run_atP (i := 2) rfl (eval_tmp (hd.val (j := 6) (s := 80) (by kernel_rfl) K6)) rfl rfl (slOfRow (c := cr) ((hM40.grow hS).ob 1 rfl)) (by omega) elStr.un (by kernel_rfl)) K7
                  · refine asks_mk fun a W hS hh hd => ⟨wanted_yes rfl, ?_⟩
                    exact giv_run (run_ldP rfl (eval_tmp (hd.val (j := 7) (s := 81) (by kernel_rfl) K7)) (slOfRow (c := cr) ((hM40.grow hS).ob 1 rfl)) (map_at hXc) (by kernel_rfl)) K8
                  · refine asks_mk fun a W hS hh hd => ⟨wanted_yes rfl, ?_⟩
                    exact giv_call (run_call rfl Tryd.func42 (by kernel_rfl) rfl (mapE3 (eval_tmp (hd.val (j := 1) (s := 75) (by kernel_rfl) K1)) (eval_tmp (hd.val (j := 5) (s := 79) (by kernel_rfl) K5)) (eval_tmp (hd.val (j := 8) (s := 82) (by kernel_rfl) K8)))) (ropen_any (keyedS (nxS c.k N) [115, 101, 110, 100]) (headS c.m (getS tb)) tc W (keyedS_len _ _) (by first | omega | decide | (simp; done) | (simp; omega))) K9
                  · refine asks_mk fun a W hS hh hd => ⟨wanted_yes rfl, ?_⟩
                    exact giv_run (run_mv rfl (eval_tmp (hd.val (j := 9) (s := 83) (by kernel_rfl) K9))) K10
                  · refine asks_mk fun a W hS hh hd => ⟨wanted_yes rfl, ?_⟩
                    exact giv_run (run_ext rfl (eval_tmp (hd.val (j := 10) (s := 73) (by kernel_rfl) K10)) rfl) K11
                  · refine asks_mk fun a W hS hh hd => ⟨wanted_yes rfl, ?_⟩
                    exact giv_run (run_ext rfl (eval_tmp (hd.val (j := 10) (s := 73) (by kernel_rfl) K10)) rfl) K12
                  · refine asks_mk fun a W hS hh hd => ⟨wanted_yes rfl, ?_⟩
                    exact giv_run (run_as rfl (eval_tmp (hd.val (j := 11) (s := 84) (by kernel_rfl) K11))) K13
                  · refine asks_mk fun a W hS hh hd => ⟨wanted_yes rfl, ?_⟩
                    exact giv_run (run_as rfl (eval_tmp (hd.val (j := 12) (s := 85) (by kernel_rfl) K12))) K14
                · intro a44 w41 hb41 hK
                  have e0 := hK.val (i := 0) (s := 74) (by kernel_rfl) K0
                  have e1 := hK.val (i := 1) (s := 75) (by kernel_rfl) K1
                  have e2 := hK.val (i := 2) (s := 76) (by kernel_rfl) K2
                  have e3 := hK.val (i := 3) (s := 77) (by kernel_rfl) K3
                  have e4 := hK.val (i := 4) (s := 78) (by kernel_rfl) K4
                  have e5 := hK.val (i := 5) (s := 79) (by kernel_rfl) K5
                  have e6 := hK.val (i := 6) (s := 80) (by kernel_rfl) K6
                  have e7 := hK.val (i := 7) (s := 81) (by kernel_rfl) K7
                  have e8 := hK.val (i := 8) (s := 82) (by kernel_rfl) K8
                  have e9 := hK.val (i := 9) (s := 83) (by kernel_rfl) K9
                  have e10 := hK.val (i := 10) (s := 73) (by kernel_rfl) K10
                  have e11 := hK.val (i := 11) (s := 84) (by kernel_rfl) K11
                  have e12 := hK.val (i := 12) (s := 85) (by kernel_rfl) K12
                  have e13 := hK.val (i := 13) (s := 13) (by kernel_rfl) K13
                  have e14 := hK.val (i := 14) (s := 14) (by kernel_rfl) K14
                  have hF44 : Fr a44 98 [(2, (.pointer (some ⟨g0, 0, none⟩))), (4, (.pointer (some ⟨g1, 0, none⟩))), (7, (.pointer (some ⟨g2, 0, none⟩))), (8, (.slice (some ⟨gr, 0, none⟩) X.length cr)), (10, (.int .u64 (getS tb : Int))), (11, (.pointer (some ⟨g5, 0, none⟩))), (12, (.int .u64 ((c.n + i : Nat) : Int))), (13, (.string ⟨((openS (keyedS (nxS c.k N) [115, 101, 110, 100]) (headS c.m (getS tb)) tc).1).toArray⟩)), (14, (.int .i64 ((openS (keyedS (nxS c.k N) [115, 101, 110, 100]) (headS c.m (getS tb)) tc).2))), (66, (.int .u64 ((c.n + i : Nat) : Int))), (67, (.int .u64 (getS tb : Int))), (68, (.bool false))] := (hK.fr hF43 [(.agg (cells8 (nxS c.k N))), (.agg (cells8 (keyedS (nxS c.k N) [115, 101, 110, 100]))), (.pointer (some ⟨g0, 0, none⟩)), (.string ⟨c.m.toArray⟩), (.int .u64 (getS tb : Int)), (.string ⟨(headS c.m (getS tb)).toArray⟩), (.slice (some ⟨gr, 0, none⟩) X.length cr), (slPtr (.slice (some ⟨gr, 0, none⟩) X.length cr) (2 * 1)), (.string ⟨tc.toArray⟩), (.tuple #[(.string ⟨((openS (keyedS (nxS c.k N) [115, 101, 110, 100]) (headS c.m (getS tb)) tc).1).toArray⟩), (.int .i64 ((openS (keyedS (nxS c.k N) [115, 101, 110, 100]) (headS c.m (getS tb)) tc).2))]), (.tuple #[(.string ⟨((openS (keyedS (nxS c.k N) [115, 101, 110, 100]) (headS c.m (getS tb)) tc).1).toArray⟩), (.int .i64 ((openS (keyedS (nxS c.k N) [115, 101, 110, 100]) (headS c.m (getS tb)) tc).2))]), (.string ⟨((openS (keyedS (nxS c.k N) [115, 101, 110, 100]) (headS c.m (getS tb)) tc).1).toArray⟩), (.int .i64 ((openS (keyedS (nxS c.k N) [115, 101, 110, 100]) (headS c.m (getS tb)) tc).2)), (.string ⟨((openS (keyedS (nxS c.k N) [115, 101, 110, 100]) (headS c.m (getS tb)) tc).1).toArray⟩), (.int .i64 ((openS (keyedS (nxS c.k N) [115, 101, 110, 100]) (headS c.m (getS tb)) tc).2))] ⟨e0, e1, e2, e3, e4, e5, e6, e7, e8, e9, e10, e11, e12, e13, e14, trivial⟩).sub ⟨rfl, rfl, rfl, rfl, rfl, rfl, rfl, rfl, rfl, rfl, rfl, rfl, trivial⟩
                  have hM41 := hM40.grow hb41
                  clear hK K0 e0 K1 e1 K2 e2 K3 e3 K4 e4 K5 e5 K6 e6 K7 e7 K8 e8 K9 e9 K10 e10 K11 e11 K12 e12 K13 e13 K14 e14
                  clear hF43 hM40
                  refine nx ?_
                  refine wp_seq ?_
                  refine wp_seq ?_
                  refine wp_region_lit ?_
                  refine sq (v := (.int .i64 ((openS (keyedS (nxS c.k N) [115, 101, 110, 100]) (headS c.m (getS tb)) tc).2))) hF44 (wantedS rfl) (run_mv rfl (hF44.ev 14 rfl)) rfl (by decide) fun a45 hF45 => ?_
                  refine sq (v := (.bool false)) hF45 (wantedS rfl) (run_nei rfl (hF45.ev 86 rfl) rfl (bne_eq_false_iff_eq.2 hop)) rfl (by decide) fun a46 hF46 => ?_
                  refine sqEnd ?_
                  clear hF44 hF45
                  refine nx ?_
                  refine wp_cond_false (hF46.ev 87 rfl) ?_
                  refine wp_skip ?_
                  refine nx ?_
                  refine wp_seq ?_
                  obtain ⟨KL, hKL⟩ : ∃ KL : List (Kr w41.heap.size), KL = [krval (.pointer (some ⟨g0, 0, none⟩)), krval (.string ⟨c.m.toArray⟩), krval (.int .u64 (getS tb : Int)), krval (.int .u64 ((getS tb + 1 : Nat) : Int)), krval (.agg (cells8 (nxS c.k N))), krval (.agg (cells8 (nextS (nxS c.k N)))), krval (.agg (chA (Ch.mk c.m (getS tb + 1) (nextS (nxS c.k N))))), krval (.string ⟨((openS (keyedS (nxS c.k N) [115, 101, 110, 100]) (headS c.m (getS tb)) tc).1).toArray⟩), krblk g1 26 (chA (Ch.mk c.m (getS tb + 1) (nextS (nxS c.k N)))), krval (.string ⟨((openS (keyedS (nxS c.k N) [115, 101, 110, 100]) (headS c.m (getS tb)) tc).1).toArray⟩), krval (.int .i64 0)] := ⟨_, rfl⟩
                  have K0 : KL.getD 0 krany = krval (.pointer (some ⟨g0, 0, none⟩)) := by rw [hKL]; rfl
                  have K1 : KL.getD 1 krany = krval (.string ⟨c.m.toArray⟩) := by rw [hKL]; rfl
                  have K2 : KL.getD 2 krany = krval (.int .u64 (getS tb : Int)) := by rw [hKL]; rfl
                  have K3 : KL.getD 3 krany = krval (.int .u64 ((getS tb + 1 : Nat) : Int)) := by rw [hKL]; rfl
                  have K4 : KL.getD 4 krany = krval (.agg (cells8 (nxS c.k N))) := by rw [hKL]; rfl
                  have K5 : KL.getD 5 krany = krval (.agg (cells8 (nextS (nxS c.k N)))) := by rw [hKL]; rfl
                  have K6 : KL.getD 6 krany = krval (.agg (chA (Ch.mk c.m (getS tb + 1) (nextS (nxS c.k N))))) := by rw [hKL]; rfl
                  have K7 : KL.getD 7 krany = krval (.string ⟨((openS (keyedS (nxS c.k N) [115, 101, 110, 100]) (headS c.m (getS tb)) tc).1).toArray⟩) := by rw [hKL]; rfl
                  have K8 : KL.getD 8 krany = krblk g1 26 (chA (Ch.mk c.m (getS tb + 1) (nextS (nxS c.k N)))) := by rw [hKL]; rfl
                  have K9 : KL.getD 9 krany = krval (.string ⟨((openS (keyedS (nxS c.k N) [115, 101, 110, 100]) (headS c.m (getS tb)) tc).1).toArray⟩) := by rw [hKL]; rfl
                  have K10 : KL.getD 10 krany = krval (.int .i64 0) := by rw [hKL]; rfl
                  have hKR : KL.map (·.row) = List.replicate 8 none ++ some g1 :: List.replicate 2 none := by rw [hKL]; rfl
                  clear hKL
                  refine wp_region_k1 (j := 3) 98 8 2 (by kernel_rfl) (by kernel_rfl) (by kernel_rfl) hF46.size KL hM41 rfl (chA_size noCh_len) K8 hKR ?_ (by kernel_rfl) fun a47 w42 hgr42 hM42 hK => ?_
                  · refine ⟨?_, ?_, ?_, ?_, ?_, ?_, ?_, ?_, ?_, ?_, ?_, trivial⟩
                    · refine asksr_mk fun a W hS hh hd => ⟨wanted_yes rfl, ?_⟩
                      exact givr_run (run_fldA (m := 1) (s := 0) rfl (eval_tmp (hh 2 _ rfl (hF46.at 2 rfl))) Tryd.underlying26 rfl rfl (by kernel_rfl) (by decide)) K0
                    · refine asksr_mk fun a W hS hh hd => ⟨wanted_yes rfl, ?_⟩
                      exact givr_run (run_ldF rfl (eval_tmp (hd.val (j := 0) (s := 90) (by kernel_rfl) K0)) ((hM41.alm 3 rfl hS).at 4 rfl) rfl (by kernel_rfl)) K1
                    · refine asksr_mk fun a W hS hh hd => ⟨wanted_yes rfl, ?_⟩
                      exact givr_run (run_mv rfl (eval_tmp (hh 10 _ rfl (hF46.at 10 rfl)))) K2
                    · refine asksr_mk fun a W hS hh hd => ⟨wanted_yes rfl, ?_⟩
                      exact givr_run (run_add (r := ((getS tb + 1 : Nat) : Int)) rfl (eval_tmp (hd.val (j := 2) (s := 92) (by kernel_rfl) K2)) rfl (by rw [IntKind.wrap_u64]; omega)) K3
                    · refine asksr_mk fun a W hS hh hd => ⟨wanted_yes rfl, ?_⟩
                      exact givr_run (run_ldB rfl (eval_tmp (hh 11 _ rfl (hF46.at 11 rfl))) ((hM41.alm 3 rfl hS).at 0 rfl) Tryd.underlying24 rfl sz32k (szOf (nxS_len hLc N))) K4
                    · refine asksr_mk fun a W hS hh hd => ⟨wanted_yes rfl, ?_⟩
                      exact givr_call (run_call rfl Tryd.func22 (by kernel_rfl) rfl (mapE1 (eval_tmp (hd.val (j := 4) (s := 94) (by kernel_rfl) K4)))) (rnext_any (nxS c.k N) W (nxS_len hLc N)) K5
                    · refine asksr_mk fun a W hS hh hd => ⟨wanted_yes rfl, ?_⟩
                      exact givr_run (run_blt (vs := #[(0, .string ⟨c.m.toArray⟩), (1, .int .u64 ((getS tb + 1 : Nat) : Int)), (2, .agg (cells8 (nextS (nxS c.k N))))]) (cs := chA (Ch.mk c.m (getS tb + 1) (nextS (nxS c.k N)))) rfl (bltE3 (eval_tmp (hd.val (j := 1) (s := 91) (by kernel_rfl) K1)) (eval_tmp (hd.val (j := 3) (s := 93) (by kernel_rfl) K3)) (eval_tmp (hd.val (j := 5) (s := 95) (by kernel_rfl) K5))) (built_ch _ (getS tb + 1) _ (nextS_len _))) K6
                    · refine asksr_mk fun a W hS hh hd => ⟨wanted_yes rfl, ?_⟩
                      exact givr_run (run_mv rfl (eval_tmp (hh 13 _ rfl (hF46.at 13 rfl)))) K7
                    · refine asksr_mk fun a W hS hh hd => ⟨wanted_yes rfl, ?_⟩
                      exact givr_store hS 26 _ _ rfl g1 34 26 (chA (Ch.mk c.m (getS tb + 1) (nextS (nxS c.k N)))) (eval_tmp (hh 4 _ rfl (hF46.at 4 rfl))) (eval_tmp (hd.val (j := 6) (s := 96) (by kernel_rfl) K6)) (by simp) szCh (chA_sizeM (nextS_len _)) (chA_one _) K8
                    · refine asksr_mk fun a W hS hh hd => ⟨wanted_yes rfl, ?_⟩
                      exact givr_run (run_as rfl (eval_tmp (hd.val (j := 7) (s := 97) (by kernel_rfl) K7))) K9
                    · refine asksr_mk fun a W hS hh hd => ⟨wanted_yes rfl, ?_⟩
                      exact givr_run (run_as rfl rfl) K10
                  have e0 := hK.rval (i := 0) (s := 90) (by kernel_rfl) K0
                  have e1 := hK.rval (i := 1) (s := 91) (by kernel_rfl) K1
                  have e2 := hK.rval (i := 2) (s := 92) (by kernel_rfl) K2
                  have e3 := hK.rval (i := 3) (s := 93) (by kernel_rfl) K3
                  have e4 := hK.rval (i := 4) (s := 94) (by kernel_rfl) K4
                  have e5 := hK.rval (i := 5) (s := 95) (by kernel_rfl) K5
                  have e6 := hK.rval (i := 6) (s := 96) (by kernel_rfl) K6
                  have e7 := hK.rval (i := 7) (s := 97) (by kernel_rfl) K7
                  have e8 : True := trivial
                  have e9 := hK.rval (i := 9) (s := 5) (by kernel_rfl) K9
                  have e10 := hK.rval (i := 10) (s := 6) (by kernel_rfl) K10
                  have hF47 : Fr a47 98 [(2, (.pointer (some ⟨g0, 0, none⟩))), (4, (.pointer (some ⟨g1, 0, none⟩))), (5, (.string ⟨((openS (keyedS (nxS c.k N) [115, 101, 110, 100]) (headS c.m (getS tb)) tc).1).toArray⟩)), (6, (.int .i64 0)), (7, (.pointer (some ⟨g2, 0, none⟩))), (8, (.slice (some ⟨gr, 0, none⟩) X.length cr)), (10, (.int .u64 (getS tb : Int))), (11, (.pointer (some ⟨g5, 0, none⟩))), (12, (.int .u64 ((c.n + i : Nat) : Int))), (13, (.string ⟨((openS (keyedS (nxS c.k N) [115, 101, 110, 100]) (headS c.m (getS tb)) tc).1).toArray⟩)), (14, (.int .i64 ((openS (keyedS (nxS c.k N) [115, 101, 110, 100]) (headS c.m (getS tb)) tc).2))), (66, (.int .u64 ((c.n + i : Nat) : Int))), (67, (.int .u64 (getS tb : Int))), (68, (.bool false)), (86, (.int .i64 ((openS (keyedS (nxS c.k N) [115, 101, 110, 100]) (headS c.m (getS tb)) tc).2))), (87, (.bool false)), (96, (.agg (chA (Ch.mk c.m (getS tb + 1) (nextS (nxS c.k N)))))), (97, (.string ⟨((openS (keyedS (nxS c.k N) [115, 101, 110, 100]) (headS c.m (getS tb)) tc).1).toArray⟩))] := (hK.fr hF46 [(.pointer (some ⟨g0, 0, none⟩)), (.string ⟨c.m.toArray⟩), (.int .u64 (getS tb : Int)), (.int .u64 ((getS tb + 1 : Nat) : Int)), (.agg (cells8 (nxS c.k N))), (.agg (cells8 (nextS (nxS c.k N)))), (.agg (chA (Ch.mk c.m (getS tb + 1) (nextS (nxS c.k N))))), (.string ⟨((openS (keyedS (nxS c.k N) [115, 101, 110, 100]) (headS c.m (getS tb)) tc).1).toArray⟩), undef, (.string ⟨((openS (keyedS (nxS c.k N) [115, 101, 110, 100]) (headS c.m (getS tb)) tc).1).toArray⟩), (.int .i64 0)] ⟨e0, e1, e2, e3, e4, e5, e6, e7, e8, e9, e10, trivial⟩).sub ⟨rfl, rfl, rfl, rfl, rfl, rfl, rfl, rfl, rfl, rfl, rfl, rfl, rfl, rfl, rfl, rfl, rfl, rfl, trivial⟩
                  clear hK hKR K0 e0 K1 e1 K2 e2 K3 e3 K4 e4 K5 e5 K6 e6 K7 e7 K8 e8 K9 e9 K10 e10
                  clear hF46 hM41
                  refine nx ?_
                  refine wp_ret ?_
                  exact retBTT hF47 rfl rfl (hM42.at 3 rfl) Tryd.underlying26 rfl szCh (chA_sizeM (nextS_len _)) rfl rfl ⟨by rw [hs], hM42.below⟩
          · have hs : takeS c f = (noCh, [], (openS (keyedS (nxS c.k N) [115, 101, 110, 100]) (headS c.m (getS tb)) tc).2) := by rw [hs3, if_neg hop]
            refine walk_enter Tryd.func19 rfl rfl rfl fun a0 hF0 => ?_
            have hM0 := Mem.new w
            refine wp_seq ?_
            refine wp_region_lit ?_
            refine sqNew (cs := (chA c)) (t := 26) hF0 hM0 (wantedS rfl) (run_box rfl (hF0.ev 0 rfl)) rfl (by decide) fun g0 a1 w1 hgg0 hb1 hF1 hM1 => ?_
            refine sqNew (cs := (chA noCh)) (t := 26) hF1 hM1 (wantedS rfl) (run_alloc rfl (by kernel_rfl)) rfl (by decide) fun g1 a2 w2 hgg1 hb2 hF2 hM2 => ?_
            refine sq (v := (.string ⟨List.toArray []⟩)) hF2 (wantedS rfl) (run_as rfl rfl) rfl (by decide) fun a3 hF3 => ?_
            refine sq (v := (.int .i64 0)) hF3 (wantedS rfl) (run_as rfl rfl) rfl (by decide) fun a4 hF4 => ?_
            refine sqEnd ?_
            clear hF0 hF1 hF2 hF3 hM0 hM1
            refine nx ?_
            refine wp_seq ?_
            refine wp_region_lit ?_
            refine sq (v := (.agg (chA noCh))) hF4 (wantedS rfl) (run_blt (vs := #[]) (cs := chA noCh) rfl (by simp) built_ch0) rfl (by decide) fun a5 hF5 => ?_
            refine sqNew (cs := (chA noCh)) (t := 26) hF5 hM2 (wantedS rfl) (run_alloc rfl (by kernel_rfl)) rfl (by decide) fun g2 a6 w3 hgg2 hb3 hF6 hM3 => ?_
            refine sqStore (i := 0) hF6 hM3 rfl rfl rfl (hF6.ev 7 rfl) (hF6.ev 15 rfl) rfl szCh (chA_size noCh_len) (chA_size noCh_len) (chA_one _) fun a7 w4 hF7 hM4 => ?_
            refine sqEnd ?_
            clear hF4 hF5 hF6 hM2 hM3
            refine nx ?_
            refine wp_seq ?_
            refine wp_region_lit ?_
            refine sq (v := (.string ⟨f.toArray⟩)) hF7 (wantedS rfl) (run_mv rfl (hF7.ev 1 rfl)) rfl (by decide) fun a8 hF8 => ?_
            refine sqT (T := fun u wx => (∃ v, u = .tuple #[v, .int .i64 0] ∧ wx.ownsRow w4.heap.size 9 1 v X.length (X.map tx)) ∧ Below w4.heap.size w4 wx) hF8 (wantedS rfl) (run_call rfl Tryd.func14 (by kernel_rfl) rfl (mapE1 (hF8.ev 17 rfl))) rfl (by decide) (rtexts_ok hT w4 (by omega)) fun u3 a9 w5 hT5 hF9 => ?_
            obtain ⟨⟨v4, rfl, hr5⟩, hb5⟩ := hT5
            obtain ⟨gr, cr, rfl, hcapgr, hggr, hM5⟩ := OwnR.ofCallMem hM4 hb5 hr5 (by omega)
            refine sq (v := (.tuple #[(.slice (some ⟨gr, 0, none⟩) X.length cr), (.int .i64 0)])) hF9 (wantedS rfl) (run_mv rfl (hF9.ev 18 rfl)) rfl (by decide) fun a10 hF10 => ?_
            refine sq (v := (.slice (some ⟨gr, 0, none⟩) X.length cr)) hF10 (wantedS rfl) (run_ext rfl (hF10.ev 16 rfl) rfl) rfl (by decide) fun a11 hF11 => ?_
            refine sq (v := (.int .i64 0)) hF11 (wantedS rfl) (run_ext rfl (hF11.ev 16 rfl) rfl) rfl (by decide) fun a12 hF12 => ?_
            refine sq (v := (.slice (some ⟨gr, 0, none⟩) X.length cr)) hF12 (wantedS rfl) (run_as rfl (hF12.ev 19 rfl)) rfl (by decide) fun a13 hF13 => ?_
            refine sq (v := (.int .i64 0)) hF13 (wantedS rfl) (run_as rfl (hF13.ev 20 rfl)) rfl (by decide) fun a14 hF14 => ?_
            refine sqEnd ?_
            clear hF7 hF8 hF9 hF10 hF11 hF12 hF13 hM4
            refine nx ?_
            refine wp_seq ?_
            refine wp_seq ?_
            refine wp_region_lit ?_
            refine sq (v := (.int .i64 0)) hF14 (wantedS rfl) (run_mv rfl (hF14.ev 9 rfl)) rfl (by decide) fun a15 hF15 => ?_
            refine sq (v := (.bool false)) hF15 (wantedS rfl) (run_nei rfl (hF15.ev 21 rfl) rfl (bne_eq_false_iff_eq.2 (by omega))) rfl (by decide) fun a16 hF16 => ?_
            refine sqEnd ?_
            clear hF14 hF15
            refine nx ?_
            refine wp_cond_false (hF16.ev 22 rfl) ?_
            refine wp_skip ?_
            refine nx ?_
            refine wp_seq ?_
            refine wp_seq ?_
            refine wp_region_lit ?_
            refine sq (v := (.slice (some ⟨gr, 0, none⟩) X.length cr)) hF16 (wantedS rfl) (run_mv rfl (hF16.ev 8 rfl)) rfl (by decide) fun a17 hF17 => ?_
            refine sq (v := (.int .i64 (X.length : Int))) hF17 (wantedS rfl) (run_lenS rfl (hF17.ev 25 rfl) (slOfRow (c := cr) (hM5.ob 0 rfl)) rfl Tryd.underlying34) rfl (by decide) fun a18 hF18 => ?_
            refine sq (v := (.bool false)) hF18 (wantedS rfl) (run_nei rfl (hF18.ev 26 rfl) rfl (bne_eq_false_iff_eq.2 (by omega))) rfl (by decide) fun a19 hF19 => ?_
            refine sq (v := (.bool false)) hF19 (wantedS rfl) (run_mv rfl (hF19.ev 27 rfl)) rfl (by decide) fun a20 hF20 => ?_
            refine sq (v := (.slice (some ⟨gr, 0, none⟩) X.length cr)) hF20 (wantedG hF20 rfl rfl rfl rfl rfl) (run_mv rfl (hF20.ev 8 rfl)) rfl (by decide) fun a21 hF21 => ?_
            refine sq (v := (slPtr (.slice (some ⟨gr, 0, none⟩) X.length cr) (1 * 1))) hF21 (wantedG hF21 rfl rfl rfl rfl rfl) (run_atP (i := 1) rfl (hF21.ev 29 rfl) rfl rfl (slOfRow (c := cr) (hM5.ob 0 rfl)) (by omega) elStr.un (by kernel_rfl)) rfl (by decide) fun a22 hF22 => ?_
            refine sq (v := (.string ⟨tb.toArray⟩)) hF22 (wantedG hF22 rfl rfl rfl rfl rfl) (run_ldP rfl (hF22.ev 30 rfl) (slOfRow (c := cr) (hM5.ob 0 rfl)) (map_at hXb) (by kernel_rfl)) rfl (by decide) fun a23 hF23 => ?_
            refine sq (v := (.int .i64 (tb.length : Int))) hF23 (wantedG hF23 rfl rfl rfl rfl rfl) (run_len rfl (hF23.ev 31 rfl) rfl Tryd.underlying9) rfl (by decide) fun a24 hF24 => ?_
            refine sq (v := (.bool false)) hF24 (wantedG hF24 rfl rfl rfl rfl rfl) (run_nei rfl (hF24.ev 32 rfl) rfl (bne_eq_false_iff_eq.2 (by omega))) rfl (by decide) fun a25 hF25 => ?_
            refine sq (v := (.bool false)) hF25 (wantedS rfl) (run_pick rfl (hF25.ev 28 rfl) rfl (hF25.ev 33 rfl)) rfl (by decide) fun a26 hF26 => ?_
            refine sqEnd ?_
            clear hF16 hF17 hF18 hF19 hF20 hF21 hF22 hF23 hF24 hF25
            refine nx ?_
            refine wp_cond_false (hF26.ev 34 rfl) ?_
            refine wp_skip ?_
            refine nx ?_
            refine wp_seq ?_
            refine wp_seq ?_
            obtain ⟨KL, hKL⟩ : ∃ KL, KL = [kval (.slice (some ⟨gr, 0, none⟩) X.length cr), kval (slPtr (.slice (some ⟨gr, 0, none⟩) X.length cr) (0 * 1)), kval (.string ⟨ta.toArray⟩), kval (.pointer (some ⟨g0, 0, none⟩)), kval (.string ⟨c.m.toArray⟩), kval (.bool false)] := ⟨_, rfl⟩
            have K0 : KL.getD 0 kany = kval (.slice (some ⟨gr, 0, none⟩) X.length cr) := by rw [hKL]; rfl
            have K1 : KL.getD 1 kany = kval (slPtr (.slice (some ⟨gr, 0, none⟩) X.length cr) (0 * 1)) := by rw [hKL]; rfl
            have K2 : KL.getD 2 kany = kval (.string ⟨ta.toArray⟩) := by rw [hKL]; rfl
            have K3 : KL.getD 3 kany = kval (.pointer (some ⟨g0, 0, none⟩)) := by rw [hKL]; rfl
            have K4 : KL.getD 4 kany = kval (.string ⟨c.m.toArray⟩) := by rw [hKL]; rfl
            have K5 : KL.getD 5 kany = kval (.bool false) := by rw [hKL]; rfl
            clear hKL
            refine wp_region_kd 98 (by kernel_rfl) (by kernel_rfl) (by kernel_rfl) hF26.size KL ?_ ?_
            · refine ⟨?_, ?_, ?_, ?_, ?_, ?_, trivial⟩
              · refine asks_mk fun a W hS hh hd => ⟨wanted_yes rfl, ?_⟩
                exact giv_run (run_mv rfl (eval_tmp (hh 8 _ rfl (hF26.at 8 rfl)))) K0
              · refine asks_mk fun a W hS hh hd => ⟨wanted_yes rfl, ?_⟩
                exact giv_run (run_atP (i := 0) rfl (eval_tmp (hd.val (j := 0) (s := 36) (by kernel_rfl) K0)) rfl rfl (slOfRow (c := cr) ((hM5.grow hS).ob 0 rfl)) (by omega) elStr.un (by kernel_rfl)) K1
              · refine asks_mk fun a W hS hh hd => ⟨wanted_yes rfl, ?_⟩
                exact giv_run (run_ldP rfl (eval_tmp (hd.val (j := 1) (s := 37) (by kernel_rfl) K1)) (slOfRow (c := cr) ((hM5.grow hS).ob 0 rfl)) (map_at hXa) (by kernel_rfl)) K2
              · refine asks_mk fun a W hS hh hd => ⟨wanted_yes rfl, ?_⟩
                exact giv_run (run_fldA (m := 1) (s := 0) rfl (eval_tmp (hh 2 _ rfl (hF26.at 2 rfl))) Tryd.underlying26 rfl rfl (by kernel_rfl) (by decide)) K3
              · refine asks_mk fun a W hS hh hd => ⟨wanted_yes rfl, ?_⟩
                exact giv_run (run_ldF rfl (eval_tmp (hd.val (j := 3) (s := 39) (by kernel_rfl) K3)) ((hM5.grow hS).at 3 rfl) rfl (by kernel_rfl)) K4
              · refine asks_mk fun a W hS hh hd => ⟨wanted_yes rfl, ?_⟩
                exact giv_run (run_nes rfl (eval_tmp (hd.val (j := 2) (s := 38) (by kernel_rfl) K2)) (eval_tmp (hd.val (j := 4) (s := 40) (by kernel_rfl) K4)) hneq) K5
            · intro a27 w6 hb6 hK
              have e0 := hK.val (i := 0) (s := 36) (by kernel_rfl) K0
              have e1 := hK.val (i := 1) (s := 37) (by kernel_rfl) K1
              have e2 := hK.val (i := 2) (s := 38) (by kernel_rfl) K2
              have e3 := hK.val (i := 3) (s := 39) (by kernel_rfl) K3
              have e4 := hK.val (i := 4) (s := 40) (by kernel_rfl) K4
              have e5 := hK.val (i := 5) (s := 41) (by kernel_rfl) K5
              have hF27 : Fr a27 98 [(0, (.agg (chA c))), (1, (.string ⟨f.toArray⟩)), (2, (.pointer (some ⟨g0, 0, none⟩))), (4, (.pointer (some ⟨g1, 0, none⟩))), (5, (.string ⟨List.toArray []⟩)), (6, (.int .i64 0)), (7, (.pointer (some ⟨g2, 0, none⟩))), (8, (.slice (some ⟨gr, 0, none⟩) X.length cr)), (9, (.int .i64 0)), (15, (.agg (chA noCh))), (16, (.tuple #[(.slice (some ⟨gr, 0, none⟩) X.length cr), (.int .i64 0)])), (17, (.string ⟨f.toArray⟩)), (18, (.tuple #[(.slice (some ⟨gr, 0, none⟩) X.length cr), (.int .i64 0)])), (19, (.slice (some ⟨gr, 0, none⟩) X.length cr)), (20, (.int .i64 0)), (21, (.int .i64 0)), (22, (.bool false)), (25, (.slice (some ⟨gr, 0, none⟩) X.length cr)), (26, (.int .i64 (X.length : Int))), (27, (.bool false)), (28, (.bool false)), (29, (.slice (some ⟨gr, 0, none⟩) X.length cr)), (30, (slPtr (.slice (some ⟨gr, 0, none⟩) X.length cr) (1 * 1))), (31, (.string ⟨tb.toArray⟩)), (32, (.int .i64 (tb.length : Int))), (33, (.bool false)), (34, (.bool false)), (41, (.bool false))] := (hK.fr hF26 [(.slice (some ⟨gr, 0, none⟩) X.length cr), (slPtr (.slice (some ⟨gr, 0, none⟩) X.length cr) (0 * 1)), (.string ⟨ta.toArray⟩), (.pointer (some ⟨g0, 0, none⟩)), (.string ⟨c.m.toArray⟩), (.bool false)] ⟨e0, e1, e2, e3, e4, e5, trivial⟩).sub ⟨rfl, rfl, rfl, rfl, rfl, rfl, rfl, rfl, rfl, rfl, rfl, rfl, rfl, rfl, rfl, rfl, rfl, rfl, rfl, rfl, rfl, rfl, rfl, rfl, rfl, rfl, rfl, rfl, trivial⟩
              have hM6 := hM5.grow hb6
              clear hK K0 e0 K1 e1 K2 e2 K3 e3 K4 e4 K5 e5
              clear hF26 hM5
              refine nx ?_
              refine wp_cond_false (hF27.ev 41 rfl) ?_
              refine wp_skip ?_
              refine nx ?_
              refine wp_seq ?_
              refine wp_region_lit ?_
              refine sq (v := (.slice (some ⟨gr, 0, none⟩) X.length cr)) hF27 (wantedS rfl) (run_mv rfl (hF27.ev 8 rfl)) rfl (by decide) fun a28 hF28 => ?_
              refine sq (v := (slPtr (.slice (some ⟨gr, 0, none⟩) X.length cr) (1 * 1))) hF28 (wantedS rfl) (run_atP (i := 1) rfl (hF28.ev 43 rfl) rfl rfl (slOfRow (c := cr) (hM6.ob 0 rfl)) (by omega) elStr.un (by kernel_rfl)) rfl (by decide) fun a29 hF29 => ?_
              refine sq (v := (.string ⟨tb.toArray⟩)) hF29 (wantedS rfl) (run_ldP rfl (hF29.ev 44 rfl) (slOfRow (c := cr) (hM6.ob 0 rfl)) (map_at hXb) (by kernel_rfl)) rfl (by decide) fun a30 hF30 => ?_
              refine sqC (v := (.int .u64 (getS tb : Int))) hF30 hM6 (wantedS rfl) (run_call rfl Tryd.func41 (by kernel_rfl) rfl (mapE1 (hF30.ev 45 rfl))) rfl (by decide) (rget_any tb w6 (by omega)) fun a31 w7 hb7 hF31 hM7 => ?_
              refine sq (v := (.int .u64 (getS tb : Int))) hF31 (wantedS rfl) (run_as rfl (hF31.ev 46 rfl)) rfl (by decide) fun a32 hF32 => ?_
              refine sqEnd ?_
              clear hF27 hF28 hF29 hF30 hF31 hM6
              refine nx ?_
              refine wp_seq ?_
              refine wp_seq ?_
              refine wp_region_lit ?_
              refine sq (v := (.int .u64 (getS tb : Int))) hF32 (wantedS rfl) (run_mv rfl (hF32.ev 10 rfl)) rfl (by decide) fun a33 hF33 => ?_
              refine sq (v := (.pointer (some ⟨g0, 1, none⟩))) hF33 (wantedS rfl) (run_fldA (m := 1) (s := 1) rfl (hF33.ev 2 rfl) Tryd.underlying26 rfl rfl (by kernel_rfl) (by decide)) rfl (by decide) fun a34 hF34 => ?_
              refine sq (v := (.int .u64 (c.n : Int))) hF34 (wantedS rfl) (run_ldF rfl (hF34.ev 48 rfl) (hM7.at 3 rfl) rfl (by kernel_rfl)) rfl (by decide) fun a35 hF35 => ?_
              refine sq (v := (.bool false)) hF35 (wantedS rfl) (run_lss rfl (hF35.ev 47 rfl) (hF35.ev 49 rfl) (decide_eq_false (by omega))) rfl (by decide) fun a36 hF36 => ?_
              refine sqEnd ?_
              clear hF32 hF33 hF34 hF35
              refine nx ?_
              refine wp_cond_false (hF36.ev 50 rfl) ?_
              refine wp_skip ?_
              refine nx ?_
              refine wp_seq ?_
              refine wp_seq ?_
              refine wp_region_lit ?_
              refine sq (v := (.int .u64 (getS tb : Int))) hF36 (wantedS rfl) (run_mv rfl (hF36.ev 10 rfl)) rfl (by decide) fun a37 hF37 => ?_
              refine sq (v := (.pointer (some ⟨g0, 1, none⟩))) hF37 (wantedS rfl) (run_fldA (m := 1) (s := 1) rfl (hF37.ev 2 rfl) Tryd.underlying26 rfl rfl (by kernel_rfl) (by decide)) rfl (by decide) fun a38 hF38 => ?_
              refine sq (v := (.int .u64 (c.n : Int))) hF38 (wantedS rfl) (run_ldF rfl (hF38.ev 53 rfl) (hM7.at 3 rfl) rfl (by kernel_rfl)) rfl (by decide) fun a39 hF39 => ?_
              refine sq (v := (.int .u64 ((getS tb - c.n : Nat) : Int))) hF39 (wantedS rfl) (run_sub (r := ((getS tb - c.n : Nat) : Int)) rfl (hF39.ev 52 rfl) (hF39.ev 54 rfl) (by rw [IntKind.wrap_u64]; omega)) rfl (by decide) fun a40 hF40 => ?_
              refine sq (v := (.bool false)) hF40 (wantedS rfl) (run_gtr rfl (hF40.ev 55 rfl) rfl (decide_eq_false (by omega))) rfl (by decide) fun a41 hF41 => ?_
              refine sq (v := (.bool false)) hF41 (wantedS rfl) (run_mv rfl (hF41.ev 56 rfl)) rfl (by decide) fun a42 hF42 => ?_
              refine sq (v := (.int .u64 (getS tb : Int))) hF42 (wantedG hF42 rfl rfl rfl rfl rfl) (run_mv rfl (hF42.ev 10 rfl)) rfl (by decide) fun a43 hF43 => ?_
              refine sq (v := (.bool false)) hF43 (wantedG hF43 rfl rfl rfl rfl rfl) (run_eqi rfl (hF43.ev 58 rfl) rfl (beq_eq_false_iff_ne.2 (by omega))) rfl (by decide) fun a44 hF44 => ?_
              refine sq (v := (.bool false)) hF44 (wantedS rfl) (run_pick rfl (hF44.ev 57 rfl) rfl (hF44.ev 59 rfl)) rfl (by decide) fun a45 hF45 => ?_
              refine sqEnd ?_
              clear hF36 hF37 hF38 hF39 hF40 hF41 hF42 hF43 hF44
              refine nx ?_
              refine wp_cond_false (hF45.ev 60 rfl) ?_
              refine wp_skip ?_
              refine nx ?_
              refine wp_seq ?_
              refine wp_region_lit ?_
              refine sq (v := (.pointer (some ⟨g0, 2, none⟩))) hF45 (wantedS rfl) (run_fldA (m := 32) (s := 2) rfl (hF45.ev 2 rfl) Tryd.underlying26 rfl rfl (by kernel_rfl) (by decide)) rfl (by decide) fun a46 hF46 => ?_
              refine sq (v := (.agg (cells8 c.k))) hF46 (wantedS rfl) (run_ldK rfl (hF46.ev 62 rfl) (hM7.at 3 rfl) hLc) rfl (by decide) fun a47 hF47 => ?_
              refine sqNew (cs := (cells8 (List.replicate 32 0))) (t := 24) hF47 hM7 (wantedS rfl) (run_alloc rfl (by kernel_rfl)) rfl (by decide) fun g5 a48 w8 hgg5 hb8 hF48 hM8 => ?_
              refine sqStore (i := 0) hF48 hM8 rfl rfl rfl (hF48.ev 11 rfl) (hF48.ev 63 rfl) rfl sz32k (szOf hLc) (szOf List.length_replicate) (cells8_one _) fun a49 w9 hF49 hM9 => ?_
              refine sqEnd ?_
              clear hF45 hF46 hF47 hF48 hM7 hM8
              refine nx ?_
              refine wp_seq ?_
              refine wp_seq ?_
              refine wp_region_lit ?_
              refine sq (v := (.pointer (some ⟨g0, 1, none⟩))) hF49 (wantedS rfl) (run_fldA (m := 1) (s := 1) rfl (hF49.ev 2 rfl) Tryd.underlying26 rfl rfl (by kernel_rfl) (by decide)) rfl (by decide) fun a50 hF50 => ?_
              refine sq (v := (.int .u64 (c.n : Int))) hF50 (wantedS rfl) (run_ldF rfl (hF50.ev 64 rfl) (hM9.at 4 rfl) rfl (by kernel_rfl)) rfl (by decide) fun a51 hF51 => ?_
              refine sq (v := (.int .u64 (c.n : Int))) hF51 (wantedS rfl) (run_as rfl (hF51.ev 65 rfl)) rfl (by decide) fun a52 hF52 => ?_
              refine sqEnd ?_
              clear hF49 hF50 hF51
              refine nx ?_
              refine wp_block ?_
              refine wkLoop (fun m a w2 => ∃ i : Nat, i ≤ N ∧ m = N - i ∧ Fr a 98 [(2, (.pointer (some ⟨g0, 0, none⟩))), (4, (.pointer (some ⟨g1, 0, none⟩))), (7, (.pointer (some ⟨g2, 0, none⟩))), (8, (.slice (some ⟨gr, 0, none⟩) X.length cr)), (10, (.int .u64 (getS tb : Int))), (11, (.pointer (some ⟨g5, 0, none⟩))), (12, .int .u64 ((c.n + i : Nat) : Int))] ∧ Mem w ([(g5, isB 24 (cells8 (nxS c.k i))), (gr, isRow 9 1 X.length (X.map tx)), (g2, isB 26 (chA noCh)), (g1, isB 26 (chA noCh)), (g0, isB 26 (chA c))]) w2) N ⟨0, Nat.zero_le _, rfl, hF52.sub ⟨rfl, rfl, rfl, rfl, rfl, rfl, rfl, trivial⟩, hM9⟩ ?_
              rintro m a0 w40 ⟨i, hi, rfl, hF40, hM40⟩
              by_cases hiN : i < N
              · skip
                refine wp_seq ?_
                refine wp_seq ?_
                refine wp_region_lit ?_
                refine sq (v := (.int .u64 ((c.n + i : Nat) : Int))) hF40 (wantedS rfl) (run_mv rfl (hF40.ev 12 rfl)) rfl (by decide) fun a41 hF41 => ?_
                refine sq (v := (.int .u64 (getS tb : Int))) hF41 (wantedS rfl) (run_mv rfl (hF41.ev 10 rfl)) rfl (by decide) fun a42 hF42 => ?_
                refine sq (v := (.bool true)) hF42 (wantedS rfl) (run_lss rfl (hF42.ev 66 rfl) (hF42.ev 67 rfl) (decide_eq_true (by omega))) rfl (by decide) fun a43 hF43 => ?_
                refine sqEnd ?_
                clear hF40 hF41 hF42
                refine nx ?_
                refine wp_cond_true (hF43.ev 68 rfl) ?_
                refine wp_skip ?_
                refine nx ?_
                refine wp_seq ?_
                refine wp_block ?_
                refine wp_region_lit ?_
                refine sq (v := (.agg (cells8 (nxS c.k i)))) hF43 (wantedS rfl) (run_ldB rfl (hF43.ev 11 rfl) (hM40.at 0 rfl) Tryd.underlying24 rfl sz32k (szOf (nxS_len hLc i))) rfl (by decide) fun a44 hF44 => ?_
                refine sqC (v := (.agg (cells8 (nextS (nxS c.k i))))) hF44 hM40 (wantedS rfl) (run_call rfl Tryd.func22 (by kernel_rfl) rfl (mapE1 (hF44.ev 71 rfl))) rfl (by decide) (rnext_any (nxS c.k i) w40 (nxS_len hLc i)) fun a45 w41 hb41 hF45 hM41 => ?_
                refine sqStore (i := 0) hF45 hM41 rfl rfl rfl (hF45.ev 11 rfl) (hF45.ev 72 rfl) rfl sz32k (szOf (nextS_len _)) (szOf (nxS_len hLc i)) (cells8_one _) fun a46 w42 hF46 hM42 => ?_
                refine sqEnd ?_
                clear hF43 hF44 hF45 hM40 hM41
                refine bkEnd ?_
                refine nx ?_
                refine wp_region_lit ?_
                refine sq (v := (.int .u64 ((c.n + i : Nat) : Int))) hF46 (wantedS rfl) (run_mv rfl (hF46.ev 12 rfl)) rfl (by decide) fun a47 hF47 => ?_
                refine sq (v := (.int .u64 ((c.n + (i + 1) : Nat) : Int))) hF47 (wantedS rfl) (run_add (r := ((c.n + (i + 1) : Nat) : Int)) rfl (hF47.ev 69 rfl) rfl (by rw [IntKind.wrap_u64]; omega)) rfl (by decide) fun a48 hF48 => ?_
                refine sq (v := (.int .u64 ((c.n + (i + 1) : Nat) : Int))) hF48 (wantedS rfl) (run_as rfl (hF48.ev 70 rfl)) rfl (by decide) fun a49 hF49 => ?_
                refine sqEnd ?_
                clear hF46 hF47 hF48
                refine nx ?_
                exact ⟨_, by omega, i + 1, by omega, rfl, hF49.sub ⟨rfl, rfl, rfl, rfl, rfl, rfl, rfl, trivial⟩, hM42⟩
              · have hie : i = N := by omega
                rw [hie] at hM40
                refine wp_seq ?_
                refine wp_seq ?_
                refine wp_region_lit ?_
                refine sq (v := (.int .u64 ((c.n + i : Nat) : Int))) hF40 (wantedS rfl) (run_mv rfl (hF40.ev 12 rfl)) rfl (by decide) fun a41 hF41 => ?_
                refine sq (v := (.int .u64 (getS tb : Int))) hF41 (wantedS rfl) (run_mv rfl (hF41.ev 10 rfl)) rfl (by decide) fun a42 hF42 => ?_
                refine sq (v := (.bool false)) hF42 (wantedS rfl) (run_lss rfl (hF42.ev 66 rfl) (hF42.ev 67 rfl) (decide_eq_false (by omega))) rfl (by decide) fun a43 hF43 => ?_
                refine sqEnd ?_
                clear hF40 hF41 hF42
                refine nx ?_
                refine wp_cond_false (hF43.ev 68 rfl) ?_
                refine wp_exit ?_
                refine nxExit ?_
                refine nxExit ?_
                refine bkHere ?_
                refine nx ?_
                refine wp_seq ?_
                obtain ⟨KL, hKL⟩ : ∃ KL, KL = [kval (.agg (cells8 (nxS c.k N))), kval (.agg (cells8 (keyedS (nxS c.k N) [115, 101, 110, 100]))), kval (.pointer (some ⟨g0, 0, none⟩)), kval (.string ⟨c.m.toArray⟩), kval (.int .u64 (getS tb : Int)), kval (.string ⟨(headS c.m (getS tb)).toArray⟩), kval (.slice (some ⟨gr, 0, none⟩) X.length cr), kval (slPtr (.slice (some ⟨gr, 0, none⟩) X.length cr) (2 * 1)), kval (.string ⟨tc.toArray⟩), kval (.tuple #[(.string ⟨((openS (keyedS (nxS c.k N) [115, 101, 110, 100]) (headS c.m (getS tb)) tc).1).toArray⟩), (.int .i64 ((openS (keyedS (nxS c.k N) [115, 101, 110, 100]) (headS c.m (getS tb)) tc).2))]), kval (.tuple #[(.string ⟨((openS (keyedS (nxS c.k N) [115, 101, 110, 100]) (headS c.m (getS tb)) tc).1).toArray⟩), (.int .i64 ((openS (keyedS (nxS c.k N) [115, 101, 110, 100]) (headS c.m (getS tb)) tc).2))]), kval (.string ⟨((openS (keyedS (nxS c.k N) [115, 101, 110, 100]) (headS c.m (getS tb)) tc).1).toArray⟩), kval (.int .i64 ((openS (keyedS (nxS c.k N) [115, 101, 110, 100]) (headS c.m (getS tb)) tc).2)), kval (.string ⟨((openS (keyedS (nxS c.k N) [115, 101, 110, 100]) (headS c.m (getS tb)) tc).1).toArray⟩), kval (.int .i64 ((openS (keyedS (nxS c.k N) [115, 101, 110, 100]) (headS c.m (getS tb)) tc).2))] := ⟨_, rfl⟩
                have K0 : KL.getD 0 kany = kval (.agg (cells8 (nxS c.k N))) := by rw [hKL]; rfl
                have K1 : KL.getD 1 kany = kval (.agg (cells8 (keyedS (nxS c.k N) [115, 101, 110, 100]))) := by rw [hKL]; rfl
                have K2 : KL.getD 2 kany = kval (.pointer (some ⟨g0, 0, none⟩)) := by rw [hKL]; rfl
                have K3 : KL.getD 3 kany = kval (.string ⟨c.m.toArray⟩) := by rw [hKL]; rfl
                have K4 : KL.getD 4 kany = kval (.int .u64 (getS tb : Int)) := by rw [hKL]; rfl
                have K5 : KL.getD 5 kany = kval (.string ⟨(headS c.m (getS tb)).toArray⟩) := by rw [hKL]; rfl
                have K6 : KL.getD 6 kany = kval (.slice (some ⟨gr, 0, none⟩) X.length cr) := by rw [hKL]; rfl
                have K7 : KL.getD 7 kany = kval (slPtr (.slice (some ⟨gr, 0, none⟩) X.length cr) (2 * 1)) := by rw [hKL]; rfl
                have K8 : KL.getD 8 kany = kval (.string ⟨tc.toArray⟩) := by rw [hKL]; rfl
                have K9 : KL.getD 9 kany = kval (.tuple #[(.string ⟨((openS (keyedS (nxS c.k N) [115, 101, 110, 100]) (headS c.m (getS tb)) tc).1).toArray⟩), (.int .i64 ((openS (keyedS (nxS c.k N) [115, 101, 110, 100]) (headS c.m (getS tb)) tc).2))]) := by rw [hKL]; rfl
                have K10 : KL.getD 10 kany = kval (.tuple #[(.string ⟨((openS (keyedS (nxS c.k N) [115, 101, 110, 100]) (headS c.m (getS tb)) tc).1).toArray⟩), (.int .i64 ((openS (keyedS (nxS c.k N) [115, 101, 110, 100]) (headS c.m (getS tb)) tc).2))]) := by rw [hKL]; rfl
                have K11 : KL.getD 11 kany = kval (.string ⟨((openS (keyedS (nxS c.k N) [115, 101, 110, 100]) (headS c.m (getS tb)) tc).1).toArray⟩) := by rw [hKL]; rfl
                have K12 : KL.getD 12 kany = kval (.int .i64 ((openS (keyedS (nxS c.k N) [115, 101, 110, 100]) (headS c.m (getS tb)) tc).2)) := by rw [hKL]; rfl
                have K13 : KL.getD 13 kany = kval (.string ⟨((openS (keyedS (nxS c.k N) [115, 101, 110, 100]) (headS c.m (getS tb)) tc).1).toArray⟩) := by rw [hKL]; rfl
                have K14 : KL.getD 14 kany = kval (.int .i64 ((openS (keyedS (nxS c.k N) [115, 101, 110, 100]) (headS c.m (getS tb)) tc).2)) := by rw [hKL]; rfl
                clear hKL
                refine wp_region_kd 98 (by kernel_rfl) (by kernel_rfl) (by kernel_rfl) hF43.size KL ?_ ?_
                · refine ⟨?_, ?_, ?_, ?_, ?_, ?_, ?_, ?_, ?_, ?_, ?_, ?_, ?_, ?_, ?_, trivial⟩
                  · refine asks_mk fun a W hS hh hd => ⟨wanted_yes rfl, ?_⟩
                    exact giv_run (run_ldB rfl (eval_tmp (hh 11 _ rfl (hF43.at 11 rfl))) ((hM40.grow hS).at 0 rfl) Tryd.underlying24 rfl sz32k (szOf (nxS_len hLc N))) K0
                  · refine asks_mk fun a W hS hh hd => ⟨wanted_yes rfl, ?_⟩
                    exact giv_call (run_call rfl Tryd.func16 (by kernel_rfl) rfl (mapE2 (eval_tmp (hd.val (j := 0) (s := 74) (by kernel_rfl) K0)) rfl)) (rof43_any (nxS c.k N) [115, 101, 110, 100] W (nxS_len hLc N) (by first | omega | decide | (simp; done) | (simp; omega))) K1
                  · refine asks_mk fun a W hS hh hd => ⟨wanted_yes rfl, ?_⟩
                    exact giv_run (run_fldA (m := 1) (s := 0) rfl (eval_tmp (hh 2 _ rfl (hF43.at 2 rfl))) Tryd.underlying26 rfl rfl (by kernel_rfl) (by decide)) K2
                  · refine asks_mk fun a W hS hh hd => ⟨wanted_yes rfl, ?_⟩
                    exact giv_run (run_ldF rfl (eval_tmp (hd.val (j := 2) (s := 76) (by kernel_rfl) K2)) ((hM40.grow hS).at 4 rfl) rfl (by kernel_rfl)) K3
                  · refine asks_mk fun a W hS hh hd => ⟨wanted_yes rfl, ?_⟩
                    exact giv_run (run_mv rfl (eval_tmp (hh 10 _ rfl (hF43.at 10 rfl)))) K4
                  · refine asks_mk fun a W hS hh hd => ⟨wanted_yes rfl, ?_⟩
                    exact giv_call (run_call rfl Tryd.func15 (by kernel_rfl) rfl (mapE2 (eval_tmp (hd.val (j := 3) (s := 77) (by kernel_rfl) K3)) (eval_tmp (hd.val (j := 4) (s := 78) (by kernel_rfl) K4)))) (rhead_any c.m (getS tb) W (by first | omega | decide | (simp; done) | (simp; omega)) (by omega)) K5
                  · refine asks_mk fun a W hS hh hd => ⟨wanted_yes rfl, ?_⟩
                    exact giv_run (run_mv rfl (eval_tmp (hh 8 _ rfl (hF43.at 8 rfl)))) K6
                  · refine asks_mk fun a W hS hh hd => ⟨wanted_yes rfl, ?_⟩
                    exact giv_run (run_atP (i := 2) rfl (eval_tmp (hd.val (j := 6) (s := 80) (by kernel_rfl) K6)) rfl rfl (slOfRow (c := cr) ((hM40.grow hS).ob 1 rfl)) (by omega) elStr.un (by kernel_rfl)) K7
                  · refine asks_mk fun a W hS hh hd => ⟨wanted_yes rfl, ?_⟩
                    exact giv_run (run_ldP rfl (eval_tmp (hd.val (j := 7) (s := 81) (by kernel_rfl) K7)) (slOfRow (c := cr) ((hM40.grow hS).ob 1 rfl)) (map_at hXc) (by kernel_rfl)) K8
                  · refine asks_mk fun a W hS hh hd => ⟨wanted_yes rfl, ?_⟩
                    exact giv_call (run_call rfl Tryd.func42 (by kernel_rfl) rfl (mapE3 (eval_tmp (hd.val (j := 1) (s := 75) (by kernel_rfl) K1)) (eval_tmp (hd.val (j := 5) (s := 79) (by kernel_rfl) K5)) (eval_tmp (hd.val (j := 8) (s := 82) (by kernel_rfl) K8)))) (ropen_any (keyedS (nxS c.k N) [115, 101, 110, 100]) (headS c.m (getS tb)) tc W (keyedS_len _ _) (by first | omega | decide | (simp; done) | (simp; omega))) K9
                  · refine asks_mk fun a W hS hh hd => ⟨wanted_yes rfl, ?_⟩
                    exact giv_run (run_mv rfl (eval_tmp (hd.val (j := 9) (s := 83) (by kernel_rfl) K9))) K10
                  · refine asks_mk fun a W hS hh hd => ⟨wanted_yes rfl, ?_⟩
                    exact giv_run (run_ext rfl (eval_tmp (hd.val (j := 10) (s := 73) (by kernel_rfl) K10)) rfl) K11
                  · refine asks_mk fun a W hS hh hd => ⟨wanted_yes rfl, ?_⟩
                    exact giv_run (run_ext rfl (eval_tmp (hd.val (j := 10) (s := 73) (by kernel_rfl) K10)) rfl) K12
                  · refine asks_mk fun a W hS hh hd => ⟨wanted_yes rfl, ?_⟩
                    exact giv_run (run_as rfl (eval_tmp (hd.val (j := 11) (s := 84) (by kernel_rfl) K11))) K13
                  · refine asks_mk fun a W hS hh hd => ⟨wanted_yes rfl, ?_⟩
                    exact giv_run (run_as rfl (eval_tmp (hd.val (j := 12) (s := 85) (by kernel_rfl) K12))) K14
                · intro a44 w41 hb41 hK
                  have e0 := hK.val (i := 0) (s := 74) (by kernel_rfl) K0
                  have e1 := hK.val (i := 1) (s := 75) (by kernel_rfl) K1
                  have e2 := hK.val (i := 2) (s := 76) (by kernel_rfl) K2
                  have e3 := hK.val (i := 3) (s := 77) (by kernel_rfl) K3
                  have e4 := hK.val (i := 4) (s := 78) (by kernel_rfl) K4
                  have e5 := hK.val (i := 5) (s := 79) (by kernel_rfl) K5
                  have e6 := hK.val (i := 6) (s := 80) (by kernel_rfl) K6
                  have e7 := hK.val (i := 7) (s := 81) (by kernel_rfl) K7
                  have e8 := hK.val (i := 8) (s := 82) (by kernel_rfl) K8
                  have e9 := hK.val (i := 9) (s := 83) (by kernel_rfl) K9
                  have e10 := hK.val (i := 10) (s := 73) (by kernel_rfl) K10
                  have e11 := hK.val (i := 11) (s := 84) (by kernel_rfl) K11
                  have e12 := hK.val (i := 12) (s := 85) (by kernel_rfl) K12
                  have e13 := hK.val (i := 13) (s := 13) (by kernel_rfl) K13
                  have e14 := hK.val (i := 14) (s := 14) (by kernel_rfl) K14
                  have hF44 : Fr a44 98 [(2, (.pointer (some ⟨g0, 0, none⟩))), (4, (.pointer (some ⟨g1, 0, none⟩))), (7, (.pointer (some ⟨g2, 0, none⟩))), (8, (.slice (some ⟨gr, 0, none⟩) X.length cr)), (10, (.int .u64 (getS tb : Int))), (11, (.pointer (some ⟨g5, 0, none⟩))), (12, (.int .u64 ((c.n + i : Nat) : Int))), (13, (.string ⟨((openS (keyedS (nxS c.k N) [115, 101, 110, 100]) (headS c.m (getS tb)) tc).1).toArray⟩)), (14, (.int .i64 ((openS (keyedS (nxS c.k N) [115, 101, 110, 100]) (headS c.m (getS tb)) tc).2))), (66, (.int .u64 ((c.n + i : Nat) : Int))), (67, (.int .u64 (getS tb : Int))), (68, (.bool false))] := (hK.fr hF43 [(.agg (cells8 (nxS c.k N))), (.agg (cells8 (keyedS (nxS c.k N) [115, 101, 110, 100]))), (.pointer (some ⟨g0, 0, none⟩)), (.string ⟨c.m.toArray⟩), (.int .u64 (getS tb : Int)), (.string ⟨(headS c.m (getS tb)).toArray⟩), (.slice (some ⟨gr, 0, none⟩) X.length cr), (slPtr (.slice (some ⟨gr, 0, none⟩) X.length cr) (2 * 1)), (.string ⟨tc.toArray⟩), (.tuple #[(.string ⟨((openS (keyedS (nxS c.k N) [115, 101, 110, 100]) (headS c.m (getS tb)) tc).1).toArray⟩), (.int .i64 ((openS (keyedS (nxS c.k N) [115, 101, 110, 100]) (headS c.m (getS tb)) tc).2))]), (.tuple #[(.string ⟨((openS (keyedS (nxS c.k N) [115, 101, 110, 100]) (headS c.m (getS tb)) tc).1).toArray⟩), (.int .i64 ((openS (keyedS (nxS c.k N) [115, 101, 110, 100]) (headS c.m (getS tb)) tc).2))]), (.string ⟨((openS (keyedS (nxS c.k N) [115, 101, 110, 100]) (headS c.m (getS tb)) tc).1).toArray⟩), (.int .i64 ((openS (keyedS (nxS c.k N) [115, 101, 110, 100]) (headS c.m (getS tb)) tc).2)), (.string ⟨((openS (keyedS (nxS c.k N) [115, 101, 110, 100]) (headS c.m (getS tb)) tc).1).toArray⟩), (.int .i64 ((openS (keyedS (nxS c.k N) [115, 101, 110, 100]) (headS c.m (getS tb)) tc).2))] ⟨e0, e1, e2, e3, e4, e5, e6, e7, e8, e9, e10, e11, e12, e13, e14, trivial⟩).sub ⟨rfl, rfl, rfl, rfl, rfl, rfl, rfl, rfl, rfl, rfl, rfl, rfl, trivial⟩
                  have hM41 := hM40.grow hb41
                  clear hK K0 e0 K1 e1 K2 e2 K3 e3 K4 e4 K5 e5 K6 e6 K7 e7 K8 e8 K9 e9 K10 e10 K11 e11 K12 e12 K13 e13 K14 e14
                  clear hF43 hM40
                  refine nx ?_
                  refine wp_seq ?_
                  refine wp_seq ?_
                  refine wp_region_lit ?_
                  refine sq (v := (.int .i64 ((openS (keyedS (nxS c.k N) [115, 101, 110, 100]) (headS c.m (getS tb)) tc).2))) hF44 (wantedS rfl) (run_mv rfl (hF44.ev 14 rfl)) rfl (by decide) fun a45 hF45 => ?_
                  refine sq (v := (.bool true)) hF45 (wantedS rfl) (run_nei rfl (hF45.ev 86 rfl) rfl (bne_iff_ne.2 hop)) rfl (by decide) fun a46 hF46 => ?_
                  refine sqEnd ?_
                  clear hF44 hF45
                  refine nx ?_
                  refine wp_cond_true (hF46.ev 87 rfl) ?_
                  refine wp_seq ?_
                  refine wp_region_lit ?_
                  refine sq (v := (.agg (chA noCh))) hF46 (wantedS rfl) (run_ldB rfl (hF46.ev 7 rfl) (hM41.at 2 rfl) Tryd.underlying26 rfl szCh (chA_size noCh_len)) rfl (by decide) fun a47 hF47 => ?_
                  refine sq (v := (.int .i64 ((openS (keyedS (nxS c.k N) [115, 101, 110, 100]) (headS c.m (getS tb)) tc).2))) hF47 (wantedS rfl) (run_mv rfl (hF47.ev 14 rfl)) rfl (by decide) fun a48 hF48 => ?_
                  refine sqStore (i := 3) hF48 hM41 rfl rfl rfl (hF48.ev 4 rfl) (hF48.ev 88 rfl) rfl szCh (chA_size noCh_len) (chA_size noCh_len) (chA_one _) fun a49 w42 hF49 hM42 => ?_
                  refine sq (v := (.string ⟨List.toArray []⟩)) hF49 (wantedS rfl) (run_as rfl rfl) rfl (by decide) fun a50 hF50 => ?_
                  refine sq (v := (.int .i64 ((openS (keyedS (nxS c.k N) [115, 101, 110, 100]) (headS c.m (getS tb)) tc).2))) hF50 (wantedS rfl) (run_as rfl (hF50.ev 89 rfl)) rfl (by decide) fun a51 hF51 => ?_
                  refine sqEnd ?_
                  clear hF46 hF47 hF48 hF49 hF50 hM41
                  refine nx ?_
                  refine wp_ret ?_
                  refine nxRet ?_
                  exact retBTT hF51 rfl rfl (hM42.at 3 rfl) Tryd.underlying26 rfl szCh (chA_size noCh_len) rfl rfl ⟨by rw [hs], hM42.below⟩
        · have hs : takeS c f = (noCh, [], 7) := by rw [hs0, hXe]; simp only [takeL]; rw [if_neg (by simp [h8]), if_pos hma]
          have hgl := getS_lt tb
          have hneq : (!(ta == c.m)) = true := by rw [beq_eq_false_iff_ne.2 hma]; rfl
          refine walk_enter Tryd.func19 rfl rfl rfl fun a0 hF0 => ?_
          have hM0 := Mem.new w
          refine wp_seq ?_
          refine wp_region_lit ?_
          refine sqNew (cs := (chA c)) (t := 26) hF0 hM0 (wantedS rfl) (run_box rfl (hF0.ev 0 rfl)) rfl (by decide) fun g0 a1 w1 hgg0 hb1 hF1 hM1 => ?_
          refine sqNew (cs := (chA noCh)) (t := 26) hF1 hM1 (wantedS rfl) (run_alloc rfl (by kernel_rfl)) rfl (by decide) fun g1 a2 w2 hgg1 hb2 hF2 hM2 => ?_
          refine sq (v := (.string ⟨List.toArray []⟩)) hF2 (wantedS rfl) (run_as rfl rfl) rfl (by decide) fun a3 hF3 => ?_
          refine sq (v := (.int .i64 0)) hF3 (wantedS rfl) (run_as rfl rfl) rfl (by decide) fun a4 hF4 => ?_
          refine sqEnd ?_
          clear hF0 hF1 hF2 hF3 hM0 hM1
          refine nx ?_
          refine wp_seq ?_
          refine wp_region_lit ?_
          refine sq (v := (.agg (chA noCh))) hF4 (wantedS rfl) (run_blt (vs := #[]) (cs := chA noCh) rfl (by simp) built_ch0) rfl (by decide) fun a5 hF5 => ?_
          refine sqNew (cs := (chA noCh)) (t := 26) hF5 hM2 (wantedS rfl) (run_alloc rfl (by kernel_rfl)) rfl (by decide) fun g2 a6 w3 hgg2 hb3 hF6 hM3 => ?_
          refine sqStore (i := 0) hF6 hM3 rfl rfl rfl (hF6.ev 7 rfl) (hF6.ev 15 rfl) rfl szCh (chA_size noCh_len) (chA_size noCh_len) (chA_one _) fun a7 w4 hF7 hM4 => ?_
          refine sqEnd ?_
          clear hF4 hF5 hF6 hM2 hM3
          refine nx ?_
          refine wp_seq ?_
          refine wp_region_lit ?_
          refine sq (v := (.string ⟨f.toArray⟩)) hF7 (wantedS rfl) (run_mv rfl (hF7.ev 1 rfl)) rfl (by decide) fun a8 hF8 => ?_
          refine sqT (T := fun u wx => (∃ v, u = .tuple #[v, .int .i64 0] ∧ wx.ownsRow w4.heap.size 9 1 v X.length (X.map tx)) ∧ Below w4.heap.size w4 wx) hF8 (wantedS rfl) (run_call rfl Tryd.func14 (by kernel_rfl) rfl (mapE1 (hF8.ev 17 rfl))) rfl (by decide) (rtexts_ok hT w4 (by omega)) fun u3 a9 w5 hT5 hF9 => ?_
          obtain ⟨⟨v4, rfl, hr5⟩, hb5⟩ := hT5
          obtain ⟨gr, cr, rfl, hcapgr, hggr, hM5⟩ := OwnR.ofCallMem hM4 hb5 hr5 (by omega)
          refine sq (v := (.tuple #[(.slice (some ⟨gr, 0, none⟩) X.length cr), (.int .i64 0)])) hF9 (wantedS rfl) (run_mv rfl (hF9.ev 18 rfl)) rfl (by decide) fun a10 hF10 => ?_
          refine sq (v := (.slice (some ⟨gr, 0, none⟩) X.length cr)) hF10 (wantedS rfl) (run_ext rfl (hF10.ev 16 rfl) rfl) rfl (by decide) fun a11 hF11 => ?_
          refine sq (v := (.int .i64 0)) hF11 (wantedS rfl) (run_ext rfl (hF11.ev 16 rfl) rfl) rfl (by decide) fun a12 hF12 => ?_
          refine sq (v := (.slice (some ⟨gr, 0, none⟩) X.length cr)) hF12 (wantedS rfl) (run_as rfl (hF12.ev 19 rfl)) rfl (by decide) fun a13 hF13 => ?_
          refine sq (v := (.int .i64 0)) hF13 (wantedS rfl) (run_as rfl (hF13.ev 20 rfl)) rfl (by decide) fun a14 hF14 => ?_
          refine sqEnd ?_
          clear hF7 hF8 hF9 hF10 hF11 hF12 hF13 hM4
          refine nx ?_
          refine wp_seq ?_
          refine wp_seq ?_
          refine wp_region_lit ?_
          refine sq (v := (.int .i64 0)) hF14 (wantedS rfl) (run_mv rfl (hF14.ev 9 rfl)) rfl (by decide) fun a15 hF15 => ?_
          refine sq (v := (.bool false)) hF15 (wantedS rfl) (run_nei rfl (hF15.ev 21 rfl) rfl (bne_eq_false_iff_eq.2 (by omega))) rfl (by decide) fun a16 hF16 => ?_
          refine sqEnd ?_
          clear hF14 hF15
          refine nx ?_
          refine wp_cond_false (hF16.ev 22 rfl) ?_
          refine wp_skip ?_
          refine nx ?_
          refine wp_seq ?_
          refine wp_seq ?_
          refine wp_region_lit ?_
          refine sq (v := (.slice (some ⟨gr, 0, none⟩) X.length cr)) hF16 (wantedS rfl) (run_mv rfl (hF16.ev 8 rfl)) rfl (by decide) fun a17 hF17 => ?_
          refine sq (v := (.int .i64 (X.length : Int))) hF17 (wantedS rfl) (run_lenS rfl (hF17.ev 25 rfl) (slOfRow (c := cr) (hM5.ob 0 rfl)) rfl Tryd.underlying34) rfl (by decide) fun a18 hF18 => ?_
          refine sq (v := (.bool false)) hF18 (wantedS rfl) (run_nei rfl (hF18.ev 26 rfl) rfl (bne_eq_false_iff_eq.2 (by omega))) rfl (by decide) fun a19 hF19 => ?_
          refine sq (v := (.bool false)) hF19 (wantedS rfl) (run_mv rfl (hF19.ev 27 rfl)) rfl (by decide) fun a20 hF20 => ?_
          refine sq (v := (.slice (some ⟨gr, 0, none⟩) X.length cr)) hF20 (wantedG hF20 rfl rfl rfl rfl rfl) (run_mv rfl (hF20.ev 8 rfl)) rfl (by decide) fun a21 hF21 => ?_
          refine sq (v := (slPtr (.slice (some ⟨gr, 0, none⟩) X.length cr) (1 * 1))) hF21 (wantedG hF21 rfl rfl rfl rfl rfl) (run_atP (i := 1) rfl (hF21.ev 29 rfl) rfl rfl (slOfRow (c := cr) (hM5.ob 0 rfl)) (by omega) elStr.un (by kernel_rfl)) rfl (by decide) fun a22 hF22 => ?_
          refine sq (v := (.string ⟨tb.toArray⟩)) hF22 (wantedG hF22 rfl rfl rfl rfl rfl) (run_ldP rfl (hF22.ev 30 rfl) (slOfRow (c := cr) (hM5.ob 0 rfl)) (map_at hXb) (by kernel_rfl)) rfl (by decide) fun a23 hF23 => ?_
          refine sq (v := (.int .i64 (tb.length : Int))) hF23 (wantedG hF23 rfl rfl rfl rfl rfl) (run_len rfl (hF23.ev 31 rfl) rfl Tryd.underlying9) rfl (by decide) fun a24 hF24 => ?_
          refine sq (v := (.bool false)) hF24 (wantedG hF24 rfl rfl rfl rfl rfl) (run_nei rfl (hF24.ev 32 rfl) rfl (bne_eq_false_iff_eq.2 (by omega))) rfl (by decide) fun a25 hF25 => ?_
          refine sq (v := (.bool false)) hF25 (wantedS rfl) (run_pick rfl (hF25.ev 28 rfl) rfl (hF25.ev 33 rfl)) rfl (by decide) fun a26 hF26 => ?_
          refine sqEnd ?_
          clear hF16 hF17 hF18 hF19 hF20 hF21 hF22 hF23 hF24 hF25
          refine nx ?_
          refine wp_cond_false (hF26.ev 34 rfl) ?_
          refine wp_skip ?_
          refine nx ?_
          refine wp_seq ?_
          refine wp_seq ?_
          obtain ⟨KL, hKL⟩ : ∃ KL, KL = [kval (.slice (some ⟨gr, 0, none⟩) X.length cr), kval (slPtr (.slice (some ⟨gr, 0, none⟩) X.length cr) (0 * 1)), kval (.string ⟨ta.toArray⟩), kval (.pointer (some ⟨g0, 0, none⟩)), kval (.string ⟨c.m.toArray⟩), kval (.bool true)] := ⟨_, rfl⟩
          have K0 : KL.getD 0 kany = kval (.slice (some ⟨gr, 0, none⟩) X.length cr) := by rw [hKL]; rfl
          have K1 : KL.getD 1 kany = kval (slPtr (.slice (some ⟨gr, 0, none⟩) X.length cr) (0 * 1)) := by rw [hKL]; rfl
          have K2 : KL.getD 2 kany = kval (.string ⟨ta.toArray⟩) := by rw [hKL]; rfl
          have K3 : KL.getD 3 kany = kval (.pointer (some ⟨g0, 0, none⟩)) := by rw [hKL]; rfl
          have K4 : KL.getD 4 kany = kval (.string ⟨c.m.toArray⟩) := by rw [hKL]; rfl
          have K5 : KL.getD 5 kany = kval (.bool true) := by rw [hKL]; rfl
          clear hKL
          refine wp_region_kd 98 (by kernel_rfl) (by kernel_rfl) (by kernel_rfl) hF26.size KL ?_ ?_
          · refine ⟨?_, ?_, ?_, ?_, ?_, ?_, trivial⟩
            · refine asks_mk fun a W hS hh hd => ⟨wanted_yes rfl, ?_⟩
              exact giv_run (run_mv rfl (eval_tmp (hh 8 _ rfl (hF26.at 8 rfl)))) K0
            · refine asks_mk fun a W hS hh hd => ⟨wanted_yes rfl, ?_⟩
              exact giv_run (run_atP (i := 0) rfl (eval_tmp (hd.val (j := 0) (s := 36) (by kernel_rfl) K0)) rfl rfl (slOfRow (c := cr) ((hM5.grow hS).ob 0 rfl)) (by omega) elStr.un (by kernel_rfl)) K1
            · refine asks_mk fun a W hS hh hd => ⟨wanted_yes rfl, ?_⟩
              exact giv_run (run_ldP rfl (eval_tmp (hd.val (j := 1) (s := 37) (by kernel_rfl) K1)) (slOfRow (c := cr) ((hM5.grow hS).ob 0 rfl)) (map_at hXa) (by kernel_rfl)) K2
            · refine asks_mk fun a W hS hh hd => ⟨wanted_yes rfl, ?_⟩
              exact giv_run (run_fldA (m := 1) (s := 0) rfl (eval_tmp (hh 2 _ rfl (hF26.at 2 rfl))) Tryd.underlying26 rfl rfl (by kernel_rfl) (by decide)) K3
            · refine asks_mk fun a W hS hh hd => ⟨wanted_yes rfl, ?_⟩
              exact giv_run (run_ldF rfl (eval_tmp (hd.val (j := 3) (s := 39) (by kernel_rfl) K3)) ((hM5.grow hS).at 3 rfl) rfl (by kernel_rfl)) K4
            · refine asks_mk fun a W hS hh hd => ⟨wanted_yes rfl, ?_⟩
              exact giv_run (run_nes rfl (eval_tmp (hd.val (j := 2) (s := 38) (by kernel_rfl) K2)) (eval_tmp (hd.val (j := 4) (s := 40) (by kernel_rfl) K4)) hneq) K5
          · intro a27 w6 hb6 hK
            have e0 := hK.val (i := 0) (s := 36) (by kernel_rfl) K0
            have e1 := hK.val (i := 1) (s := 37) (by kernel_rfl) K1
            have e2 := hK.val (i := 2) (s := 38) (by kernel_rfl) K2
            have e3 := hK.val (i := 3) (s := 39) (by kernel_rfl) K3
            have e4 := hK.val (i := 4) (s := 40) (by kernel_rfl) K4
            have e5 := hK.val (i := 5) (s := 41) (by kernel_rfl) K5
            have hF27 : Fr a27 98 [(0, (.agg (chA c))), (1, (.string ⟨f.toArray⟩)), (2, (.pointer (some ⟨g0, 0, none⟩))), (4, (.pointer (some ⟨g1, 0, none⟩))), (5, (.string ⟨List.toArray []⟩)), (6, (.int .i64 0)), (7, (.pointer (some ⟨g2, 0, none⟩))), (8, (.slice (some ⟨gr, 0, none⟩) X.length cr)), (9, (.int .i64 0)), (15, (.agg (chA noCh))), (16, (.tuple #[(.slice (some ⟨gr, 0, none⟩) X.length cr), (.int .i64 0)])), (17, (.string ⟨f.toArray⟩)), (18, (.tuple #[(.slice (some ⟨gr, 0, none⟩) X.length cr), (.int .i64 0)])), (19, (.slice (some ⟨gr, 0, none⟩) X.length cr)), (20, (.int .i64 0)), (21, (.int .i64 0)), (22, (.bool false)), (25, (.slice (some ⟨gr, 0, none⟩) X.length cr)), (26, (.int .i64 (X.length : Int))), (27, (.bool false)), (28, (.bool false)), (29, (.slice (some ⟨gr, 0, none⟩) X.length cr)), (30, (slPtr (.slice (some ⟨gr, 0, none⟩) X.length cr) (1 * 1))), (31, (.string ⟨tb.toArray⟩)), (32, (.int .i64 (tb.length : Int))), (33, (.bool false)), (34, (.bool false)), (41, (.bool true))] := (hK.fr hF26 [(.slice (some ⟨gr, 0, none⟩) X.length cr), (slPtr (.slice (some ⟨gr, 0, none⟩) X.length cr) (0 * 1)), (.string ⟨ta.toArray⟩), (.pointer (some ⟨g0, 0, none⟩)), (.string ⟨c.m.toArray⟩), (.bool true)] ⟨e0, e1, e2, e3, e4, e5, trivial⟩).sub ⟨rfl, rfl, rfl, rfl, rfl, rfl, rfl, rfl, rfl, rfl, rfl, rfl, rfl, rfl, rfl, rfl, rfl, rfl, rfl, rfl, rfl, rfl, rfl, rfl, rfl, rfl, rfl, rfl, trivial⟩
            have hM6 := hM5.grow hb6
            clear hK K0 e0 K1 e1 K2 e2 K3 e3 K4 e4 K5 e5
            clear hF26 hM5
            refine nx ?_
            refine wp_cond_true (hF27.ev 41 rfl) ?_
            refine wp_seq ?_
            refine wp_region_lit ?_
            refine sq (v := (.agg (chA noCh))) hF27 (wantedS rfl) (run_ldB rfl (hF27.ev 7 rfl) (hM6.at 1 rfl) Tryd.underlying26 rfl szCh (chA_size noCh_len)) rfl (by decide) fun a28 hF28 => ?_
            refine sqStore (i := 2) hF28 hM6 rfl rfl rfl (hF28.ev 4 rfl) (hF28.ev 42 rfl) rfl szCh (chA_size noCh_len) (chA_size noCh_len) (chA_one _) fun a29 w7 hF29 hM7 => ?_
            refine sq (v := (.string ⟨List.toArray []⟩)) hF29 (wantedS rfl) (run_as rfl rfl) rfl (by decide) fun a30 hF30 => ?_
            refine sq (v := (.int .i64 7)) hF30 (wantedS rfl) (run_as rfl rfl) rfl (by decide) fun a31 hF31 => ?_
            refine sqEnd ?_
            clear hF27 hF28 hF29 hF30 hM6
            refine nx ?_
            refine wp_ret ?_
            refine nxRet ?_
            exact retBTT hF31 rfl rfl (hM7.at 2 rfl) Tryd.underlying26 rfl szCh (chA_size noCh_len) rfl rfl ⟨by rw [hs], hM7.below⟩
      · have hs : takeS c f = (noCh, [], 3) := by rw [hs0, hXe]; simp only [takeL]; rw [if_pos h8]
        refine walk_enter Tryd.func19 rfl rfl rfl fun a0 hF0 => ?_
        have hM0 := Mem.new w
        refine wp_seq ?_
        refine wp_region_lit ?_
        refine sqNew (cs := (chA c)) (t := 26) hF0 hM0 (wantedS rfl) (run_box rfl (hF0.ev 0 rfl)) rfl (by decide) fun g0 a1 w1 hgg0 hb1 hF1 hM1 => ?_
        refine sqNew (cs := (chA noCh)) (t := 26) hF1 hM1 (wantedS rfl) (run_alloc rfl (by kernel_rfl)) rfl (by decide) fun g1 a2 w2 hgg1 hb2 hF2 hM2 => ?_
        refine sq (v := (.string ⟨List.toArray []⟩)) hF2 (wantedS rfl) (run_as rfl rfl) rfl (by decide) fun a3 hF3 => ?_
        refine sq (v := (.int .i64 0)) hF3 (wantedS rfl) (run_as rfl rfl) rfl (by decide) fun a4 hF4 => ?_
        refine sqEnd ?_
        clear hF0 hF1 hF2 hF3 hM0 hM1
        refine nx ?_
        refine wp_seq ?_
        refine wp_region_lit ?_
        refine sq (v := (.agg (chA noCh))) hF4 (wantedS rfl) (run_blt (vs := #[]) (cs := chA noCh) rfl (by simp) built_ch0) rfl (by decide) fun a5 hF5 => ?_
        refine sqNew (cs := (chA noCh)) (t := 26) hF5 hM2 (wantedS rfl) (run_alloc rfl (by kernel_rfl)) rfl (by decide) fun g2 a6 w3 hgg2 hb3 hF6 hM3 => ?_
        refine sqStore (i := 0) hF6 hM3 rfl rfl rfl (hF6.ev 7 rfl) (hF6.ev 15 rfl) rfl szCh (chA_size noCh_len) (chA_size noCh_len) (chA_one _) fun a7 w4 hF7 hM4 => ?_
        refine sqEnd ?_
        clear hF4 hF5 hF6 hM2 hM3
        refine nx ?_
        refine wp_seq ?_
        refine wp_region_lit ?_
        refine sq (v := (.string ⟨f.toArray⟩)) hF7 (wantedS rfl) (run_mv rfl (hF7.ev 1 rfl)) rfl (by decide) fun a8 hF8 => ?_
        refine sqT (T := fun u wx => (∃ v, u = .tuple #[v, .int .i64 0] ∧ wx.ownsRow w4.heap.size 9 1 v X.length (X.map tx)) ∧ Below w4.heap.size w4 wx) hF8 (wantedS rfl) (run_call rfl Tryd.func14 (by kernel_rfl) rfl (mapE1 (hF8.ev 17 rfl))) rfl (by decide) (rtexts_ok hT w4 (by omega)) fun u3 a9 w5 hT5 hF9 => ?_
        obtain ⟨⟨v4, rfl, hr5⟩, hb5⟩ := hT5
        obtain ⟨gr, cr, rfl, hcapgr, hggr, hM5⟩ := OwnR.ofCallMem hM4 hb5 hr5 (by omega)
        refine sq (v := (.tuple #[(.slice (some ⟨gr, 0, none⟩) X.length cr), (.int .i64 0)])) hF9 (wantedS rfl) (run_mv rfl (hF9.ev 18 rfl)) rfl (by decide) fun a10 hF10 => ?_
        refine sq (v := (.slice (some ⟨gr, 0, none⟩) X.length cr)) hF10 (wantedS rfl) (run_ext rfl (hF10.ev 16 rfl) rfl) rfl (by decide) fun a11 hF11 => ?_
        refine sq (v := (.int .i64 0)) hF11 (wantedS rfl) (run_ext rfl (hF11.ev 16 rfl) rfl) rfl (by decide) fun a12 hF12 => ?_
        refine sq (v := (.slice (some ⟨gr, 0, none⟩) X.length cr)) hF12 (wantedS rfl) (run_as rfl (hF12.ev 19 rfl)) rfl (by decide) fun a13 hF13 => ?_
        refine sq (v := (.int .i64 0)) hF13 (wantedS rfl) (run_as rfl (hF13.ev 20 rfl)) rfl (by decide) fun a14 hF14 => ?_
        refine sqEnd ?_
        clear hF7 hF8 hF9 hF10 hF11 hF12 hF13 hM4
        refine nx ?_
        refine wp_seq ?_
        refine wp_seq ?_
        refine wp_region_lit ?_
        refine sq (v := (.int .i64 0)) hF14 (wantedS rfl) (run_mv rfl (hF14.ev 9 rfl)) rfl (by decide) fun a15 hF15 => ?_
        refine sq (v := (.bool false)) hF15 (wantedS rfl) (run_nei rfl (hF15.ev 21 rfl) rfl (bne_eq_false_iff_eq.2 (by omega))) rfl (by decide) fun a16 hF16 => ?_
        refine sqEnd ?_
        clear hF14 hF15
        refine nx ?_
        refine wp_cond_false (hF16.ev 22 rfl) ?_
        refine wp_skip ?_
        refine nx ?_
        refine wp_seq ?_
        refine wp_seq ?_
        refine wp_region_lit ?_
        refine sq (v := (.slice (some ⟨gr, 0, none⟩) X.length cr)) hF16 (wantedS rfl) (run_mv rfl (hF16.ev 8 rfl)) rfl (by decide) fun a17 hF17 => ?_
        refine sq (v := (.int .i64 (X.length : Int))) hF17 (wantedS rfl) (run_lenS rfl (hF17.ev 25 rfl) (slOfRow (c := cr) (hM5.ob 0 rfl)) rfl Tryd.underlying34) rfl (by decide) fun a18 hF18 => ?_
        refine sq (v := (.bool false)) hF18 (wantedS rfl) (run_nei rfl (hF18.ev 26 rfl) rfl (bne_eq_false_iff_eq.2 (by omega))) rfl (by decide) fun a19 hF19 => ?_
        refine sq (v := (.bool false)) hF19 (wantedS rfl) (run_mv rfl (hF19.ev 27 rfl)) rfl (by decide) fun a20 hF20 => ?_
        refine sq (v := (.slice (some ⟨gr, 0, none⟩) X.length cr)) hF20 (wantedG hF20 rfl rfl rfl rfl rfl) (run_mv rfl (hF20.ev 8 rfl)) rfl (by decide) fun a21 hF21 => ?_
        refine sq (v := (slPtr (.slice (some ⟨gr, 0, none⟩) X.length cr) (1 * 1))) hF21 (wantedG hF21 rfl rfl rfl rfl rfl) (run_atP (i := 1) rfl (hF21.ev 29 rfl) rfl rfl (slOfRow (c := cr) (hM5.ob 0 rfl)) (by omega) elStr.un (by kernel_rfl)) rfl (by decide) fun a22 hF22 => ?_
        refine sq (v := (.string ⟨tb.toArray⟩)) hF22 (wantedG hF22 rfl rfl rfl rfl rfl) (run_ldP rfl (hF22.ev 30 rfl) (slOfRow (c := cr) (hM5.ob 0 rfl)) (map_at hXb) (by kernel_rfl)) rfl (by decide) fun a23 hF23 => ?_
        refine sq (v := (.int .i64 (tb.length : Int))) hF23 (wantedG hF23 rfl rfl rfl rfl rfl) (run_len rfl (hF23.ev 31 rfl) rfl Tryd.underlying9) rfl (by decide) fun a24 hF24 => ?_
        refine sq (v := (.bool true)) hF24 (wantedG hF24 rfl rfl rfl rfl rfl) (run_nei rfl (hF24.ev 32 rfl) rfl (bne_iff_ne.2 (by omega))) rfl (by decide) fun a25 hF25 => ?_
        refine sq (v := (.bool true)) hF25 (wantedS rfl) (run_pick rfl (hF25.ev 28 rfl) rfl (hF25.ev 33 rfl)) rfl (by decide) fun a26 hF26 => ?_
        refine sqEnd ?_
        clear hF16 hF17 hF18 hF19 hF20 hF21 hF22 hF23 hF24 hF25
        refine nx ?_
        refine wp_cond_true (hF26.ev 34 rfl) ?_
        refine wp_seq ?_
        refine wp_region_lit ?_
        refine sq (v := (.agg (chA noCh))) hF26 (wantedS rfl) (run_ldB rfl (hF26.ev 7 rfl) (hM5.at 1 rfl) Tryd.underlying26 rfl szCh (chA_size noCh_len)) rfl (by decide) fun a27 hF27 => ?_
        refine sqStore (i := 2) hF27 hM5 rfl rfl rfl (hF27.ev 4 rfl) (hF27.ev 35 rfl) rfl szCh (chA_size noCh_len) (chA_size noCh_len) (chA_one _) fun a28 w6 hF28 hM6 => ?_
        refine sq (v := (.string ⟨List.toArray []⟩)) hF28 (wantedS rfl) (run_as rfl rfl) rfl (by decide) fun a29 hF29 => ?_
        refine sq (v := (.int .i64 3)) hF29 (wantedS rfl) (run_as rfl rfl) rfl (by decide) fun a30 hF30 => ?_
        refine sqEnd ?_
        clear hF26 hF27 hF28 hF29 hM5
        refine nx ?_
        refine wp_ret ?_
        refine nxRet ?_
        exact retBTT hF30 rfl rfl (hM6.at 2 rfl) Tryd.underlying26 rfl szCh (chA_size noCh_len) rfl rfl ⟨by rw [hs], hM6.below⟩
    · have hs : takeS c f = (noCh, [], 3) := by rw [hs0]; unfold takeL; split
                                                · simp at h3
                                                · rfl
      refine walk_enter Tryd.func19 rfl rfl rfl fun a0 hF0 => ?_
      have hM0 := Mem.new w
      refine wp_seq ?_
      refine wp_region_lit ?_
      refine sqNew (cs := (chA c)) (t := 26) hF0 hM0 (wantedS rfl) (run_box rfl (hF0.ev 0 rfl)) rfl (by decide) fun g0 a1 w1 hgg0 hb1 hF1 hM1 => ?_
      refine sqNew (cs := (chA noCh)) (t := 26) hF1 hM1 (wantedS rfl) (run_alloc rfl (by kernel_rfl)) rfl (by decide) fun g1 a2 w2 hgg1 hb2 hF2 hM2 => ?_
      refine sq (v := (.string ⟨List.toArray []⟩)) hF2 (wantedS rfl) (run_as rfl rfl) rfl (by decide) fun a3 hF3 => ?_
      refine sq (v := (.int .i64 0)) hF3 (wantedS rfl) (run_as rfl rfl) rfl (by decide) fun a4 hF4 => ?_
      refine sqEnd ?_
      clear hF0 hF1 hF2 hF3 hM0 hM1
      refine nx ?_
      refine wp_seq ?_
      refine wp_region_lit ?_
      refine sq (v := (.agg (chA noCh))) hF4 (wantedS rfl) (run_blt (vs := #[]) (cs := chA noCh) rfl (by simp) built_ch0) rfl (by decide) fun a5 hF5 => ?_
      refine sqNew (cs := (chA noCh)) (t := 26) hF5 hM2 (wantedS rfl) (run_alloc rfl (by kernel_rfl)) rfl (by decide) fun g2 a6 w3 hgg2 hb3 hF6 hM3 => ?_
      refine sqStore (i := 0) hF6 hM3 rfl rfl rfl (hF6.ev 7 rfl) (hF6.ev 15 rfl) rfl szCh (chA_size noCh_len) (chA_size noCh_len) (chA_one _) fun a7 w4 hF7 hM4 => ?_
      refine sqEnd ?_
      clear hF4 hF5 hF6 hM2 hM3
      refine nx ?_
      refine wp_seq ?_
      refine wp_region_lit ?_
      refine sq (v := (.string ⟨f.toArray⟩)) hF7 (wantedS rfl) (run_mv rfl (hF7.ev 1 rfl)) rfl (by decide) fun a8 hF8 => ?_
      refine sqT (T := fun u wx => (∃ v, u = .tuple #[v, .int .i64 0] ∧ wx.ownsRow w4.heap.size 9 1 v X.length (X.map tx)) ∧ Below w4.heap.size w4 wx) hF8 (wantedS rfl) (run_call rfl Tryd.func14 (by kernel_rfl) rfl (mapE1 (hF8.ev 17 rfl))) rfl (by decide) (rtexts_ok hT w4 (by omega)) fun u3 a9 w5 hT5 hF9 => ?_
      obtain ⟨⟨v4, rfl, hr5⟩, hb5⟩ := hT5
      have hO1 := OwnR.ofCall hM4 hr5
      have hM5 := hM4.grow hb5
      refine sq (v := (.tuple #[v4, (.int .i64 0)])) hF9 (wantedS rfl) (run_mv rfl (hF9.ev 18 rfl)) rfl (by decide) fun a10 hF10 => ?_
      refine sq (v := v4) hF10 (wantedS rfl) (run_ext rfl (hF10.ev 16 rfl) rfl) rfl (by decide) fun a11 hF11 => ?_
      refine sq (v := (.int .i64 0)) hF11 (wantedS rfl) (run_ext rfl (hF11.ev 16 rfl) rfl) rfl (by decide) fun a12 hF12 => ?_
      refine sq (v := v4) hF12 (wantedS rfl) (run_as rfl (hF12.ev 19 rfl)) rfl (by decide) fun a13 hF13 => ?_
      refine sq (v := (.int .i64 0)) hF13 (wantedS rfl) (run_as rfl (hF13.ev 20 rfl)) rfl (by decide) fun a14 hF14 => ?_
      refine sqEnd ?_
      clear hF7 hF8 hF9 hF10 hF11 hF12 hF13 hM4
      refine nx ?_
      refine wp_seq ?_
      refine wp_seq ?_
      refine wp_region_lit ?_
      refine sq (v := (.int .i64 0)) hF14 (wantedS rfl) (run_mv rfl (hF14.ev 9 rfl)) rfl (by decide) fun a15 hF15 => ?_
      refine sq (v := (.bool false)) hF15 (wantedS rfl) (run_nei rfl (hF15.ev 21 rfl) rfl (bne_eq_false_iff_eq.2 (by omega))) rfl (by decide) fun a16 hF16 => ?_
      refine sqEnd ?_
      clear hF14 hF15
      refine nx ?_
      refine wp_cond_false (hF16.ev 22 rfl) ?_
      refine wp_skip ?_
      refine nx ?_
      refine wp_seq ?_
      refine wp_seq ?_
      refine wp_region_lit ?_
      refine sq (v := v4) hF16 (wantedS rfl) (run_mv rfl (hF16.ev 8 rfl)) rfl (by decide) fun a17 hF17 => ?_
      refine sq (v := (.int .i64 (X.length : Int))) hF17 (wantedS rfl) (run_lenS rfl (hF17.ev 25 rfl) (Sl.own hO1) rfl Tryd.underlying34) rfl (by decide) fun a18 hF18 => ?_
      refine sq (v := (.bool true)) hF18 (wantedS rfl) (run_nei rfl (hF18.ev 26 rfl) rfl (bne_iff_ne.2 (by omega))) rfl (by decide) fun a19 hF19 => ?_
      refine sq (v := (.bool true)) hF19 (wantedS rfl) (run_mv rfl (hF19.ev 27 rfl)) rfl (by decide) fun a20 hF20 => ?_
      refine sqSkip hF20 (unwantedG hF20 rfl rfl rfl rfl rfl) rfl (by decide) fun a21 hF21 => ?_
      refine sqSkip hF21 (unwantedG hF21 rfl rfl rfl rfl rfl) rfl (by decide) fun a22 hF22 => ?_
      refine sqSkip hF22 (unwantedG hF22 rfl rfl rfl rfl rfl) rfl (by decide) fun a23 hF23 => ?_
      refine sqSkip hF23 (unwantedG hF23 rfl rfl rfl rfl rfl) rfl (by decide) fun a24 hF24 => ?_
      refine sqSkip hF24 (unwantedG hF24 rfl rfl rfl rfl rfl) rfl (by decide) fun a25 hF25 => ?_
      refine sq (v := (.bool true)) hF25 (wantedS rfl) (run_pick rfl (hF25.ev 28 rfl) rfl (hF25.ev 33 rfl)) rfl (by decide) fun a26 hF26 => ?_
      refine sqEnd ?_
      clear hF16 hF17 hF18 hF19 hF20 hF21 hF22 hF23 hF24 hF25
      refine nx ?_
      refine wp_cond_true (hF26.ev 34 rfl) ?_
      refine wp_seq ?_
      refine wp_region_lit ?_
      refine sq (v := (.agg (chA noCh))) hF26 (wantedS rfl) (run_ldB rfl (hF26.ev 7 rfl) (hM5.at 0 rfl) Tryd.underlying26 rfl szCh (chA_size noCh_len)) rfl (by decide) fun a27 hF27 => ?_
      refine sqStoreG (i := 1) hF27 hM5 rfl rfl rfl (hF27.ev 4 rfl) (hF27.ev 35 rfl) rfl szCh (chA_size noCh_len) (chA_size noCh_len) (chA_one _) fun a28 w6 hgr6 hF28 hM6 => ?_
      have hO2 := hO1.upd 1 (S2 := isB 26 (chA noCh)) rfl hgr6
      refine sq (v := (.string ⟨List.toArray []⟩)) hF28 (wantedS rfl) (run_as rfl rfl) rfl (by decide) fun a29 hF29 => ?_
      refine sq (v := (.int .i64 3)) hF29 (wantedS rfl) (run_as rfl rfl) rfl (by decide) fun a30 hF30 => ?_
      refine sqEnd ?_
      clear hF26 hF27 hF28 hF29 hM5
      refine nx ?_
      refine wp_ret ?_
      refine nxRet ?_
      exact retBTT hF30 rfl rfl (hM6.at 1 rfl) Tryd.underlying26 rfl szCh (chA_size noCh_len) rfl rfl ⟨by rw [hs], hM6.below⟩
end Go.Proofs.YtioioibcldgknaaDoor
