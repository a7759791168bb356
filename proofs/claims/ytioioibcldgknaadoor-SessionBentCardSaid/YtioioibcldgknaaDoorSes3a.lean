/- The walks of session.behind, of its iterator, of session.Take and of the reference's. Printed by gen_ses3.py. -/
import Derived.Test.YtioioibcldgknaaDoorSes2
import Derived.Test.YtioioibcldgknaaDoorNumTexts
namespace Go.Proofs.YtioioibcldgknaaDoor
open Go.RowKit

attribute [local simp] xorS_len tagS_len keyedS_len nonceS_len
set_option maxRecDepth 100000 in
set_option maxHeartbeats 1000000 in
theorem behind_any (k : List UInt8) (w : World) : Calls Tryd.prog 35 #[.agg (cells8 k)] w fun e w' => ∃ u, e = .returned u ∧ ∃ g, u = .func (.func 57) #[] #[.pointer (some ⟨g, 0, none⟩)] ∧ w.heap.size ≤ g ∧ Blk w' g 24 (cells8 k) ∧ Below w.heap.size w w' := by
  refine walk_enter Tryd.func35 rfl rfl rfl fun a0 hF0 => ?_
  have hM0 := Mem.new w
  refine wp_seq ?_
  refine wp_region_lit ?_
  refine sqNew (cs := (cells8 k)) (t := 24) hF0 hM0 (wantedS rfl) (run_box rfl (hF0.ev 0 rfl)) rfl (by decide) fun g0 a1 w1 hgg0 hb1 hF1 hM1 => ?_
  refine sq (v := .nilFunc) hF1 (wantedS rfl) (run_as rfl rfl) rfl (by decide) fun a2 hF2 => ?_
  refine sqEnd ?_
  clear hF0 hF1 hM0
  refine nx ?_
  refine wp_seq ?_
  refine wp_region_lit ?_
  refine sq (v := (.func (.func 57) #[] #[(.pointer (some ⟨g0, 0, none⟩))])) hF2 (wantedS rfl) (run_mkFn1 rfl (hF2.ev 1 rfl)) rfl (by decide) fun a3 hF3 => ?_
  refine sq (v := (.func (.func 57) #[] #[(.pointer (some ⟨g0, 0, none⟩))])) hF3 (wantedS rfl) (run_as rfl (hF3.ev 3 rfl)) rfl (by decide) fun a4 hF4 => ?_
  refine sqEnd ?_
  clear hF2 hF3
  refine nx ?_
  refine wp_ret ?_
  exact ret1 hF4 rfl rfl ⟨_, rfl, g0, rfl, hgg0, hM1.at 0 rfl, hM1.below⟩
set_option maxRecDepth 100000 in
set_option maxHeartbeats 1000000 in
theorem behind1_any (k : List UInt8) (hLk : k.length = 32) (N lp gk : Nat) (w0 w : World) (HG : Glob w0) (M : List (Nat × (Obj → Prop))) (hM : Mem w0 ((gk, isB 24 (cells8 k)) :: M) w) (X : World → Prop) (_hN : N < 2 ^ 63)
    (hY : ∀ i W, i ≤ N → Mem w0 ((gk, isB 24 (cells8 (nxS k i))) :: M) W → YieldW Tryd.prog lp #[.int .u64 (i : Int), .agg (cells8 (nxS k i))] W fun b W' => (b = true ∧ i < N ∧ Mem w0 ((gk, isB 24 (cells8 (nxS k i))) :: M) W') ∨ (b = false ∧ X W')) :
    Calls Tryd.prog 57 #[.func (.yield lp) #[] #[], .pointer (some ⟨gk, 0, none⟩)] w fun e w' => (∃ u, e = .returned u) ∧ X w' := by
  refine walk_enter Tryd.func57 rfl rfl rfl fun a0 hF0 => ?_
  have hM0 := hM
  refine wp_seq ?_
  refine wp_region_lit ?_
  refine sq (v := (.int .u64 0)) hF0 (wantedS rfl) (run_as rfl rfl) rfl (by decide) fun a1 hF1 => ?_
  refine sqEnd ?_
  clear hF0
  refine nx ?_
  refine wp_block ?_
  refine wkLoop (fun m a w2 => ∃ i : Nat, i ≤ N ∧ m = N - i ∧ Fr a 12 [(0, .func (.yield lp) #[] #[]), (1, .pointer (some ⟨gk, 0, none⟩)), (3, .int .u64 (i : Int))] ∧ Mem w0 ((gk, isB 24 (cells8 (nxS k i))) :: M) w2) N ⟨0, Nat.zero_le _, rfl, hF1.sub ⟨rfl, rfl, rfl, trivial⟩, hM0⟩ ?_
  rintro m a0 w1 ⟨i, hi, rfl, hF0, hM0⟩
  refine wp_seq ?_
  refine wp_seq ?_
  refine (wpIn_wide (n := 0)).1 (wpIn_region_lit ?_)
  refine sqI (v := (.func (.yield lp) #[] #[])) hF0 (wantedS rfl) (run_mv rfl (hF0.ev 0 rfl)) rfl (by decide) fun a1 hF1 => ?_
  refine sqI (v := (.int .u64 (i : Int))) hF1 (wantedS rfl) (run_mv rfl (hF1.ev 3 rfl)) rfl (by decide) fun a2 hF2 => ?_
  refine sqI (v := (.agg (cells8 (nxS k i)))) hF2 (wantedS rfl) (run_ldB rfl (hF2.ev 1 rfl) (hM0.at 0 rfl) Tryd.underlying24 rfl sz32k (szOf (nxS_len hLk i))) rfl (by decide) fun a3 hF3 => ?_
  refine sqY hF3 (wantedS rfl) (run_callY rfl (hF3.ev 4 rfl) (mapE2 (hF3.ev 5 rfl) (hF3.ev 6 rfl))) (hY i w1 hi hM0) rfl (by decide) fun b a4 w2 hR hF4 => ?_
  refine sqYEnd ?_
  rcases hR with ⟨rfl, hlt, hM1⟩ | ⟨rfl, hX⟩
  · skip
    refine nx ?_
    refine wp_cond_true (hF4.ev 7 rfl) ?_
    refine wp_skip ?_
    refine nx ?_
    refine wp_seq ?_
    refine wp_block ?_
    refine wp_region_lit ?_
    refine sq (v := (.agg (cells8 (nxS k i)))) hF4 (wantedS rfl) (run_ldB rfl (hF4.ev 1 rfl) (hM1.at 0 rfl) Tryd.underlying24 rfl sz32k (szOf (nxS_len hLk i))) rfl (by decide) fun a5 hF5 => ?_
    refine sqC (v := (.agg (cells8 (nextS (nxS k i))))) hF5 hM1 (wantedS rfl) (run_call rfl Tryd.func21 (by kernel_rfl) rfl (mapE1 (hF5.ev 10 rfl))) rfl (by decide) (next_any (nxS k i) w2 (HG.below hM1.below) (nxS_len hLk i)) fun a6 w3 hb3 hF6 hM2 => ?_
    refine sqStore (i := 0) hF6 hM2 rfl rfl rfl (hF6.ev 1 rfl) (hF6.ev 11 rfl) rfl sz32k (szOf (nextS_len _)) (szOf (nxS_len hLk i)) (cells8_one _) fun a7 w4 hF7 hM3 => ?_
    refine sqEnd ?_
    clear hF4 hF5 hF6 hM1 hM2
    refine bkEnd ?_
    refine nx ?_
    refine wp_region_lit ?_
    refine sq (v := (.int .u64 (i : Int))) hF7 (wantedS rfl) (run_mv rfl (hF7.ev 3 rfl)) rfl (by decide) fun a8 hF8 => ?_
    refine sq (v := (.int .u64 ((i + 1 : Nat) : Int))) hF8 (wantedS rfl) (run_add (r := ((i + 1 : Nat) : Int)) rfl (hF8.ev 8 rfl) rfl (by rw [IntKind.wrap_u64]; omega)) rfl (by decide) fun a9 hF9 => ?_
    refine sq (v := (.int .u64 ((i + 1 : Nat) : Int))) hF9 (wantedS rfl) (run_as rfl (hF9.ev 9 rfl)) rfl (by decide) fun a10 hF10 => ?_
    refine sqEnd ?_
    clear hF7 hF8 hF9
    refine nx ?_
    exact ⟨_, by omega, i + 1, by omega, rfl, hF10.sub ⟨rfl, rfl, rfl, trivial⟩, hM3⟩
  · skip
    refine nx ?_
    refine wp_cond_false (hF4.ev 7 rfl) ?_
    refine wp_exit ?_
    refine nxExit ?_
    refine nxExit ?_
    refine bkHere ?_
    exact end0 hF4 rfl ⟨⟨_, rfl⟩, hX⟩
theorem ntexts_err {b : List UInt8} {e : Int} (h : textsS b = .error e) (w : World) (hb : b.length < 2 ^ 42) : Calls Tryd.prog 33 #[.string ⟨b.toArray⟩] w fun x w' => x = .returned (.tuple #[.slice none 0 0, .int .i64 e]) ∧ Below w.heap.size w w' :=
  (ntexts_any b w hb).mono fun x w' ⟨u, h1, h2, h3⟩ => by unfold TxR at h2; rw [h] at h2; subst h2; exact ⟨h1, h3⟩
theorem ntexts_ok {b : List UInt8} {X : List (List UInt8)} (h : textsS b = .ok X) (w : World) (hb : b.length < 2 ^ 42) : Calls Tryd.prog 33 #[.string ⟨b.toArray⟩] w fun x w' => ∃ u, x = .returned u ∧ (∃ v, u = .tuple #[v, .int .i64 0] ∧ w'.ownsRow w.heap.size 9 1 v X.length (X.map tx)) ∧ Below w.heap.size w w' :=
  (ntexts_any b w hb).mono fun x w' ⟨u, h1, h2, h3⟩ => by unfold TxR at h2; rw [h] at h2; exact ⟨u, h1, h2, h3⟩
set_option maxRecDepth 100000 in
set_option maxHeartbeats 1000000 in
theorem stake_any (c : Ch) (f : List UInt8) (w : World) (HG : Glob w) (hLc : c.k.length = 32) (hcn : c.n < 2 ^ 64) (hm : c.m.length < 2 ^ 27) (hf : f.length < 2 ^ 28) : Calls Tryd.prog 13 #[.agg (chA c), .string ⟨f.toArray⟩] w fun e w' => e = .returned (.tuple #[.agg (chA (takeS c f).1), .string ⟨(takeS c f).2.1.toArray⟩, .int .i64 (takeS c f).2.2]) ∧ Below w.heap.size w w' := by
  cases hT : textsS f with
  | error e =>
    have he := textsS_err f.length f e (Nat.le_refl _) hT
    have hs : takeS c f = (noCh, [], e) := by unfold takeS; rw [hT]
    refine walk_enterM Tryd.func13 rfl rfl rfl fun a0 hF0 => ?_
    have hM0 := Mem.new w
    refine wp_seq ?_
    refine wp_region_lit ?_
    refine sqNew (cs := (chA c)) (t := 26) hF0 hM0 (wantedS rfl) (run_box rfl (hF0.ev 0 rfl)) rfl (by decide) fun g0 a1 w1 hgg0 hb1 hF1 hM1 => ?_
    refine sqNew (cs := (chA noCh)) (t := 26) hF1 hM1 (wantedS rfl) (run_alloc rfl (by kernel_rfl)) rfl (by decide) fun g1 a2 w2 hgg1 hb2 hF2 hM2 => ?_
    refine sq (v := (.string ⟨List.toArray []⟩)) hF2 (wantedS rfl) (run_as rfl rfl) rfl (by decide) fun a3 hF3 => ?_
    refine sq (v := (.int .i64 0)) hF3 (wantedS rfl) (run_as rfl rfl) rfl (by decide) fun a4 hF4 => ?_
    refine sqEnd ?_
    clear hF0 hF1 hF2 hF3 hM0 hM1
    refine nx ?_
    refine wp_seq ?_
    refine wp_region_lit ?_
    refine sq (v := (.string ⟨f.toArray⟩)) hF4 (wantedS rfl) (run_mv rfl (hF4.ev 1 rfl)) rfl (by decide) fun a5 hF5 => ?_
    refine sqC (v := (.tuple #[(.slice none 0 0), (.int .i64 e)])) hF5 hM2 (wantedS rfl) (run_call rfl Tryd.func33 (by kernel_rfl) rfl (mapE1 (hF5.ev 15 rfl))) rfl (by decide) (ntexts_err hT w2 (by omega)) fun a6 w3 hb3 hF6 hM3 => ?_
    refine sq (v := (.tuple #[(.slice none 0 0), (.int .i64 e)])) hF6 (wantedS rfl) (run_mv rfl (hF6.ev 16 rfl)) rfl (by decide) fun a7 hF7 => ?_
    refine sq (v := (.slice none 0 0)) hF7 (wantedS rfl) (run_ext rfl (hF7.ev 14 rfl) rfl) rfl (by decide) fun a8 hF8 => ?_
    refine sq (v := (.int .i64 e)) hF8 (wantedS rfl) (run_ext rfl (hF8.ev 14 rfl) rfl) rfl (by decide) fun a9 hF9 => ?_
    refine sq (v := (.slice none 0 0)) hF9 (wantedS rfl) (run_as rfl (hF9.ev 17 rfl)) rfl (by decide) fun a10 hF10 => ?_
    refine sq (v := (.int .i64 e)) hF10 (wantedS rfl) (run_as rfl (hF10.ev 18 rfl)) rfl (by decide) fun a11 hF11 => ?_
    refine sqEnd ?_
    clear hF4 hF5 hF6 hF7 hF8 hF9 hF10 hM2
    refine nx ?_
    refine wp_seq ?_
    refine wp_seq ?_
    refine wp_region_lit ?_
    refine sq (v := (.int .i64 e)) hF11 (wantedS rfl) (run_mv rfl (hF11.ev 8 rfl)) rfl (by decide) fun a12 hF12 => ?_
    refine sq (v := (.bool true)) hF12 (wantedS rfl) (run_nei rfl (hF12.ev 19 rfl) rfl (bne_iff_ne.2 (by omega))) rfl (by decide) fun a13 hF13 => ?_
    refine sqEnd ?_
    clear hF11 hF12
    refine nx ?_
    refine wp_cond_true (hF13.ev 20 rfl) ?_
    refine wp_seq ?_
    refine wp_region_lit ?_
    refine sq (v := (.agg (chA noCh))) hF13 (wantedS rfl) (run_blt (vs := #[]) (cs := chA noCh) rfl (by simp) built_ch0) rfl (by decide) fun a14 hF14 => ?_
    refine sq (v := (.int .i64 e)) hF14 (wantedS rfl) (run_mv rfl (hF14.ev 8 rfl)) rfl (by decide) fun a15 hF15 => ?_
    refine sqStore (i := 0) hF15 hM3 rfl rfl rfl (hF15.ev 4 rfl) (hF15.ev 21 rfl) rfl szCh (chA_size noCh_len) (chA_size noCh_len) (chA_one _) fun a16 w4 hF16 hM4 => ?_
    refine sq (v := (.string ⟨List.toArray []⟩)) hF16 (wantedS rfl) (run_as rfl rfl) rfl (by decide) fun a17 hF17 => ?_
    refine sq (v := (.int .i64 e)) hF17 (wantedS rfl) (run_as rfl (hF17.ev 22 rfl)) rfl (by decide) fun a18 hF18 => ?_
    refine sqEnd ?_
    clear hF13 hF14 hF15 hF16 hF17 hM3
    refine nx ?_
    refine wp_ret ?_
    refine nxRet ?_
    exact retBTTM hF18 rfl rfl (hM4.at 0 rfl) Tryd.underlying26 rfl szCh (chA_size noCh_len) rfl rfl ⟨by rw [hs], hM4.below⟩
  | ok X =>
    have hs0 : takeS c f = takeL c X := by unfold takeS; rw [hT]
    have hbk := (textsS_back f.length f X (Nat.le_refl _) hT).1
    by_cases h3 : X.length = 3
    · obtain ⟨ta, tb, tc, hXe⟩ := len3 h3
      have hXa : X[0]? = some ta := by rw [hXe]; rfl
      have hXb : X[1]? = some tb := by rw [hXe]; rfl
      have hXc : X[2]? = some tc := by rw [hXe]; rfl
      have hfl : ta.length + tb.length + tc.length ≤ f.length := by
        rw [← hbk, hXe, rowS_cons, rowS_cons, rowS_cons]
        simp only [List.length_append]
        omega
      by_cases h8 : tb.length = 8
      · by_cases hma : ta = c.m
        · have hs1 : takeS c f = takeB c (getS tb) tc := by rw [hs0, hXe]; simp only [takeL]; rw [if_neg (by simp [h8]), if_neg (by simp [hma])]
          have hgl := getS_lt tb
          obtain ⟨gn, hgn⟩ : ∃ gn, getS tb = gn := ⟨_, rfl⟩
          have hneq : (!(ta == c.m)) = false := by rw [hma, beq_self_eq_true]; rfl
          by_cases hold : getS tb < c.n
          · have hs : takeS c f = (noCh, [], 19) := by rw [hs1]; unfold takeB; rw [if_pos hold]
            refine walk_enterM Tryd.func13 rfl rfl rfl fun a0 hF0 => ?_
            have hM0 := Mem.new w
            refine wp_seq ?_
            refine wp_region_lit ?_
            refine sqNew (cs := (chA c)) (t := 26) hF0 hM0 (wantedS rfl) (run_box rfl (hF0.ev 0 rfl)) rfl (by decide) fun g0 a1 w1 hgg0 hb1 hF1 hM1 => ?_
            refine sqNew (cs := (chA noCh)) (t := 26) hF1 hM1 (wantedS rfl) (run_alloc rfl (by kernel_rfl)) rfl (by decide) fun g1 a2 w2 hgg1 hb2 hF2 hM2 => ?_
            refine sq (v := (.string ⟨List.toArray []⟩)) hF2 (wantedS rfl) (run_as rfl rfl) rfl (by decide) fun a3 hF3 => ?_
            refine sq (v := (.int .i64 0)) hF3 (wantedS rfl) (run_as rfl rfl) rfl (by decide) fun a4 hF4 => ?_
            refine sqEnd ?_
            clear hF0 hF1 hF2 hF3 hM0 hM1
            refine nx ?_
            refine wp_seq ?_
            refine wp_region_lit ?_
            refine sq (v := (.string ⟨f.toArray⟩)) hF4 (wantedS rfl) (run_mv rfl (hF4.ev 1 rfl)) rfl (by decide) fun a5 hF5 => ?_
            refine sqT (T := fun u wx => (∃ v, u = .tuple #[v, .int .i64 0] ∧ wx.ownsRow w2.heap.size 9 1 v X.length (X.map tx)) ∧ Below w2.heap.size w2 wx) hF5 (wantedS rfl) (run_call rfl Tryd.func33 (by kernel_rfl) rfl (mapE1 (hF5.ev 15 rfl))) rfl (by decide) (ntexts_ok hT w2 (by omega)) fun u2 a6 w3 hT3 hF6 => ?_
            obtain ⟨⟨v3, rfl, hr3⟩, hb3⟩ := hT3
            obtain ⟨gr, cr, rfl, hcapgr, hggr, hM3⟩ := OwnR.ofCallMem hM2 hb3 hr3 (by omega)
            refine sq (v := (.tuple #[(.slice (some ⟨gr, 0, none⟩) X.length cr), (.int .i64 0)])) hF6 (wantedS rfl) (run_mv rfl (hF6.ev 16 rfl)) rfl (by decide) fun a7 hF7 => ?_
            refine sq (v := (.slice (some ⟨gr, 0, none⟩) X.length cr)) hF7 (wantedS rfl) (run_ext rfl (hF7.ev 14 rfl) rfl) rfl (by decide) fun a8 hF8 => ?_
            refine sq (v := (.int .i64 0)) hF8 (wantedS rfl) (run_ext rfl (hF8.ev 14 rfl) rfl) rfl (by decide) fun a9 hF9 => ?_
            refine sq (v := (.slice (some ⟨gr, 0, none⟩) X.length cr)) hF9 (wantedS rfl) (run_as rfl (hF9.ev 17 rfl)) rfl (by decide) fun a10 hF10 => ?_
            refine sq (v := (.int .i64 0)) hF10 (wantedS rfl) (run_as rfl (hF10.ev 18 rfl)) rfl (by decide) fun a11 hF11 => ?_
            refine sqEnd ?_
            clear hF4 hF5 hF6 hF7 hF8 hF9 hF10 hM2
            refine nx ?_
            refine wp_seq ?_
            refine wp_seq ?_
            refine wp_region_lit ?_
            refine sq (v := (.int .i64 0)) hF11 (wantedS rfl) (run_mv rfl (hF11.ev 8 rfl)) rfl (by decide) fun a12 hF12 => ?_
            refine sq (v := (.bool false)) hF12 (wantedS rfl) (run_nei rfl (hF12.ev 19 rfl) rfl (bne_eq_false_iff_eq.2 (by omega))) rfl (by decide) fun a13 hF13 => ?_
            refine sqEnd ?_
            clear hF11 hF12
            refine nx ?_
            refine wp_cond_false (hF13.ev 20 rfl) ?_
            refine wp_skip ?_
            refine nx ?_
            refine wp_seq ?_
            refine wp_seq ?_
            refine wp_region_lit ?_
            refine sq (v := (.slice (some ⟨gr, 0, none⟩) X.length cr)) hF13 (wantedS rfl) (run_mv rfl (hF13.ev 7 rfl)) rfl (by decide) fun a14 hF14 => ?_
            refine sq (v := (.int .i64 (X.length : Int))) hF14 (wantedS rfl) (run_lenS rfl (hF14.ev 23 rfl) (slOfRow (c := cr) (hM3.ob 0 rfl)) rfl Tryd.underlying34) rfl (by decide) fun a15 hF15 => ?_
            refine sq (v := (.bool false)) hF15 (wantedS rfl) (run_nei rfl (hF15.ev 24 rfl) rfl (bne_eq_false_iff_eq.2 (by omega))) rfl (by decide) fun a16 hF16 => ?_
            refine sq (v := (.bool false)) hF16 (wantedS rfl) (run_mv rfl (hF16.ev 25 rfl)) rfl (by decide) fun a17 hF17 => ?_
            refine sq (v := (.slice (some ⟨gr, 0, none⟩) X.length cr)) hF17 (wantedG hF17 rfl rfl rfl rfl rfl) (run_mv rfl (hF17.ev 7 rfl)) rfl (by decide) fun a18 hF18 => ?_
            refine sq (v := (slPtr (.slice (some ⟨gr, 0, none⟩) X.length cr) (1 * 1))) hF18 (wantedG hF18 rfl rfl rfl rfl rfl) (run_atP (i := 1) rfl (hF18.ev 27 rfl) rfl rfl (slOfRow (c := cr) (hM3.ob 0 rfl)) (by omega) elStr.un (by kernel_rfl)) rfl (by decide) fun a19 hF19 => ?_
            refine sq (v := (.string ⟨tb.toArray⟩)) hF19 (wantedG hF19 rfl rfl rfl rfl rfl) (run_ldP rfl (hF19.ev 28 rfl) (slOfRow (c := cr) (hM3.ob 0 rfl)) (map_at hXb) (by kernel_rfl)) rfl (by decide) fun a20 hF20 => ?_
            refine sq (v := (.int .i64 (tb.length : Int))) hF20 (wantedG hF20 rfl rfl rfl rfl rfl) (run_len rfl (hF20.ev 29 rfl) rfl Tryd.underlying9) rfl (by decide) fun a21 hF21 => ?_
            refine sq (v := (.bool false)) hF21 (wantedG hF21 rfl rfl rfl rfl rfl) (run_nei rfl (hF21.ev 30 rfl) rfl (bne_eq_false_iff_eq.2 (by omega))) rfl (by decide) fun a22 hF22 => ?_
            refine sq (v := (.bool false)) hF22 (wantedS rfl) (run_pick rfl (hF22.ev 26 rfl) rfl (hF22.ev 31 rfl)) rfl (by decide) fun a23 hF23 => ?_
            refine sqEnd ?_
            clear hF13 hF14 hF15 hF16 hF17 hF18 hF19 hF20 hF21 hF22
            refine nx ?_
            refine wp_cond_false (hF23.ev 32 rfl) ?_
            refine wp_skip ?_
            refine nx ?_
            refine wp_seq ?_
            refine wp_region_lit ?_
            refine sq (v := (.slice (some ⟨gr, 0, none⟩) X.length cr)) hF23 (wantedS rfl) (run_mv rfl (hF23.ev 7 rfl)) rfl (by decide) fun a24 hF24 => ?_
            refine sq (v := (slPtr (.slice (some ⟨gr, 0, none⟩) X.length cr) (1 * 1))) hF24 (wantedS rfl) (run_atP (i := 1) rfl (hF24.ev 34 rfl) rfl rfl (slOfRow (c := cr) (hM3.ob 0 rfl)) (by omega) elStr.un (by kernel_rfl)) rfl (by decide) fun a25 hF25 => ?_
            refine sq (v := (.string ⟨tb.toArray⟩)) hF25 (wantedS rfl) (run_ldP rfl (hF25.ev 35 rfl) (slOfRow (c := cr) (hM3.ob 0 rfl)) (map_at hXb) (by kernel_rfl)) rfl (by decide) fun a26 hF26 => ?_
            refine sqC (v := (.int .u64 (getS tb : Int))) hF26 hM3 (wantedS rfl) (run_call rfl Tryd.func34 (by kernel_rfl) rfl (mapE1 (hF26.ev 36 rfl))) rfl (by decide) (nget_any tb w3) fun a27 w4 hb4 hF27 hM4 => ?_
            refine sqNew (cs := #[(.int .u64 0)]) (t := 22) hF27 hM4 (wantedS rfl) (run_alloc1 rfl (by kernel_rfl)) rfl (by decide) fun g4 a28 w5 hgg4 hb5 hF28 hM5 => ?_
            refine sqSet1U (j := 0) hF28 hM5 rfl rfl rfl (hF28.ev 9 rfl) (hF28.ev 37 rfl) rfl fun a29 w6 hgr6 hF29 hM6 => ?_
            refine sqEnd ?_
            clear hF23 hF24 hF25 hF26 hF27 hF28 hM3 hM4 hM5
            refine nx ?_
            refine wp_seq ?_
            refine wp_block ?_
            refine wp_seq ?_
            obtain ⟨KL, hKL⟩ : ∃ KL, KL = [kval (.slice (some ⟨gr, 0, none⟩) X.length cr), kval (slPtr (.slice (some ⟨gr, 0, none⟩) X.length cr) (0 * 1)), kval (.string ⟨ta.toArray⟩), kval (.pointer (some ⟨g0, 0, none⟩)), kval (.string ⟨c.m.toArray⟩), kval (.bool false), kval (.bool false)] := ⟨_, rfl⟩
            have K0 : KL.getD 0 kany = kval (.slice (some ⟨gr, 0, none⟩) X.length cr) := by rw [hKL]; rfl
            have K1 : KL.getD 1 kany = kval (slPtr (.slice (some ⟨gr, 0, none⟩) X.length cr) (0 * 1)) := by rw [hKL]; rfl
            have K2 : KL.getD 2 kany = kval (.string ⟨ta.toArray⟩) := by rw [hKL]; rfl
            have K3 : KL.getD 3 kany = kval (.pointer (some ⟨g0, 0, none⟩)) := by rw [hKL]; rfl
            have K4 : KL.getD 4 kany = kval (.string ⟨c.m.toArray⟩) := by rw [hKL]; rfl
            have K5 : KL.getD 5 kany = kval (.bool false) := by rw [hKL]; rfl
            have K6 : KL.getD 6 kany = kval (.bool false) := by rw [hKL]; rfl
            clear hKL
            refine wp_region_kd 103 (by kernel_rfl) (by kernel_rfl) (by kernel_rfl) hF29.size KL ?_ ?_
            · refine ⟨?_, ?_, ?_, ?_, ?_, ?_, ?_, trivial⟩
              · refine asks_mk fun a W hS hh hd => ⟨wanted_yes rfl, ?_⟩
                exact giv_run (run_mv rfl (eval_tmp (hh 7 _ rfl (hF29.at 7 rfl)))) K0
              · refine asks_mk fun a W hS hh hd => ⟨wanted_yes rfl, ?_⟩
                exact giv_run (run_atP (i := 0) rfl (eval_tmp (hd.val (j := 0) (s := 39) (by kernel_rfl) K0)) rfl rfl (slOfRow (c := cr) ((hM6.grow hS).ob 1 rfl)) (by omega) elStr.un (by kernel_rfl)) K1
              · refine asks_mk fun a W hS hh hd => ⟨wanted_yes rfl, ?_⟩
                exact giv_run (run_ldP rfl (eval_tmp (hd.val (j := 1) (s := 40) (by kernel_rfl) K1)) (slOfRow (c := cr) ((hM6.grow hS).ob 1 rfl)) (map_at hXa) (by kernel_rfl)) K2
              · refine asks_mk fun a W hS hh hd => ⟨wanted_yes rfl, ?_⟩
                exact giv_run (run_fldA (m := 1) (s := 0) rfl (eval_tmp (hh 2 _ rfl (hF29.at 2 rfl))) Tryd.underlying26 rfl rfl (by kernel_rfl) (by decide)) K3
              · refine asks_mk fun a W hS hh hd => ⟨wanted_yes rfl, ?_⟩
                exact giv_run (run_ldF rfl (eval_tmp (hd.val (j := 3) (s := 42) (by kernel_rfl) K3)) ((hM6.grow hS).at 3 rfl) rfl (by kernel_rfl)) K4
              · refine asks_mk fun a W hS hh hd => ⟨wanted_yes rfl, ?_⟩
                exact giv_run (run_nes rfl (eval_tmp (hd.val (j := 2) (s := 41) (by kernel_rfl) K2)) (eval_tmp (hd.val (j := 4) (s := 43) (by kernel_rfl) K4)) hneq) K5
              · refine asks_mk fun a W hS hh hd => ⟨wanted_yes rfl, ?_⟩
                exact giv_run (run_as rfl (eval_tmp (hd.val (j := 5) (s := 44) (by kernel_rfl) K5))) K6
            · intro a30 w7 hb7 hK
              have e0 := hK.val (i := 0) (s := 39) (by kernel_rfl) K0
              have e1 := hK.val (i := 1) (s := 40) (by kernel_rfl) K1
              have e2 := hK.val (i := 2) (s := 41) (by kernel_rfl) K2
              have e3 := hK.val (i := 3) (s := 42) (by kernel_rfl) K3
              have e4 := hK.val (i := 4) (s := 43) (by kernel_rfl) K4
              have e5 := hK.val (i := 5) (s := 44) (by kernel_rfl) K5
              have e6 := hK.val (i := 6) (s := 38) (by kernel_rfl) K6
              have hF30 : Fr a30 103 [(0, (.agg (chA c))), (1, (.string ⟨f.toArray⟩)), (2, (.pointer (some ⟨g0, 0, none⟩))), (4, (.pointer (some ⟨g1, 0, none⟩))), (5, (.string ⟨List.toArray []⟩)), (6, (.int .i64 0)), (7, (.slice (some ⟨gr, 0, none⟩) X.length cr)), (8, (.int .i64 0)), (9, (.pointer (some ⟨g4, 0, none⟩))), (14, (.tuple #[(.slice (some ⟨gr, 0, none⟩) X.length cr), (.int .i64 0)])), (15, (.string ⟨f.toArray⟩)), (16, (.tuple #[(.slice (some ⟨gr, 0, none⟩) X.length cr), (.int .i64 0)])), (17, (.slice (some ⟨gr, 0, none⟩) X.length cr)), (18, (.int .i64 0)), (19, (.int .i64 0)), (20, (.bool false)), (23, (.slice (some ⟨gr, 0, none⟩) X.length cr)), (24, (.int .i64 (X.length : Int))), (25, (.bool false)), (26, (.bool false)), (27, (.slice (some ⟨gr, 0, none⟩) X.length cr)), (28, (slPtr (.slice (some ⟨gr, 0, none⟩) X.length cr) (1 * 1))), (29, (.string ⟨tb.toArray⟩)), (30, (.int .i64 (tb.length : Int))), (31, (.bool false)), (32, (.bool false)), (34, (.slice (some ⟨gr, 0, none⟩) X.length cr)), (35, (slPtr (.slice (some ⟨gr, 0, none⟩) X.length cr) (1 * 1))), (36, (.string ⟨tb.toArray⟩)), (37, (.int .u64 (getS tb : Int))), (38, (.bool false))] := (hK.fr hF29 [(.slice (some ⟨gr, 0, none⟩) X.length cr), (slPtr (.slice (some ⟨gr, 0, none⟩) X.length cr) (0 * 1)), (.string ⟨ta.toArray⟩), (.pointer (some ⟨g0, 0, none⟩)), (.string ⟨c.m.toArray⟩), (.bool false), (.bool false)] ⟨e0, e1, e2, e3, e4, e5, e6, trivial⟩).sub ⟨rfl, rfl, rfl, rfl, rfl, rfl, rfl, rfl, rfl, rfl, rfl, rfl, rfl, rfl, rfl, rfl, rfl, rfl, rfl, rfl, rfl, rfl, rfl, rfl, rfl, rfl, rfl, rfl, rfl, rfl, rfl, trivial⟩
              have hM7 := hM6.grow hb7
              clear hK K0 e0 K1 e1 K2 e2 K3 e3 K4 e4 K5 e5 K6 e6
              clear hF29 hM6
              refine nx ?_
              refine wp_cond_false (hF30.ev 38 rfl) ?_
              refine wp_seq ?_
              refine wp_region_lit ?_
              refine sq (v := (.int .u64 (getS tb : Int))) hF30 (wantedS rfl) (run_ld1 rfl (hF30.ev 9 rfl) (hM7.at 0 rfl) (by kernel_rfl)) rfl (by decide) fun a31 hF31 => ?_
              refine sq (v := (.pointer (some ⟨g0, 1, none⟩))) hF31 (wantedS rfl) (run_fldA (m := 1) (s := 1) rfl (hF31.ev 2 rfl) Tryd.underlying26 rfl rfl (by kernel_rfl) (by decide)) rfl (by decide) fun a32 hF32 => ?_
              refine sq (v := (.int .u64 (c.n : Int))) hF32 (wantedS rfl) (run_ldF rfl (hF32.ev 48 rfl) (hM7.at 3 rfl) rfl (by kernel_rfl)) rfl (by decide) fun a33 hF33 => ?_
              refine sq (v := (.bool true)) hF33 (wantedS rfl) (run_lss rfl (hF33.ev 47 rfl) (hF33.ev 49 rfl) (decide_eq_true (by omega))) rfl (by decide) fun a34 hF34 => ?_
              refine sq (v := (.bool true)) hF34 (wantedS rfl) (run_as rfl (hF34.ev 50 rfl)) rfl (by decide) fun a35 hF35 => ?_
              refine sqEnd ?_
              clear hF30 hF31 hF32 hF33 hF34
              refine nx ?_
              refine wp_cond_true (hF35.ev 46 rfl) ?_
              refine wp_seq ?_
              refine wp_region_lit ?_
              refine sq (v := (.agg (chA noCh))) hF35 (wantedS rfl) (run_blt (vs := #[]) (cs := chA noCh) rfl (by simp) built_ch0) rfl (by decide) fun a36 hF36 => ?_
              refine sqStore (i := 2) hF36 hM7 rfl rfl rfl (hF36.ev 4 rfl) (hF36.ev 51 rfl) rfl szCh (chA_size noCh_len) (chA_size noCh_len) (chA_one _) fun a37 w8 hF37 hM8 => ?_
              refine sq (v := (.string ⟨List.toArray []⟩)) hF37 (wantedS rfl) (run_as rfl rfl) rfl (by decide) fun a38 hF38 => ?_
              refine sq (v := (.int .i64 19)) hF38 (wantedS rfl) (run_as rfl rfl) rfl (by decide) fun a39 hF39 => ?_
              refine sqEnd ?_
              clear hF35 hF36 hF37 hF38 hM7
              refine nx ?_
              refine wp_ret ?_
              refine bkRet ?_
              refine nxRet ?_
              exact retBTTM hF39 rfl rfl (hM8.at 2 rfl) Tryd.underlying26 rfl szCh (chA_size noCh_len) rfl rfl ⟨by rw [hs], hM8.below⟩
          by_cases hfar : 1000 < getS tb - c.n
          · have hs : takeS c f = (noCh, [], 6) := by rw [hs1]; unfold takeB; rw [if_neg hold, if_pos (.inl hfar)]
            refine walk_enterM Tryd.func13 rfl rfl rfl fun a0 hF0 => ?_
            have hM0 := Mem.new w
            refine wp_seq ?_
            refine wp_region_lit ?_
            refine sqNew (cs := (chA c)) (t := 26) hF0 hM0 (wantedS rfl) (run_box rfl (hF0.ev 0 rfl)) rfl (by decide) fun g0 a1 w1 hgg0 hb1 hF1 hM1 => ?_
            refine sqNew (cs := (chA noCh)) (t := 26) hF1 hM1 (wantedS rfl) (run_alloc rfl (by kernel_rfl)) rfl (by decide) fun g1 a2 w2 hgg1 hb2 hF2 hM2 => ?_
            refine sq (v := (.string ⟨List.toArray []⟩)) hF2 (wantedS rfl) (run_as rfl rfl) rfl (by decide) fun a3 hF3 => ?_
            refine sq (v := (.int .i64 0)) hF3 (wantedS rfl) (run_as rfl rfl) rfl (by decide) fun a4 hF4 => ?_
            refine sqEnd ?_
            clear hF0 hF1 hF2 hF3 hM0 hM1
            refine nx ?_
            refine wp_seq ?_
            refine wp_region_lit ?_
            refine sq (v := (.string ⟨f.toArray⟩)) hF4 (wantedS rfl) (run_mv rfl (hF4.ev 1 rfl)) rfl (by decide) fun a5 hF5 => ?_
            refine sqT (T := fun u wx => (∃ v, u = .tuple #[v, .int .i64 0] ∧ wx.ownsRow w2.heap.size 9 1 v X.length (X.map tx)) ∧ Below w2.heap.size w2 wx) hF5 (wantedS rfl) (run_call rfl Tryd.func33 (by kernel_rfl) rfl (mapE1 (hF5.ev 15 rfl))) rfl (by decide) (ntexts_ok hT w2 (by omega)) fun u2 a6 w3 hT3 hF6 => ?_
            obtain ⟨⟨v3, rfl, hr3⟩, hb3⟩ := hT3
            obtain ⟨gr, cr, rfl, hcapgr, hggr, hM3⟩ := OwnR.ofCallMem hM2 hb3 hr3 (by omega)
            refine sq (v := (.tuple #[(.slice (some ⟨gr, 0, none⟩) X.length cr), (.int .i64 0)])) hF6 (wantedS rfl) (run_mv rfl (hF6.ev 16 rfl)) rfl (by decide) fun a7 hF7 => ?_
            refine sq (v := (.slice (some ⟨gr, 0, none⟩) X.length cr)) hF7 (wantedS rfl) (run_ext rfl (hF7.ev 14 rfl) rfl) rfl (by decide) fun a8 hF8 => ?_
            refine sq (v := (.int .i64 0)) hF8 (wantedS rfl) (run_ext rfl (hF8.ev 14 rfl) rfl) rfl (by decide) fun a9 hF9 => ?_
            refine sq (v := (.slice (some ⟨gr, 0, none⟩) X.length cr)) hF9 (wantedS rfl) (run_as rfl (hF9.ev 17 rfl)) rfl (by decide) fun a10 hF10 => ?_
            refine sq (v := (.int .i64 0)) hF10 (wantedS rfl) (run_as rfl (hF10.ev 18 rfl)) rfl (by decide) fun a11 hF11 => ?_
            refine sqEnd ?_
            clear hF4 hF5 hF6 hF7 hF8 hF9 hF10 hM2
            refine nx ?_
            refine wp_seq ?_
            refine wp_seq ?_
            refine wp_region_lit ?_
            refine sq (v := (.int .i64 0)) hF11 (wantedS rfl) (run_mv rfl (hF11.ev 8 rfl)) rfl (by decide) fun a12 hF12 => ?_
            refine sq (v := (.bool false)) hF12 (wantedS rfl) (run_nei rfl (hF12.ev 19 rfl) rfl (bne_eq_false_iff_eq.2 (by omega))) rfl (by decide) fun a13 hF13 => ?_
            refine sqEnd ?_
            clear hF11 hF12
            refine nx ?_
            refine wp_cond_false (hF13.ev 20 rfl) ?_
            refine wp_skip ?_
            refine nx ?_
            refine wp_seq ?_
            refine wp_seq ?_
            refine wp_region_lit ?_
            refine sq (v := (.slice (some ⟨gr, 0, none⟩) X.length cr)) hF13 (wantedS rfl) (run_mv rfl (hF13.ev 7 rfl)) rfl (by decide) fun a14 hF14 => ?_
            refine sq (v := (.int .i64 (X.length : Int))) hF14 (wantedS rfl) (run_lenS rfl (hF14.ev 23 rfl) (slOfRow (c := cr) (hM3.ob 0 rfl)) rfl Tryd.underlying34) rfl (by decide) fun a15 hF15 => ?_
            refine sq (v := (.bool false)) hF15 (wantedS rfl) (run_nei rfl (hF15.ev 24 rfl) rfl (bne_eq_false_iff_eq.2 (by omega))) rfl (by decide) fun a16 hF16 => ?_
            refine sq (v := (.bool false)) hF16 (wantedS rfl) (run_mv rfl (hF16.ev 25 rfl)) rfl (by decide) fun a17 hF17 => ?_
            refine sq (v := (.slice (some ⟨gr, 0, none⟩) X.length cr)) hF17 (wantedG hF17 rfl rfl rfl rfl rfl) (run_mv rfl (hF17.ev 7 rfl)) rfl (by decide) fun a18 hF18 => ?_
            refine sq (v := (slPtr (.slice (some ⟨gr, 0, none⟩) X.length cr) (1 * 1))) hF18 (wantedG hF18 rfl rfl rfl rfl rfl) (run_atP (i := 1) rfl (hF18.ev 27 rfl) rfl rfl (slOfRow (c := cr) (hM3.ob 0 rfl)) (by omega) elStr.un (by kernel_rfl)) rfl (by decide) fun a19 hF19 => ?_
            refine sq (v := (.string ⟨tb.toArray⟩)) hF19 (wantedG hF19 rfl rfl rfl rfl rfl) (run_ldP rfl (hF19.ev 28 rfl) (slOfRow (c := cr) (hM3.ob 0 rfl)) (map_at hXb) (by kernel_rfl)) rfl (by decide) fun a20 hF20 => ?_
            refine sq (v := (.int .i64 (tb.length : Int))) hF20 (wantedG hF20 rfl rfl rfl rfl rfl) (run_len rfl (hF20.ev 29 rfl) rfl Tryd.underlying9) rfl (by decide) fun a21 hF21 => ?_
            refine sq (v := (.bool false)) hF21 (wantedG hF21 rfl rfl rfl rfl rfl) (run_nei rfl (hF21.ev 30 rfl) rfl (bne_eq_false_iff_eq.2 (by omega))) rfl (by decide) fun a22 hF22 => ?_
            refine sq (v := (.bool false)) hF22 (wantedS rfl) (run_pick rfl (hF22.ev 26 rfl) rfl (hF22.ev 31 rfl)) rfl (by decide) fun a23 hF23 => ?_
            refine sqEnd ?_
            clear hF13 hF14 hF15 hF16 hF17 hF18 hF19 hF20 hF21 hF22
            refine nx ?_
            refine wp_cond_false (hF23.ev 32 rfl) ?_
            refine wp_skip ?_
            refine nx ?_
            refine wp_seq ?_
            refine wp_region_lit ?_
            refine sq (v := (.slice (some ⟨gr, 0, none⟩) X.length cr)) hF23 (wantedS rfl) (run_mv rfl (hF23.ev 7 rfl)) rfl (by decide) fun a24 hF24 => ?_
            refine sq (v := (slPtr (.slice (some ⟨gr, 0, none⟩) X.length cr) (1 * 1))) hF24 (wantedS rfl) (run_atP (i := 1) rfl (hF24.ev 34 rfl) rfl rfl (slOfRow (c := cr) (hM3.ob 0 rfl)) (by omega) elStr.un (by kernel_rfl)) rfl (by decide) fun a25 hF25 => ?_
            refine sq (v := (.string ⟨tb.toArray⟩)) hF25 (wantedS rfl) (run_ldP rfl (hF25.ev 35 rfl) (slOfRow (c := cr) (hM3.ob 0 rfl)) (map_at hXb) (by kernel_rfl)) rfl (by decide) fun a26 hF26 => ?_
            refine sqC (v := (.int .u64 (getS tb : Int))) hF26 hM3 (wantedS rfl) (run_call rfl Tryd.func34 (by kernel_rfl) rfl (mapE1 (hF26.ev 36 rfl))) rfl (by decide) (nget_any tb w3) fun a27 w4 hb4 hF27 hM4 => ?_
            refine sqNew (cs := #[(.int .u64 0)]) (t := 22) hF27 hM4 (wantedS rfl) (run_alloc1 rfl (by kernel_rfl)) rfl (by decide) fun g4 a28 w5 hgg4 hb5 hF28 hM5 => ?_
            refine sqSet1U (j := 0) hF28 hM5 rfl rfl rfl (hF28.ev 9 rfl) (hF28.ev 37 rfl) rfl fun a29 w6 hgr6 hF29 hM6 => ?_
            refine sqEnd ?_
            clear hF23 hF24 hF25 hF26 hF27 hF28 hM3 hM4 hM5
            refine nx ?_
            refine wp_seq ?_
            refine wp_block ?_
            refine wp_seq ?_
            obtain ⟨KL, hKL⟩ : ∃ KL, KL = [kval (.slice (some ⟨gr, 0, none⟩) X.length cr), kval (slPtr (.slice (some ⟨gr, 0, none⟩) X.length cr) (0 * 1)), kval (.string ⟨ta.toArray⟩), kval (.pointer (some ⟨g0, 0, none⟩)), kval (.string ⟨c.m.toArray⟩), kval (.bool false), kval (.bool false)] := ⟨_, rfl⟩
            have K0 : KL.getD 0 kany = kval (.slice (some ⟨gr, 0, none⟩) X.length cr) := by rw [hKL]; rfl
            have K1 : KL.getD 1 kany = kval (slPtr (.slice (some ⟨gr, 0, none⟩) X.length cr) (0 * 1)) := by rw [hKL]; rfl
            have K2 : KL.getD 2 kany = kval (.string ⟨ta.toArray⟩) := by rw [hKL]; rfl
            have K3 : KL.getD 3 kany = kval (.pointer (some ⟨g0, 0, none⟩)) := by rw [hKL]; rfl
            have K4 : KL.getD 4 kany = kval (.string ⟨c.m.toArray⟩) := by rw [hKL]; rfl
            have K5 : KL.getD 5 kany = kval (.bool false) := by rw [hKL]; rfl
            have K6 : KL.getD 6 kany = kval (.bool false) := by rw [hKL]; rfl
            clear hKL
            refine wp_region_kd 103 (by kernel_rfl) (by kernel_rfl) (by kernel_rfl) hF29.size KL ?_ ?_
            · refine ⟨?_, ?_, ?_, ?_, ?_, ?_, ?_, trivial⟩
              · refine asks_mk fun a W hS hh hd => ⟨wanted_yes rfl, ?_⟩
                exact giv_run (run_mv rfl (eval_tmp (hh 7 _ rfl (hF29.at 7 rfl)))) K0
              · refine asks_mk fun a W hS hh hd => ⟨wanted_yes rfl, ?_⟩
                exact giv_run (run_atP (i := 0) rfl (eval_tmp (hd.val (j := 0) (s := 39) (by kernel_rfl) K0)) rfl rfl (slOfRow (c := cr) ((hM6.grow hS).ob 1 rfl)) (by omega) elStr.un (by kernel_rfl)) K1
              · refine asks_mk fun a W hS hh hd => ⟨wanted_yes rfl, ?_⟩
                exact giv_run (run_ldP rfl (eval_tmp (hd.val (j := 1) (s := 40) (by kernel_rfl) K1)) (slOfRow (c := cr) ((hM6.grow hS).ob 1 rfl)) (map_at hXa) (by kernel_rfl)) K2
              · refine asks_mk fun a W hS hh hd => ⟨wanted_yes rfl, ?_⟩
                exact giv_run (run_fldA (m := 1) (s := 0) rfl (eval_tmp (hh 2 _ rfl (hF29.at 2 rfl))) Tryd.underlying26 rfl rfl (by kernel_rfl) (by decide)) K3
              · refine asks_mk fun a W hS hh hd => ⟨wanted_yes rfl, ?_⟩
                exact giv_run (run_ldF rfl (eval_tmp (hd.val (j := 3) (s := 42) (by kernel_rfl) K3)) ((hM6.grow hS).at 3 rfl) rfl (by kernel_rfl)) K4
              · refine asks_mk fun a W hS hh hd => ⟨wanted_yes rfl, ?_⟩
                exact giv_run (run_nes rfl (eval_tmp (hd.val (j := 2) (s := 41) (by kernel_rfl) K2)) (eval_tmp (hd.val (j := 4) (s := 43) (by kernel_rfl) K4)) hneq) K5
              · refine asks_mk fun a W hS hh hd => ⟨wanted_yes rfl, ?_⟩
                exact giv_run (run_as rfl (eval_tmp (hd.val (j := 5) (s := 44) (by kernel_rfl) K5))) K6
            · intro a30 w7 hb7 hK
              have e0 := hK.val (i := 0) (s := 39) (by kernel_rfl) K0
              have e1 := hK.val (i := 1) (s := 40) (by kernel_rfl) K1
              have e2 := hK.val (i := 2) (s := 41) (by kernel_rfl) K2
              have e3 := hK.val (i := 3) (s := 42) (by kernel_rfl) K3
              have e4 := hK.val (i := 4) (s := 43) (by kernel_rfl) K4
              have e5 := hK.val (i := 5) (s := 44) (by kernel_rfl) K5
              have e6 := hK.val (i := 6) (s := 38) (by kernel_rfl) K6
              have hF30 : Fr a30 103 [(0, (.agg (chA c))), (1, (.string ⟨f.toArray⟩)), (2, (.pointer (some ⟨g0, 0, none⟩))), (4, (.pointer (some ⟨g1, 0, none⟩))), (5, (.string ⟨List.toArray []⟩)), (6, (.int .i64 0)), (7, (.slice (some ⟨gr, 0, none⟩) X.length cr)), (8, (.int .i64 0)), (9, (.pointer (some ⟨g4, 0, none⟩))), (14, (.tuple #[(.slice (some ⟨gr, 0, none⟩) X.length cr), (.int .i64 0)])), (15, (.string ⟨f.toArray⟩)), (16, (.tuple #[(.slice (some ⟨gr, 0, none⟩) X.length cr), (.int .i64 0)])), (17, (.slice (some ⟨gr, 0, none⟩) X.length cr)), (18, (.int .i64 0)), (19, (.int .i64 0)), (20, (.bool false)), (23, (.slice (some ⟨gr, 0, none⟩) X.length cr)), (24, (.int .i64 (X.length : Int))), (25, (.bool false)), (26, (.bool false)), (27, (.slice (some ⟨gr, 0, none⟩) X.length cr)), (28, (slPtr (.slice (some ⟨gr, 0, none⟩) X.length cr) (1 * 1))), (29, (.string ⟨tb.toArray⟩)), (30, (.int .i64 (tb.length : Int))), (31, (.bool false)), (32, (.bool false)), (34, (.slice (some ⟨gr, 0, none⟩) X.length cr)), (35, (slPtr (.slice (some ⟨gr, 0, none⟩) X.length cr) (1 * 1))), (36, (.string ⟨tb.toArray⟩)), (37, (.int .u64 (getS tb : Int))), (38, (.bool false))] := (hK.fr hF29 [(.slice (some ⟨gr, 0, none⟩) X.length cr), (slPtr (.slice (some ⟨gr, 0, none⟩) X.length cr) (0 * 1)), (.string ⟨ta.toArray⟩), (.pointer (some ⟨g0, 0, none⟩)), (.string ⟨c.m.toArray⟩), (.bool false), (.bool false)] ⟨e0, e1, e2, e3, e4, e5, e6, trivial⟩).sub ⟨rfl, rfl, rfl, rfl, rfl, rfl, rfl, rfl, rfl, rfl, rfl, rfl, rfl, rfl, rfl, rfl, rfl, rfl, rfl, rfl, rfl, rfl, rfl, rfl, rfl, rfl, rfl, rfl, rfl, rfl, rfl, trivial⟩
              have hM7 := hM6.grow hb7
              clear hK K0 e0 K1 e1 K2 e2 K3 e3 K4 e4 K5 e5 K6 e6
              clear hF29 hM6
              refine nx ?_
              refine wp_cond_false (hF30.ev 38 rfl) ?_
              refine wp_seq ?_
              refine wp_region_lit ?_
              refine sq (v := (.int .u64 (getS tb : Int))) hF30 (wantedS rfl) (run_ld1 rfl (hF30.ev 9 rfl) (hM7.at 0 rfl) (by kernel_rfl)) rfl (by decide) fun a31 hF31 => ?_
              refine sq (v := (.pointer (some ⟨g0, 1, none⟩))) hF31 (wantedS rfl) (run_fldA (m := 1) (s := 1) rfl (hF31.ev 2 rfl) Tryd.underlying26 rfl rfl (by kernel_rfl) (by decide)) rfl (by decide) fun a32 hF32 => ?_
              refine sq (v := (.int .u64 (c.n : Int))) hF32 (wantedS rfl) (run_ldF rfl (hF32.ev 48 rfl) (hM7.at 3 rfl) rfl (by kernel_rfl)) rfl (by decide) fun a33 hF33 => ?_
              refine sq (v := (.bool false)) hF33 (wantedS rfl) (run_lss rfl (hF33.ev 47 rfl) (hF33.ev 49 rfl) (decide_eq_false (by omega))) rfl (by decide) fun a34 hF34 => ?_
              refine sq (v := (.bool false)) hF34 (wantedS rfl) (run_as rfl (hF34.ev 50 rfl)) rfl (by decide) fun a35 hF35 => ?_
              refine sqEnd ?_
              clear hF30 hF31 hF32 hF33 hF34
              refine nx ?_
              refine wp_cond_false (hF35.ev 46 rfl) ?_
              refine wp_seq ?_
              refine wp_region_lit ?_
              refine sq (v := (.int .u64 (getS tb : Int))) hF35 (wantedS rfl) (run_ld1 rfl (hF35.ev 9 rfl) (hM7.at 0 rfl) (by kernel_rfl)) rfl (by decide) fun a36 hF36 => ?_
              refine sq (v := (.pointer (some ⟨g0, 1, none⟩))) hF36 (wantedS rfl) (run_fldA (m := 1) (s := 1) rfl (hF36.ev 2 rfl) Tryd.underlying26 rfl rfl (by kernel_rfl) (by decide)) rfl (by decide) fun a37 hF37 => ?_
              refine sq (v := (.int .u64 (c.n : Int))) hF37 (wantedS rfl) (run_ldF rfl (hF37.ev 54 rfl) (hM7.at 3 rfl) rfl (by kernel_rfl)) rfl (by decide) fun a38 hF38 => ?_
              refine sq (v := (.int .u64 ((getS tb - c.n : Nat) : Int))) hF38 (wantedS rfl) (run_sub (r := ((getS tb - c.n : Nat) : Int)) rfl (hF38.ev 53 rfl) (hF38.ev 55 rfl) (by rw [IntKind.wrap_u64]; omega)) rfl (by decide) fun a39 hF39 => ?_
              refine sq (v := (.bool true)) hF39 (wantedS rfl) (run_gtr rfl (hF39.ev 56 rfl) rfl (decide_eq_true (by omega))) rfl (by decide) fun a40 hF40 => ?_
              refine sq (v := (.bool true)) hF40 (wantedS rfl) (run_mv rfl (hF40.ev 57 rfl)) rfl (by decide) fun a41 hF41 => ?_
              refine sqSkip hF41 (unwantedG hF41 rfl rfl rfl rfl rfl) rfl (by decide) fun a42 hF42 => ?_
              refine sqSkip hF42 (unwantedG hF42 rfl rfl rfl rfl rfl) rfl (by decide) fun a43 hF43 => ?_
              refine sq (v := (.bool true)) hF43 (wantedS rfl) (run_pick rfl (hF43.ev 58 rfl) rfl (hF43.ev 60 rfl)) rfl (by decide) fun a44 hF44 => ?_
              refine sq (v := (.bool true)) hF44 (wantedS rfl) (run_as rfl (hF44.ev 61 rfl)) rfl (by decide) fun a45 hF45 => ?_
              refine sqEnd ?_
              clear hF35 hF36 hF37 hF38 hF39 hF40 hF41 hF42 hF43 hF44
              refine nx ?_
              refine wp_cond_true (hF45.ev 52 rfl) ?_
              refine wp_seq ?_
              refine wp_region_lit ?_
              refine sq (v := (.agg (chA noCh))) hF45 (wantedS rfl) (run_blt (vs := #[]) (cs := chA noCh) rfl (by simp) built_ch0) rfl (by decide) fun a46 hF46 => ?_
              refine sqStore (i := 2) hF46 hM7 rfl rfl rfl (hF46.ev 4 rfl) (hF46.ev 62 rfl) rfl szCh (chA_size noCh_len) (chA_size noCh_len) (chA_one _) fun a47 w8 hF47 hM8 => ?_
              refine sq (v := (.string ⟨List.toArray []⟩)) hF47 (wantedS rfl) (run_as rfl rfl) rfl (by decide) fun a48 hF48 => ?_
              refine sq (v := (.int .i64 6)) hF48 (wantedS rfl) (run_as rfl rfl) rfl (by decide) fun a49 hF49 => ?_
              refine sqEnd ?_
              clear hF45 hF46 hF47 hF48 hM7
              refine nx ?_
              refine wp_ret ?_
              refine bkRet ?_
              refine nxRet ?_
              exact retBTTM hF49 rfl rfl (hM8.at 2 rfl) Tryd.underlying26 rfl szCh (chA_size noCh_len) rfl rfl ⟨by rw [hs], hM8.below⟩
          by_cases hmx : getS tb = mostN
          · have hs : takeS c f = (noCh, [], 6) := by rw [hs1]; unfold takeB; rw [if_neg hold, if_pos (.inr hmx)]
            unfold mostN at hmx
            refine walk_enterM Tryd.func13 rfl rfl rfl fun a0 hF0 => ?_
            have hM0 := Mem.new w
            refine wp_seq ?_
            refine wp_region_lit ?_
            refine sqNew (cs := (chA c)) (t := 26) hF0 hM0 (wantedS rfl) (run_box rfl (hF0.ev 0 rfl)) rfl (by decide) fun g0 a1 w1 hgg0 hb1 hF1 hM1 => ?_
            refine sqNew (cs := (chA noCh)) (t := 26) hF1 hM1 (wantedS rfl) (run_alloc rfl (by kernel_rfl)) rfl (by decide) fun g1 a2 w2 hgg1 hb2 hF2 hM2 => ?_
            refine sq (v := (.string ⟨List.toArray []⟩)) hF2 (wantedS rfl) (run_as rfl rfl) rfl (by decide) fun a3 hF3 => ?_
            refine sq (v := (.int .i64 0)) hF3 (wantedS rfl) (run_as rfl rfl) rfl (by decide) fun a4 hF4 => ?_
            refine sqEnd ?_
            clear hF0 hF1 hF2 hF3 hM0 hM1
            refine nx ?_
            refine wp_seq ?_
            refine wp_region_lit ?_
            refine sq (v := (.string ⟨f.toArray⟩)) hF4 (wantedS rfl) (run_mv rfl (hF4.ev 1 rfl)) rfl (by decide) fun a5 hF5 => ?_
            refine sqT (T := fun u wx => (∃ v, u = .tuple #[v, .int .i64 0] ∧ wx.ownsRow w2.heap.size 9 1 v X.length (X.map tx)) ∧ Below w2.heap.size w2 wx) hF5 (wantedS rfl) (run_call rfl Tryd.func33 (by kernel_rfl) rfl (mapE1 (hF5.ev 15 rfl))) rfl (by decide) (ntexts_ok hT w2 (by omega)) fun u2 a6 w3 hT3 hF6 => ?_
            obtain ⟨⟨v3, rfl, hr3⟩, hb3⟩ := hT3
            obtain ⟨gr, cr, rfl, hcapgr, hggr, hM3⟩ := OwnR.ofCallMem hM2 hb3 hr3 (by omega)
            refine sq (v := (.tuple #[(.slice (some ⟨gr, 0, none⟩) X.length cr), (.int .i64 0)])) hF6 (wantedS rfl) (run_mv rfl (hF6.ev 16 rfl)) rfl (by decide) fun a7 hF7 => ?_
            refine sq (v := (.slice (some ⟨gr, 0, none⟩) X.length cr)) hF7 (wantedS rfl) (run_ext rfl (hF7.ev 14 rfl) rfl) rfl (by decide) fun a8 hF8 => ?_
            refine sq (v := (.int .i64 0)) hF8 (wantedS rfl) (run_ext rfl (hF8.ev 14 rfl) rfl) rfl (by decide) fun a9 hF9 => ?_
            refine sq (v := (.slice (some ⟨gr, 0, none⟩) X.length cr)) hF9 (wantedS rfl) (run_as rfl (hF9.ev 17 rfl)) rfl (by decide) fun a10 hF10 => ?_
            refine sq (v := (.int .i64 0)) hF10 (wantedS rfl) (run_as rfl (hF10.ev 18 rfl)) rfl (by decide) fun a11 hF11 => ?_
            refine sqEnd ?_
            clear hF4 hF5 hF6 hF7 hF8 hF9 hF10 hM2
            refine nx ?_
            refine wp_seq ?_
            refine wp_seq ?_
            refine wp_region_lit ?_
            refine sq (v := (.int .i64 0)) hF11 (wantedS rfl) (run_mv rfl (hF11.ev 8 rfl)) rfl (by decide) fun a12 hF12 => ?_
            refine sq (v := (.bool false)) hF12 (wantedS rfl) (run_nei rfl (hF12.ev 19 rfl) rfl (bne_eq_false_iff_eq.2 (by omega))) rfl (by decide) fun a13 hF13 => ?_
            refine sqEnd ?_
            clear hF11 hF12
            refine nx ?_
            refine wp_cond_false (hF13.ev 20 rfl) ?_
            refine wp_skip ?_
            refine nx ?_
            refine wp_seq ?_
            refine wp_seq ?_
            refine wp_region_lit ?_
            refine sq (v := (.slice (some ⟨gr, 0, none⟩) X.length cr)) hF13 (wantedS rfl) (run_mv rfl (hF13.ev 7 rfl)) rfl (by decide) fun a14 hF14 => ?_
            refine sq (v := (.int .i64 (X.length : Int))) hF14 (wantedS rfl) (run_lenS rfl (hF14.ev 23 rfl) (slOfRow (c := cr) (hM3.ob 0 rfl)) rfl Tryd.underlying34) rfl (by decide) fun a15 hF15 => ?_
            refine sq (v := (.bool false)) hF15 (wantedS rfl) (run_nei rfl (hF15.ev 24 rfl) rfl (bne_eq_false_iff_eq.2 (by omega))) rfl (by decide) fun a16 hF16 => ?_
            refine sq (v := (.bool false)) hF16 (wantedS rfl) (run_mv rfl (hF16.ev 25 rfl)) rfl (by decide) fun a17 hF17 => ?_
            refine sq (v := (.slice (some ⟨gr, 0, none⟩) X.length cr)) hF17 (wantedG hF17 rfl rfl rfl rfl rfl) (run_mv rfl (hF17.ev 7 rfl)) rfl (by decide) fun a18 hF18 => ?_
            refine sq (v := (slPtr (.slice (some ⟨gr, 0, none⟩) X.length cr) (1 * 1))) hF18 (wantedG hF18 rfl rfl rfl rfl rfl) (run_atP (i := 1) rfl (hF18.ev 27 rfl) rfl rfl (slOfRow (c := cr) (hM3.ob 0 rfl)) (by omega) elStr.un (by kernel_rfl)) rfl (by decide) fun a19 hF19 => ?_
            refine sq (v := (.string ⟨tb.toArray⟩)) hF19 (wantedG hF19 rfl rfl rfl rfl rfl) (run_ldP rfl (hF19.ev 28 rfl) (slOfRow (c := cr) (hM3.ob 0 rfl)) (map_at hXb) (by kernel_rfl)) rfl (by decide) fun a20 hF20 => ?_
            refine sq (v := (.int .i64 (tb.length : Int))) hF20 (wantedG hF20 rfl rfl rfl rfl rfl) (run_len rfl (hF20.ev 29 rfl) rfl Tryd.underlying9) rfl (by decide) fun a21 hF21 => ?_
            refine sq (v := (.bool false)) hF21 (wantedG hF21 rfl rfl rfl rfl rfl) (run_nei rfl (hF21.ev 30 rfl) rfl (bne_eq_false_iff_eq.2 (by omega))) rfl (by decide) fun a22 hF22 => ?_
            refine sq (v := (.bool false)) hF22 (wantedS rfl) (run_pick rfl (hF22.ev 26 rfl) rfl (hF22.ev 31 rfl)) rfl (by decide) fun a23 hF23 => ?_
            refine sqEnd ?_
            clear hF13 hF14 hF15 hF16 hF17 hF18 hF19 hF20 hF21 hF22
            refine nx ?_
            refine wp_cond_false (hF23.ev 32 rfl) ?_
            refine wp_skip ?_
            refine nx ?_
            refine wp_seq ?_
            refine wp_region_lit ?_
            refine sq (v := (.slice (some ⟨gr, 0, none⟩) X.length cr)) hF23 (wantedS rfl) (run_mv rfl (hF23.ev 7 rfl)) rfl (by decide) fun a24 hF24 => ?_
            refine sq (v := (slPtr (.slice (some ⟨gr, 0, none⟩) X.length cr) (1 * 1))) hF24 (wantedS rfl) (run_atP (i := 1) rfl (hF24.ev 34 rfl) rfl rfl (slOfRow (c := cr) (hM3.ob 0 rfl)) (by omega) elStr.un (by kernel_rfl)) rfl (by decide) fun a25 hF25 => ?_
            refine sq (v := (.string ⟨tb.toArray⟩)) hF25 (wantedS rfl) (run_ldP rfl (hF25.ev 35 rfl) (slOfRow (c := cr) (hM3.ob 0 rfl)) (map_at hXb) (by kernel_rfl)) rfl (by decide) fun a26 hF26 => ?_
            refine sqC (v := (.int .u64 (getS tb : Int))) hF26 hM3 (wantedS rfl) (run_call rfl Tryd.func34 (by kernel_rfl) rfl (mapE1 (hF26.ev 36 rfl))) rfl (by decide) (nget_any tb w3) fun a27 w4 hb4 hF27 hM4 => ?_
            refine sqNew (cs := #[(.int .u64 0)]) (t := 22) hF27 hM4 (wantedS rfl) (run_alloc1 rfl (by kernel_rfl)) rfl (by decide) fun g4 a28 w5 hgg4 hb5 hF28 hM5 => ?_
            refine sqSet1U (j := 0) hF28 hM5 rfl rfl rfl (hF28.ev 9 rfl) (hF28.ev 37 rfl) rfl fun a29 w6 hgr6 hF29 hM6 => ?_
            refine sqEnd ?_
            clear hF23 hF24 hF25 hF26 hF27 hF28 hM3 hM4 hM5
            refine nx ?_
            refine wp_seq ?_
            refine wp_block ?_
            refine wp_seq ?_
            obtain ⟨KL, hKL⟩ : ∃ KL, KL = [kval (.slice (some ⟨gr, 0, none⟩) X.length cr), kval (slPtr (.slice (some ⟨gr, 0, none⟩) X.length cr) (0 * 1)), kval (.string ⟨ta.toArray⟩), kval (.pointer (some ⟨g0, 0, none⟩)), kval (.string ⟨c.m.toArray⟩), kval (.bool false), kval (.bool false)] := ⟨_, rfl⟩
            have K0 : KL.getD 0 kany = kval (.slice (some ⟨gr, 0, none⟩) X.length cr) := by rw [hKL]; rfl
            have K1 : KL.getD 1 kany = kval (slPtr (.slice (some ⟨gr, 0, none⟩) X.length cr) (0 * 1)) := by rw [hKL]; rfl
            have K2 : KL.getD 2 kany = kval (.string ⟨ta.toArray⟩) := by rw [hKL]; rfl
            have K3 : KL.getD 3 kany = kval (.pointer (some ⟨g0, 0, none⟩)) := by rw [hKL]; rfl
            have K4 : KL.getD 4 kany = kval (.string ⟨c.m.toArray⟩) := by rw [hKL]; rfl
            have K5 : KL.getD 5 kany = kval (.bool false) := by rw [hKL]; rfl
            have K6 : KL.getD 6 kany = kval (.bool false) := by rw [hKL]; rfl
            clear hKL
            refine wp_region_kd 103 (by kernel_rfl) (by kernel_rfl) (by kernel_rfl) hF29.size KL ?_ ?_
            · refine ⟨?_, ?_, ?_, ?_, ?_, ?_, ?_, trivial⟩
              · refine asks_mk fun a W hS hh hd => ⟨wanted_yes rfl, ?_⟩
                exact giv_run (run_mv rfl (eval_tmp (hh 7 _ rfl (hF29.at 7 rfl)))) K0
              · refine asks_mk fun a W hS hh hd => ⟨wanted_yes rfl, ?_⟩
                exact giv_run (run_atP (i := 0) rfl (eval_tmp (hd.val (j := 0) (s := 39) (by kernel_rfl) K0)) rfl rfl (slOfRow (c := cr) ((hM6.grow hS).ob 1 rfl)) (by omega) elStr.un (by kernel_rfl)) K1
              · refine asks_mk fun a W hS hh hd => ⟨wanted_yes rfl, ?_⟩
                exact giv_run (run_ldP rfl (eval_tmp (hd.val (j := 1) (s := 40) (by kernel_rfl) K1)) (slOfRow (c := cr) ((hM6.grow hS).ob 1 rfl)) (map_at hXa) (by kernel_rfl)) K2
              · refine asks_mk fun a W hS hh hd => ⟨wanted_yes rfl, ?_⟩
                exact giv_run (run_fldA (m := 1) (s := 0) rfl (eval_tmp (hh 2 _ rfl (hF29.at 2 rfl))) Tryd.underlying26 rfl rfl (by kernel_rfl) (by decide)) K3
              · refine asks_mk fun a W hS hh hd => ⟨wanted_yes rfl, ?_⟩
                exact giv_run (run_ldF rfl (eval_tmp (hd.val (j := 3) (s := 42) (by kernel_rfl) K3)) ((hM6.grow hS).at 3 rfl) rfl (by kernel_rfl)) K4
              · refine asks_mk fun a W hS hh hd => ⟨wanted_yes rfl, ?_⟩
                exact giv_run (run_nes rfl (eval_tmp (hd.val (j := 2) (s := 41) (by kernel_rfl) K2)) (eval_tmp (hd.val (j := 4) (s := 43) (by kernel_rfl) K4)) hneq) K5
              · refine asks_mk fun a W hS hh hd => ⟨wanted_yes rfl, ?_⟩
                exact giv_run (run_as rfl (eval_tmp (hd.val (j := 5) (s := 44) (by kernel_rfl) K5))) K6
            · intro a30 w7 hb7 hK
              have e0 := hK.val (i := 0) (s := 39) (by kernel_rfl) K0
              have e1 := hK.val (i := 1) (s := 40) (by kernel_rfl) K1
              have e2 := hK.val (i := 2) (s := 41) (by kernel_rfl) K2
              have e3 := hK.val (i := 3) (s := 42) (by kernel_rfl) K3
              have e4 := hK.val (i := 4) (s := 43) (by kernel_rfl) K4
              have e5 := hK.val (i := 5) (s := 44) (by kernel_rfl) K5
              have e6 := hK.val (i := 6) (s := 38) (by kernel_rfl) K6
              have hF30 : Fr a30 103 [(0, (.agg (chA c))), (1, (.string ⟨f.toArray⟩)), (2, (.pointer (some ⟨g0, 0, none⟩))), (4, (.pointer (some ⟨g1, 0, none⟩))), (5, (.string ⟨List.toArray []⟩)), (6, (.int .i64 0)), (7, (.slice (some ⟨gr, 0, none⟩) X.length cr)), (8, (.int .i64 0)), (9, (.pointer (some ⟨g4, 0, none⟩))), (14, (.tuple #[(.slice (some ⟨gr, 0, none⟩) X.length cr), (.int .i64 0)])), (15, (.string ⟨f.toArray⟩)), (16, (.tuple #[(.slice (some ⟨gr, 0, none⟩) X.length cr), (.int .i64 0)])), (17, (.slice (some ⟨gr, 0, none⟩) X.length cr)), (18, (.int .i64 0)), (19, (.int .i64 0)), (20, (.bool false)), (23, (.slice (some ⟨gr, 0, none⟩) X.length cr)), (24, (.int .i64 (X.length : Int))), (25, (.bool false)), (26, (.bool false)), (27, (.slice (some ⟨gr, 0, none⟩) X.length cr)), (28, (slPtr (.slice (some ⟨gr, 0, none⟩) X.length cr) (1 * 1))), (29, (.string ⟨tb.toArray⟩)), (30, (.int .i64 (tb.length : Int))), (31, (.bool false)), (32, (.bool false)), (34, (.slice (some ⟨gr, 0, none⟩) X.length cr)), (35, (slPtr (.slice (some ⟨gr, 0, none⟩) X.length cr) (1 * 1))), (36, (.string ⟨tb.toArray⟩)), (37, (.int .u64 (getS tb : Int))), (38, (.bool false))] := (hK.fr hF29 [(.slice (some ⟨gr, 0, none⟩) X.length cr), (slPtr (.slice (some ⟨gr, 0, none⟩) X.length cr) (0 * 1)), (.string ⟨ta.toArray⟩), (.pointer (some ⟨g0, 0, none⟩)), (.string ⟨c.m.toArray⟩), (.bool false), (.bool false)] ⟨e0, e1, e2, e3, e4, e5, e6, trivial⟩).sub ⟨rfl, rfl, rfl, rfl, rfl, rfl, rfl, rfl, rfl, rfl, rfl, rfl, rfl, rfl, rfl, rfl, rfl, rfl, rfl, rfl, rfl, rfl, rfl, rfl, rfl, rfl, rfl, rfl, rfl, rfl, rfl, trivial⟩
              have hM7 := hM6.grow hb7
              clear hK K0 e0 K1 e1 K2 e2 K3 e3 K4 e4 K5 e5 K6 e6
              clear hF29 hM6
              refine nx ?_
              refine wp_cond_false (hF30.ev 38 rfl) ?_
              refine wp_seq ?_
              refine wp_region_lit ?_
              refine sq (v := (.int .u64 (getS tb : Int))) hF30 (wantedS rfl) (run_ld1 rfl (hF30.ev 9 rfl) (hM7.at 0 rfl) (by kernel_rfl)) rfl (by decide) fun a31 hF31 => ?_
              refine sq (v := (.pointer (some ⟨g0, 1, none⟩))) hF31 (wantedS rfl) (run_fldA (m := 1) (s := 1) rfl (hF31.ev 2 rfl) Tryd.underlying26 rfl rfl (by kernel_rfl) (by decide)) rfl (by decide) fun a32 hF32 => ?_
              refine sq (v := (.int .u64 (c.n : Int))) hF32 (wantedS rfl) (run_ldF rfl (hF32.ev 48 rfl) (hM7.at 3 rfl) rfl (by kernel_rfl)) rfl (by decide) fun a33 hF33 => ?_
              refine sq (v := (.bool false)) hF33 (wantedS rfl) (run_lss rfl (hF33.ev 47 rfl) (hF33.ev 49 rfl) (decide_eq_false (by omega))) rfl (by decide) fun a34 hF34 => ?_
              refine sq (v := (.bool false)) hF34 (wantedS rfl) (run_as rfl (hF34.ev 50 rfl)) rfl (by decide) fun a35 hF35 => ?_
              refine sqEnd ?_
              clear hF30 hF31 hF32 hF33 hF34
              refine nx ?_
              refine wp_cond_false (hF35.ev 46 rfl) ?_
              refine wp_seq ?_
              refine wp_region_lit ?_
              refine sq (v := (.int .u64 (getS tb : Int))) hF35 (wantedS rfl) (run_ld1 rfl (hF35.ev 9 rfl) (hM7.at 0 rfl) (by kernel_rfl)) rfl (by decide) fun a36 hF36 => ?_
              refine sq (v := (.pointer (some ⟨g0, 1, none⟩))) hF36 (wantedS rfl) (run_fldA (m := 1) (s := 1) rfl (hF36.ev 2 rfl) Tryd.underlying26 rfl rfl (by kernel_rfl) (by decide)) rfl (by decide) fun a37 hF37 => ?_
              refine sq (v := (.int .u64 (c.n : Int))) hF37 (wantedS rfl) (run_ldF rfl (hF37.ev 54 rfl) (hM7.at 3 rfl) rfl (by kernel_rfl)) rfl (by decide) fun a38 hF38 => ?_
              refine sq (v := (.int .u64 ((getS tb - c.n : Nat) : Int))) hF38 (wantedS rfl) (run_sub (r := ((getS tb - c.n : Nat) : Int)) rfl (hF38.ev 53 rfl) (hF38.ev 55 rfl) (by rw [IntKind.wrap_u64]; omega)) rfl (by decide) fun a39 hF39 => ?_
              refine sq (v := (.bool false)) hF39 (wantedS rfl) (run_gtr rfl (hF39.ev 56 rfl) rfl (decide_eq_false (by omega))) rfl (by decide) fun a40 hF40 => ?_
              refine sq (v := (.bool false)) hF40 (wantedS rfl) (run_mv rfl (hF40.ev 57 rfl)) rfl (by decide) fun a41 hF41 => ?_
              refine sq (v := (.int .u64 (getS tb : Int))) hF41 (wantedG hF41 rfl rfl rfl rfl rfl) (run_ld1 rfl (hF41.ev 9 rfl) (hM7.at 0 rfl) (by kernel_rfl)) rfl (by decide) fun a42 hF42 => ?_
              refine sq (v := (.bool true)) hF42 (wantedG hF42 rfl rfl rfl rfl rfl) (run_eqi rfl (hF42.ev 59 rfl) rfl (beq_iff_eq.2 (by omega))) rfl (by decide) fun a43 hF43 => ?_
              refine sq (v := (.bool true)) hF43 (wantedS rfl) (run_pick rfl (hF43.ev 58 rfl) rfl (hF43.ev 60 rfl)) rfl (by decide) fun a44 hF44 => ?_
              refine sq (v := (.bool true)) hF44 (wantedS rfl) (run_as rfl (hF44.ev 61 rfl)) rfl (by decide) fun a45 hF45 => ?_
              refine sqEnd ?_
              clear hF35 hF36 hF37 hF38 hF39 hF40 hF41 hF42 hF43 hF44
              refine nx ?_
              refine wp_cond_true (hF45.ev 52 rfl) ?_
              refine wp_seq ?_
              refine wp_region_lit ?_
              refine sq (v := (.agg (chA noCh))) hF45 (wantedS rfl) (run_blt (vs := #[]) (cs := chA noCh) rfl (by simp) built_ch0) rfl (by decide) fun a46 hF46 => ?_
              refine sqStore (i := 2) hF46 hM7 rfl rfl rfl (hF46.ev 4 rfl) (hF46.ev 62 rfl) rfl szCh (chA_size noCh_len) (chA_size noCh_len) (chA_one _) fun a47 w8 hF47 hM8 => ?_
              refine sq (v := (.string ⟨List.toArray []⟩)) hF47 (wantedS rfl) (run_as rfl rfl) rfl (by decide) fun a48 hF48 => ?_
              refine sq (v := (.int .i64 6)) hF48 (wantedS rfl) (run_as rfl rfl) rfl (by decide) fun a49 hF49 => ?_
              refine sqEnd ?_
              clear hF45 hF46 hF47 hF48 hM7
              refine nx ?_
              refine wp_ret ?_
              refine bkRet ?_
              refine nxRet ?_
              exact retBTTM hF49 rfl rfl (hM8.at 2 rfl) Tryd.underlying26 rfl szCh (chA_size noCh_len) rfl rfl ⟨by rw [hs], hM8.below⟩
          have hs2 : ∀ N, getS tb - c.n = N → takeS c f = if (openS (keyedS (nxS c.k N) [115, 101, 110, 100]) (headS c.m (getS tb)) tc).2 = 0 then (⟨c.m, getS tb + 1, nextS (nxS c.k N)⟩, (openS (keyedS (nxS c.k N) [115, 101, 110, 100]) (headS c.m (getS tb)) tc).1, 0) else (noCh, [], (openS (keyedS (nxS c.k N) [115, 101, 110, 100]) (headS c.m (getS tb)) tc).2) := by
            intro N hN
            rw [hs1]; unfold takeB; rw [if_neg hold, if_neg (by omega), hN]; rfl
          unfold mostN at hmx
          obtain ⟨N, hN⟩ : ∃ N, getS tb - c.n = N := ⟨_, rfl⟩
          have hs3 := hs2 N hN
          clear hs2
          have hhl := headS_len c.m (getS tb) (by omega)
          by_cases hop : (openS (keyedS (nxS c.k N) [115, 101, 110, 100]) (headS c.m (getS tb)) tc).2 = 0
          · have hs : takeS c f = (Ch.mk c.m (getS tb + 1) (nextS (nxS c.k N)), (openS (keyedS (nxS c.k N) [115, 101, 110, 100]) (headS c.m (getS tb)) tc).1, 0) := by rw [hs3, if_pos hop]
            refine walk_enterM Tryd.func13 rfl rfl rfl fun a0 hF0 => ?_
            have hM0 := Mem.new w
            refine wp_seq ?_
            refine wp_region_lit ?_
            refine sqNew (cs := (chA c)) (t := 26) hF0 hM0 (wantedS rfl) (run_box rfl (hF0.ev 0 rfl)) rfl (by decide) fun g0 a1 w1 hgg0 hb1 hF1 hM1 => ?_
            refine sqNew (cs := (chA noCh)) (t := 26) hF1 hM1 (wantedS rfl) (run_alloc rfl (by kernel_rfl)) rfl (by decide) fun g1 a2 w2 hgg1 hb2 hF2 hM2 => ?_
            refine sq (v := (.string ⟨List.toArray []⟩)) hF2 (wantedS rfl) (run_as rfl rfl) rfl (by decide) fun a3 hF3 => ?_
            refine sq (v := (.int .i64 0)) hF3 (wantedS rfl) (run_as rfl rfl) rfl (by decide) fun a4 hF4 => ?_
            refine sqEnd ?_
            clear hF0 hF1 hF2 hF3 hM0 hM1
            refine nx ?_
            refine wp_seq ?_
            refine wp_region_lit ?_
            refine sq (v := (.string ⟨f.toArray⟩)) hF4 (wantedS rfl) (run_mv rfl (hF4.ev 1 rfl)) rfl (by decide) fun a5 hF5 => ?_
            refine sqT (T := fun u wx => (∃ v, u = .tuple #[v, .int .i64 0] ∧ wx.ownsRow w2.heap.size 9 1 v X.length (X.map tx)) ∧ Below w2.heap.size w2 wx) hF5 (wantedS rfl) (run_call rfl Tryd.func33 (by kernel_rfl) rfl (mapE1 (hF5.ev 15 rfl))) rfl (by decide) (ntexts_ok hT w2 (by omega)) fun u2 a6 w3 hT3 hF6 => ?_
            obtain ⟨⟨v3, rfl, hr3⟩, hb3⟩ := hT3
            obtain ⟨gr, cr, rfl, hcapgr, hggr, hM3⟩ := OwnR.ofCallMem hM2 hb3 hr3 (by omega)
            refine sq (v := (.tuple #[(.slice (some ⟨gr, 0, none⟩) X.length cr), (.int .i64 0)])) hF6 (wantedS rfl) (run_mv rfl (hF6.ev 16 rfl)) rfl (by decide) fun a7 hF7 => ?_
            refine sq (v := (.slice (some ⟨gr, 0, none⟩) X.length cr)) hF7 (wantedS rfl) (run_ext rfl (hF7.ev 14 rfl) rfl) rfl (by decide) fun a8 hF8 => ?_
            refine sq (v := (.int .i64 0)) hF8 (wantedS rfl) (run_ext rfl (hF8.ev 14 rfl) rfl) rfl (by decide) fun a9 hF9 => ?_
            refine sq (v := (.slice (some ⟨gr, 0, none⟩) X.length cr)) hF9 (wantedS rfl) (run_as rfl (hF9.ev 17 rfl)) rfl (by decide) fun a10 hF10 => ?_
            refine sq (v := (.int .i64 0)) hF10 (wantedS rfl) (run_as rfl (hF10.ev 18 rfl)) rfl (by decide) fun a11 hF11 => ?_
            refine sqEnd ?_
            clear hF4 hF5 hF6 hF7 hF8 hF9 hF10 hM2
            refine nx ?_
            refine wp_seq ?_
            refine wp_seq ?_
            refine wp_region_lit ?_
            refine sq (v := (.int .i64 0)) hF11 (wantedS rfl) (run_mv rfl (hF11.ev 8 rfl)) rfl (by decide) fun a12 hF12 => ?_
            refine sq (v := (.bool false)) hF12 (wantedS rfl) (run_nei rfl (hF12.ev 19 rfl) rfl (bne_eq_false_iff_eq.2 (by omega))) rfl (by decide) fun a13 hF13 => ?_
            refine sqEnd ?_
            clear hF11 hF12
            refine nx ?_
            refine wp_cond_false (hF13.ev 20 rfl) ?_
            refine wp_skip ?_
            refine nx ?_
            refine wp_seq ?_
            refine wp_seq ?_
            refine wp_region_lit ?_
            refine sq (v := (.slice (some ⟨gr, 0, none⟩) X.length cr)) hF13 (wantedS rfl) (run_mv rfl (hF13.ev 7 rfl)) rfl (by decide) fun a14 hF14 => ?_
            refine sq (v := (.int .i64 (X.length : Int))) hF14 (wantedS rfl) (run_lenS rfl (hF14.ev 23 rfl) (slOfRow (c := cr) (hM3.ob 0 rfl)) rfl Tryd.underlying34) rfl (by decide) fun a15 hF15 => ?_
            refine sq (v := (.bool false)) hF15 (wantedS rfl) (run_nei rfl (hF15.ev 24 rfl) rfl (bne_eq_false_iff_eq.2 (by omega))) rfl (by decide) fun a16 hF16 => ?_
            refine sq (v := (.bool false)) hF16 (wantedS rfl) (run_mv rfl (hF16.ev 25 rfl)) rfl (by decide) fun a17 hF17 => ?_
            refine sq (v := (.slice (some ⟨gr, 0, none⟩) X.length cr)) hF17 (wantedG hF17 rfl rfl rfl rfl rfl) (run_mv rfl (hF17.ev 7 rfl)) rfl (by decide) fun a18 hF18 => ?_
            refine sq (v := (slPtr (.slice (some ⟨gr, 0, none⟩) X.length cr) (1 * 1))) hF18 (wantedG hF18 rfl rfl rfl rfl rfl) (run_atP (i := 1) rfl (hF18.ev 27 rfl) rfl rfl (slOfRow (c := cr) (hM3.ob 0 rfl)) (by omega) elStr.un (by kernel_rfl)) rfl (by decide) fun a19 hF19 => ?_
            refine sq (v := (.string ⟨tb.toArray⟩)) hF19 (wantedG hF19 rfl rfl rfl rfl rfl) (run_ldP rfl (hF19.ev 28 rfl) (slOfRow (c := cr) (hM3.ob 0 rfl)) (map_at hXb) (by kernel_rfl)) rfl (by decide) fun a20 hF20 => ?_
            refine sq (v := (.int .i64 (tb.length : Int))) hF20 (wantedG hF20 rfl rfl rfl rfl rfl) (run_len rfl (hF20.ev 29 rfl) rfl Tryd.underlying9) rfl (by decide) fun a21 hF21 => ?_
            refine sq (v := (.bool false)) hF21 (wantedG hF21 rfl rfl rfl rfl rfl) (run_nei rfl (hF21.ev 30 rfl) rfl (bne_eq_false_iff_eq.2 (by omega))) rfl (by decide) fun a22 hF22 => ?_
            refine sq (v := (.bool false)) hF22 (wantedS rfl) (run_pick rfl (hF22.ev 26 rfl) rfl (hF22.ev 31 rfl)) rfl (by decide) fun a23 hF23 => ?_
            refine sqEnd ?_
            clear hF13 hF14 hF15 hF16 hF17 hF18 hF19 hF20 hF21 hF22
            refine nx ?_
            refine wp_cond_false (hF23.ev 32 rfl) ?_
            refine wp_skip ?_
            refine nx ?_
            refine wp_seq ?_
            refine wp_region_lit ?_
            refine sq (v := (.slice (some ⟨gr, 0, none⟩) X.length cr)) hF23 (wantedS rfl) (run_mv rfl (hF23.ev 7 rfl)) rfl (by decide) fun a24 hF24 => ?_
            refine sq (v := (slPtr (.slice (some ⟨gr, 0, none⟩) X.length cr) (1 * 1))) hF24 (wantedS rfl) (run_atP (i := 1) rfl (hF24.ev 34 rfl) rfl rfl (slOfRow (c := cr) (hM3.ob 0 rfl)) (by omega) elStr.un (by kernel_rfl)) rfl (by decide) fun a25 hF25 => ?_
            refine sq (v := (.string ⟨tb.toArray⟩)) hF25 (wantedS rfl) (run_ldP rfl (hF25.ev 35 rfl) (slOfRow (c := cr) (hM3.ob 0 rfl)) (map_at hXb) (by kernel_rfl)) rfl (by decide) fun a26 hF26 => ?_
            refine sqC (v := (.int .u64 (getS tb : Int))) hF26 hM3 (wantedS rfl) (run_call rfl Tryd.func34 (by kernel_rfl) rfl (mapE1 (hF26.ev 36 rfl))) rfl (by decide) (nget_any tb w3) fun a27 w4 hb4 hF27 hM4 => ?_
            refine sqNew (cs := #[(.int .u64 0)]) (t := 22) hF27 hM4 (wantedS rfl) (run_alloc1 rfl (by kernel_rfl)) rfl (by decide) fun g4 a28 w5 hgg4 hb5 hF28 hM5 => ?_
            refine sqSet1U (j := 0) hF28 hM5 rfl rfl rfl (hF28.ev 9 rfl) (hF28.ev 37 rfl) rfl fun a29 w6 hgr6 hF29 hM6 => ?_
            refine sqEnd ?_
            clear hF23 hF24 hF25 hF26 hF27 hF28 hM3 hM4 hM5
            refine nx ?_
            refine wp_seq ?_
            refine wp_block ?_
            refine wp_seq ?_
            obtain ⟨KL, hKL⟩ : ∃ KL, KL = [kval (.slice (some ⟨gr, 0, none⟩) X.length cr), kval (slPtr (.slice (some ⟨gr, 0, none⟩) X.length cr) (0 * 1)), kval (.string ⟨ta.toArray⟩), kval (.pointer (some ⟨g0, 0, none⟩)), kval (.string ⟨c.m.toArray⟩), kval (.bool false), kval (.bool false)] := ⟨_, rfl⟩
            have K0 : KL.getD 0 kany = kval (.slice (some ⟨gr, 0, none⟩) X.length cr) := by rw [hKL]; rfl
            have K1 : KL.getD 1 kany = kval (slPtr (.slice (some ⟨gr, 0, none⟩) X.length cr) (0 * 1)) := by rw [hKL]; rfl
            have K2 : KL.getD 2 kany = kval (.string ⟨ta.toArray⟩) := by rw [hKL]; rfl
            have K3 : KL.getD 3 kany = kval (.pointer (some ⟨g0, 0, none⟩)) := by rw [hKL]; rfl
            have K4 : KL.getD 4 kany = kval (.string ⟨c.m.toArray⟩) := by rw [hKL]; rfl
            have K5 : KL.getD 5 kany = kval (.bool false) := by rw [hKL]; rfl
            have K6 : KL.getD 6 kany = kval (.bool false) := by rw [hKL]; rfl
            clear hKL
            refine wp_region_kd 103 (by kernel_rfl) (by kernel_rfl) (by kernel_rfl) hF29.size KL ?_ ?_
            · refine ⟨?_, ?_, ?_, ?_, ?_, ?_, ?_, trivial⟩
              · refine asks_mk fun a W hS hh hd => ⟨wanted_yes rfl, ?_⟩
                exact giv_run (run_mv rfl (eval_tmp (hh 7 _ rfl (hF29.at 7 rfl)))) K0
              · refine asks_mk fun a W hS hh hd => ⟨wanted_yes rfl, ?_⟩
                exact giv_run (run_atP (i := 0) rfl (eval_tmp (hd.val (j := 0) (s := 39) (by kernel_rfl) K0)) rfl rfl (slOfRow (c := cr) ((hM6.grow hS).ob 1 rfl)) (by omega) elStr.un (by kernel_rfl)) K1
              · refine asks_mk fun a W hS hh hd => ⟨wanted_yes rfl, ?_⟩
                exact giv_run (run_ldP rfl (eval_tmp (hd.val (j := 1) (s := 40) (by kernel_rfl) K1)) (slOfRow (c := cr) ((hM6.grow hS).ob 1 rfl)) (map_at hXa) (by kernel_rfl)) K2
              · refine asks_mk fun a W hS hh hd => ⟨wanted_yes rfl, ?_⟩
                exact giv_run (run_fldA (m := 1) (s := 0) rfl (eval_tmp (hh 2 _ rfl (hF29.at 2 rfl))) Tryd.underlying26 rfl rfl (by kernel_rfl) (by decide)) K3
              · refine asks_mk fun a W hS hh hd => ⟨wanted_yes rfl, ?_⟩
                exact giv_run (run_ldF rfl (eval_tmp (hd.val (j := 3) (s := 42) (by kernel_rfl) K3)) ((hM6.grow hS).at 3 rfl) rfl (by kernel_rfl)) K4
              · refine asks_mk fun a W hS hh hd => ⟨wanted_yes rfl, ?_⟩
                exact giv_run (run_nes rfl (eval_tmp (hd.val (j := 2) (s := 41) (by kernel_rfl) K2)) (eval_tmp (hd.val (j := 4) (s := 43) (by kernel_rfl) K4)) hneq) K5
              · refine asks_mk fun a W hS hh hd => ⟨wanted_yes rfl, ?_⟩
                exact giv_run (run_as rfl (eval_tmp (hd.val (j := 5) (s := 44) (by kernel_rfl) K5))) K6
            · intro a30 w7 hb7 hK
              have e0 := hK.val (i := 0) (s := 39) (by kernel_rfl) K0
              have e1 := hK.val (i := 1) (s := 40) (by kernel_rfl) K1
              have e2 := hK.val (i := 2) (s := 41) (by kernel_rfl) K2
              have e3 := hK.val (i := 3) (s := 42) (by kernel_rfl) K3
              have e4 := hK.val (i := 4) (s := 43) (by kernel_rfl) K4
              have e5 := hK.val (i := 5) (s := 44) (by kernel_rfl) K5
              have e6 := hK.val (i := 6) (s := 38) (by kernel_rfl) K6
              have hF30 : Fr a30 103 [(0, (.agg (chA c))), (1, (.string ⟨f.toArray⟩)), (2, (.pointer (some ⟨g0, 0, none⟩))), (4, (.pointer (some ⟨g1, 0, none⟩))), (5, (.string ⟨List.toArray []⟩)), (6, (.int .i64 0)), (7, (.slice (some ⟨gr, 0, none⟩) X.length cr)), (8, (.int .i64 0)), (9, (.pointer (some ⟨g4, 0, none⟩))), (14, (.tuple #[(.slice (some ⟨gr, 0, none⟩) X.length cr), (.int .i64 0)])), (15, (.string ⟨f.toArray⟩)), (16, (.tuple #[(.slice (some ⟨gr, 0, none⟩) X.length cr), (.int .i64 0)])), (17, (.slice (some ⟨gr, 0, none⟩) X.length cr)), (18, (.int .i64 0)), (19, (.int .i64 0)), (20, (.bool false)), (23, (.slice (some ⟨gr, 0, none⟩) X.length cr)), (24, (.int .i64 (X.length : Int))), (25, (.bool false)), (26, (.bool false)), (27, (.slice (some ⟨gr, 0, none⟩) X.length cr)), (28, (slPtr (.slice (some ⟨gr, 0, none⟩) X.length cr) (1 * 1))), (29, (.string ⟨tb.toArray⟩)), (30, (.int .i64 (tb.length : Int))), (31, (.bool false)), (32, (.bool false)), (34, (.slice (some ⟨gr, 0, none⟩) X.length cr)), (35, (slPtr (.slice (some ⟨gr, 0, none⟩) X.length cr) (1 * 1))), (36, (.string ⟨tb.toArray⟩)), (37, (.int .u64 (getS tb : Int))), (38, (.bool false))] := (hK.fr hF29 [(.slice (some ⟨gr, 0, none⟩) X.length cr), (slPtr (.slice (some ⟨gr, 0, none⟩) X.length cr) (0 * 1)), (.string ⟨ta.toArray⟩), (.pointer (some ⟨g0, 0, none⟩)), (.string ⟨c.m.toArray⟩), (.bool false), (.bool false)] ⟨e0, e1, e2, e3, e4, e5, e6, trivial⟩).sub ⟨rfl, rfl, rfl, rfl, rfl, rfl, rfl, rfl, rfl, rfl, rfl, rfl, rfl, rfl, rfl, rfl, rfl, rfl, rfl, rfl, rfl, rfl, rfl, rfl, rfl, rfl, rfl, rfl, rfl, rfl, rfl, trivial⟩
              have hM7 := hM6.grow hb7
              clear hK K0 e0 K1 e1 K2 e2 K3 e3 K4 e4 K5 e5 K6 e6
              clear hF29 hM6
              refine nx ?_
              refine wp_cond_false (hF30.ev 38 rfl) ?_
              refine wp_seq ?_
              refine wp_region_lit ?_
              refine sq (v := (.int .u64 (getS tb : Int))) hF30 (wantedS rfl) (run_ld1 rfl (hF30.ev 9 rfl) (hM7.at 0 rfl) (by kernel_rfl)) rfl (by decide) fun a31 hF31 => ?_
              refine sq (v := (.pointer (some ⟨g0, 1, none⟩))) hF31 (wantedS rfl) (run_fldA (m := 1) (s := 1) rfl (hF31.ev 2 rfl) Tryd.underlying26 rfl rfl (by kernel_rfl) (by decide)) rfl (by decide) fun a32 hF32 => ?_
              refine sq (v := (.int .u64 (c.n : Int))) hF32 (wantedS rfl) (run_ldF rfl (hF32.ev 48 rfl) (hM7.at 3 rfl) rfl (by kernel_rfl)) rfl (by decide) fun a33 hF33 => ?_
              refine sq (v := (.bool false)) hF33 (wantedS rfl) (run_lss rfl (hF33.ev 47 rfl) (hF33.ev 49 rfl) (decide_eq_false (by omega))) rfl (by decide) fun a34 hF34 => ?_
              refine sq (v := (.bool false)) hF34 (wantedS rfl) (run_as rfl (hF34.ev 50 rfl)) rfl (by decide) fun a35 hF35 => ?_
              refine sqEnd ?_
              clear hF30 hF31 hF32 hF33 hF34
              refine nx ?_
              refine wp_cond_false (hF35.ev 46 rfl) ?_
              refine wp_seq ?_
              refine wp_region_lit ?_
              refine sq (v := (.int .u64 (getS tb : Int))) hF35 (wantedS rfl) (run_ld1 rfl (hF35.ev 9 rfl) (hM7.at 0 rfl) (by kernel_rfl)) rfl (by decide) fun a36 hF36 => ?_
              refine sq (v := (.pointer (some ⟨g0, 1, none⟩))) hF36 (wantedS rfl) (run_fldA (m := 1) (s := 1) rfl (hF36.ev 2 rfl) Tryd.underlying26 rfl rfl (by kernel_rfl) (by decide)) rfl (by decide) fun a37 hF37 => ?_
              refine sq (v := (.int .u64 (c.n : Int))) hF37 (wantedS rfl) (run_ldF rfl (hF37.ev 54 rfl) (hM7.at 3 rfl) rfl (by kernel_rfl)) rfl (by decide) fun a38 hF38 => ?_
              refine sq (v := (.int .u64 ((getS tb - c.n : Nat) : Int))) hF38 (wantedS rfl) (run_sub (r := ((getS tb - c.n : Nat) : Int)) rfl (hF38.ev 53 rfl) (hF38.ev 55 rfl) (by rw [IntKind.wrap_u64]; omega)) rfl (by decide) fun a39 hF39 => ?_
              refine sq (v := (.bool false)) hF39 (wantedS rfl) (run_gtr rfl (hF39.ev 56 rfl) rfl (decide_eq_false (by omega))) rfl (by decide) fun a40 hF40 => ?_
              refine sq (v := (.bool false)) hF40 (wantedS rfl) (run_mv rfl (hF40.ev 57 rfl)) rfl (by decide) fun a41 hF41 => ?_
              refine sq (v := (.int .u64 (getS tb : Int))) hF41 (wantedG hF41 rfl rfl rfl rfl rfl) (run_ld1 rfl (hF41.ev 9 rfl) (hM7.at 0 rfl) (by kernel_rfl)) rfl (by decide) fun a42 hF42 => ?_
              refine sq (v := (.bool false)) hF42 (wantedG hF42 rfl rfl rfl rfl rfl) (run_eqi rfl (hF42.ev 59 rfl) rfl (beq_eq_false_iff_ne.2 (by omega))) rfl (by decide) fun a43 hF43 => ?_
              refine sq (v := (.bool false)) hF43 (wantedS rfl) (run_pick rfl (hF43.ev 58 rfl) rfl (hF43.ev 60 rfl)) rfl (by decide) fun a44 hF44 => ?_
              refine sq (v := (.bool false)) hF44 (wantedS rfl) (run_as rfl (hF44.ev 61 rfl)) rfl (by decide) fun a45 hF45 => ?_
              refine sqEnd ?_
              clear hF35 hF36 hF37 hF38 hF39 hF40 hF41 hF42 hF43 hF44
              refine nx ?_
              refine wp_cond_false (hF45.ev 52 rfl) ?_
              refine wp_skip ?_
              refine bkEnd ?_
              refine nx ?_
              refine wp_seq ?_
              refine wp_region_lit ?_
              refine sq (v := (.pointer (some ⟨g0, 2, none⟩))) hF45 (wantedS rfl) (run_fldA (m := 32) (s := 2) rfl (hF45.ev 2 rfl) Tryd.underlying26 rfl rfl (by kernel_rfl) (by decide)) rfl (by decide) fun a46 hF46 => ?_
              refine sq (v := (.agg (cells8 c.k))) hF46 (wantedS rfl) (run_ldK rfl (hF46.ev 63 rfl) (hM7.at 3 rfl) hLc) rfl (by decide) fun a47 hF47 => ?_
              refine sqNew (cs := (cells8 (List.replicate 32 0))) (t := 24) hF47 hM7 (wantedS rfl) (run_alloc rfl (by kernel_rfl)) rfl (by decide) fun g5 a48 w8 hgg5 hb8 hF48 hM8 => ?_
              refine sqStore (i := 0) hF48 hM8 rfl rfl rfl (hF48.ev 10 rfl) (hF48.ev 64 rfl) rfl sz32k (szOf hLc) (szOf List.length_replicate) (cells8_one _) fun a49 w9 hF49 hM9 => ?_
              refine sqEnd ?_
              clear hF45 hF46 hF47 hF48 hM7 hM8
              refine nx ?_
              refine wp_seq ?_
              refine wp_seq ?_
              refine wp_region_lit ?_
              refine sq (v := (.pointer (some ⟨g0, 2, none⟩))) hF49 (wantedS rfl) (run_fldA (m := 32) (s := 2) rfl (hF49.ev 2 rfl) Tryd.underlying26 rfl rfl (by kernel_rfl) (by decide)) rfl (by decide) fun a50 hF50 => ?_
              refine sq (v := (.agg (cells8 c.k))) hF50 (wantedS rfl) (run_ldK rfl (hF50.ev 65 rfl) (hM9.at 4 rfl) hLc) rfl (by decide) fun a51 hF51 => ?_
              refine sqT (T := fun u wx => ∃ g, u = .func (.func 57) #[] #[.pointer (some ⟨g, 0, none⟩)] ∧ w9.heap.size ≤ g ∧ Blk wx g 24 (cells8 c.k) ∧ Below w9.heap.size w9 wx) hF51 (wantedS rfl) (run_call rfl Tryd.func35 (by kernel_rfl) rfl (mapE1 (hF51.ev 66 rfl))) rfl (by decide) (behind_any c.k w9) fun u6 a52 w10 hT10 hF52 => ?_
              obtain ⟨gk, rfl, hggk, hBgk, hb10⟩ := hT10
              have hM10 := hM9.add hb10 hggk hBgk
              refine sqEnd ?_
              clear hF49 hF50 hF51 hM9
              refine nx ?_
              refine wp_block ?_
              refine wkRange (gf := 57) (lb := #[.pointer (some ⟨gk, 0, none⟩)]) (hF52.ev 67 rfl) (enters_f Tryd.func57 (by kernel_rfl) rfl) hM10 fun rc dd lp W1 hrec hdd hlp hb1 hM1 => ?_
              have hM1p := hM1.perm (perm3 _ _ _ _)
              refine (behind1_any c.k hLc N lp gk w W1 HG _ hM1p (fun W => Mem w ((gk, isB 24 (cells8 (nxS c.k N))) :: (lp, isO (.loop (leftR rc (.exit 1)))) :: (dd, isO (.deferred (some []))) :: [(g5, isB 24 (cells8 (nxS c.k N))), (g4, isB 22 (#[(.int .u64 (getS tb : Int))])), (gr, isRow 9 1 X.length (X.map tx)), (g1, isB 26 (chA noCh)), (g0, isB 26 (chA c))]) W) (by omega) ?_).mono ?_
              · intro i W hi hMW
                refine yieldW2 hrec (hMW.obj 1 rfl) hF52 (by decide) (by decide) fun b0 hF60 => ?_
                have hM60 := hMW
                refine wpIn_seq ?_
                refine wpIn_region_round (by kernel_rfl) (fun _ _ h => h) ?_
                refine sq (v := (.int .u64 (i : Int))) hF60 (wantedS rfl) (run_as rfl (hF60.ev 68 rfl)) rfl (by decide) fun a61 hF61 => ?_
                refine sqEnd ?_
                clear hF60
                refine nx ?_
                refine wpIn_region_round (by kernel_rfl) (fun _ _ h => h) ?_
                refine sqNew (cs := (cells8 (List.replicate 32 0))) (t := 24) hF61 hM60 (wantedS rfl) (run_alloc rfl (by kernel_rfl)) rfl (by decide) fun g7 a62 w61 hgg7 hb61 hF62 hM61 => ?_
                refine sqStore (i := 0) hF62 hM61 rfl rfl rfl (hF62.ev 12 rfl) (hF62.ev 69 rfl) rfl sz32k (szOf (nxS_len hLc i)) (szOf List.length_replicate) (cells8_one _) fun a63 w62 hF63 hM62 => ?_
                refine sqEnd ?_
                clear hF61 hF62 hM60 hM61
                refine nx ?_
                refine begin_round (i := 2) hM62 rfl hrec.state fun w63 hM63 => ?_
                by_cases hiN : i = N
                · skip
                  refine wpIn_block ?_
                  refine wpIn_seq ?_
                  refine wpIn_region_round (by kernel_rfl) (fun _ _ h => h) ?_
                  refine sq (v := (.int .u64 (i : Int))) hF63 (wantedS rfl) (run_mv rfl (hF63.ev 11 rfl)) rfl (by decide) fun a64 hF64 => ?_
                  refine sq (v := (.int .u64 (getS tb : Int))) hF64 (wantedS rfl) (run_ld1 rfl (hF64.ev 9 rfl) (hM63.at 5 rfl) (by kernel_rfl)) rfl (by decide) fun a65 hF65 => ?_
                  refine sq (v := (.pointer (some ⟨g0, 1, none⟩))) hF65 (wantedS rfl) (run_fldA (m := 1) (s := 1) rfl (hF65.ev 2 rfl) Tryd.underlying26 rfl rfl (by kernel_rfl) (by decide)) rfl (by decide) fun a66 hF66 => ?_
                  refine sq (v := (.int .u64 (c.n : Int))) hF66 (wantedS rfl) (run_ldF rfl (hF66.ev 72 rfl) (hM63.at 8 rfl) rfl (by kernel_rfl)) rfl (by decide) fun a67 hF67 => ?_
                  refine sq (v := (.int .u64 (N : Int))) hF67 (wantedS rfl) (run_sub (r := (N : Int)) rfl (hF67.ev 71 rfl) (hF67.ev 73 rfl) (by rw [IntKind.wrap_u64]; omega)) rfl (by decide) fun a68 hF68 => ?_
                  refine sq (v := (.bool true)) hF68 (wantedS rfl) (run_eqi rfl (hF68.ev 70 rfl) (hF68.ev 74 rfl) (beq_iff_eq.2 (by omega))) rfl (by decide) fun a69 hF69 => ?_
                  refine sqEnd ?_
                  clear hF63 hF64 hF65 hF66 hF67 hF68
                  refine nx ?_
                  refine wpIn_cond_true (hF69.ev 75 rfl) ?_
                  refine wpIn_seq ?_
                  refine wpIn_region_round (by kernel_rfl) (fun _ _ h => h) ?_
                  refine sq (v := (.agg (cells8 (nxS c.k i)))) hF69 (wantedS rfl) (run_ldB rfl (hF69.ev 12 rfl) (hM63.at 0 rfl) Tryd.underlying24 rfl sz32k (szOf (nxS_len hLc i))) rfl (by decide) fun a70 hF70 => ?_
                  refine sqStore (i := 4) hF70 hM63 rfl rfl rfl (hF70.ev 10 rfl) (hF70.ev 76 rfl) rfl sz32k (szOf (nxS_len hLc i)) (szOf hLc) (cells8_one _) fun a71 w64 hF71 hM64 => ?_
                  refine sqEnd ?_
                  clear hF69 hF70 hM63
                  refine nx ?_
                  refine wpIn_exit ?_
                  refine bkFar (by decide) ?_
                  refine round_off (i := 2) hM64 rfl fun w99 hM99 => .inr ⟨rfl, ?_⟩
                  have hiN : i = N := by omega
                  subst hiN
                  exact hM99.sub (.cons _ (.cons_cons _ (.cons_cons _ (.cons_cons _ (.cons_cons _ (.cons_cons _ (.cons_cons _ (.cons_cons _ (.cons_cons _ .slnil)))))))))
                · skip
                  refine wpIn_block ?_
                  refine wpIn_seq ?_
                  refine wpIn_region_round (by kernel_rfl) (fun _ _ h => h) ?_
                  refine sq (v := (.int .u64 (i : Int))) hF63 (wantedS rfl) (run_mv rfl (hF63.ev 11 rfl)) rfl (by decide) fun a64 hF64 => ?_
                  refine sq (v := (.int .u64 (getS tb : Int))) hF64 (wantedS rfl) (run_ld1 rfl (hF64.ev 9 rfl) (hM63.at 5 rfl) (by kernel_rfl)) rfl (by decide) fun a65 hF65 => ?_
                  refine sq (v := (.pointer (some ⟨g0, 1, none⟩))) hF65 (wantedS rfl) (run_fldA (m := 1) (s := 1) rfl (hF65.ev 2 rfl) Tryd.underlying26 rfl rfl (by kernel_rfl) (by decide)) rfl (by decide) fun a66 hF66 => ?_
                  refine sq (v := (.int .u64 (c.n : Int))) hF66 (wantedS rfl) (run_ldF rfl (hF66.ev 72 rfl) (hM63.at 8 rfl) rfl (by kernel_rfl)) rfl (by decide) fun a67 hF67 => ?_
                  refine sq (v := (.int .u64 (N : Int))) hF67 (wantedS rfl) (run_sub (r := (N : Int)) rfl (hF67.ev 71 rfl) (hF67.ev 73 rfl) (by rw [IntKind.wrap_u64]; omega)) rfl (by decide) fun a68 hF68 => ?_
                  refine sq (v := (.bool false)) hF68 (wantedS rfl) (run_eqi rfl (hF68.ev 70 rfl) (hF68.ev 74 rfl) (beq_eq_false_iff_ne.2 (by omega))) rfl (by decide) fun a69 hF69 => ?_
                  refine sqEnd ?_
                  clear hF63 hF64 hF65 hF66 hF67 hF68
                  refine nx ?_
                  refine wpIn_cond_false (hF69.ev 75 rfl) ?_
                  refine wpIn_skip ?_
                  refine bkEnd ?_
                  refine round_on (i := 2) hM63 rfl hrec.state hrec.pending fun w99 hM99 => .inl ⟨rfl, by omega, hM99.sub (.cons _ (.cons_cons _ (.cons_cons _ (.cons_cons _ (.cons_cons _ (.cons_cons _ (.cons_cons _ (.cons_cons _ (.cons_cons _ .slnil)))))))))⟩
              · rintro ee W2 ⟨hu, hX⟩
                refine ⟨hu, range_left (i := 1) hX rfl fun w90 hM90 => ?_⟩
                have hF90 := frMark (d := dd) hF52
                refine wp_exit ?_
                refine bkHere ?_
                refine nx ?_
                refine wp_seq ?_
                obtain ⟨KL, hKL⟩ : ∃ KL, KL = [kval (.agg (cells8 (nxS c.k N))), kstrs [[115, 101, 110, 100]], kval (.agg (cells8 (keyedS (nxS c.k N) [115, 101, 110, 100]))), kval (.pointer (some ⟨g0, 0, none⟩)), kval (.string ⟨c.m.toArray⟩), kval (.int .u64 (getS tb : Int)), kval (.string ⟨(headS c.m (getS tb)).toArray⟩), kval (.slice (some ⟨gr, 0, none⟩) X.length cr), kval (slPtr (.slice (some ⟨gr, 0, none⟩) X.length cr) (2 * 1)), kval (.string ⟨tc.toArray⟩), kval (.tuple #[(.string ⟨((openS (keyedS (nxS c.k N) [115, 101, 110, 100]) (headS c.m (getS tb)) tc).1).toArray⟩), (.int .i64 ((openS (keyedS (nxS c.k N) [115, 101, 110, 100]) (headS c.m (getS tb)) tc).2))]), kval (.tuple #[(.string ⟨((openS (keyedS (nxS c.k N) [115, 101, 110, 100]) (headS c.m (getS tb)) tc).1).toArray⟩), (.int .i64 ((openS (keyedS (nxS c.k N) [115, 101, 110, 100]) (headS c.m (getS tb)) tc).2))]), kval (.string ⟨((openS (keyedS (nxS c.k N) [115, 101, 110, 100]) (headS c.m (getS tb)) tc).1).toArray⟩), kval (.int .i64 ((openS (keyedS (nxS c.k N) [115, 101, 110, 100]) (headS c.m (getS tb)) tc).2)), kval (.string ⟨((openS (keyedS (nxS c.k N) [115, 101, 110, 100]) (headS c.m (getS tb)) tc).1).toArray⟩), kval (.int .i64 ((openS (keyedS (nxS c.k N) [115, 101, 110, 100]) (headS c.m (getS tb)) tc).2))] := ⟨_, rfl⟩
                have K0 : KL.getD 0 kany = kval (.agg (cells8 (nxS c.k N))) := by rw [hKL]; rfl
                have K1 : KL.getD 1 kany = kstrs [[115, 101, 110, 100]] := by rw [hKL]; rfl
                have K2 : KL.getD 2 kany = kval (.agg (cells8 (keyedS (nxS c.k N) [115, 101, 110, 100]))) := by rw [hKL]; rfl
                have K3 : KL.getD 3 kany = kval (.pointer (some ⟨g0, 0, none⟩)) := by rw [hKL]; rfl
                have K4 : KL.getD 4 kany = kval (.string ⟨c.m.toArray⟩) := by rw [hKL]; rfl
                have K5 : KL.getD 5 kany = kval (.int .u64 (getS tb : Int)) := by rw [hKL]; rfl
                have K6 : KL.getD 6 kany = kval (.string ⟨(headS c.m (getS tb)).toArray⟩) := by rw [hKL]; rfl
                have K7 : KL.getD 7 kany = kval (.slice (some ⟨gr, 0, none⟩) X.length cr) := by rw [hKL]; rfl
                have K8 : KL.getD 8 kany = kval (slPtr (.slice (some ⟨gr, 0, none⟩) X.length cr) (2 * 1)) := by rw [hKL]; rfl
                have K9 : KL.getD 9 kany = kval (.string ⟨tc.toArray⟩) := by rw [hKL]; rfl
                have K10 : KL.getD 10 kany = kval (.tuple #[(.string ⟨((openS (keyedS (nxS c.k N) [115, 101, 110, 100]) (headS c.m (getS tb)) tc).1).toArray⟩), (.int .i64 ((openS (keyedS (nxS c.k N) [115, 101, 110, 100]) (headS c.m (getS tb)) tc).2))]) := by rw [hKL]; rfl
                have K11 : KL.getD 11 kany = kval (.tuple #[(.string ⟨((openS (keyedS (nxS c.k N) [115, 101, 110, 100]) (headS c.m (getS tb)) tc).1).toArray⟩), (.int .i64 ((openS (keyedS (nxS c.k N) [115, 101, 110, 100]) (headS c.m (getS tb)) tc).2))]) := by rw [hKL]; rfl
                have K12 : KL.getD 12 kany = kval (.string ⟨((openS (keyedS (nxS c.k N) [115, 101, 110, 100]) (headS c.m (getS tb)) tc).1).toArray⟩) := by rw [hKL]; rfl
                have K13 : KL.getD 13 kany = kval (.int .i64 ((openS (keyedS (nxS c.k N) [115, 101, 110, 100]) (headS c.m (getS tb)) tc).2)) := by rw [hKL]; rfl
                have K14 : KL.getD 14 kany = kval (.string ⟨((openS (keyedS (nxS c.k N) [115, 101, 110, 100]) (headS c.m (getS tb)) tc).1).toArray⟩) := by rw [hKL]; rfl
                have K15 : KL.getD 15 kany = kval (.int .i64 ((openS (keyedS (nxS c.k N) [115, 101, 110, 100]) (headS c.m (getS tb)) tc).2)) := by rw [hKL]; rfl
                clear hKL
                refine wp_region_kd 103 (by kernel_rfl) (by kernel_rfl) (by kernel_rfl) hF90.size KL ?_ ?_
                · refine ⟨?_, ?_, ?_, ?_, ?_, ?_, ?_, ?_, ?_, ?_, ?_, ?_, ?_, ?_, ?_, ?_, trivial⟩
                  · refine asks_mk fun a W hS hh hd => ⟨wanted_yes rfl, ?_⟩
                    exact giv_run (run_ldB rfl (eval_tmp (hh 10 _ rfl (hF90.at 10 rfl))) ((hM90.grow hS).at 3 rfl) Tryd.underlying24 rfl sz32k (szOf (nxS_len hLc N))) K0
                  · refine asks_mk fun a W hS hh hd => ⟨wanted_yes rfl, ?_⟩
                    exact giv_strs [[115, 101, 110, 100]] 9 (run_strs1 rfl rfl) K1
                  · refine asks_mk fun a W hS hh hd => ⟨wanted_yes rfl, ?_⟩
                    obtain ⟨v1, e1, s1⟩ := hd.strs (j := 1) (s := 79) (by kernel_rfl) K1
                    exact giv_call (run_call rfl Tryd.func28 (by kernel_rfl) rfl (mapE2 (eval_tmp (hd.val (j := 0) (s := 78) (by kernel_rfl) K0)) (eval_tmp e1))) (keyed1 (nxS c.k N) [115, 101, 110, 100] _ W (nxS_len hLc N) (HG.below (hM90.grow hS).below) s1 (by first | omega | decide | (simp; done) | (simp; omega))) K2
                  · refine asks_mk fun a W hS hh hd => ⟨wanted_yes rfl, ?_⟩
                    exact giv_run (run_fldA (m := 1) (s := 0) rfl (eval_tmp (hh 2 _ rfl (hF90.at 2 rfl))) Tryd.underlying26 rfl rfl (by kernel_rfl) (by decide)) K3
                  · refine asks_mk fun a W hS hh hd => ⟨wanted_yes rfl, ?_⟩
                    exact giv_run (run_ldF rfl (eval_tmp (hd.val (j := 3) (s := 81) (by kernel_rfl) K3)) ((hM90.grow hS).at 7 rfl) rfl (by kernel_rfl)) K4
                  · refine asks_mk fun a W hS hh hd => ⟨wanted_yes rfl, ?_⟩
                    exact giv_run (run_ld1 rfl (eval_tmp (hh 9 _ rfl (hF90.at 9 rfl))) ((hM90.grow hS).at 4 rfl) (by kernel_rfl)) K5
                  · refine asks_mk fun a W hS hh hd => ⟨wanted_yes rfl, ?_⟩
                    exact giv_call (run_call rfl Tryd.func30 (by kernel_rfl) rfl (mapE2 (eval_tmp (hd.val (j := 4) (s := 82) (by kernel_rfl) K4)) (eval_tmp (hd.val (j := 5) (s := 83) (by kernel_rfl) K5)))) (head_any c.m (getS tb) W (by first | omega | decide | (simp; done) | (simp; omega))) K6
                  · refine asks_mk fun a W hS hh hd => ⟨wanted_yes rfl, ?_⟩
                    exact giv_run (run_mv rfl (eval_tmp (hh 7 _ rfl (hF90.at 7 rfl)))) K7
                  · refine asks_mk fun a W hS hh hd => ⟨wanted_yes rfl, ?_⟩
                    exact giv_run (run_atP (i := 2) rfl (eval_tmp (hd.val (j := 7) (s := 85) (by kernel_rfl) K7)) rfl rfl (slOfRow (c := cr) ((hM90.grow hS).ob 5 rfl)) (by omega) elStr.un (by kernel_rfl)) K8
                  · refine asks_mk fun a W hS hh hd => ⟨wanted_yes rfl, ?_⟩
                    exact giv_run (run_ldP rfl (eval_tmp (hd.val (j := 8) (s := 86) (by kernel_rfl) K8)) (slOfRow (c := cr) ((hM90.grow hS).ob 5 rfl)) (map_at hXc) (by kernel_rfl)) K9
                  · refine asks_mk fun a W hS hh hd => ⟨wanted_yes rfl, ?_⟩
                    exact giv_call (run_call rfl Tryd.func36 (by kernel_rfl) rfl (mapE3 (eval_tmp (hd.val (j := 2) (s := 80) (by kernel_rfl) K2)) (eval_tmp (hd.val (j := 6) (s := 84) (by kernel_rfl) K6)) (eval_tmp (hd.val (j := 9) (s := 87) (by kernel_rfl) K9)))) (sopen_any (keyedS (nxS c.k N) [115, 101, 110, 100]) (headS c.m (getS tb)) tc W (HG.below (hM90.grow hS).below) (keyedS_len _ _) (by first | omega | decide | (simp; done) | (simp; omega))) K10
                  · refine asks_mk fun a W hS hh hd => ⟨wanted_yes rfl, ?_⟩
                    exact giv_run (run_mv rfl (eval_tmp (hd.val (j := 10) (s := 88) (by kernel_rfl) K10))) K11
                  · refine asks_mk fun a W hS hh hd => ⟨wanted_yes rfl, ?_⟩
                    exact giv_run (run_ext rfl (eval_tmp (hd.val (j := 11) (s := 77) (by kernel_rfl) K11)) rfl) K12
                  · refine asks_mk fun a W hS hh hd => ⟨wanted_yes rfl, ?_⟩
                    exact giv_run (run_ext rfl (eval_tmp (hd.val (j := 11) (s := 77) (by kernel_rfl) K11)) rfl) K13
                  · refine asks_mk fun a W hS hh hd => ⟨wanted_yes rfl, ?_⟩
                    exact giv_run (run_as rfl (eval_tmp (hd.val (j := 12) (s := 89) (by kernel_rfl) K12))) K14
                  · refine asks_mk fun a W hS hh hd => ⟨wanted_yes rfl, ?_⟩
                    exact giv_run (run_as rfl (eval_tmp (hd.val (j := 13) (s := 90) (by kernel_rfl) K13))) K15
                · intro a91 w91 hb91 hK
                  have e0 := hK.val (i := 0) (s := 78) (by kernel_rfl) K0
                  obtain ⟨v7, e1, hsv7⟩ := hK.strs (i := 1) (s := 79) (by kernel_rfl) K1
                  have e2 := hK.val (i := 2) (s := 80) (by kernel_rfl) K2
                  have e3 := hK.val (i := 3) (s := 81) (by kernel_rfl) K3
                  have e4 := hK.val (i := 4) (s := 82) (by kernel_rfl) K4
                  have e5 := hK.val (i := 5) (s := 83) (by kernel_rfl) K5
                  have e6 := hK.val (i := 6) (s := 84) (by kernel_rfl) K6
                  have e7 := hK.val (i := 7) (s := 85) (by kernel_rfl) K7
                  have e8 := hK.val (i := 8) (s := 86) (by kernel_rfl) K8
                  have e9 := hK.val (i := 9) (s := 87) (by kernel_rfl) K9
                  have e10 := hK.val (i := 10) (s := 88) (by kernel_rfl) K10
                  have e11 := hK.val (i := 11) (s := 77) (by kernel_rfl) K11
                  have e12 := hK.val (i := 12) (s := 89) (by kernel_rfl) K12
                  have e13 := hK.val (i := 13) (s := 90) (by kernel_rfl) K13
                  have e14 := hK.val (i := 14) (s := 13) (by kernel_rfl) K14
                  have e15 := hK.val (i := 15) (s := 8) (by kernel_rfl) K15
                  have hF91 : FrD [mark dd] a91 103 [(0, (.agg (chA c))), (1, (.string ⟨f.toArray⟩)), (2, (.pointer (some ⟨g0, 0, none⟩))), (4, (.pointer (some ⟨g1, 0, none⟩))), (5, (.string ⟨List.toArray []⟩)), (6, (.int .i64 0)), (7, (.slice (some ⟨gr, 0, none⟩) X.length cr)), (8, (.int .i64 ((openS (keyedS (nxS c.k N) [115, 101, 110, 100]) (headS c.m (getS tb)) tc).2))), (9, (.pointer (some ⟨g4, 0, none⟩))), (10, (.pointer (some ⟨g5, 0, none⟩))), (13, (.string ⟨((openS (keyedS (nxS c.k N) [115, 101, 110, 100]) (headS c.m (getS tb)) tc).1).toArray⟩)), (14, (.tuple #[(.slice (some ⟨gr, 0, none⟩) X.length cr), (.int .i64 0)])), (15, (.string ⟨f.toArray⟩)), (16, (.tuple #[(.slice (some ⟨gr, 0, none⟩) X.length cr), (.int .i64 0)])), (17, (.slice (some ⟨gr, 0, none⟩) X.length cr)), (18, (.int .i64 0)), (19, (.int .i64 0)), (20, (.bool false)), (23, (.slice (some ⟨gr, 0, none⟩) X.length cr)), (24, (.int .i64 (X.length : Int))), (25, (.bool false)), (26, (.bool false)), (27, (.slice (some ⟨gr, 0, none⟩) X.length cr)), (28, (slPtr (.slice (some ⟨gr, 0, none⟩) X.length cr) (1 * 1))), (29, (.string ⟨tb.toArray⟩)), (30, (.int .i64 (tb.length : Int))), (31, (.bool false)), (32, (.bool false)), (34, (.slice (some ⟨gr, 0, none⟩) X.length cr)), (35, (slPtr (.slice (some ⟨gr, 0, none⟩) X.length cr) (1 * 1))), (36, (.string ⟨tb.toArray⟩)), (37, (.int .u64 (getS tb : Int))), (38, (.bool false)), (46, (.bool false)), (47, (.int .u64 (getS tb : Int))), (48, (.pointer (some ⟨g0, 1, none⟩))), (49, (.int .u64 (c.n : Int))), (50, (.bool false)), (52, (.bool false)), (53, (.int .u64 (getS tb : Int))), (54, (.pointer (some ⟨g0, 1, none⟩))), (55, (.int .u64 (c.n : Int))), (56, (.int .u64 ((getS tb - c.n : Nat) : Int))), (57, (.bool false)), (58, (.bool false)), (59, (.int .u64 (getS tb : Int))), (60, (.bool false)), (61, (.bool false)), (63, (.pointer (some ⟨g0, 2, none⟩))), (64, (.agg (cells8 c.k))), (65, (.pointer (some ⟨g0, 2, none⟩))), (66, (.agg (cells8 c.k)))] := (hK.fr hF90 [(.agg (cells8 (nxS c.k N))), v7, (.agg (cells8 (keyedS (nxS c.k N) [115, 101, 110, 100]))), (.pointer (some ⟨g0, 0, none⟩)), (.string ⟨c.m.toArray⟩), (.int .u64 (getS tb : Int)), (.string ⟨(headS c.m (getS tb)).toArray⟩), (.slice (some ⟨gr, 0, none⟩) X.length cr), (slPtr (.slice (some ⟨gr, 0, none⟩) X.length cr) (2 * 1)), (.string ⟨tc.toArray⟩), (.tuple #[(.string ⟨((openS (keyedS (nxS c.k N) [115, 101, 110, 100]) (headS c.m (getS tb)) tc).1).toArray⟩), (.int .i64 ((openS (keyedS (nxS c.k N) [115, 101, 110, 100]) (headS c.m (getS tb)) tc).2))]), (.tuple #[(.string ⟨((openS (keyedS (nxS c.k N) [115, 101, 110, 100]) (headS c.m (getS tb)) tc).1).toArray⟩), (.int .i64 ((openS (keyedS (nxS c.k N) [115, 101, 110, 100]) (headS c.m (getS tb)) tc).2))]), (.string ⟨((openS (keyedS (nxS c.k N) [115, 101, 110, 100]) (headS c.m (getS tb)) tc).1).toArray⟩), (.int .i64 ((openS (keyedS (nxS c.k N) [115, 101, 110, 100]) (headS c.m (getS tb)) tc).2)), (.string ⟨((openS (keyedS (nxS c.k N) [115, 101, 110, 100]) (headS c.m (getS tb)) tc).1).toArray⟩), (.int .i64 ((openS (keyedS (nxS c.k N) [115, 101, 110, 100]) (headS c.m (getS tb)) tc).2))] ⟨e0, e1, e2, e3, e4, e5, e6, e7, e8, e9, e10, e11, e12, e13, e14, e15, trivial⟩).sub ⟨rfl, rfl, rfl, rfl, rfl, rfl, rfl, rfl, rfl, rfl, rfl, rfl, rfl, rfl, rfl, rfl, rfl, rfl, rfl, rfl, rfl, rfl, rfl, rfl, rfl, rfl, rfl, rfl, rfl, rfl, rfl, rfl, rfl, rfl, rfl, rfl, rfl, rfl, rfl, rfl, rfl, rfl, rfl, rfl, rfl, rfl, rfl, rfl, rfl, rfl, rfl, rfl, trivial⟩
                  have hM91 := hM90.grow hb91
                  clear hK K0 e0 K1 e1 K2 e2 K3 e3 K4 e4 K5 e5 K6 e6 K7 e7 K8 e8 K9 e9 K10 e10 K11 e11 K12 e12 K13 e13 K14 e14 K15 e15
                  clear hF90 hM90
                  refine nx ?_
                  refine wp_seq ?_
                  refine wp_seq ?_
                  refine wp_region_lit ?_
                  refine sq (v := (.int .i64 ((openS (keyedS (nxS c.k N) [115, 101, 110, 100]) (headS c.m (getS tb)) tc).2))) hF91 (wantedS rfl) (run_mv rfl (hF91.ev 8 rfl)) rfl (by decide) fun a92 hF92 => ?_
                  refine sq (v := (.bool false)) hF92 (wantedS rfl) (run_nei rfl (hF92.ev 91 rfl) rfl (bne_eq_false_iff_eq.2 hop)) rfl (by decide) fun a93 hF93 => ?_
                  refine sqEnd ?_
                  clear hF91 hF92
                  refine nx ?_
                  refine wp_cond_false (hF93.ev 92 rfl) ?_
                  refine wp_skip ?_
                  refine nx ?_
                  refine wp_seq ?_
                  obtain ⟨KL, hKL⟩ : ∃ KL : List (Kr w91.heap.size), KL = [krval (.pointer (some ⟨g0, 0, none⟩)), krval (.string ⟨c.m.toArray⟩), krval (.int .u64 (getS tb : Int)), krval (.int .u64 ((getS tb + 1 : Nat) : Int)), krval (.agg (cells8 (nxS c.k N))), krval (.agg (cells8 (nextS (nxS c.k N)))), krval (.agg (chA (Ch.mk c.m (getS tb + 1) (nextS (nxS c.k N))))), krval (.string ⟨((openS (keyedS (nxS c.k N) [115, 101, 110, 100]) (headS c.m (getS tb)) tc).1).toArray⟩), krblk g1 26 (chA (Ch.mk c.m (getS tb + 1) (nextS (nxS c.k N)))), krval (.string ⟨((openS (keyedS (nxS c.k N) [115, 101, 110, 100]) (headS c.m (getS tb)) tc).1).toArray⟩), krval (.int .i64 0)] := ⟨_, rfl⟩
                  have K0 : KL.getD 0 krany = krval (.pointer (some ⟨g0, 0, none⟩)) := by rw [hKL]; rfl
                  have K1 : KL.getD 1 krany = krval (.string ⟨c.m.toArray⟩) := by rw [hKL]; rfl
                  have K2 : KL.getD 2 krany = krval (.int .u64 (getS tb : Int)) := by rw [hKL]; rfl
                  have K3 : KL.getD 3 krany = krval (.int .u64 ((getS tb + 1 : Nat) : Int)) := by rw [hKL]; rfl
                  have K4 : KL.getD 4 krany = krval (.agg (cells8 (nxS c.k N))) := by rw [hKL]; rfl
                  have K5 : KL.getD 5 krany = krval (.agg (cells8 (nextS (nxS c.k N)))) := by rw [hKL]; rfl
                  have K6 : KL.getD 6 krany = krval (.agg (chA (Ch.mk c.m (getS tb + 1) (nextS (nxS c.k N))))) := by rw [hKL]; rfl
                  have K7 : KL.getD 7 krany = krval (.string ⟨((openS (keyedS (nxS c.k N) [115, 101, 110, 100]) (headS c.m (getS tb)) tc).1).toArray⟩) := by rw [hKL]; rfl
                  have K8 : KL.getD 8 krany = krblk g1 26 (chA (Ch.mk c.m (getS tb + 1) (nextS (nxS c.k N)))) := by rw [hKL]; rfl
                  have K9 : KL.getD 9 krany = krval (.string ⟨((openS (keyedS (nxS c.k N) [115, 101, 110, 100]) (headS c.m (getS tb)) tc).1).toArray⟩) := by rw [hKL]; rfl
                  have K10 : KL.getD 10 krany = krval (.int .i64 0) := by rw [hKL]; rfl
                  have hKR : KL.map (·.row) = List.replicate 8 none ++ some g1 :: List.replicate 2 none := by rw [hKL]; rfl
                  clear hKL
                  refine wp_region_k1 (j := 6) 103 8 2 (by kernel_rfl) (by kernel_rfl) (by kernel_rfl) hF93.size KL hM91 rfl (chA_size noCh_len) K8 hKR ?_ (by kernel_rfl) fun a94 w92 hgr92 hM92 hK => ?_
                  · refine ⟨?_, ?_, ?_, ?_, ?_, ?_, ?_, ?_, ?_, ?_, ?_, trivial⟩
                    · refine asksr_mk fun a W hS hh hd => ⟨wanted_yes rfl, ?_⟩
                      exact givr_run (run_fldA (m := 1) (s := 0) rfl (eval_tmp (hh 2 _ rfl (hF93.at 2 rfl))) Tryd.underlying26 rfl rfl (by kernel_rfl) (by decide)) K0
                    · refine asksr_mk fun a W hS hh hd => ⟨wanted_yes rfl, ?_⟩
                      exact givr_run (run_ldF rfl (eval_tmp (hd.val (j := 0) (s := 95) (by kernel_rfl) K0)) ((hM91.alm 6 rfl hS).at 7 rfl) rfl (by kernel_rfl)) K1
                    · refine asksr_mk fun a W hS hh hd => ⟨wanted_yes rfl, ?_⟩
                      exact givr_run (run_ld1 rfl (eval_tmp (hh 9 _ rfl (hF93.at 9 rfl))) ((hM91.alm 6 rfl hS).at 4 rfl) (by kernel_rfl)) K2
                    · refine asksr_mk fun a W hS hh hd => ⟨wanted_yes rfl, ?_⟩
                      exact givr_run (run_add (r := ((getS tb + 1 : Nat) : Int)) rfl (eval_tmp (hd.val (j := 2) (s := 97) (by kernel_rfl) K2)) rfl (by rw [IntKind.wrap_u64]; omega)) K3
                    · refine asksr_mk fun a W hS hh hd => ⟨wanted_yes rfl, ?_⟩
                      exact givr_run (run_ldB rfl (eval_tmp (hh 10 _ rfl (hF93.at 10 rfl))) ((hM91.alm 6 rfl hS).at 3 rfl) Tryd.underlying24 rfl sz32k (szOf (nxS_len hLc N))) K4
                    · refine asksr_mk fun a W hS hh hd => ⟨wanted_yes rfl, ?_⟩
                      exact givr_call (run_call rfl Tryd.func21 (by kernel_rfl) rfl (mapE1 (eval_tmp (hd.val (j := 4) (s := 99) (by kernel_rfl) K4)))) (next_any (nxS c.k N) W (HG.below (hM91.alm 6 rfl hS).below) (nxS_len hLc N)) K5
                    · refine asksr_mk fun a W hS hh hd => ⟨wanted_yes rfl, ?_⟩
                      exact givr_run (run_blt (vs := #[(0, .string ⟨c.m.toArray⟩), (1, .int .u64 ((getS tb + 1 : Nat) : Int)), (2, .agg (cells8 (nextS (nxS c.k N))))]) (cs := chA (Ch.mk c.m (getS tb + 1) (nextS (nxS c.k N)))) rfl (bltE3 (eval_tmp (hd.val (j := 1) (s := 96) (by kernel_rfl) K1)) (eval_tmp (hd.val (j := 3) (s := 98) (by kernel_rfl) K3)) (eval_tmp (hd.val (j := 5) (s := 100) (by kernel_rfl) K5))) (built_ch _ (getS tb + 1) _ (nextS_len _))) K6
                    · refine asksr_mk fun a W hS hh hd => ⟨wanted_yes rfl, ?_⟩
                      exact givr_run (run_mv rfl (eval_tmp (hh 13 _ rfl (hF93.at 13 rfl)))) K7
                    · refine asksr_mk fun a W hS hh hd => ⟨wanted_yes rfl, ?_⟩
                      exact givr_store hS 26 _ _ rfl g1 34 26 (chA (Ch.mk c.m (getS tb + 1) (nextS (nxS c.k N)))) (eval_tmp (hh 4 _ rfl (hF93.at 4 rfl))) (eval_tmp (hd.val (j := 6) (s := 101) (by kernel_rfl) K6)) (by simp) szCh (chA_sizeM (nextS_len _)) (chA_one _) K8
                    · refine asksr_mk fun a W hS hh hd => ⟨wanted_yes rfl, ?_⟩
                      exact givr_run (run_as rfl (eval_tmp (hd.val (j := 7) (s := 102) (by kernel_rfl) K7))) K9
                    · refine asksr_mk fun a W hS hh hd => ⟨wanted_yes rfl, ?_⟩
                      exact givr_run (run_as rfl rfl) K10
                  have e0 := hK.rval (i := 0) (s := 95) (by kernel_rfl) K0
                  have e1 := hK.rval (i := 1) (s := 96) (by kernel_rfl) K1
                  have e2 := hK.rval (i := 2) (s := 97) (by kernel_rfl) K2
                  have e3 := hK.rval (i := 3) (s := 98) (by kernel_rfl) K3
                  have e4 := hK.rval (i := 4) (s := 99) (by kernel_rfl) K4
                  have e5 := hK.rval (i := 5) (s := 100) (by kernel_rfl) K5
                  have e6 := hK.rval (i := 6) (s := 101) (by kernel_rfl) K6
                  have e7 := hK.rval (i := 7) (s := 102) (by kernel_rfl) K7
                  have e8 : True := trivial
                  have e9 := hK.rval (i := 9) (s := 5) (by kernel_rfl) K9
                  have e10 := hK.rval (i := 10) (s := 6) (by kernel_rfl) K10
                  have hF94 : FrD [mark dd] a94 103 [(0, (.agg (chA c))), (1, (.string ⟨f.toArray⟩)), (2, (.pointer (some ⟨g0, 0, none⟩))), (4, (.pointer (some ⟨g1, 0, none⟩))), (5, (.string ⟨((openS (keyedS (nxS c.k N) [115, 101, 110, 100]) (headS c.m (getS tb)) tc).1).toArray⟩)), (6, (.int .i64 0)), (7, (.slice (some ⟨gr, 0, none⟩) X.length cr)), (8, (.int .i64 ((openS (keyedS (nxS c.k N) [115, 101, 110, 100]) (headS c.m (getS tb)) tc).2))), (9, (.pointer (some ⟨g4, 0, none⟩))), (10, (.pointer (some ⟨g5, 0, none⟩))), (14, (.tuple #[(.slice (some ⟨gr, 0, none⟩) X.length cr), (.int .i64 0)])), (15, (.string ⟨f.toArray⟩)), (16, (.tuple #[(.slice (some ⟨gr, 0, none⟩) X.length cr), (.int .i64 0)])), (17, (.slice (some ⟨gr, 0, none⟩) X.length cr)), (18, (.int .i64 0)), (19, (.int .i64 0)), (20, (.bool false)), (23, (.slice (some ⟨gr, 0, none⟩) X.length cr)), (24, (.int .i64 (X.length : Int))), (25, (.bool false)), (26, (.bool false)), (27, (.slice (some ⟨gr, 0, none⟩) X.length cr)), (28, (slPtr (.slice (some ⟨gr, 0, none⟩) X.length cr) (1 * 1))), (29, (.string ⟨tb.toArray⟩)), (30, (.int .i64 (tb.length : Int))), (31, (.bool false)), (32, (.bool false)), (34, (.slice (some ⟨gr, 0, none⟩) X.length cr)), (35, (slPtr (.slice (some ⟨gr, 0, none⟩) X.length cr) (1 * 1))), (36, (.string ⟨tb.toArray⟩)), (37, (.int .u64 (getS tb : Int))), (38, (.bool false)), (46, (.bool false)), (47, (.int .u64 (getS tb : Int))), (48, (.pointer (some ⟨g0, 1, none⟩))), (49, (.int .u64 (c.n : Int))), (50, (.bool false)), (52, (.bool false)), (53, (.int .u64 (getS tb : Int))), (54, (.pointer (some ⟨g0, 1, none⟩))), (55, (.int .u64 (c.n : Int))), (56, (.int .u64 ((getS tb - c.n : Nat) : Int))), (57, (.bool false)), (58, (.bool false)), (59, (.int .u64 (getS tb : Int))), (60, (.bool false)), (61, (.bool false)), (63, (.pointer (some ⟨g0, 2, none⟩))), (64, (.agg (cells8 c.k))), (65, (.pointer (some ⟨g0, 2, none⟩))), (66, (.agg (cells8 c.k))), (91, (.int .i64 ((openS (keyedS (nxS c.k N) [115, 101, 110, 100]) (headS c.m (getS tb)) tc).2))), (92, (.bool false)), (101, (.agg (chA (Ch.mk c.m (getS tb + 1) (nextS (nxS c.k N)))))), (102, (.string ⟨((openS (keyedS (nxS c.k N) [115, 101, 110, 100]) (headS c.m (getS tb)) tc).1).toArray⟩))] := (hK.fr hF93 [(.pointer (some ⟨g0, 0, none⟩)), (.string ⟨c.m.toArray⟩), (.int .u64 (getS tb : Int)), (.int .u64 ((getS tb + 1 : Nat) : Int)), (.agg (cells8 (nxS c.k N))), (.agg (cells8 (nextS (nxS c.k N)))), (.agg (chA (Ch.mk c.m (getS tb + 1) (nextS (nxS c.k N))))), (.string ⟨((openS (keyedS (nxS c.k N) [115, 101, 110, 100]) (headS c.m (getS tb)) tc).1).toArray⟩), undef, (.string ⟨((openS (keyedS (nxS c.k N) [115, 101, 110, 100]) (headS c.m (getS tb)) tc).1).toArray⟩), (.int .i64 0)] ⟨e0, e1, e2, e3, e4, e5, e6, e7, e8, e9, e10, trivial⟩).sub ⟨rfl, rfl, rfl, rfl, rfl, rfl, rfl, rfl, rfl, rfl, rfl, rfl, rfl, rfl, rfl, rfl, rfl, rfl, rfl, rfl, rfl, rfl, rfl, rfl, rfl, rfl, rfl, rfl, rfl, rfl, rfl, rfl, rfl, rfl, rfl, rfl, rfl, rfl, rfl, rfl, rfl, rfl, rfl, rfl, rfl, rfl, rfl, rfl, rfl, rfl, rfl, rfl, rfl, rfl, rfl, trivial⟩
                  clear hK hKR K0 e0 K1 e1 K2 e2 K3 e3 K4 e4 K5 e5 K6 e6 K7 e7 K8 e8 K9 e9 K10 e10
                  clear hF93 hM91
                  refine nx ?_
                  refine wp_ret ?_
                  refine retBTTK (i := 6) (j := 2) hF94 rfl rfl hM92 rfl rfl Tryd.underlying26 rfl szCh (chA_sizeM (nextS_len _)) rfl rfl fun w9 hM9 => ?_
                  exact ⟨by rw [hs], hM9.below⟩
          · have hs : takeS c f = (noCh, [], (openS (keyedS (nxS c.k N) [115, 101, 110, 100]) (headS c.m (getS tb)) tc).2) := by rw [hs3, if_neg hop]
            refine walk_enterM Tryd.func13 rfl rfl rfl fun a0 hF0 => ?_
            have hM0 := Mem.new w
            refine wp_seq ?_
            refine wp_region_lit ?_
            refine sqNew (cs := (chA c)) (t := 26) hF0 hM0 (wantedS rfl) (run_box rfl (hF0.ev 0 rfl)) rfl (by decide) fun g0 a1 w1 hgg0 hb1 hF1 hM1 => ?_
            refine sqNew (cs := (chA noCh)) (t := 26) hF1 hM1 (wantedS rfl) (run_alloc rfl (by kernel_rfl)) rfl (by decide) fun g1 a2 w2 hgg1 hb2 hF2 hM2 => ?_
            refine sq (v := (.string ⟨List.toArray []⟩)) hF2 (wantedS rfl) (run_as rfl rfl) rfl (by decide) fun a3 hF3 => ?_
            refine sq (v := (.int .i64 0)) hF3 (wantedS rfl) (run_as rfl rfl) rfl (by decide) fun a4 hF4 => ?_
            refine sqEnd ?_
            clear hF0 hF1 hF2 hF3 hM0 hM1
            refine nx ?_
            refine wp_seq ?_
            refine wp_region_lit ?_
            refine sq (v := (.string ⟨f.toArray⟩)) hF4 (wantedS rfl) (run_mv rfl (hF4.ev 1 rfl)) rfl (by decide) fun a5 hF5 => ?_
            refine sqT (T := fun u wx => (∃ v, u = .tuple #[v, .int .i64 0] ∧ wx.ownsRow w2.heap.size 9 1 v X.length (X.map tx)) ∧ Below w2.heap.size w2 wx) hF5 (wantedS rfl) (run_call rfl Tryd.func33 (by kernel_rfl) rfl (mapE1 (hF5.ev 15 rfl))) rfl (by decide) (ntexts_ok hT w2 (by omega)) fun u2 a6 w3 hT3 hF6 => ?_
            obtain ⟨⟨v3, rfl, hr3⟩, hb3⟩ := hT3
            obtain ⟨gr, cr, rfl, hcapgr, hggr, hM3⟩ := OwnR.ofCallMem hM2 hb3 hr3 (by omega)
            refine sq (v := (.tuple #[(.slice (some ⟨gr, 0, none⟩) X.length cr), (.int .i64 0)])) hF6 (wantedS rfl) (run_mv rfl (hF6.ev 16 rfl)) rfl (by decide) fun a7 hF7 => ?_
            refine sq (v := (.slice (some ⟨gr, 0, none⟩) X.length cr)) hF7 (wantedS rfl) (run_ext rfl (hF7.ev 14 rfl) rfl) rfl (by decide) fun a8 hF8 => ?_
            refine sq (v := (.int .i64 0)) hF8 (wantedS rfl) (run_ext rfl (hF8.ev 14 rfl) rfl) rfl (by decide) fun a9 hF9 => ?_
            refine sq (v := (.slice (some ⟨gr, 0, none⟩) X.length cr)) hF9 (wantedS rfl) (run_as rfl (hF9.ev 17 rfl)) rfl (by decide) fun a10 hF10 => ?_
            refine sq (v := (.int .i64 0)) hF10 (wantedS rfl) (run_as rfl (hF10.ev 18 rfl)) rfl (by decide) fun a11 hF11 => ?_
            refine sqEnd ?_
            clear hF4 hF5 hF6 hF7 hF8 hF9 hF10 hM2
            refine nx ?_
            refine wp_seq ?_
            refine wp_seq ?_
            refine wp_region_lit ?_
            refine sq (v := (.int .i64 0)) hF11 (wantedS rfl) (run_mv rfl (hF11.ev 8 rfl)) rfl (by decide) fun a12 hF12 => ?_
            refine sq (v := (.bool false)) hF12 (wantedS rfl) (run_nei rfl (hF12.ev 19 rfl) rfl (bne_eq_false_iff_eq.2 (by omega))) rfl (by decide) fun a13 hF13 => ?_
            refine sqEnd ?_
            clear hF11 hF12
            refine nx ?_
            refine wp_cond_false (hF13.ev 20 rfl) ?_
            refine wp_skip ?_
            refine nx ?_
            refine wp_seq ?_
            refine wp_seq ?_
            refine wp_region_lit ?_
            refine sq (v := (.slice (some ⟨gr, 0, none⟩) X.length cr)) hF13 (wantedS rfl) (run_mv rfl (hF13.ev 7 rfl)) rfl (by decide) fun a14 hF14 => ?_
            refine sq (v := (.int .i64 (X.length : Int))) hF14 (wantedS rfl) (run_lenS rfl (hF14.ev 23 rfl) (slOfRow (c := cr) (hM3.ob 0 rfl)) rfl Tryd.underlying34) rfl (by decide) fun a15 hF15 => ?_
            refine sq (v := (.bool false)) hF15 (wantedS rfl) (run_nei rfl (hF15.ev 24 rfl) rfl (bne_eq_false_iff_eq.2 (by omega))) rfl (by decide) fun a16 hF16 => ?_
            refine sq (v := (.bool false)) hF16 (wantedS rfl) (run_mv rfl (hF16.ev 25 rfl)) rfl (by decide) fun a17 hF17 => ?_
            refine sq (v := (.slice (some ⟨gr, 0, none⟩) X.length cr)) hF17 (wantedG hF17 rfl rfl rfl rfl rfl) (run_mv rfl (hF17.ev 7 rfl)) rfl (by decide) fun a18 hF18 => ?_
            refine sq (v := (slPtr (.slice (some ⟨gr, 0, none⟩) X.length cr) (1 * 1))) hF18 (wantedG hF18 rfl rfl rfl rfl rfl) (run_atP (i := 1) rfl (hF18.ev 27 rfl) rfl rfl (slOfRow (c := cr) (hM3.ob 0 rfl)) (by omega) elStr.un (by kernel_rfl)) rfl (by decide) fun a19 hF19 => ?_
            refine sq (v := (.string ⟨tb.toArray⟩)) hF19 (wantedG hF19 rfl rfl rfl rfl rfl) (run_ldP rfl (hF19.ev 28 rfl) (slOfRow (c := cr) (hM3.ob 0 rfl)) (map_at hXb) (by kernel_rfl)) rfl (by decide) fun a20 hF20 => ?_
            refine sq (v := (.int .i64 (tb.length : Int))) hF20 (wantedG hF20 rfl rfl rfl rfl rfl) (run_len rfl (hF20.ev 29 rfl) rfl Tryd.underlying9) rfl (by decide) fun a21 hF21 => ?_
            refine sq (v := (.bool false)) hF21 (wantedG hF21 rfl rfl rfl rfl rfl) (run_nei rfl (hF21.ev 30 rfl) rfl (bne_eq_false_iff_eq.2 (by omega))) rfl (by decide) fun a22 hF22 => ?_
            refine sq (v := (.bool false)) hF22 (wantedS rfl) (run_pick rfl (hF22.ev 26 rfl) rfl (hF22.ev 31 rfl)) rfl (by decide) fun a23 hF23 => ?_
            refine sqEnd ?_
            clear hF13 hF14 hF15 hF16 hF17 hF18 hF19 hF20 hF21 hF22
            refine nx ?_
            refine wp_cond_false (hF23.ev 32 rfl) ?_
            refine wp_skip ?_
            refine nx ?_
            refine wp_seq ?_
            refine wp_region_lit ?_
            refine sq (v := (.slice (some ⟨gr, 0, none⟩) X.length cr)) hF23 (wantedS rfl) (run_mv rfl (hF23.ev 7 rfl)) rfl (by decide) fun a24 hF24 => ?_
            refine sq (v := (slPtr (.slice (some ⟨gr, 0, none⟩) X.length cr) (1 * 1))) hF24 (wantedS rfl) (run_atP (i := 1) rfl (hF24.ev 34 rfl) rfl rfl (slOfRow (c := cr) (hM3.ob 0 rfl)) (by omega) elStr.un (by kernel_rfl)) rfl (by decide) fun a25 hF25 => ?_
            refine sq (v := (.string ⟨tb.toArray⟩)) hF25 (wantedS rfl) (run_ldP rfl (hF25.ev 35 rfl) (slOfRow (c := cr) (hM3.ob 0 rfl)) (map_at hXb) (by kernel_rfl)) rfl (by decide) fun a26 hF26 => ?_
            refine sqC (v := (.int .u64 (getS tb : Int))) hF26 hM3 (wantedS rfl) (run_call rfl Tryd.func34 (by kernel_rfl) rfl (mapE1 (hF26.ev 36 rfl))) rfl (by decide) (nget_any tb w3) fun a27 w4 hb4 hF27 hM4 => ?_
            refine sqNew (cs := #[(.int .u64 0)]) (t := 22) hF27 hM4 (wantedS rfl) (run_alloc1 rfl (by kernel_rfl)) rfl (by decide) fun g4 a28 w5 hgg4 hb5 hF28 hM5 => ?_
            refine sqSet1U (j := 0) hF28 hM5 rfl rfl rfl (hF28.ev 9 rfl) (hF28.ev 37 rfl) rfl fun a29 w6 hgr6 hF29 hM6 => ?_
            refine sqEnd ?_
            clear hF23 hF24 hF25 hF26 hF27 hF28 hM3 hM4 hM5
            refine nx ?_
            refine wp_seq ?_
            refine wp_block ?_
            refine wp_seq ?_
            obtain ⟨KL, hKL⟩ : ∃ KL, KL = [kval (.slice (some ⟨gr, 0, none⟩) X.length cr), kval (slPtr (.slice (some ⟨gr, 0, none⟩) X.length cr) (0 * 1)), kval (.string ⟨ta.toArray⟩), kval (.pointer (some ⟨g0, 0, none⟩)), kval (.string ⟨c.m.toArray⟩), kval (.bool false), kval (.bool false)] := ⟨_, rfl⟩
            have K0 : KL.getD 0 kany = kval (.slice (some ⟨gr, 0, none⟩) X.length cr) := by rw [hKL]; rfl
            have K1 : KL.getD 1 kany = kval (slPtr (.slice (some ⟨gr, 0, none⟩) X.length cr) (0 * 1)) := by rw [hKL]; rfl
            have K2 : KL.getD 2 kany = kval (.string ⟨ta.toArray⟩) := by rw [hKL]; rfl
            have K3 : KL.getD 3 kany = kval (.pointer (some ⟨g0, 0, none⟩)) := by rw [hKL]; rfl
            have K4 : KL.getD 4 kany = kval (.string ⟨c.m.toArray⟩) := by rw [hKL]; rfl
            have K5 : KL.getD 5 kany = kval (.bool false) := by rw [hKL]; rfl
            have K6 : KL.getD 6 kany = kval (.bool false) := by rw [hKL]; rfl
            clear hKL
            refine wp_region_kd 103 (by kernel_rfl) (by kernel_rfl) (by kernel_rfl) hF29.size KL ?_ ?_
            · refine ⟨?_, ?_, ?_, ?_, ?_, ?_, ?_, trivial⟩
              · refine asks_mk fun a W hS hh hd => ⟨wanted_yes rfl, ?_⟩
                exact giv_run (run_mv rfl (eval_tmp (hh 7 _ rfl (hF29.at 7 rfl)))) K0
              · refine asks_mk fun a W hS hh hd => ⟨wanted_yes rfl, ?_⟩
                exact giv_run (run_atP (i := 0) rfl (eval_tmp (hd.val (j := 0) (s := 39) (by kernel_rfl) K0)) rfl rfl (slOfRow (c := cr) ((hM6.grow hS).ob 1 rfl)) (by omega) elStr.un (by kernel_rfl)) K1
              · refine asks_mk fun a W hS hh hd => ⟨wanted_yes rfl, ?_⟩
                exact giv_run (run_ldP rfl (eval_tmp (hd.val (j := 1) (s := 40) (by kernel_rfl) K1)) (slOfRow (c := cr) ((hM6.grow hS).ob 1 rfl)) (map_at hXa) (by kernel_rfl)) K2
              · refine asks_mk fun a W hS hh hd => ⟨wanted_yes rfl, ?_⟩
                exact giv_run (run_fldA (m := 1) (s := 0) rfl (eval_tmp (hh 2 _ rfl (hF29.at 2 rfl))) Tryd.underlying26 rfl rfl (by kernel_rfl) (by decide)) K3
              · refine asks_mk fun a W hS hh hd => ⟨wanted_yes rfl, ?_⟩
                exact giv_run (run_ldF rfl (eval_tmp (hd.val (j := 3) (s := 42) (by kernel_rfl) K3)) ((hM6.grow hS).at 3 rfl) rfl (by kernel_rfl)) K4
              · refine asks_mk fun a W hS hh hd => ⟨wanted_yes rfl, ?_⟩
                exact giv_run (run_nes rfl (eval_tmp (hd.val (j := 2) (s := 41) (by kernel_rfl) K2)) (eval_tmp (hd.val (j := 4) (s := 43) (by kernel_rfl) K4)) hneq) K5
              · refine asks_mk fun a W hS hh hd => ⟨wanted_yes rfl, ?_⟩
                exact giv_run (run_as rfl (eval_tmp (hd.val (j := 5) (s := 44) (by kernel_rfl) K5))) K6
            · intro a30 w7 hb7 hK
              have e0 := hK.val (i := 0) (s := 39) (by kernel_rfl) K0
              have e1 := hK.val (i := 1) (s := 40) (by kernel_rfl) K1
              have e2 := hK.val (i := 2) (s := 41) (by kernel_rfl) K2
              have e3 := hK.val (i := 3) (s := 42) (by kernel_rfl) K3
              have e4 := hK.val (i := 4) (s := 43) (by kernel_rfl) K4
              have e5 := hK.val (i := 5) (s := 44) (by kernel_rfl) K5
              have e6 := hK.val (i := 6) (s := 38) (by kernel_rfl) K6
              have hF30 : Fr a30 103 [(0, (.agg (chA c))), (1, (.string ⟨f.toArray⟩)), (2, (.pointer (some ⟨g0, 0, none⟩))), (4, (.pointer (some ⟨g1, 0, none⟩))), (5, (.string ⟨List.toArray []⟩)), (6, (.int .i64 0)), (7, (.slice (some ⟨gr, 0, none⟩) X.length cr)), (8, (.int .i64 0)), (9, (.pointer (some ⟨g4, 0, none⟩))), (14, (.tuple #[(.slice (some ⟨gr, 0, none⟩) X.length cr), (.int .i64 0)])), (15, (.string ⟨f.toArray⟩)), (16, (.tuple #[(.slice (some ⟨gr, 0, none⟩) X.length cr), (.int .i64 0)])), (17, (.slice (some ⟨gr, 0, none⟩) X.length cr)), (18, (.int .i64 0)), (19, (.int .i64 0)), (20, (.bool false)), (23, (.slice (some ⟨gr, 0, none⟩) X.length cr)), (24, (.int .i64 (X.length : Int))), (25, (.bool false)), (26, (.bool false)), (27, (.slice (some ⟨gr, 0, none⟩) X.length cr)), (28, (slPtr (.slice (some ⟨gr, 0, none⟩) X.length cr) (1 * 1))), (29, (.string ⟨tb.toArray⟩)), (30, (.int .i64 (tb.length : Int))), (31, (.bool false)), (32, (.bool false)), (34, (.slice (some ⟨gr, 0, none⟩) X.length cr)), (35, (slPtr (.slice (some ⟨gr, 0, none⟩) X.length cr) (1 * 1))), (36, (.string ⟨tb.toArray⟩)), (37, (.int .u64 (getS tb : Int))), (38, (.bool false))] := (hK.fr hF29 [(.slice (some ⟨gr, 0, none⟩) X.length cr), (slPtr (.slice (some ⟨gr, 0, none⟩) X.length cr) (0 * 1)), (.string ⟨ta.toArray⟩), (.pointer (some ⟨g0, 0, none⟩)), (.string ⟨c.m.toArray⟩), (.bool false), (.bool false)] ⟨e0, e1, e2, e3, e4, e5, e6, trivial⟩).sub ⟨rfl, rfl, rfl, rfl, rfl, rfl, rfl, rfl, rfl, rfl, rfl, rfl, rfl, rfl, rfl, rfl, rfl, rfl, rfl, rfl, rfl, rfl, rfl, rfl, rfl, rfl, rfl, rfl, rfl, rfl, rfl, trivial⟩
              have hM7 := hM6.grow hb7
              clear hK K0 e0 K1 e1 K2 e2 K3 e3 K4 e4 K5 e5 K6 e6
              clear hF29 hM6
              refine nx ?_
              refine wp_cond_false (hF30.ev 38 rfl) ?_
              refine wp_seq ?_
              refine wp_region_lit ?_
              refine sq (v := (.int .u64 (getS tb : Int))) hF30 (wantedS rfl) (run_ld1 rfl (hF30.ev 9 rfl) (hM7.at 0 rfl) (by kernel_rfl)) rfl (by decide) fun a31 hF31 => ?_
              refine sq (v := (.pointer (some ⟨g0, 1, none⟩))) hF31 (wantedS rfl) (run_fldA (m := 1) (s := 1) rfl (hF31.ev 2 rfl) Tryd.underlying26 rfl rfl (by kernel_rfl) (by decide)) rfl (by decide) fun a32 hF32 => ?_
              refine sq (v := (.int .u64 (c.n : Int))) hF32 (wantedS rfl) (run_ldF rfl (hF32.ev 48 rfl) (hM7.at 3 rfl) rfl (by kernel_rfl)) rfl (by decide) fun a33 hF33 => ?_
              refine sq (v := (.bool false)) hF33 (wantedS rfl) (run_lss rfl (hF33.ev 47 rfl) (hF33.ev 49 rfl) (decide_eq_false (by omega))) rfl (by decide) fun a34 hF34 => ?_
              refine sq (v := (.bool false)) hF34 (wantedS rfl) (run_as rfl (hF34.ev 50 rfl)) rfl (by decide) fun a35 hF35 => ?_
              refine sqEnd ?_
              clear hF30 hF31 hF32 hF33 hF34
              refine nx ?_
              refine wp_cond_false (hF35.ev 46 rfl) ?_
              refine wp_seq ?_
              refine wp_region_lit ?_
              refine sq (v := (.int .u64 (getS tb : Int))) hF35 (wantedS rfl) (run_ld1 rfl (hF35.ev 9 rfl) (hM7.at 0 rfl) (by kernel_rfl)) rfl (by decide) fun a36 hF36 => ?_
              refine sq (v := (.pointer (some ⟨g0, 1, none⟩))) hF36 (wantedS rfl) (run_fldA (m := 1) (s := 1) rfl (hF36.ev 2 rfl) Tryd.underlying26 rfl rfl (by kernel_rfl) (by decide)) rfl (by decide) fun a37 hF37 => ?_
              refine sq (v := (.int .u64 (c.n : Int))) hF37 (wantedS rfl) (run_ldF rfl (hF37.ev 54 rfl) (hM7.at 3 rfl) rfl (by kernel_rfl)) rfl (by decide) fun a38 hF38 => ?_
              refine sq (v := (.int .u64 ((getS tb - c.n : Nat) : Int))) hF38 (wantedS rfl) (run_sub (r := ((getS tb - c.n : Nat) : Int)) rfl (hF38.ev 53 rfl) (hF38.ev 55 rfl) (by rw [IntKind.wrap_u64]; omega)) rfl (by decide) fun a39 hF39 => ?_
              refine sq (v := (.bool false)) hF39 (wantedS rfl) (run_gtr rfl (hF39.ev 56 rfl) rfl (decide_eq_false (by omega))) rfl (by decide) fun a40 hF40 => ?_
              refine sq (v := (.bool false)) hF40 (wantedS rfl) (run_mv rfl (hF40.ev 57 rfl)) rfl (by decide) fun a41 hF41 => ?_
              refine sq (v := (.int .u64 (getS tb : Int))) hF41 (wantedG hF41 rfl rfl rfl rfl rfl) (run_ld1 rfl (hF41.ev 9 rfl) (hM7.at 0 rfl) (by kernel_rfl)) rfl (by decide) fun a42 hF42 => ?_
              refine sq (v := (.bool false)) hF42 (wantedG hF42 rfl rfl rfl rfl rfl) (run_eqi rfl (hF42.ev 59 rfl) rfl (beq_eq_false_iff_ne.2 (by omega))) rfl (by decide) fun a43 hF43 => ?_
              refine sq (v := (.bool false)) hF43 (wantedS rfl) (run_pick rfl (hF43.ev 58 rfl) rfl (hF43.ev 60 rfl)) rfl (by decide) fun a44 hF44 => ?_
              refine sq (v := (.bool false)) hF44 (wantedS rfl) (run_as rfl (hF44.ev 61 rfl)) rfl (by decide) fun a45 hF45 => ?_
              refine sqEnd ?_
              clear hF35 hF36 hF37 hF38 hF39 hF40 hF41 hF42 hF43 hF44
              refine nx ?_
              refine wp_cond_false (hF45.ev 52 rfl) ?_
              refine wp_skip ?_
              refine bkEnd ?_
              refine nx ?_
              refine wp_seq ?_
              refine wp_region_lit ?_
              refine sq (v := (.pointer (some ⟨g0, 2, none⟩))) hF45 (wantedS rfl) (run_fldA (m := 32) (s := 2) rfl (hF45.ev 2 rfl) Tryd.underlying26 rfl rfl (by kernel_rfl) (by decide)) rfl (by decide) fun a46 hF46 => ?_
              refine sq (v := (.agg (cells8 c.k))) hF46 (wantedS rfl) (run_ldK rfl (hF46.ev 63 rfl) (hM7.at 3 rfl) hLc) rfl (by decide) fun a47 hF47 => ?_
              refine sqNew (cs := (cells8 (List.replicate 32 0))) (t := 24) hF47 hM7 (wantedS rfl) (run_alloc rfl (by kernel_rfl)) rfl (by decide) fun g5 a48 w8 hgg5 hb8 hF48 hM8 => ?_
              refine sqStore (i := 0) hF48 hM8 rfl rfl rfl (hF48.ev 10 rfl) (hF48.ev 64 rfl) rfl sz32k (szOf hLc) (szOf List.length_replicate) (cells8_one _) fun a49 w9 hF49 hM9 => ?_
              refine sqEnd ?_
              clear hF45 hF46 hF47 hF48 hM7 hM8
              refine nx ?_
              refine wp_seq ?_
              refine wp_seq ?_
              refine wp_region_lit ?_
              refine sq (v := (.pointer (some ⟨g0, 2, none⟩))) hF49 (wantedS rfl) (run_fldA (m := 32) (s := 2) rfl (hF49.ev 2 rfl) Tryd.underlying26 rfl rfl (by kernel_rfl) (by decide)) rfl (by decide) fun a50 hF50 => ?_
              refine sq (v := (.agg (cells8 c.k))) hF50 (wantedS rfl) (run_ldK rfl (hF50.ev 65 rfl) (hM9.at 4 rfl) hLc) rfl (by decide) fun a51 hF51 => ?_
              refine sqT (T := fun u wx => ∃ g, u = .func (.func 57) #[] #[.pointer (some ⟨g, 0, none⟩)] ∧ w9.heap.size ≤ g ∧ Blk wx g 24 (cells8 c.k) ∧ Below w9.heap.size w9 wx) hF51 (wantedS rfl) (run_call rfl Tryd.func35 (by kernel_rfl) rfl (mapE1 (hF51.ev 66 rfl))) rfl (by decide) (behind_any c.k w9) fun u6 a52 w10 hT10 hF52 => ?_
              obtain ⟨gk, rfl, hggk, hBgk, hb10⟩ := hT10
              have hM10 := hM9.add hb10 hggk hBgk
              refine sqEnd ?_
              clear hF49 hF50 hF51 hM9
              refine nx ?_
              refine wp_block ?_
              refine wkRange (gf := 57) (lb := #[.pointer (some ⟨gk, 0, none⟩)]) (hF52.ev 67 rfl) (enters_f Tryd.func57 (by kernel_rfl) rfl) hM10 fun rc dd lp W1 hrec hdd hlp hb1 hM1 => ?_
              have hM1p := hM1.perm (perm3 _ _ _ _)
              refine (behind1_any c.k hLc N lp gk w W1 HG _ hM1p (fun W => Mem w ((gk, isB 24 (cells8 (nxS c.k N))) :: (lp, isO (.loop (leftR rc (.exit 1)))) :: (dd, isO (.deferred (some []))) :: [(g5, isB 24 (cells8 (nxS c.k N))), (g4, isB 22 (#[(.int .u64 (getS tb : Int))])), (gr, isRow 9 1 X.length (X.map tx)), (g1, isB 26 (chA noCh)), (g0, isB 26 (chA c))]) W) (by omega) ?_).mono ?_
              · intro i W hi hMW
                refine yieldW2 hrec (hMW.obj 1 rfl) hF52 (by decide) (by decide) fun b0 hF60 => ?_
                have hM60 := hMW
                refine wpIn_seq ?_
                refine wpIn_region_round (by kernel_rfl) (fun _ _ h => h) ?_
                refine sq (v := (.int .u64 (i : Int))) hF60 (wantedS rfl) (run_as rfl (hF60.ev 68 rfl)) rfl (by decide) fun a61 hF61 => ?_
                refine sqEnd ?_
                clear hF60
                refine nx ?_
                refine wpIn_region_round (by kernel_rfl) (fun _ _ h => h) ?_
                refine sqNew (cs := (cells8 (List.replicate 32 0))) (t := 24) hF61 hM60 (wantedS rfl) (run_alloc rfl (by kernel_rfl)) rfl (by decide) fun g7 a62 w61 hgg7 hb61 hF62 hM61 => ?_
                refine sqStore (i := 0) hF62 hM61 rfl rfl rfl (hF62.ev 12 rfl) (hF62.ev 69 rfl) rfl sz32k (szOf (nxS_len hLc i)) (szOf List.length_replicate) (cells8_one _) fun a63 w62 hF63 hM62 => ?_
                refine sqEnd ?_
                clear hF61 hF62 hM60 hM61
                refine nx ?_
                refine begin_round (i := 2) hM62 rfl hrec.state fun w63 hM63 => ?_
                by_cases hiN : i = N
                · skip
                  refine wpIn_block ?_
                  refine wpIn_seq ?_
                  refine wpIn_region_round (by kernel_rfl) (fun _ _ h => h) ?_
                  refine sq (v := (.int .u64 (i : Int))) hF63 (wantedS rfl) (run_mv rfl (hF63.ev 11 rfl)) rfl (by decide) fun a64 hF64 => ?_
                  refine sq (v := (.int .u64 (getS tb : Int))) hF64 (wantedS rfl) (run_ld1 rfl (hF64.ev 9 rfl) (hM63.at 5 rfl) (by kernel_rfl)) rfl (by decide) fun a65 hF65 => ?_
                  refine sq (v := (.pointer (some ⟨g0, 1, none⟩))) hF65 (wantedS rfl) (run_fldA (m := 1) (s := 1) rfl (hF65.ev 2 rfl) Tryd.underlying26 rfl rfl (by kernel_rfl) (by decide)) rfl (by decide) fun a66 hF66 => ?_
                  refine sq (v := (.int .u64 (c.n : Int))) hF66 (wantedS rfl) (run_ldF rfl (hF66.ev 72 rfl) (hM63.at 8 rfl) rfl (by kernel_rfl)) rfl (by decide) fun a67 hF67 => ?_
                  refine sq (v := (.int .u64 (N : Int))) hF67 (wantedS rfl) (run_sub (r := (N : Int)) rfl (hF67.ev 71 rfl) (hF67.ev 73 rfl) (by rw [IntKind.wrap_u64]; omega)) rfl (by decide) fun a68 hF68 => ?_
                  refine sq (v := (.bool true)) hF68 (wantedS rfl) (run_eqi rfl (hF68.ev 70 rfl) (hF68.ev 74 rfl) (beq_iff_eq.2 (by omega))) rfl (by decide) fun a69 hF69 => ?_
                  refine sqEnd ?_
                  clear hF63 hF64 hF65 hF66 hF67 hF68
                  refine nx ?_
                  refine wpIn_cond_true (hF69.ev 75 rfl) ?_
                  refine wpIn_seq ?_
                  refine wpIn_region_round (by kernel_rfl) (fun _ _ h => h) ?_
                  refine sq (v := (.agg (cells8 (nxS c.k i)))) hF69 (wantedS rfl) (run_ldB rfl (hF69.ev 12 rfl) (hM63.at 0 rfl) Tryd.underlying24 rfl sz32k (szOf (nxS_len hLc i))) rfl (by decide) fun a70 hF70 => ?_
                  refine sqStore (i := 4) hF70 hM63 rfl rfl rfl (hF70.ev 10 rfl) (hF70.ev 76 rfl) rfl sz32k (szOf (nxS_len hLc i)) (szOf hLc) (cells8_one _) fun a71 w64 hF71 hM64 => ?_
                  refine sqEnd ?_
                  clear hF69 hF70 hM63
                  refine nx ?_
                  refine wpIn_exit ?_
                  refine bkFar (by decide) ?_
                  refine round_off (i := 2) hM64 rfl fun w99 hM99 => .inr ⟨rfl, ?_⟩
                  have hiN : i = N := by omega
                  subst hiN
                  exact hM99.sub (.cons _ (.cons_cons _ (.cons_cons _ (.cons_cons _ (.cons_cons _ (.cons_cons _ (.cons_cons _ (.cons_cons _ (.cons_cons _ .slnil)))))))))
                · skip
                  refine wpIn_block ?_
                  refine wpIn_seq ?_
                  refine wpIn_region_round (by kernel_rfl) (fun _ _ h => h) ?_
                  refine sq (v := (.int .u64 (i : Int))) hF63 (wantedS rfl) (run_mv rfl (hF63.ev 11 rfl)) rfl (by decide) fun a64 hF64 => ?_
                  refine sq (v := (.int .u64 (getS tb : Int))) hF64 (wantedS rfl) (run_ld1 rfl (hF64.ev 9 rfl) (hM63.at 5 rfl) (by kernel_rfl)) rfl (by decide) fun a65 hF65 => ?_
                  refine sq (v := (.pointer (some ⟨g0, 1, none⟩))) hF65 (wantedS rfl) (run_fldA (m := 1) (s := 1) rfl (hF65.ev 2 rfl) Tryd.underlying26 rfl rfl (by kernel_rfl) (by decide)) rfl (by decide) fun a66 hF66 => ?_
                  refine sq (v := (.int .u64 (c.n : Int))) hF66 (wantedS rfl) (run_ldF rfl (hF66.ev 72 rfl) (hM63.at 8 rfl) rfl (by kernel_rfl)) rfl (by decide) fun a67 hF67 => ?_
                  refine sq (v := (.int .u64 (N : Int))) hF67 (wantedS rfl) (run_sub (r := (N : Int)) rfl (hF67.ev 71 rfl) (hF67.ev 73 rfl) (by rw [IntKind.wrap_u64]; omega)) rfl (by decide) fun a68 hF68 => ?_
                  refine sq (v := (.bool false)) hF68 (wantedS rfl) (run_eqi rfl (hF68.ev 70 rfl) (hF68.ev 74 rfl) (beq_eq_false_iff_ne.2 (by omega))) rfl (by decide) fun a69 hF69 => ?_
                  refine sqEnd ?_
                  clear hF63 hF64 hF65 hF66 hF67 hF68
                  refine nx ?_
                  refine wpIn_cond_false (hF69.ev 75 rfl) ?_
                  refine wpIn_skip ?_
                  refine bkEnd ?_
                  refine round_on (i := 2) hM63 rfl hrec.state hrec.pending fun w99 hM99 => .inl ⟨rfl, by omega, hM99.sub (.cons _ (.cons_cons _ (.cons_cons _ (.cons_cons _ (.cons_cons _ (.cons_cons _ (.cons_cons _ (.cons_cons _ (.cons_cons _ .slnil)))))))))⟩
              · rintro ee W2 ⟨hu, hX⟩
                refine ⟨hu, range_left (i := 1) hX rfl fun w90 hM90 => ?_⟩
                have hF90 := frMark (d := dd) hF52
                refine wp_exit ?_
                refine bkHere ?_
                refine nx ?_
                refine wp_seq ?_
                obtain ⟨KL, hKL⟩ : ∃ KL, KL = [kval (.agg (cells8 (nxS c.k N))), kstrs [[115, 101, 110, 100]], kval (.agg (cells8 (keyedS (nxS c.k N) [115, 101, 110, 100]))), kval (.pointer (some ⟨g0, 0, none⟩)), kval (.string ⟨c.m.toArray⟩), kval (.int .u64 (getS tb : Int)), kval (.string ⟨(headS c.m (getS tb)).toArray⟩), kval (.slice (some ⟨gr, 0, none⟩) X.length cr), kval (slPtr (.slice (some ⟨gr, 0, none⟩) X.length cr) (2 * 1)), kval (.string ⟨tc.toArray⟩), kval (.tuple #[(.string ⟨((openS (keyedS (nxS c.k N) [115, 101, 110, 100]) (headS c.m (getS tb)) tc).1).toArray⟩), (.int .i64 ((openS (keyedS (nxS c.k N) [115, 101, 110, 100]) (headS c.m (getS tb)) tc).2))]), kval (.tuple #[(.string ⟨((openS (keyedS (nxS c.k N) [115, 101, 110, 100]) (headS c.m (getS tb)) tc).1).toArray⟩), (.int .i64 ((openS (keyedS (nxS c.k N) [115, 101, 110, 100]) (headS c.m (getS tb)) tc).2))]), kval (.string ⟨((openS (keyedS (nxS c.k N) [115, 101, 110, 100]) (headS c.m (getS tb)) tc).1).toArray⟩), kval (.int .i64 ((openS (keyedS (nxS c.k N) [115, 101, 110, 100]) (headS c.m (getS tb)) tc).2)), kval (.string ⟨((openS (keyedS (nxS c.k N) [115, 101, 110, 100]) (headS c.m (getS tb)) tc).1).toArray⟩), kval (.int .i64 ((openS (keyedS (nxS c.k N) [115, 101, 110, 100]) (headS c.m (getS tb)) tc).2))] := ⟨_, rfl⟩
                have K0 : KL.getD 0 kany = kval (.agg (cells8 (nxS c.k N))) := by rw [hKL]; rfl
                have K1 : KL.getD 1 kany = kstrs [[115, 101, 110, 100]] := by rw [hKL]; rfl
                have K2 : KL.getD 2 kany = kval (.agg (cells8 (keyedS (nxS c.k N) [115, 101, 110, 100]))) := by rw [hKL]; rfl
                have K3 : KL.getD 3 kany = kval (.pointer (some ⟨g0, 0, none⟩)) := by rw [hKL]; rfl
                have K4 : KL.getD 4 kany = kval (.string ⟨c.m.toArray⟩) := by rw [hKL]; rfl
                have K5 : KL.getD 5 kany = kval (.int .u64 (getS tb : Int)) := by rw [hKL]; rfl
                have K6 : KL.getD 6 kany = kval (.string ⟨(headS c.m (getS tb)).toArray⟩) := by rw [hKL]; rfl
                have K7 : KL.getD 7 kany = kval (.slice (some ⟨gr, 0, none⟩) X.length cr) := by rw [hKL]; rfl
                have K8 : KL.getD 8 kany = kval (slPtr (.slice (some ⟨gr, 0, none⟩) X.length cr) (2 * 1)) := by rw [hKL]; rfl
                have K9 : KL.getD 9 kany = kval (.string ⟨tc.toArray⟩) := by rw [hKL]; rfl
                have K10 : KL.getD 10 kany = kval (.tuple #[(.string ⟨((openS (keyedS (nxS c.k N) [115, 101, 110, 100]) (headS c.m (getS tb)) tc).1).toArray⟩), (.int .i64 ((openS (keyedS (nxS c.k N) [115, 101, 110, 100]) (headS c.m (getS tb)) tc).2))]) := by rw [hKL]; rfl
                have K11 : KL.getD 11 kany = kval (.tuple #[(.string ⟨((openS (keyedS (nxS c.k N) [115, 101, 110, 100]) (headS c.m (getS tb)) tc).1).toArray⟩), (.int .i64 ((openS (keyedS (nxS c.k N) [115, 101, 110, 100]) (headS c.m (getS tb)) tc).2))]) := by rw [hKL]; rfl
                have K12 : KL.getD 12 kany = kval (.string ⟨((openS (keyedS (nxS c.k N) [115, 101, 110, 100]) (headS c.m (getS tb)) tc).1).toArray⟩) := by rw [hKL]; rfl
                have K13 : KL.getD 13 kany = kval (.int .i64 ((openS (keyedS (nxS c.k N) [115, 101, 110, 100]) (headS c.m (getS tb)) tc).2)) := by rw [hKL]; rfl
                have K14 : KL.getD 14 kany = kval (.string ⟨((openS (keyedS (nxS c.k N) [115, 101, 110, 100]) (headS c.m (getS tb)) tc).1).toArray⟩) := by rw [hKL]; rfl
                have K15 : KL.getD 15 kany = kval (.int .i64 ((openS (keyedS (nxS c.k N) [115, 101, 110, 100]) (headS c.m (getS tb)) tc).2)) := by rw [hKL]; rfl
                clear hKL
                refine wp_region_kd 103 (by kernel_rfl) (by kernel_rfl) (by kernel_rfl) hF90.size KL ?_ ?_
                · refine ⟨?_, ?_, ?_, ?_, ?_, ?_, ?_, ?_, ?_, ?_, ?_, ?_, ?_, ?_, ?_, ?_, trivial⟩
                  · refine asks_mk fun a W hS hh hd => ⟨wanted_yes rfl, ?_⟩
                    exact giv_run (run_ldB rfl (eval_tmp (hh 10 _ rfl (hF90.at 10 rfl))) ((hM90.grow hS).at 3 rfl) Tryd.underlying24 rfl sz32k (szOf (nxS_len hLc N))) K0
                  · refine asks_mk fun a W hS hh hd => ⟨wanted_yes rfl, ?_⟩
                    exact giv_strs [[115, 101, 110, 100]] 9 (run_strs1 rfl rfl) K1
                  · refine asks_mk fun a W hS hh hd => ⟨wanted_yes rfl, ?_⟩
                    obtain ⟨v1, e1, s1⟩ := hd.strs (j := 1) (s := 79) (by kernel_rfl) K1
                    exact giv_call (run_call rfl Tryd.func28 (by kernel_rfl) rfl (mapE2 (eval_tmp (hd.val (j := 0) (s := 78) (by kernel_rfl) K0)) (eval_tmp e1))) (keyed1 (nxS c.k N) [115, 101, 110, 100] _ W (nxS_len hLc N) (HG.below (hM90.grow hS).below) s1 (by first | omega | decide | (simp; done) | (simp; omega))) K2
                  · refine asks_mk fun a W hS hh hd => ⟨wanted_yes rfl, ?_⟩
                    exact giv_run (run_fldA (m := 1) (s := 0) rfl (eval_tmp (hh 2 _ rfl (hF90.at 2 rfl))) Tryd.underlying26 rfl rfl (by kernel_rfl) (by decide)) K3
                  · refine asks_mk fun a W hS hh hd => ⟨wanted_yes rfl, ?_⟩
                    exact giv_run (run_ldF rfl (eval_tmp (hd.val (j := 3) (s := 81) (by kernel_rfl) K3)) ((hM90.grow hS).at 7 rfl) rfl (by kernel_rfl)) K4
                  · refine asks_mk fun a W hS hh hd => ⟨wanted_yes rfl, ?_⟩
                    exact giv_run (run_ld1 rfl (eval_tmp (hh 9 _ rfl (hF90.at 9 rfl))) ((hM90.grow hS).at 4 rfl) (by kernel_rfl)) K5
                  · refine asks_mk fun a W hS hh hd => ⟨wanted_yes rfl, ?_⟩
                    exact giv_call (run_call rfl Tryd.func30 (by kernel_rfl) rfl (mapE2 (eval_tmp (hd.val (j := 4) (s := 82) (by kernel_rfl) K4)) (eval_tmp (hd.val (j := 5) (s := 83) (by kernel_rfl) K5)))) (head_any c.m (getS tb) W (by first | omega | decide | (simp; done) | (simp; omega))) K6
                  · refine asks_mk fun a W hS hh hd => ⟨wanted_yes rfl, ?_⟩
                    exact giv_run (run_mv rfl (eval_tmp (hh 7 _ rfl (hF90.at 7 rfl)))) K7
                  · refine asks_mk fun a W hS hh hd => ⟨wanted_yes rfl, ?_⟩
                    exact giv_run (run_atP (i := 2) rfl (eval_tmp (hd.val (j := 7) (s := 85) (by kernel_rfl) K7)) rfl rfl (slOfRow (c := cr) ((hM90.grow hS).ob 5 rfl)) (by omega) elStr.un (by kernel_rfl)) K8
                  · refine asks_mk fun a W hS hh hd => ⟨wanted_yes rfl, ?_⟩
                    exact giv_run (run_ldP rfl (eval_tmp (hd.val (j := 8) (s := 86) (by kernel_rfl) K8)) (slOfRow (c := cr) ((hM90.grow hS).ob 5 rfl)) (map_at hXc) (by kernel_rfl)) K9
                  · refine asks_mk fun a W hS hh hd => ⟨wanted_yes rfl, ?_⟩
                    exact giv_call (run_call rfl Tryd.func36 (by kernel_rfl) rfl (mapE3 (eval_tmp (hd.val (j := 2) (s := 80) (by kernel_rfl) K2)) (eval_tmp (hd.val (j := 6) (s := 84) (by kernel_rfl) K6)) (eval_tmp (hd.val (j := 9) (s := 87) (by kernel_rfl) K9)))) (sopen_any (keyedS (nxS c.k N) [115, 101, 110, 100]) (headS c.m (getS tb)) tc W (HG.below (hM90.grow hS).below) (keyedS_len _ _) (by first | omega | decide | (simp; done) | (simp; omega))) K10
                  · refine asks_mk fun a W hS hh hd => ⟨wanted_yes rfl, ?_⟩
                    exact giv_run (run_mv rfl (eval_tmp (hd.val (j := 10) (s := 88) (by kernel_rfl) K10))) K11
                  · refine asks_mk fun a W hS hh hd => ⟨wanted_yes rfl, ?_⟩
                    exact giv_run (run_ext rfl (eval_tmp (hd.val (j := 11) (s := 77) (by kernel_rfl) K11)) rfl) K12
                  · refine asks_mk fun a W hS hh hd => ⟨wanted_yes rfl, ?_⟩
                    exact giv_run (run_ext rfl (eval_tmp (hd.val (j := 11) (s := 77) (by kernel_rfl) K11)) rfl) K13
                  · refine asks_mk fun a W hS hh hd => ⟨wanted_yes rfl, ?_⟩
                    exact giv_run (run_as rfl (eval_tmp (hd.val (j := 12) (s := 89) (by kernel_rfl) K12))) K14
                  · refine asks_mk fun a W hS hh hd => ⟨wanted_yes rfl, ?_⟩
                    exact giv_run (run_as rfl (eval_tmp (hd.val (j := 13) (s := 90) (by kernel_rfl) K13))) K15
                · intro a91 w91 hb91 hK
                  have e0 := hK.val (i := 0) (s := 78) (by kernel_rfl) K0
                  obtain ⟨v7, e1, hsv7⟩ := hK.strs (i := 1) (s := 79) (by kernel_rfl) K1
                  have e2 := hK.val (i := 2) (s := 80) (by kernel_rfl) K2
                  have e3 := hK.val (i := 3) (s := 81) (by kernel_rfl) K3
                  have e4 := hK.val (i := 4) (s := 82) (by kernel_rfl) K4
                  have e5 := hK.val (i := 5) (s := 83) (by kernel_rfl) K5
                  have e6 := hK.val (i := 6) (s := 84) (by kernel_rfl) K6
                  have e7 := hK.val (i := 7) (s := 85) (by kernel_rfl) K7
                  have e8 := hK.val (i := 8) (s := 86) (by kernel_rfl) K8
                  have e9 := hK.val (i := 9) (s := 87) (by kernel_rfl) K9
                  have e10 := hK.val (i := 10) (s := 88) (by kernel_rfl) K10
                  have e11 := hK.val (i := 11) (s := 77) (by kernel_rfl) K11
                  have e12 := hK.val (i := 12) (s := 89) (by kernel_rfl) K12
                  have e13 := hK.val (i := 13) (s := 90) (by kernel_rfl) K13
                  have e14 := hK.val (i := 14) (s := 13) (by kernel_rfl) K14
                  have e15 := hK.val (i := 15) (s := 8) (by kernel_rfl) K15
                  have hF91 : FrD [mark dd] a91 103 [(0, (.agg (chA c))), (1, (.string ⟨f.toArray⟩)), (2, (.pointer (some ⟨g0, 0, none⟩))), (4, (.pointer (some ⟨g1, 0, none⟩))), (5, (.string ⟨List.toArray []⟩)), (6, (.int .i64 0)), (7, (.slice (some ⟨gr, 0, none⟩) X.length cr)), (8, (.int .i64 ((openS (keyedS (nxS c.k N) [115, 101, 110, 100]) (headS c.m (getS tb)) tc).2))), (9, (.pointer (some ⟨g4, 0, none⟩))), (10, (.pointer (some ⟨g5, 0, none⟩))), (13, (.string ⟨((openS (keyedS (nxS c.k N) [115, 101, 110, 100]) (headS c.m (getS tb)) tc).1).toArray⟩)), (14, (.tuple #[(.slice (some ⟨gr, 0, none⟩) X.length cr), (.int .i64 0)])), (15, (.string ⟨f.toArray⟩)), (16, (.tuple #[(.slice (some ⟨gr, 0, none⟩) X.length cr), (.int .i64 0)])), (17, (.slice (some ⟨gr, 0, none⟩) X.length cr)), (18, (.int .i64 0)), (19, (.int .i64 0)), (20, (.bool false)), (23, (.slice (some ⟨gr, 0, none⟩) X.length cr)), (24, (.int .i64 (X.length : Int))), (25, (.bool false)), (26, (.bool false)), (27, (.slice (some ⟨gr, 0, none⟩) X.length cr)), (28, (slPtr (.slice (some ⟨gr, 0, none⟩) X.length cr) (1 * 1))), (29, (.string ⟨tb.toArray⟩)), (30, (.int .i64 (tb.length : Int))), (31, (.bool false)), (32, (.bool false)), (34, (.slice (some ⟨gr, 0, none⟩) X.length cr)), (35, (slPtr (.slice (some ⟨gr, 0, none⟩) X.length cr) (1 * 1))), (36, (.string ⟨tb.toArray⟩)), (37, (.int .u64 (getS tb : Int))), (38, (.bool false)), (46, (.bool false)), (47, (.int .u64 (getS tb : Int))), (48, (.pointer (some ⟨g0, 1, none⟩))), (49, (.int .u64 (c.n : Int))), (50, (.bool false)), (52, (.bool false)), (53, (.int .u64 (getS tb : Int))), (54, (.pointer (some ⟨g0, 1, none⟩))), (55, (.int .u64 (c.n : Int))), (56, (.int .u64 ((getS tb - c.n : Nat) : Int))), (57, (.bool false)), (58, (.bool false)), (59, (.int .u64 (getS tb : Int))), (60, (.bool false)), (61, (.bool false)), (63, (.pointer (some ⟨g0, 2, none⟩))), (64, (.agg (cells8 c.k))), (65, (.pointer (some ⟨g0, 2, none⟩))), (66, (.agg (cells8 c.k)))] := (hK.fr hF90 [(.agg (cells8 (nxS c.k N))), v7, (.agg (cells8 (keyedS (nxS c.k N) [115, 101, 110, 100]))), (.pointer (some ⟨g0, 0, none⟩)), (.string ⟨c.m.toArray⟩), (.int .u64 (getS tb : Int)), (.string ⟨(headS c.m (getS tb)).toArray⟩), (.slice (some ⟨gr, 0, none⟩) X.length cr), (slPtr (.slice (some ⟨gr, 0, none⟩) X.length cr) (2 * 1)), (.string ⟨tc.toArray⟩), (.tuple #[(.string ⟨((openS (keyedS (nxS c.k N) [115, 101, 110, 100]) (headS c.m (getS tb)) tc).1).toArray⟩), (.int .i64 ((openS (keyedS (nxS c.k N) [115, 101, 110, 100]) (headS c.m (getS tb)) tc).2))]), (.tuple #[(.string ⟨((openS (keyedS (nxS c.k N) [115, 101, 110, 100]) (headS c.m (getS tb)) tc).1).toArray⟩), (.int .i64 ((openS (keyedS (nxS c.k N) [115, 101, 110, 100]) (headS c.m (getS tb)) tc).2))]), (.string ⟨((openS (keyedS (nxS c.k N) [115, 101, 110, 100]) (headS c.m (getS tb)) tc).1).toArray⟩), (.int .i64 ((openS (keyedS (nxS c.k N) [115, 101, 110, 100]) (headS c.m (getS tb)) tc).2)), (.string ⟨((openS (keyedS (nxS c.k N) [115, 101, 110, 100]) (headS c.m (getS tb)) tc).1).toArray⟩), (.int .i64 ((openS (keyedS (nxS c.k N) [115, 101, 110, 100]) (headS c.m (getS tb)) tc).2))] ⟨e0, e1, e2, e3, e4, e5, e6, e7, e8, e9, e10, e11, e12, e13, e14, e15, trivial⟩).sub ⟨rfl, rfl, rfl, rfl, rfl, rfl, rfl, rfl, rfl, rfl, rfl, rfl, rfl, rfl, rfl, rfl, rfl, rfl, rfl, rfl, rfl, rfl, rfl, rfl, rfl, rfl, rfl, rfl, rfl, rfl, rfl, rfl, rfl, rfl, rfl, rfl, rfl, rfl, rfl, rfl, rfl, rfl, rfl, rfl, rfl, rfl, rfl, rfl, rfl, rfl, rfl, rfl, trivial⟩
                  have hM91 := hM90.grow hb91
                  clear hK K0 e0 K1 e1 K2 e2 K3 e3 K4 e4 K5 e5 K6 e6 K7 e7 K8 e8 K9 e9 K10 e10 K11 e11 K12 e12 K13 e13 K14 e14 K15 e15
                  clear hF90 hM90
                  refine nx ?_
                  refine wp_seq ?_
                  refine wp_seq ?_
                  refine wp_region_lit ?_
                  refine sq (v := (.int .i64 ((openS (keyedS (nxS c.k N) [115, 101, 110, 100]) (headS c.m (getS tb)) tc).2))) hF91 (wantedS rfl) (run_mv rfl (hF91.ev 8 rfl)) rfl (by decide) fun a92 hF92 => ?_
                  refine sq (v := (.bool true)) hF92 (wantedS rfl) (run_nei rfl (hF92.ev 91 rfl) rfl (bne_iff_ne.2 hop)) rfl (by decide) fun a93 hF93 => ?_
                  refine sqEnd ?_
                  clear hF91 hF92
                  refine nx ?_
                  refine wp_cond_true (hF93.ev 92 rfl) ?_
                  refine wp_seq ?_
                  refine wp_region_lit ?_
                  refine sq (v := (.agg (chA noCh))) hF93 (wantedS rfl) (run_blt (vs := #[]) (cs := chA noCh) rfl (by simp) built_ch0) rfl (by decide) fun a94 hF94 => ?_
                  refine sq (v := (.int .i64 ((openS (keyedS (nxS c.k N) [115, 101, 110, 100]) (headS c.m (getS tb)) tc).2))) hF94 (wantedS rfl) (run_mv rfl (hF94.ev 8 rfl)) rfl (by decide) fun a95 hF95 => ?_
                  refine sqStore (i := 6) hF95 hM91 rfl rfl rfl (hF95.ev 4 rfl) (hF95.ev 93 rfl) rfl szCh (chA_size noCh_len) (chA_size noCh_len) (chA_one _) fun a96 w92 hF96 hM92 => ?_
                  refine sq (v := (.string ⟨List.toArray []⟩)) hF96 (wantedS rfl) (run_as rfl rfl) rfl (by decide) fun a97 hF97 => ?_
                  refine sq (v := (.int .i64 ((openS (keyedS (nxS c.k N) [115, 101, 110, 100]) (headS c.m (getS tb)) tc).2))) hF97 (wantedS rfl) (run_as rfl (hF97.ev 94 rfl)) rfl (by decide) fun a98 hF98 => ?_
                  refine sqEnd ?_
                  clear hF93 hF94 hF95 hF96 hF97 hM91
                  refine nx ?_
                  refine wp_ret ?_
                  refine nxRet ?_
                  refine retBTTK (i := 6) (j := 2) hF98 rfl rfl hM92 rfl rfl Tryd.underlying26 rfl szCh (chA_size noCh_len) rfl rfl fun w9 hM9 => ?_
                  exact ⟨by rw [hs], hM9.below⟩
        · have hs : takeS c f = (noCh, [], 7) := by rw [hs0, hXe]; simp only [takeL]; rw [if_neg (by simp [h8]), if_pos hma]
          have hgl := getS_lt tb
          have hneq : (!(ta == c.m)) = true := by rw [beq_eq_false_iff_ne.2 hma]; rfl
          refine walk_enterM Tryd.func13 rfl rfl rfl fun a0 hF0 => ?_
          have hM0 := Mem.new w
          refine wp_seq ?_
          refine wp_region_lit ?_
          refine sqNew (cs := (chA c)) (t := 26) hF0 hM0 (wantedS rfl) (run_box rfl (hF0.ev 0 rfl)) rfl (by decide) fun g0 a1 w1 hgg0 hb1 hF1 hM1 => ?_
          refine sqNew (cs := (chA noCh)) (t := 26) hF1 hM1 (wantedS rfl) (run_alloc rfl (by kernel_rfl)) rfl (by decide) fun g1 a2 w2 hgg1 hb2 hF2 hM2 => ?_
          refine sq (v := (.string ⟨List.toArray []⟩)) hF2 (wantedS rfl) (run_as rfl rfl) rfl (by decide) fun a3 hF3 => ?_
          refine sq (v := (.int .i64 0)) hF3 (wantedS rfl) (run_as rfl rfl) rfl (by decide) fun a4 hF4 => ?_
          refine sqEnd ?_
          clear hF0 hF1 hF2 hF3 hM0 hM1
          refine nx ?_
          refine wp_seq ?_
          refine wp_region_lit ?_
          refine sq (v := (.string ⟨f.toArray⟩)) hF4 (wantedS rfl) (run_mv rfl (hF4.ev 1 rfl)) rfl (by decide) fun a5 hF5 => ?_
          refine sqT (T := fun u wx => (∃ v, u = .tuple #[v, .int .i64 0] ∧ wx.ownsRow w2.heap.size 9 1 v X.length (X.map tx)) ∧ Below w2.heap.size w2 wx) hF5 (wantedS rfl) (run_call rfl Tryd.func33 (by kernel_rfl) rfl (mapE1 (hF5.ev 15 rfl))) rfl (by decide) (ntexts_ok hT w2 (by omega)) fun u2 a6 w3 hT3 hF6 => ?_
          obtain ⟨⟨v3, rfl, hr3⟩, hb3⟩ := hT3
          obtain ⟨gr, cr, rfl, hcapgr, hggr, hM3⟩ := OwnR.ofCallMem hM2 hb3 hr3 (by omega)
          refine sq (v := (.tuple #[(.slice (some ⟨gr, 0, none⟩) X.length cr), (.int .i64 0)])) hF6 (wantedS rfl) (run_mv rfl (hF6.ev 16 rfl)) rfl (by decide) fun a7 hF7 => ?_
          refine sq (v := (.slice (some ⟨gr, 0, none⟩) X.length cr)) hF7 (wantedS rfl) (run_ext rfl (hF7.ev 14 rfl) rfl) rfl (by decide) fun a8 hF8 => ?_
          refine sq (v := (.int .i64 0)) hF8 (wantedS rfl) (run_ext rfl (hF8.ev 14 rfl) rfl) rfl (by decide) fun a9 hF9 => ?_
          refine sq (v := (.slice (some ⟨gr, 0, none⟩) X.length cr)) hF9 (wantedS rfl) (run_as rfl (hF9.ev 17 rfl)) rfl (by decide) fun a10 hF10 => ?_
          refine sq (v := (.int .i64 0)) hF10 (wantedS rfl) (run_as rfl (hF10.ev 18 rfl)) rfl (by decide) fun a11 hF11 => ?_
          refine sqEnd ?_
          clear hF4 hF5 hF6 hF7 hF8 hF9 hF10 hM2
          refine nx ?_
          refine wp_seq ?_
          refine wp_seq ?_
          refine wp_region_lit ?_
          refine sq (v := (.int .i64 0)) hF11 (wantedS rfl) (run_mv rfl (hF11.ev 8 rfl)) rfl (by decide) fun a12 hF12 => ?_
          refine sq (v := (.bool false)) hF12 (wantedS rfl) (run_nei rfl (hF12.ev 19 rfl) rfl (bne_eq_false_iff_eq.2 (by omega))) rfl (by decide) fun a13 hF13 => ?_
          refine sqEnd ?_
          clear hF11 hF12
          refine nx ?_
          refine wp_cond_false (hF13.ev 20 rfl) ?_
          refine wp_skip ?_
          refine nx ?_
          refine wp_seq ?_
          refine wp_seq ?_
          refine wp_region_lit ?_
          refine sq (v := (.slice (some ⟨gr, 0, none⟩) X.length cr)) hF13 (wantedS rfl) (run_mv rfl (hF13.ev 7 rfl)) rfl (by decide) fun a14 hF14 => ?_
          refine sq (v := (.int .i64 (X.length : Int))) hF14 (wantedS rfl) (run_lenS rfl (hF14.ev 23 rfl) (slOfRow (c := cr) (hM3.ob 0 rfl)) rfl Tryd.underlying34) rfl (by decide) fun a15 hF15 => ?_
          refine sq (v := (.bool false)) hF15 (wantedS rfl) (run_nei rfl (hF15.ev 24 rfl) rfl (bne_eq_false_iff_eq.2 (by omega))) rfl (by decide) fun a16 hF16 => ?_
          refine sq (v := (.bool false)) hF16 (wantedS rfl) (run_mv rfl (hF16.ev 25 rfl)) rfl (by decide) fun a17 hF17 => ?_
          refine sq (v := (.slice (some ⟨gr, 0, none⟩) X.length cr)) hF17 (wantedG hF17 rfl rfl rfl rfl rfl) (run_mv rfl (hF17.ev 7 rfl)) rfl (by decide) fun a18 hF18 => ?_
          refine sq (v := (slPtr (.slice (some ⟨gr, 0, none⟩) X.length cr) (1 * 1))) hF18 (wantedG hF18 rfl rfl rfl rfl rfl) (run_atP (i := 1) rfl (hF18.ev 27 rfl) rfl rfl (slOfRow (c := cr) (hM3.ob 0 rfl)) (by omega) elStr.un (by kernel_rfl)) rfl (by decide) fun a19 hF19 => ?_
          refine sq (v := (.string ⟨tb.toArray⟩)) hF19 (wantedG hF19 rfl rfl rfl rfl rfl) (run_ldP rfl (hF19.ev 28 rfl) (slOfRow (c := cr) (hM3.ob 0 rfl)) (map_at hXb) (by kernel_rfl)) rfl (by decide) fun a20 hF20 => ?_
          refine sq (v := (.int .i64 (tb.length : Int))) hF20 (wantedG hF20 rfl rfl rfl rfl rfl) (run_len rfl (hF20.ev 29 rfl) rfl Tryd.underlying9) rfl (by decide) fun a21 hF21 => ?_
          refine sq (v := (.bool false)) hF21 (wantedG hF21 rfl rfl rfl rfl rfl) (run_nei rfl (hF21.ev 30 rfl) rfl (bne_eq_false_iff_eq.2 (by omega))) rfl (by decide) fun a22 hF22 => ?_
          refine sq (v := (.bool false)) hF22 (wantedS rfl) (run_pick rfl (hF22.ev 26 rfl) rfl (hF22.ev 31 rfl)) rfl (by decide) fun a23 hF23 => ?_
          refine sqEnd ?_
          clear hF13 hF14 hF15 hF16 hF17 hF18 hF19 hF20 hF21 hF22
          refine nx ?_
          refine wp_cond_false (hF23.ev 32 rfl) ?_
          refine wp_skip ?_
          refine nx ?_
          refine wp_seq ?_
          refine wp_region_lit ?_
          refine sq (v := (.slice (some ⟨gr, 0, none⟩) X.length cr)) hF23 (wantedS rfl) (run_mv rfl (hF23.ev 7 rfl)) rfl (by decide) fun a24 hF24 => ?_
          refine sq (v := (slPtr (.slice (some ⟨gr, 0, none⟩) X.length cr) (1 * 1))) hF24 (wantedS rfl) (run_atP (i := 1) rfl (hF24.ev 34 rfl) rfl rfl (slOfRow (c := cr) (hM3.ob 0 rfl)) (by omega) elStr.un (by kernel_rfl)) rfl (by decide) fun a25 hF25 => ?_
          refine sq (v := (.string ⟨tb.toArray⟩)) hF25 (wantedS rfl) (run_ldP rfl (hF25.ev 35 rfl) (slOfRow (c := cr) (hM3.ob 0 rfl)) (map_at hXb) (by kernel_rfl)) rfl (by decide) fun a26 hF26 => ?_
          refine sqC (v := (.int .u64 (getS tb : Int))) hF26 hM3 (wantedS rfl) (run_call rfl Tryd.func34 (by kernel_rfl) rfl (mapE1 (hF26.ev 36 rfl))) rfl (by decide) (nget_any tb w3) fun a27 w4 hb4 hF27 hM4 => ?_
          refine sqNew (cs := #[(.int .u64 0)]) (t := 22) hF27 hM4 (wantedS rfl) (run_alloc1 rfl (by kernel_rfl)) rfl (by decide) fun g4 a28 w5 hgg4 hb5 hF28 hM5 => ?_
          refine sqSet1U (j := 0) hF28 hM5 rfl rfl rfl (hF28.ev 9 rfl) (hF28.ev 37 rfl) rfl fun a29 w6 hgr6 hF29 hM6 => ?_
          refine sqEnd ?_
          clear hF23 hF24 hF25 hF26 hF27 hF28 hM3 hM4 hM5
          refine nx ?_
          refine wp_seq ?_
          refine wp_block ?_
          refine wp_seq ?_
          obtain ⟨KL, hKL⟩ : ∃ KL, KL = [kval (.slice (some ⟨gr, 0, none⟩) X.length cr), kval (slPtr (.slice (some ⟨gr, 0, none⟩) X.length cr) (0 * 1)), kval (.string ⟨ta.toArray⟩), kval (.pointer (some ⟨g0, 0, none⟩)), kval (.string ⟨c.m.toArray⟩), kval (.bool true), kval (.bool true)] := ⟨_, rfl⟩
          have K0 : KL.getD 0 kany = kval (.slice (some ⟨gr, 0, none⟩) X.length cr) := by rw [hKL]; rfl
          have K1 : KL.getD 1 kany = kval (slPtr (.slice (some ⟨gr, 0, none⟩) X.length cr) (0 * 1)) := by rw [hKL]; rfl
          have K2 : KL.getD 2 kany = kval (.string ⟨ta.toArray⟩) := by rw [hKL]; rfl
          have K3 : KL.getD 3 kany = kval (.pointer (some ⟨g0, 0, none⟩)) := by rw [hKL]; rfl
          have K4 : KL.getD 4 kany = kval (.string ⟨c.m.toArray⟩) := by rw [hKL]; rfl
          have K5 : KL.getD 5 kany = kval (.bool true) := by rw [hKL]; rfl
          have K6 : KL.getD 6 kany = kval (.bool true) := by rw [hKL]; rfl
          clear hKL
          refine wp_region_kd 103 (by kernel_rfl) (by kernel_rfl) (by kernel_rfl) hF29.size KL ?_ ?_
          · refine ⟨?_, ?_, ?_, ?_, ?_, ?_, ?_, trivial⟩
            · refine asks_mk fun a W hS hh hd => ⟨wanted_yes rfl, ?_⟩
              exact giv_run (run_mv rfl (eval_tmp (hh 7 _ rfl (hF29.at 7 rfl)))) K0
            · refine asks_mk fun a W hS hh hd => ⟨wanted_yes rfl, ?_⟩
              exact giv_run (run_atP (i := 0) rfl (eval_tmp (hd.val (j := 0) (s := 39) (by kernel_rfl) K0)) rfl rfl (slOfRow (c := cr) ((hM6.grow hS).ob 1 rfl)) (by omega) elStr.un (by kernel_rfl)) K1
            · refine asks_mk fun a W hS hh hd => ⟨wanted_yes rfl, ?_⟩
              exact giv_run (run_ldP rfl (eval_tmp (hd.val (j := 1) (s := 40) (by kernel_rfl) K1)) (slOfRow (c := cr) ((hM6.grow hS).ob 1 rfl)) (map_at hXa) (by kernel_rfl)) K2
            · refine asks_mk fun a W hS hh hd => ⟨wanted_yes rfl, ?_⟩
              exact giv_run (run_fldA (m := 1) (s := 0) rfl (eval_tmp (hh 2 _ rfl (hF29.at 2 rfl))) Tryd.underlying26 rfl rfl (by kernel_rfl) (by decide)) K3
            · refine asks_mk fun a W hS hh hd => ⟨wanted_yes rfl, ?_⟩
              exact giv_run (run_ldF rfl (eval_tmp (hd.val (j := 3) (s := 42) (by kernel_rfl) K3)) ((hM6.grow hS).at 3 rfl) rfl (by kernel_rfl)) K4
            · refine asks_mk fun a W hS hh hd => ⟨wanted_yes rfl, ?_⟩
              exact giv_run (run_nes rfl (eval_tmp (hd.val (j := 2) (s := 41) (by kernel_rfl) K2)) (eval_tmp (hd.val (j := 4) (s := 43) (by kernel_rfl) K4)) hneq) K5
            · refine asks_mk fun a W hS hh hd => ⟨wanted_yes rfl, ?_⟩
              exact giv_run (run_as rfl (eval_tmp (hd.val (j := 5) (s := 44) (by kernel_rfl) K5))) K6
          · intro a30 w7 hb7 hK
            have e0 := hK.val (i := 0) (s := 39) (by kernel_rfl) K0
            have e1 := hK.val (i := 1) (s := 40) (by kernel_rfl) K1
            have e2 := hK.val (i := 2) (s := 41) (by kernel_rfl) K2
            have e3 := hK.val (i := 3) (s := 42) (by kernel_rfl) K3
            have e4 := hK.val (i := 4) (s := 43) (by kernel_rfl) K4
            have e5 := hK.val (i := 5) (s := 44) (by kernel_rfl) K5
            have e6 := hK.val (i := 6) (s := 38) (by kernel_rfl) K6
            have hF30 : Fr a30 103 [(0, (.agg (chA c))), (1, (.string ⟨f.toArray⟩)), (2, (.pointer (some ⟨g0, 0, none⟩))), (4, (.pointer (some ⟨g1, 0, none⟩))), (5, (.string ⟨List.toArray []⟩)), (6, (.int .i64 0)), (7, (.slice (some ⟨gr, 0, none⟩) X.length cr)), (8, (.int .i64 0)), (9, (.pointer (some ⟨g4, 0, none⟩))), (14, (.tuple #[(.slice (some ⟨gr, 0, none⟩) X.length cr), (.int .i64 0)])), (15, (.string ⟨f.toArray⟩)), (16, (.tuple #[(.slice (some ⟨gr, 0, none⟩) X.length cr), (.int .i64 0)])), (17, (.slice (some ⟨gr, 0, none⟩) X.length cr)), (18, (.int .i64 0)), (19, (.int .i64 0)), (20, (.bool false)), (23, (.slice (some ⟨gr, 0, none⟩) X.length cr)), (24, (.int .i64 (X.length : Int))), (25, (.bool false)), (26, (.bool false)), (27, (.slice (some ⟨gr, 0, none⟩) X.length cr)), (28, (slPtr (.slice (some ⟨gr, 0, none⟩) X.length cr) (1 * 1))), (29, (.string ⟨tb.toArray⟩)), (30, (.int .i64 (tb.length : Int))), (31, (.bool false)), (32, (.bool false)), (34, (.slice (some ⟨gr, 0, none⟩) X.length cr)), (35, (slPtr (.slice (some ⟨gr, 0, none⟩) X.length cr) (1 * 1))), (36, (.string ⟨tb.toArray⟩)), (37, (.int .u64 (getS tb : Int))), (38, (.bool true))] := (hK.fr hF29 [(.slice (some ⟨gr, 0, none⟩) X.length cr), (slPtr (.slice (some ⟨gr, 0, none⟩) X.length cr) (0 * 1)), (.string ⟨ta.toArray⟩), (.pointer (some ⟨g0, 0, none⟩)), (.string ⟨c.m.toArray⟩), (.bool true), (.bool true)] ⟨e0, e1, e2, e3, e4, e5, e6, trivial⟩).sub ⟨rfl, rfl, rfl, rfl, rfl, rfl, rfl, rfl, rfl, rfl, rfl, rfl, rfl, rfl, rfl, rfl, rfl, rfl, rfl, rfl, rfl, rfl, rfl, rfl, rfl, rfl, rfl, rfl, rfl, rfl, rfl, trivial⟩
            have hM7 := hM6.grow hb7
            clear hK K0 e0 K1 e1 K2 e2 K3 e3 K4 e4 K5 e5 K6 e6
            clear hF29 hM6
            refine nx ?_
            refine wp_cond_true (hF30.ev 38 rfl) ?_
            refine wp_seq ?_
            refine wp_region_lit ?_
            refine sq (v := (.agg (chA noCh))) hF30 (wantedS rfl) (run_blt (vs := #[]) (cs := chA noCh) rfl (by simp) built_ch0) rfl (by decide) fun a31 hF31 => ?_
            refine sqStore (i := 2) hF31 hM7 rfl rfl rfl (hF31.ev 4 rfl) (hF31.ev 45 rfl) rfl szCh (chA_size noCh_len) (chA_size noCh_len) (chA_one _) fun a32 w8 hF32 hM8 => ?_
            refine sq (v := (.string ⟨List.toArray []⟩)) hF32 (wantedS rfl) (run_as rfl rfl) rfl (by decide) fun a33 hF33 => ?_
            refine sq (v := (.int .i64 7)) hF33 (wantedS rfl) (run_as rfl rfl) rfl (by decide) fun a34 hF34 => ?_
            refine sqEnd ?_
            clear hF30 hF31 hF32 hF33 hM7
            refine nx ?_
            refine wp_ret ?_
            refine bkRet ?_
            refine nxRet ?_
            exact retBTTM hF34 rfl rfl (hM8.at 2 rfl) Tryd.underlying26 rfl szCh (chA_size noCh_len) rfl rfl ⟨by rw [hs], hM8.below⟩
      · have hs : takeS c f = (noCh, [], 3) := by rw [hs0, hXe]; simp only [takeL]; rw [if_pos h8]
        refine walk_enterM Tryd.func13 rfl rfl rfl fun a0 hF0 => ?_
        have hM0 := Mem.new w
        refine wp_seq ?_
        refine wp_region_lit ?_
        refine sqNew (cs := (chA c)) (t := 26) hF0 hM0 (wantedS rfl) (run_box rfl (hF0.ev 0 rfl)) rfl (by decide) fun g0 a1 w1 hgg0 hb1 hF1 hM1 => ?_
        refine sqNew (cs := (chA noCh)) (t := 26) hF1 hM1 (wantedS rfl) (run_alloc rfl (by kernel_rfl)) rfl (by decide) fun g1 a2 w2 hgg1 hb2 hF2 hM2 => ?_
        refine sq (v := (.string ⟨List.toArray []⟩)) hF2 (wantedS rfl) (run_as rfl rfl) rfl (by decide) fun a3 hF3 => ?_
        refine sq (v := (.int .i64 0)) hF3 (wantedS rfl) (run_as rfl rfl) rfl (by decide) fun a4 hF4 => ?_
        refine sqEnd ?_
        clear hF0 hF1 hF2 hF3 hM0 hM1
        refine nx ?_
        refine wp_seq ?_
        refine wp_region_lit ?_
        refine sq (v := (.string ⟨f.toArray⟩)) hF4 (wantedS rfl) (run_mv rfl (hF4.ev 1 rfl)) rfl (by decide) fun a5 hF5 => ?_
        refine sqT (T := fun u wx => (∃ v, u = .tuple #[v, .int .i64 0] ∧ wx.ownsRow w2.heap.size 9 1 v X.length (X.map tx)) ∧ Below w2.heap.size w2 wx) hF5 (wantedS rfl) (run_call rfl Tryd.func33 (by kernel_rfl) rfl (mapE1 (hF5.ev 15 rfl))) rfl (by decide) (ntexts_ok hT w2 (by omega)) fun u2 a6 w3 hT3 hF6 => ?_
        obtain ⟨⟨v3, rfl, hr3⟩, hb3⟩ := hT3
        obtain ⟨gr, cr, rfl, hcapgr, hggr, hM3⟩ := OwnR.ofCallMem hM2 hb3 hr3 (by omega)
        refine sq (v := (.tuple #[(.slice (some ⟨gr, 0, none⟩) X.length cr), (.int .i64 0)])) hF6 (wantedS rfl) (run_mv rfl (hF6.ev 16 rfl)) rfl (by decide) fun a7 hF7 => ?_
        refine sq (v := (.slice (some ⟨gr, 0, none⟩) X.length cr)) hF7 (wantedS rfl) (run_ext rfl (hF7.ev 14 rfl) rfl) rfl (by decide) fun a8 hF8 => ?_
        refine sq (v := (.int .i64 0)) hF8 (wantedS rfl) (run_ext rfl (hF8.ev 14 rfl) rfl) rfl (by decide) fun a9 hF9 => ?_
        refine sq (v := (.slice (some ⟨gr, 0, none⟩) X.length cr)) hF9 (wantedS rfl) (run_as rfl (hF9.ev 17 rfl)) rfl (by decide) fun a10 hF10 => ?_
        refine sq (v := (.int .i64 0)) hF10 (wantedS rfl) (run_as rfl (hF10.ev 18 rfl)) rfl (by decide) fun a11 hF11 => ?_
        refine sqEnd ?_
        clear hF4 hF5 hF6 hF7 hF8 hF9 hF10 hM2
        refine nx ?_
        refine wp_seq ?_
        refine wp_seq ?_
        refine wp_region_lit ?_
        refine sq (v := (.int .i64 0)) hF11 (wantedS rfl) (run_mv rfl (hF11.ev 8 rfl)) rfl (by decide) fun a12 hF12 => ?_
        refine sq (v := (.bool false)) hF12 (wantedS rfl) (run_nei rfl (hF12.ev 19 rfl) rfl (bne_eq_false_iff_eq.2 (by omega))) rfl (by decide) fun a13 hF13 => ?_
        refine sqEnd ?_
        clear hF11 hF12
        refine nx ?_
        refine wp_cond_false (hF13.ev 20 rfl) ?_
        refine wp_skip ?_
        refine nx ?_
        refine wp_seq ?_
        refine wp_seq ?_
        refine wp_region_lit ?_
        refine sq (v := (.slice (some ⟨gr, 0, none⟩) X.length cr)) hF13 (wantedS rfl) (run_mv rfl (hF13.ev 7 rfl)) rfl (by decide) fun a14 hF14 => ?_
        refine sq (v := (.int .i64 (X.length : Int))) hF14 (wantedS rfl) (run_lenS rfl (hF14.ev 23 rfl) (slOfRow (c := cr) (hM3.ob 0 rfl)) rfl Tryd.underlying34) rfl (by decide) fun a15 hF15 => ?_
        refine sq (v := (.bool false)) hF15 (wantedS rfl) (run_nei rfl (hF15.ev 24 rfl) rfl (bne_eq_false_iff_eq.2 (by omega))) rfl (by decide) fun a16 hF16 => ?_
        refine sq (v := (.bool false)) hF16 (wantedS rfl) (run_mv rfl (hF16.ev 25 rfl)) rfl (by decide) fun a17 hF17 => ?_
        refine sq (v := (.slice (some ⟨gr, 0, none⟩) X.length cr)) hF17 (wantedG hF17 rfl rfl rfl rfl rfl) (run_mv rfl (hF17.ev 7 rfl)) rfl (by decide) fun a18 hF18 => ?_
        refine sq (v := (slPtr (.slice (some ⟨gr, 0, none⟩) X.length cr) (1 * 1))) hF18 (wantedG hF18 rfl rfl rfl rfl rfl) (run_atP (i := 1) rfl (hF18.ev 27 rfl) rfl rfl (slOfRow (c := cr) (hM3.ob 0 rfl)) (by omega) elStr.un (by kernel_rfl)) rfl (by decide) fun a19 hF19 => ?_
        refine sq (v := (.string ⟨tb.toArray⟩)) hF19 (wantedG hF19 rfl rfl rfl rfl rfl) (run_ldP rfl (hF19.ev 28 rfl) (slOfRow (c := cr) (hM3.ob 0 rfl)) (map_at hXb) (by kernel_rfl)) rfl (by decide) fun a20 hF20 => ?_
        refine sq (v := (.int .i64 (tb.length : Int))) hF20 (wantedG hF20 rfl rfl rfl rfl rfl) (run_len rfl (hF20.ev 29 rfl) rfl Tryd.underlying9) rfl (by decide) fun a21 hF21 => ?_
        refine sq (v := (.bool true)) hF21 (wantedG hF21 rfl rfl rfl rfl rfl) (run_nei rfl (hF21.ev 30 rfl) rfl (bne_iff_ne.2 (by omega))) rfl (by decide) fun a22 hF22 => ?_
        refine sq (v := (.bool true)) hF22 (wantedS rfl) (run_pick rfl (hF22.ev 26 rfl) rfl (hF22.ev 31 rfl)) rfl (by decide) fun a23 hF23 => ?_
        refine sqEnd ?_
        clear hF13 hF14 hF15 hF16 hF17 hF18 hF19 hF20 hF21 hF22
        refine nx ?_
        refine wp_cond_true (hF23.ev 32 rfl) ?_
        refine wp_seq ?_
        refine wp_region_lit ?_
        refine sq (v := (.agg (chA noCh))) hF23 (wantedS rfl) (run_blt (vs := #[]) (cs := chA noCh) rfl (by simp) built_ch0) rfl (by decide) fun a24 hF24 => ?_
        refine sqStore (i := 1) hF24 hM3 rfl rfl rfl (hF24.ev 4 rfl) (hF24.ev 33 rfl) rfl szCh (chA_size noCh_len) (chA_size noCh_len) (chA_one _) fun a25 w4 hF25 hM4 => ?_
        refine sq (v := (.string ⟨List.toArray []⟩)) hF25 (wantedS rfl) (run_as rfl rfl) rfl (by decide) fun a26 hF26 => ?_
        refine sq (v := (.int .i64 3)) hF26 (wantedS rfl) (run_as rfl rfl) rfl (by decide) fun a27 hF27 => ?_
        refine sqEnd ?_
        clear hF23 hF24 hF25 hF26 hM3
        refine nx ?_
        refine wp_ret ?_
        refine nxRet ?_
        exact retBTTM hF27 rfl rfl (hM4.at 1 rfl) Tryd.underlying26 rfl szCh (chA_size noCh_len) rfl rfl ⟨by rw [hs], hM4.below⟩
    · have hs : takeS c f = (noCh, [], 3) := by rw [hs0]; unfold takeL; split
                                                · simp at h3
                                                · rfl
      refine walk_enterM Tryd.func13 rfl rfl rfl fun a0 hF0 => ?_
      have hM0 := Mem.new w
      refine wp_seq ?_
      refine wp_region_lit ?_
      refine sqNew (cs := (chA c)) (t := 26) hF0 hM0 (wantedS rfl) (run_box rfl (hF0.ev 0 rfl)) rfl (by decide) fun g0 a1 w1 hgg0 hb1 hF1 hM1 => ?_
      refine sqNew (cs := (chA noCh)) (t := 26) hF1 hM1 (wantedS rfl) (run_alloc rfl (by kernel_rfl)) rfl (by decide) fun g1 a2 w2 hgg1 hb2 hF2 hM2 => ?_
      refine sq (v := (.string ⟨List.toArray []⟩)) hF2 (wantedS rfl) (run_as rfl rfl) rfl (by decide) fun a3 hF3 => ?_
      refine sq (v := (.int .i64 0)) hF3 (wantedS rfl) (run_as rfl rfl) rfl (by decide) fun a4 hF4 => ?_
      refine sqEnd ?_
      clear hF0 hF1 hF2 hF3 hM0 hM1
      refine nx ?_
      refine wp_seq ?_
      refine wp_region_lit ?_
      refine sq (v := (.string ⟨f.toArray⟩)) hF4 (wantedS rfl) (run_mv rfl (hF4.ev 1 rfl)) rfl (by decide) fun a5 hF5 => ?_
      refine sqT (T := fun u wx => (∃ v, u = .tuple #[v, .int .i64 0] ∧ wx.ownsRow w2.heap.size 9 1 v X.length (X.map tx)) ∧ Below w2.heap.size w2 wx) hF5 (wantedS rfl) (run_call rfl Tryd.func33 (by kernel_rfl) rfl (mapE1 (hF5.ev 15 rfl))) rfl (by decide) (ntexts_ok hT w2 (by omega)) fun u2 a6 w3 hT3 hF6 => ?_
      obtain ⟨⟨v3, rfl, hr3⟩, hb3⟩ := hT3
      have hO1 := OwnR.ofCall hM2 hr3
      have hM3 := hM2.grow hb3
      refine sq (v := (.tuple #[v3, (.int .i64 0)])) hF6 (wantedS rfl) (run_mv rfl (hF6.ev 16 rfl)) rfl (by decide) fun a7 hF7 => ?_
      refine sq (v := v3) hF7 (wantedS rfl) (run_ext rfl (hF7.ev 14 rfl) rfl) rfl (by decide) fun a8 hF8 => ?_
      refine sq (v := (.int .i64 0)) hF8 (wantedS rfl) (run_ext rfl (hF8.ev 14 rfl) rfl) rfl (by decide) fun a9 hF9 => ?_
      refine sq (v := v3) hF9 (wantedS rfl) (run_as rfl (hF9.ev 17 rfl)) rfl (by decide) fun a10 hF10 => ?_
      refine sq (v := (.int .i64 0)) hF10 (wantedS rfl) (run_as rfl (hF10.ev 18 rfl)) rfl (by decide) fun a11 hF11 => ?_
      refine sqEnd ?_
      clear hF4 hF5 hF6 hF7 hF8 hF9 hF10 hM2
      refine nx ?_
      refine wp_seq ?_
      refine wp_seq ?_
      refine wp_region_lit ?_
      refine sq (v := (.int .i64 0)) hF11 (wantedS rfl) (run_mv rfl (hF11.ev 8 rfl)) rfl (by decide) fun a12 hF12 => ?_
      refine sq (v := (.bool false)) hF12 (wantedS rfl) (run_nei rfl (hF12.ev 19 rfl) rfl (bne_eq_false_iff_eq.2 (by omega))) rfl (by decide) fun a13 hF13 => ?_
      refine sqEnd ?_
      clear hF11 hF12
      refine nx ?_
      refine wp_cond_false (hF13.ev 20 rfl) ?_
      refine wp_skip ?_
      refine nx ?_
      refine wp_seq ?_
      refine wp_seq ?_
      refine wp_region_lit ?_
      refine sq (v := v3) hF13 (wantedS rfl) (run_mv rfl (hF13.ev 7 rfl)) rfl (by decide) fun a14 hF14 => ?_
      refine sq (v := (.int .i64 (X.length : Int))) hF14 (wantedS rfl) (run_lenS rfl (hF14.ev 23 rfl) (Sl.own hO1) rfl Tryd.underlying34) rfl (by decide) fun a15 hF15 => ?_
      refine sq (v := (.bool true)) hF15 (wantedS rfl) (run_nei rfl (hF15.ev 24 rfl) rfl (bne_iff_ne.2 (by omega))) rfl (by decide) fun a16 hF16 => ?_
      refine sq (v := (.bool true)) hF16 (wantedS rfl) (run_mv rfl (hF16.ev 25 rfl)) rfl (by decide) fun a17 hF17 => ?_
      refine sqSkip hF17 (unwantedG hF17 rfl rfl rfl rfl rfl) rfl (by decide) fun a18 hF18 => ?_
      refine sqSkip hF18 (unwantedG hF18 rfl rfl rfl rfl rfl) rfl (by decide) fun a19 hF19 => ?_
      refine sqSkip hF19 (unwantedG hF19 rfl rfl rfl rfl rfl) rfl (by decide) fun a20 hF20 => ?_
      refine sqSkip hF20 (unwantedG hF20 rfl rfl rfl rfl rfl) rfl (by decide) fun a21 hF21 => ?_
      refine sqSkip hF21 (unwantedG hF21 rfl rfl rfl rfl rfl) rfl (by decide) fun a22 hF22 => ?_
      refine sq (v := (.bool true)) hF22 (wantedS rfl) (run_pick rfl (hF22.ev 26 rfl) rfl (hF22.ev 31 rfl)) rfl (by decide) fun a23 hF23 => ?_
      refine sqEnd ?_
      clear hF13 hF14 hF15 hF16 hF17 hF18 hF19 hF20 hF21 hF22
      refine nx ?_
      refine wp_cond_true (hF23.ev 32 rfl) ?_
      refine wp_seq ?_
      refine wp_region_lit ?_
      refine sq (v := (.agg (chA noCh))) hF23 (wantedS rfl) (run_blt (vs := #[]) (cs := chA noCh) rfl (by simp) built_ch0) rfl (by decide) fun a24 hF24 => ?_
      refine sqStoreG (i := 0) hF24 hM3 rfl rfl rfl (hF24.ev 4 rfl) (hF24.ev 33 rfl) rfl szCh (chA_size noCh_len) (chA_size noCh_len) (chA_one _) fun a25 w4 hgr4 hF25 hM4 => ?_
      have hO2 := hO1.upd 0 (S2 := isB 26 (chA noCh)) rfl hgr4
      refine sq (v := (.string ⟨List.toArray []⟩)) hF25 (wantedS rfl) (run_as rfl rfl) rfl (by decide) fun a26 hF26 => ?_
      refine sq (v := (.int .i64 3)) hF26 (wantedS rfl) (run_as rfl rfl) rfl (by decide) fun a27 hF27 => ?_
      refine sqEnd ?_
      clear hF23 hF24 hF25 hF26 hM3
      refine nx ?_
      refine wp_ret ?_
      refine nxRet ?_
      exact retBTTM hF27 rfl rfl (hM4.at 0 rfl) Tryd.underlying26 rfl szCh (chA_size noCh_len) rfl rfl ⟨by rw [hs], hM4.below⟩
end Go.Proofs.YtioioibcldgknaaDoor
