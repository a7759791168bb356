/- The walks of past.pass and lz.Pack. Printed by gen_lz6.py. -/
import Derived.Test.YtpobmaklgnioeaaDoorLz5
namespace Go.Proofs.YtpobmaklgnioeaaDoor
open Go.RowKit

/-- what was passed ahead of p. -/
def Passed (s : List UInt8) (f : List UInt8 → Option Nat) (k : Nat) (zs : List Int) (p : Nat) : Prop := k ≤ p ∧ zs.length = s.length ∧ (∀ K, K.length = 4 → f K = lastS s K p) ∧ ∀ i, i < p → i + 4 ≤ s.length → zs[i]? = some (encS (lastS s (fourS s i) i))
theorem Passed.far {s : List UInt8} {f : List UInt8 → Option Nat} {k i q : Nat} {zs : List Int} (h : Passed s f k zs i) (h4 : s.length < i + 4) (hq : i ≤ q) : Passed s f k zs q := by
  obtain ⟨h1, h2, h3, h5⟩ := h
  refine ⟨by omega, h2, fun K hK => ?_, fun j hj hj4 => h5 j (by omega) hj4⟩
  rw [h3 K hK, show q = i + (q - i) by omega, lastS_far hK h4]
theorem Passed.next {s : List UInt8} {f : List UInt8 → Option Nat} {k i : Nat} {zs : List Int} {K : List UInt8} {u : Int} (h : Passed s f k zs i) (hK : fourS s i = K) (hi : i < s.length) (hu : u = encS (lastS s K i)) : Passed s (putF f K i) (k + 1) (zs.set i u) (i + 1) := by
  obtain ⟨h1, h2, h3, h5⟩ := h
  refine ⟨by omega, by rw [List.length_set]; exact h2, fun K2 hK2 => ?_, fun j hj hj4 => ?_⟩
  · unfold putF
    rw [lastS, hK]
    by_cases e : K2 = K
    · rw [if_pos e, if_pos e.symm]
    · rw [if_neg e, if_neg (fun h => e h.symm), h3 K2 hK2]
  · rcases Nat.lt_or_ge j i with h6 | h6
    · rw [List.getElem?_set_ne (by omega)]; exact h5 j h6 hj4
    · obtain rfl : j = i := by omega
      rw [List.getElem?_set_self (by omega), hu, hK]
set_option maxRecDepth 100000 in
set_option maxHeartbeats 1000000 in
theorem zpass_any (s b : List UInt8) (f : List UInt8 → Option Nat) (zs : List Int) (gp gm ga k p n : Nat) (v : Value) (w0 w : World) (M : List (Nat × (Obj → Prop))) (hM : Mem w0 ((gp, isB 80 #[.string ⟨s.toArray⟩, .map (some gm), .slice (some ⟨ga, 0, none⟩) s.length s.length]) :: (ga, isB 3 (cellsI zs)) :: (gm, isMap4 f k) :: M) w) (hO : OwnR w0 ((gp, isB 80 #[.string ⟨s.toArray⟩, .map (some gm), .slice (some ⟨ga, 0, none⟩) s.length s.length]) :: (ga, isB 3 (cellsI zs)) :: (gm, isMap4 f k) :: M) w 5 1 v b.length (b.map cb)) (hs : s.length ≤ 2 ^ 32) (hp : p + n ≤ s.length) (hpd : Passed s f k zs p) :
    Calls Tryd.prog 54 #[(.pointer (some ⟨gp, 0, none⟩)), .int .i64 (p : Int), .int .i64 (n : Int)] w fun e w' => ∃ r, e = .returned r ∧ ∃ (f2 : List UInt8 → Option Nat) (k2 : Nat) (zs2 : List Int), Passed s f2 k2 zs2 (p + n) ∧ OwnR w0 ((gp, isB 80 #[.string ⟨s.toArray⟩, .map (some gm), .slice (some ⟨ga, 0, none⟩) s.length s.length]) :: (ga, isB 3 (cellsI zs2)) :: (gm, isMap4 f2 k2) :: M) w' 5 1 v b.length (b.map cb) ∧ Mem w0 ((gp, isB 80 #[.string ⟨s.toArray⟩, .map (some gm), .slice (some ⟨ga, 0, none⟩) s.length s.length]) :: (ga, isB 3 (cellsI zs2)) :: (gm, isMap4 f2 k2) :: M) w' := by
  refine walk_enter Tryd.func54 rfl rfl rfl fun a0 hF0 => ?_
  have hM0 := hM
  refine wp_seq ?_
  refine wp_region_lit ?_
  refine sq (v := (.int .i64 (p : Int))) hF0 (wantedS rfl) (run_mv rfl (hF0.ev 1 rfl)) rfl (by decide) fun a1 hF1 => ?_
  refine sq (v := (.int .i64 (p : Int))) hF1 (wantedS rfl) (run_as rfl (hF1.ev 11 rfl)) rfl (by decide) fun a2 hF2 => ?_
  refine sqEnd ?_
  clear hF0 hF1
  refine nx ?_
  refine wp_block ?_
  refine wkLoop (fun m a w2 => ∃ (i : Nat) (f2 : List UInt8 → Option Nat) (k2 : Nat) (zs2 : List Int), p ≤ i ∧ i ≤ p + n ∧ m = p + n - i ∧ Passed s f2 k2 zs2 i ∧ OwnR w0 ((gp, isB 80 #[.string ⟨s.toArray⟩, .map (some gm), .slice (some ⟨ga, 0, none⟩) s.length s.length]) :: (ga, isB 3 (cellsI zs2)) :: (gm, isMap4 f2 k2) :: M) w2 5 1 v b.length (b.map cb) ∧ Fr a 51 [(0, .pointer (some ⟨gp, 0, none⟩)), (1, .int .i64 (p : Int)), (2, .int .i64 (n : Int)), (6, .int .i64 (i : Int))] ∧ Mem w0 ((gp, isB 80 #[.string ⟨s.toArray⟩, .map (some gm), .slice (some ⟨ga, 0, none⟩) s.length s.length]) :: (ga, isB 3 (cellsI zs2)) :: (gm, isMap4 f2 k2) :: M) w2) n ⟨p, f, k, zs, Nat.le_refl _, by omega, by omega, hpd, hO, hF2.sub ⟨rfl, rfl, rfl, rfl, trivial⟩, hM0⟩ ?_
  rintro m a0 w1 ⟨i, f2, k2, zs2, hpi, hin, rfl, hpd2, hO0, hF0, hM0⟩
  obtain ⟨hk2, hzl, hf2, hz2⟩ := id hpd2
  by_cases h1 : i < p + n
  · by_cases h4 : s.length - i < 4
    · have hpe := hpd2.far (q := p + n) (by omega) (by omega)
      refine wp_seq ?_
      refine wp_seq ?_
      refine wp_region_lit ?_
      refine sq (v := (.int .i64 (i : Int))) hF0 (wantedS rfl) (run_mv rfl (hF0.ev 6 rfl)) rfl (by decide) fun a1 hF1 => ?_
      refine sq (v := (.int .i64 (p : Int))) hF1 (wantedS rfl) (run_mv rfl (hF1.ev 1 rfl)) rfl (by decide) fun a2 hF2 => ?_
      refine sq (v := (.int .i64 (n : Int))) hF2 (wantedS rfl) (run_mv rfl (hF2.ev 2 rfl)) rfl (by decide) fun a3 hF3 => ?_
      refine sq (v := (.int .i64 ((p + n : Nat) : Int))) hF3 (wantedS rfl) (run_add (r := ((p + n : Nat) : Int)) rfl (hF3.ev 13 rfl) (hF3.ev 14 rfl) (by rw [IntKind.wrap_i64]; omega)) rfl (by decide) fun a4 hF4 => ?_
      refine sq (v := (.bool true)) hF4 (wantedS rfl) (run_lss rfl (hF4.ev 12 rfl) (hF4.ev 15 rfl) (decide_eq_true (by omega))) rfl (by decide) fun a5 hF5 => ?_
      refine sqEnd ?_
      clear hF0 hF1 hF2 hF3 hF4
      refine nx ?_
      refine wp_cond_true (hF5.ev 16 rfl) ?_
      refine wp_skip ?_
      refine nx ?_
      refine wp_seq ?_
      refine wp_block ?_
      refine wp_seq ?_
      refine wp_region_lit ?_
      refine sq (v := (.pointer (some ⟨gp, 0, none⟩))) hF5 (wantedS rfl) (run_mv rfl (hF5.ev 0 rfl)) rfl (by decide) fun a6 hF6 => ?_
      refine sq (v := (.int .i64 (i : Int))) hF6 (wantedS rfl) (run_mv rfl (hF6.ev 6 rfl)) rfl (by decide) fun a7 hF7 => ?_
      refine sqC (v := (.tuple #[(.agg (cells8 (List.replicate 4 0))), (.bool false)])) hF7 hM0 (wantedS rfl) (run_call rfl Tryd.func74 (by kernel_rfl) rfl (mapE2 (hF7.ev 20 rfl) (hF7.ev 21 rfl))) rfl (by decide) (zfour_no s gp gm ga i w1 (hM0.at 0 rfl) hs (by omega) h4) fun a8 w2 hb2 hF8 hM1 => ?_
      have hO1 := hO0.grow hb2
      refine sq (v := (.tuple #[(.agg (cells8 (List.replicate 4 0))), (.bool false)])) hF8 (wantedS rfl) (run_mv rfl (hF8.ev 22 rfl)) rfl (by decide) fun a9 hF9 => ?_
      refine sq (v := (.agg (cells8 (List.replicate 4 0)))) hF9 (wantedS rfl) (run_ext rfl (hF9.ev 19 rfl) rfl) rfl (by decide) fun a10 hF10 => ?_
      refine sq (v := (.bool false)) hF10 (wantedS rfl) (run_ext rfl (hF10.ev 19 rfl) rfl) rfl (by decide) fun a11 hF11 => ?_
      refine sqNew (cs := (cells8 (List.replicate 4 0))) (t := 112) hF11 hM1 (wantedS rfl) (run_alloc rfl (by kernel_rfl)) rfl (by decide) fun g0 a12 w3 hgg0 hb3 hF12 hM2 => ?_
      have hO2 := hO1.add (S := isB 112 (cells8 (List.replicate 4 0))) hb3 hgg0
      refine sqStoreG (i := 0) hF12 hM2 rfl rfl rfl (hF12.ev 7 rfl) (hF12.ev 23 rfl) rfl sz4 (szOf List.length_replicate) (szOf List.length_replicate) (cells8_one _) fun a13 w4 hgr4 hF13 hM3 => ?_
      have hO3 := hO2.upd 0 (S2 := isB 112 (cells8 (List.replicate 4 0))) rfl hgr4
      refine sq (v := (.bool false)) hF13 (wantedS rfl) (run_as rfl (hF13.ev 24 rfl)) rfl (by decide) fun a14 hF14 => ?_
      refine sqEnd ?_
      clear hF5 hF6 hF7 hF8 hF9 hF10 hF11 hF12 hF13 hM0 hM1 hM2
      refine nx ?_
      refine wp_seq ?_
      refine wp_seq ?_
      refine wp_region_lit ?_
      refine sq (v := (.bool false)) hF14 (wantedS rfl) (run_mv rfl (hF14.ev 8 rfl)) rfl (by decide) fun a15 hF15 => ?_
      refine sq (v := (.bool true)) hF15 (wantedS rfl) (run_not rfl (hF15.ev 25 rfl)) rfl (by decide) fun a16 hF16 => ?_
      refine sqEnd ?_
      clear hF14 hF15
      refine nx ?_
      refine wp_cond_true (hF16.ev 26 rfl) ?_
      refine wp_ret ?_
      refine nxRet ?_
      refine bkRet ?_
      refine nxRet ?_
      refine nxRet ?_
      refine bkRet ?_
      exact ret0 hF16 rfl ⟨_, rfl, f2, k2, zs2, hpe, hO3.sub (.cons _ (.refl _)), hM3.sub (.cons _ (.refl _))⟩
    · obtain ⟨K, hK⟩ : ∃ K, fourS s i = K := ⟨_, rfl⟩
      have hk4 : K.length = 4 := by rw [← hK]; exact fourS_len (by omega)
      have hfK := hf2 K hk4
      cases hl : lastS s K i with
      | none =>
        rw [hl] at hfK
        refine wp_seq ?_
        refine wp_seq ?_
        refine wp_region_lit ?_
        refine sq (v := (.int .i64 (i : Int))) hF0 (wantedS rfl) (run_mv rfl (hF0.ev 6 rfl)) rfl (by decide) fun a1 hF1 => ?_
        refine sq (v := (.int .i64 (p : Int))) hF1 (wantedS rfl) (run_mv rfl (hF1.ev 1 rfl)) rfl (by decide) fun a2 hF2 => ?_
        refine sq (v := (.int .i64 (n : Int))) hF2 (wantedS rfl) (run_mv rfl (hF2.ev 2 rfl)) rfl (by decide) fun a3 hF3 => ?_
        refine sq (v := (.int .i64 ((p + n : Nat) : Int))) hF3 (wantedS rfl) (run_add (r := ((p + n : Nat) : Int)) rfl (hF3.ev 13 rfl) (hF3.ev 14 rfl) (by rw [IntKind.wrap_i64]; omega)) rfl (by decide) fun a4 hF4 => ?_
        refine sq (v := (.bool true)) hF4 (wantedS rfl) (run_lss rfl (hF4.ev 12 rfl) (hF4.ev 15 rfl) (decide_eq_true (by omega))) rfl (by decide) fun a5 hF5 => ?_
        refine sqEnd ?_
        clear hF0 hF1 hF2 hF3 hF4
        refine nx ?_
        refine wp_cond_true (hF5.ev 16 rfl) ?_
        refine wp_skip ?_
        refine nx ?_
        refine wp_seq ?_
        refine wp_block ?_
        refine wp_seq ?_
        refine wp_region_lit ?_
        refine sq (v := (.pointer (some ⟨gp, 0, none⟩))) hF5 (wantedS rfl) (run_mv rfl (hF5.ev 0 rfl)) rfl (by decide) fun a6 hF6 => ?_
        refine sq (v := (.int .i64 (i : Int))) hF6 (wantedS rfl) (run_mv rfl (hF6.ev 6 rfl)) rfl (by decide) fun a7 hF7 => ?_
        refine sqC (v := (.tuple #[(.agg (cells8 K)), (.bool true)])) hF7 hM0 (wantedS rfl) (run_call rfl Tryd.func74 (by kernel_rfl) rfl (mapE2 (hF7.ev 20 rfl) (hF7.ev 21 rfl))) rfl (by decide) (zfour_yes s K gp gm ga i w1 (hM0.at 0 rfl) hs (by omega) h4 hK) fun a8 w2 hb2 hF8 hM1 => ?_
        have hO1 := hO0.grow hb2
        refine sq (v := (.tuple #[(.agg (cells8 K)), (.bool true)])) hF8 (wantedS rfl) (run_mv rfl (hF8.ev 22 rfl)) rfl (by decide) fun a9 hF9 => ?_
        refine sq (v := (.agg (cells8 K))) hF9 (wantedS rfl) (run_ext rfl (hF9.ev 19 rfl) rfl) rfl (by decide) fun a10 hF10 => ?_
        refine sq (v := (.bool true)) hF10 (wantedS rfl) (run_ext rfl (hF10.ev 19 rfl) rfl) rfl (by decide) fun a11 hF11 => ?_
        refine sqNew (cs := (cells8 (List.replicate 4 0))) (t := 112) hF11 hM1 (wantedS rfl) (run_alloc rfl (by kernel_rfl)) rfl (by decide) fun g1 a12 w3 hgg1 hb3 hF12 hM2 => ?_
        have hO2 := hO1.add (S := isB 112 (cells8 (List.replicate 4 0))) hb3 hgg1
        refine sqStoreG (i := 0) hF12 hM2 rfl rfl rfl (hF12.ev 7 rfl) (hF12.ev 23 rfl) rfl sz4 (szOf hk4) (szOf List.length_replicate) (cells8_one _) fun a13 w4 hgr4 hF13 hM3 => ?_
        have hO3 := hO2.upd 0 (S2 := isB 112 (cells8 K)) rfl hgr4
        refine sq (v := (.bool true)) hF13 (wantedS rfl) (run_as rfl (hF13.ev 24 rfl)) rfl (by decide) fun a14 hF14 => ?_
        refine sqEnd ?_
        clear hF5 hF6 hF7 hF8 hF9 hF10 hF11 hF12 hF13 hM0 hM1 hM2
        refine nx ?_
        refine wp_seq ?_
        refine wp_seq ?_
        refine wp_region_lit ?_
        refine sq (v := (.bool true)) hF14 (wantedS rfl) (run_mv rfl (hF14.ev 8 rfl)) rfl (by decide) fun a15 hF15 => ?_
        refine sq (v := (.bool false)) hF15 (wantedS rfl) (run_not rfl (hF15.ev 25 rfl)) rfl (by decide) fun a16 hF16 => ?_
        refine sqEnd ?_
        clear hF14 hF15
        refine nx ?_
        refine wp_cond_false (hF16.ev 26 rfl) ?_
        refine wp_skip ?_
        refine nx ?_
        refine wp_seq ?_
        obtain ⟨KL, hKL⟩ : ∃ KL, KL = [kval (.pointer (some ⟨gp, 0, none⟩)), kval (.pointer (some ⟨gp, 0, none⟩)), kval (.pointer (some ⟨gp, 1, none⟩)), kval (.map (some gm)), kval (.agg (cells8 K)), kval (.tuple #[(.int .i64 0), (.bool false)]), kval (.tuple #[(.int .i64 0), (.bool false)]), kval (.int .i64 0), kval (.bool false), kval (.int .i64 0), kval (.bool false)] := ⟨_, rfl⟩
        have K0 : KL.getD 0 kany = kval (.pointer (some ⟨gp, 0, none⟩)) := by rw [hKL]; rfl
        have K1 : KL.getD 1 kany = kval (.pointer (some ⟨gp, 0, none⟩)) := by rw [hKL]; rfl
        have K2 : KL.getD 2 kany = kval (.pointer (some ⟨gp, 1, none⟩)) := by rw [hKL]; rfl
        have K3 : KL.getD 3 kany = kval (.map (some gm)) := by rw [hKL]; rfl
        have K4 : KL.getD 4 kany = kval (.agg (cells8 K)) := by rw [hKL]; rfl
        have K5 : KL.getD 5 kany = kval (.tuple #[(.int .i64 0), (.bool false)]) := by rw [hKL]; rfl
        have K6 : KL.getD 6 kany = kval (.tuple #[(.int .i64 0), (.bool false)]) := by rw [hKL]; rfl
        have K7 : KL.getD 7 kany = kval (.int .i64 0) := by rw [hKL]; rfl
        have K8 : KL.getD 8 kany = kval (.bool false) := by rw [hKL]; rfl
        have K9 : KL.getD 9 kany = kval (.int .i64 0) := by rw [hKL]; rfl
        have K10 : KL.getD 10 kany = kval (.bool false) := by rw [hKL]; rfl
        clear hKL
        refine wp_region_kd 51 (by kernel_rfl) (by kernel_rfl) (by kernel_rfl) hF16.size KL ?_ ?_
        · refine ⟨?_, ?_, ?_, ?_, ?_, ?_, ?_, ?_, ?_, ?_, ?_, trivial⟩
          · refine asks_mk fun a W hS hh hd => ⟨wanted_yes rfl, ?_⟩
            exact giv_run (run_mv rfl (eval_tmp (hh 0 _ rfl (hF16.at 0 rfl)))) K0
          · refine asks_mk fun a W hS hh hd => ⟨wanted_yes rfl, ?_⟩
            exact giv_run (run_nilp rfl (eval_tmp (hd.val (j := 0) (s := 28) (by kernel_rfl) K0))) K1
          · refine asks_mk fun a W hS hh hd => ⟨wanted_yes rfl, ?_⟩
            exact giv_run (run_fldA (m := 1) (s := 1) rfl (eval_tmp (hd.val (j := 1) (s := 29) (by kernel_rfl) K1)) Tryd.underlying80 rfl rfl (by kernel_rfl) (by decide)) K2
          · refine asks_mk fun a W hS hh hd => ⟨wanted_yes rfl, ?_⟩
            exact giv_run (run_ldF rfl (eval_tmp (hd.val (j := 2) (s := 30) (by kernel_rfl) K2)) ((hM3.grow hS).at 1 rfl) rfl (by kernel_rfl)) K3
          · refine asks_mk fun a W hS hh hd => ⟨wanted_yes rfl, ?_⟩
            exact giv_run (run_ldB rfl (eval_tmp (hh 7 _ rfl (hF16.at 7 rfl))) ((hM3.grow hS).at 0 rfl) Tryd.underlying112 rfl sz4 (szOf hk4)) K4
          · refine asks_mk fun a W hS hh hd => ⟨wanted_yes rfl, ?_⟩
            exact giv_run (eqvV (by rw [hfK]; rfl) (run_inMap4 rfl (eval_tmp (hd.val (j := 3) (s := 31) (by kernel_rfl) K3)) (eval_tmp (hd.val (j := 4) (s := 32) (by kernel_rfl) K4)) ((hM3.grow hS).ob 3 rfl) hk4)) K5
          · refine asks_mk fun a W hS hh hd => ⟨wanted_yes rfl, ?_⟩
            exact giv_run (run_mv rfl (eval_tmp (hd.val (j := 5) (s := 33) (by kernel_rfl) K5))) K6
          · refine asks_mk fun a W hS hh hd => ⟨wanted_yes rfl, ?_⟩
            exact giv_run (run_ext rfl (eval_tmp (hd.val (j := 6) (s := 27) (by kernel_rfl) K6)) rfl) K7
          · refine asks_mk fun a W hS hh hd => ⟨wanted_yes rfl, ?_⟩
            exact giv_run (run_ext rfl (eval_tmp (hd.val (j := 6) (s := 27) (by kernel_rfl) K6)) rfl) K8
          · refine asks_mk fun a W hS hh hd => ⟨wanted_yes rfl, ?_⟩
            exact giv_run (run_as rfl (eval_tmp (hd.val (j := 7) (s := 34) (by kernel_rfl) K7))) K9
          · refine asks_mk fun a W hS hh hd => ⟨wanted_yes rfl, ?_⟩
            exact giv_run (run_as rfl (eval_tmp (hd.val (j := 8) (s := 35) (by kernel_rfl) K8))) K10
        · intro a17 w5 hb5 hK
          have e0 := hK.val (i := 0) (s := 28) (by kernel_rfl) K0
          have e1 := hK.val (i := 1) (s := 29) (by kernel_rfl) K1
          have e2 := hK.val (i := 2) (s := 30) (by kernel_rfl) K2
          have e3 := hK.val (i := 3) (s := 31) (by kernel_rfl) K3
          have e4 := hK.val (i := 4) (s := 32) (by kernel_rfl) K4
          have e5 := hK.val (i := 5) (s := 33) (by kernel_rfl) K5
          have e6 := hK.val (i := 6) (s := 27) (by kernel_rfl) K6
          have e7 := hK.val (i := 7) (s := 34) (by kernel_rfl) K7
          have e8 := hK.val (i := 8) (s := 35) (by kernel_rfl) K8
          have e9 := hK.val (i := 9) (s := 9) (by kernel_rfl) K9
          have e10 := hK.val (i := 10) (s := 10) (by kernel_rfl) K10
          have hF17 : Fr a17 51 [(0, (.pointer (some ⟨gp, 0, none⟩))), (1, (.int .i64 (p : Int))), (2, (.int .i64 (n : Int))), (6, (.int .i64 (i : Int))), (7, (.pointer (some ⟨g1, 0, none⟩))), (8, (.bool true)), (9, (.int .i64 0)), (10, (.bool false)), (12, (.int .i64 (i : Int))), (13, (.int .i64 (p : Int))), (14, (.int .i64 (n : Int))), (15, (.int .i64 ((p + n : Nat) : Int))), (16, (.bool true)), (19, (.tuple #[(.agg (cells8 K)), (.bool true)])), (20, (.pointer (some ⟨gp, 0, none⟩))), (21, (.int .i64 (i : Int))), (22, (.tuple #[(.agg (cells8 K)), (.bool true)])), (23, (.agg (cells8 K))), (24, (.bool true)), (25, (.bool true)), (26, (.bool false))] := (hK.fr hF16 [(.pointer (some ⟨gp, 0, none⟩)), (.pointer (some ⟨gp, 0, none⟩)), (.pointer (some ⟨gp, 1, none⟩)), (.map (some gm)), (.agg (cells8 K)), (.tuple #[(.int .i64 0), (.bool false)]), (.tuple #[(.int .i64 0), (.bool false)]), (.int .i64 0), (.bool false), (.int .i64 0), (.bool false)] ⟨e0, e1, e2, e3, e4, e5, e6, e7, e8, e9, e10, trivial⟩).sub ⟨rfl, rfl, rfl, rfl, rfl, rfl, rfl, rfl, rfl, rfl, rfl, rfl, rfl, rfl, rfl, rfl, rfl, rfl, rfl, rfl, rfl, trivial⟩
          have hM4 := hM3.grow hb5
          have hO4 := hO3.grow hb5
          clear hK K0 e0 K1 e1 K2 e2 K3 e3 K4 e4 K5 e5 K6 e6 K7 e7 K8 e8 K9 e9 K10 e10
          clear hF16 hM3
          refine nx ?_
          refine wp_seq ?_
          refine wp_seq ?_
          refine wp_region_lit ?_
          refine sq (v := (.bool false)) hF17 (wantedS rfl) (run_mv rfl (hF17.ev 10 rfl)) rfl (by decide) fun a18 hF18 => ?_
          refine sq (v := (.bool true)) hF18 (wantedS rfl) (run_not rfl (hF18.ev 36 rfl)) rfl (by decide) fun a19 hF19 => ?_
          refine sqEnd ?_
          clear hF17 hF18
          refine nx ?_
          refine wp_cond_true (hF19.ev 37 rfl) ?_
          refine wp_region_lit ?_
          refine sq (v := (.int .i64 (-1))) hF19 (wantedS rfl) (run_as rfl rfl) rfl (by decide) fun a20 hF20 => ?_
          refine sqEnd ?_
          clear hF19
          refine nx ?_
          refine wp_seq ?_
          refine wp_region_lit ?_
          refine sq (v := (.pointer (some ⟨gp, 0, none⟩))) hF20 (wantedS rfl) (run_mv rfl (hF20.ev 0 rfl)) rfl (by decide) fun a21 hF21 => ?_
          refine sq (v := (.pointer (some ⟨gp, 0, none⟩))) hF21 (wantedS rfl) (run_nilp rfl (hF21.ev 38 rfl)) rfl (by decide) fun a22 hF22 => ?_
          refine sq (v := (.pointer (some ⟨gp, 2, none⟩))) hF22 (wantedS rfl) (run_fldA (m := 1) (s := 2) rfl (hF22.ev 39 rfl) Tryd.underlying80 rfl rfl (by kernel_rfl) (by decide)) rfl (by decide) fun a23 hF23 => ?_
          refine sq (v := (.slice (some ⟨ga, 0, none⟩) s.length s.length)) hF23 (wantedS rfl) (run_ldF rfl (hF23.ev 40 rfl) (hM4.at 1 rfl) rfl (by kernel_rfl)) rfl (by decide) fun a24 hF24 => ?_
          refine sq (v := (.int .i64 (i : Int))) hF24 (wantedS rfl) (run_mv rfl (hF24.ev 6 rfl)) rfl (by decide) fun a25 hF25 => ?_
          refine sq (v := (.int .i64 (-1))) hF25 (wantedS rfl) (run_mv rfl (hF25.ev 9 rfl)) rfl (by decide) fun a26 hF26 => ?_
          refine sq (v := (.pointer (some ⟨ga, i, none⟩))) hF26 (wantedS rfl) (run_idxI (i := i) rfl (hF26.ev 41 rfl) (hF26.ev 42 rfl) rfl (by omega)) rfl (by decide) fun a27 hF27 => ?_
          refine sqSetI (j := 2) (zs := zs2) hF27 hM4 rfl rfl rfl (hF27.ev 44 rfl) (hF27.ev 43 rfl) rfl (by omega) fun a28 w6 hgr6 hF28 hM5 => ?_
          have hO5 := hO4.upd 2 (S2 := isB 3 (cellsI (zs2.set i (-1)))) rfl hgr6
          refine sqEnd ?_
          clear hF20 hF21 hF22 hF23 hF24 hF25 hF26 hF27 hM4
          refine nx ?_
          obtain ⟨KL, hKL⟩ : ∃ KL, KL = [kval (.pointer (some ⟨gp, 0, none⟩)), kval (.pointer (some ⟨gp, 0, none⟩)), kval (.pointer (some ⟨gp, 1, none⟩)), kval (.map (some gm)), kval (.agg (cells8 K)), kval (.int .i64 (i : Int))] := ⟨_, rfl⟩
          have K0 : KL.getD 0 kany = kval (.pointer (some ⟨gp, 0, none⟩)) := by rw [hKL]; rfl
          have K1 : KL.getD 1 kany = kval (.pointer (some ⟨gp, 0, none⟩)) := by rw [hKL]; rfl
          have K2 : KL.getD 2 kany = kval (.pointer (some ⟨gp, 1, none⟩)) := by rw [hKL]; rfl
          have K3 : KL.getD 3 kany = kval (.map (some gm)) := by rw [hKL]; rfl
          have K4 : KL.getD 4 kany = kval (.agg (cells8 K)) := by rw [hKL]; rfl
          have K5 : KL.getD 5 kany = kval (.int .i64 (i : Int)) := by rw [hKL]; rfl
          have HKL : KL.length ≤ 6 := by rw [hKL]; exact Nat.le_refl _
          clear hKL
          refine wp_region_kdTail2 51 6 (by kernel_rfl) (by kernel_rfl) (by kernel_rfl) (by kernel_rfl) hF28.size KL HKL ?_ ?_
          · refine ⟨?_, ?_, ?_, ?_, ?_, ?_, trivial⟩
            · refine asksH_mk fun a W hS hh hd => ⟨wanted_yes rfl, ?_⟩
              exact giv_run (run_mv rfl (eval_tmp (hh 0 _ rfl (hF28.at 0 rfl)))) K0
            · refine asksH_mk fun a W hS hh hd => ⟨wanted_yes rfl, ?_⟩
              exact giv_run (run_nilp rfl (eval_tmp (hd.val (j := 0) (s := 45) (by kernel_rfl) K0))) K1
            · refine asksH_mk fun a W hS hh hd => ⟨wanted_yes rfl, ?_⟩
              exact giv_run (run_fldA (m := 1) (s := 1) rfl (eval_tmp (hd.val (j := 1) (s := 46) (by kernel_rfl) K1)) Tryd.underlying80 rfl rfl (by kernel_rfl) (by decide)) K2
            · refine asksH_mk fun a W hS hh hd => ⟨wanted_yes rfl, ?_⟩
              exact giv_run (run_ldF rfl (eval_tmp (hd.val (j := 2) (s := 47) (by kernel_rfl) K2)) ((hM5.grow hS).at 1 rfl) rfl (by kernel_rfl)) K3
            · refine asksH_mk fun a W hS hh hd => ⟨wanted_yes rfl, ?_⟩
              exact giv_run (run_ldB rfl (eval_tmp (hh 7 _ rfl (hF28.at 7 rfl))) ((hM5.grow hS).at 0 rfl) Tryd.underlying112 rfl sz4 (szOf hk4)) K4
            · refine asksH_mk fun a W hS hh hd => ⟨wanted_yes rfl, ?_⟩
              exact giv_run (run_mv rfl (eval_tmp (hh 6 _ rfl (hF28.at 6 rfl)))) K5
          · intro a29 w7 hb7 hK
            have e0 := hK.hval (i := 0) (s := 45) rfl (by kernel_rfl) K0
            have e1 := hK.hval (i := 1) (s := 46) rfl (by kernel_rfl) K1
            have e2 := hK.hval (i := 2) (s := 47) rfl (by kernel_rfl) K2
            have e3 := hK.hval (i := 3) (s := 48) rfl (by kernel_rfl) K3
            have e4 := hK.hval (i := 4) (s := 49) rfl (by kernel_rfl) K4
            have e5 := hK.hval (i := 5) (s := 50) rfl (by kernel_rfl) K5
            have hF29 : Fr a29 51 [(0, (.pointer (some ⟨gp, 0, none⟩))), (1, (.int .i64 (p : Int))), (2, (.int .i64 (n : Int))), (6, (.int .i64 (i : Int))), (7, (.pointer (some ⟨g1, 0, none⟩))), (8, (.bool true)), (9, (.int .i64 (-1))), (10, (.bool false)), (12, (.int .i64 (i : Int))), (13, (.int .i64 (p : Int))), (14, (.int .i64 (n : Int))), (15, (.int .i64 ((p + n : Nat) : Int))), (16, (.bool true)), (19, (.tuple #[(.agg (cells8 K)), (.bool true)])), (20, (.pointer (some ⟨gp, 0, none⟩))), (21, (.int .i64 (i : Int))), (22, (.tuple #[(.agg (cells8 K)), (.bool true)])), (23, (.agg (cells8 K))), (24, (.bool true)), (25, (.bool true)), (26, (.bool false)), (36, (.bool false)), (37, (.bool true)), (38, (.pointer (some ⟨gp, 0, none⟩))), (39, (.pointer (some ⟨gp, 0, none⟩))), (40, (.pointer (some ⟨gp, 2, none⟩))), (41, (.slice (some ⟨ga, 0, none⟩) s.length s.length)), (42, (.int .i64 (i : Int))), (43, (.int .i64 (-1))), (44, (.pointer (some ⟨ga, i, none⟩))), (48, (.map (some gm))), (49, (.agg (cells8 K))), (50, (.int .i64 (i : Int)))] := (hK.hfr hF28 [(.pointer (some ⟨gp, 0, none⟩)), (.pointer (some ⟨gp, 0, none⟩)), (.pointer (some ⟨gp, 1, none⟩)), (.map (some gm)), (.agg (cells8 K)), (.int .i64 (i : Int))] ⟨e0, e1, e2, e3, e4, e5, trivial⟩).sub ⟨rfl, rfl, rfl, rfl, rfl, rfl, rfl, rfl, rfl, rfl, rfl, rfl, rfl, rfl, rfl, rfl, rfl, rfl, rfl, rfl, rfl, rfl, rfl, rfl, rfl, rfl, rfl, rfl, rfl, rfl, rfl, rfl, rfl, trivial⟩
            have hM6 := hM5.grow hb7
            have hO6 := hO5.grow hb7
            clear hK K0 e0 K1 e1 K2 e2 K3 e3 K4 e4 K5 e5 HKL
            simp only [List.drop_succ_cons, List.drop_zero]
            refine sqMap4Put (i := 3) (k := i) hF29 hM6 rfl rfl rfl (hF29.ev 48 rfl) (hF29.ev 49 rfl) (hF29.ev 50 rfl) rfl hk4 (by unfold maxLen; omega) (by unfold maxLen; omega) fun a30 w8 hgr8 hF30 hM7 => ?_
            have hO7 := hO6.upd 3 (S2 := isMap4 (putF f2 K i) (k2 + 1)) rfl hgr8
            refine sqEnd ?_
            clear hF28 hF29 hM5 hM6
            refine bkEnd ?_
            refine nx ?_
            refine wp_region_lit ?_
            refine sq (v := (.int .i64 (i : Int))) hF30 (wantedS rfl) (run_mv rfl (hF30.ev 6 rfl)) rfl (by decide) fun a31 hF31 => ?_
            refine sq (v := (.int .i64 ((i + 1 : Nat) : Int))) hF31 (wantedS rfl) (run_add (r := ((i + 1 : Nat) : Int)) rfl (hF31.ev 17 rfl) rfl (by rw [IntKind.wrap_i64]; omega)) rfl (by decide) fun a32 hF32 => ?_
            refine sq (v := (.int .i64 ((i + 1 : Nat) : Int))) hF32 (wantedS rfl) (run_as rfl (hF32.ev 18 rfl)) rfl (by decide) fun a33 hF33 => ?_
            refine sqEnd ?_
            clear hF30 hF31 hF32
            refine nx ?_
            exact ⟨_, by omega, i + 1, _, _, _, by omega, by omega, rfl, hpd2.next hK (by omega) (by rw [hl]; rfl), hO7.sub (.cons _ (.refl _)), hF33.sub ⟨rfl, rfl, rfl, rfl, trivial⟩, hM7.sub (.cons _ (.refl _))⟩
      | some j =>
        rw [hl] at hfK
        refine wp_seq ?_
        refine wp_seq ?_
        refine wp_region_lit ?_
        refine sq (v := (.int .i64 (i : Int))) hF0 (wantedS rfl) (run_mv rfl (hF0.ev 6 rfl)) rfl (by decide) fun a1 hF1 => ?_
        refine sq (v := (.int .i64 (p : Int))) hF1 (wantedS rfl) (run_mv rfl (hF1.ev 1 rfl)) rfl (by decide) fun a2 hF2 => ?_
        refine sq (v := (.int .i64 (n : Int))) hF2 (wantedS rfl) (run_mv rfl (hF2.ev 2 rfl)) rfl (by decide) fun a3 hF3 => ?_
        refine sq (v := (.int .i64 ((p + n : Nat) : Int))) hF3 (wantedS rfl) (run_add (r := ((p + n : Nat) : Int)) rfl (hF3.ev 13 rfl) (hF3.ev 14 rfl) (by rw [IntKind.wrap_i64]; omega)) rfl (by decide) fun a4 hF4 => ?_
        refine sq (v := (.bool true)) hF4 (wantedS rfl) (run_lss rfl (hF4.ev 12 rfl) (hF4.ev 15 rfl) (decide_eq_true (by omega))) rfl (by decide) fun a5 hF5 => ?_
        refine sqEnd ?_
        clear hF0 hF1 hF2 hF3 hF4
        refine nx ?_
        refine wp_cond_true (hF5.ev 16 rfl) ?_
        refine wp_skip ?_
        refine nx ?_
        refine wp_seq ?_
        refine wp_block ?_
        refine wp_seq ?_
        refine wp_region_lit ?_
        refine sq (v := (.pointer (some ⟨gp, 0, none⟩))) hF5 (wantedS rfl) (run_mv rfl (hF5.ev 0 rfl)) rfl (by decide) fun a6 hF6 => ?_
        refine sq (v := (.int .i64 (i : Int))) hF6 (wantedS rfl) (run_mv rfl (hF6.ev 6 rfl)) rfl (by decide) fun a7 hF7 => ?_
        refine sqC (v := (.tuple #[(.agg (cells8 K)), (.bool true)])) hF7 hM0 (wantedS rfl) (run_call rfl Tryd.func74 (by kernel_rfl) rfl (mapE2 (hF7.ev 20 rfl) (hF7.ev 21 rfl))) rfl (by decide) (zfour_yes s K gp gm ga i w1 (hM0.at 0 rfl) hs (by omega) h4 hK) fun a8 w2 hb2 hF8 hM1 => ?_
        have hO1 := hO0.grow hb2
        refine sq (v := (.tuple #[(.agg (cells8 K)), (.bool true)])) hF8 (wantedS rfl) (run_mv rfl (hF8.ev 22 rfl)) rfl (by decide) fun a9 hF9 => ?_
        refine sq (v := (.agg (cells8 K))) hF9 (wantedS rfl) (run_ext rfl (hF9.ev 19 rfl) rfl) rfl (by decide) fun a10 hF10 => ?_
        refine sq (v := (.bool true)) hF10 (wantedS rfl) (run_ext rfl (hF10.ev 19 rfl) rfl) rfl (by decide) fun a11 hF11 => ?_
        refine sqNew (cs := (cells8 (List.replicate 4 0))) (t := 112) hF11 hM1 (wantedS rfl) (run_alloc rfl (by kernel_rfl)) rfl (by decide) fun g2 a12 w3 hgg2 hb3 hF12 hM2 => ?_
        have hO2 := hO1.add (S := isB 112 (cells8 (List.replicate 4 0))) hb3 hgg2
        refine sqStoreG (i := 0) hF12 hM2 rfl rfl rfl (hF12.ev 7 rfl) (hF12.ev 23 rfl) rfl sz4 (szOf hk4) (szOf List.length_replicate) (cells8_one _) fun a13 w4 hgr4 hF13 hM3 => ?_
        have hO3 := hO2.upd 0 (S2 := isB 112 (cells8 K)) rfl hgr4
        refine sq (v := (.bool true)) hF13 (wantedS rfl) (run_as rfl (hF13.ev 24 rfl)) rfl (by decide) fun a14 hF14 => ?_
        refine sqEnd ?_
        clear hF5 hF6 hF7 hF8 hF9 hF10 hF11 hF12 hF13 hM0 hM1 hM2
        refine nx ?_
        refine wp_seq ?_
        refine wp_seq ?_
        refine wp_region_lit ?_
        refine sq (v := (.bool true)) hF14 (wantedS rfl) (run_mv rfl (hF14.ev 8 rfl)) rfl (by decide) fun a15 hF15 => ?_
        refine sq (v := (.bool false)) hF15 (wantedS rfl) (run_not rfl (hF15.ev 25 rfl)) rfl (by decide) fun a16 hF16 => ?_
        refine sqEnd ?_
        clear hF14 hF15
        refine nx ?_
        refine wp_cond_false (hF16.ev 26 rfl) ?_
        refine wp_skip ?_
        refine nx ?_
        refine wp_seq ?_
        obtain ⟨KL, hKL⟩ : ∃ KL, KL = [kval (.pointer (some ⟨gp, 0, none⟩)), kval (.pointer (some ⟨gp, 0, none⟩)), kval (.pointer (some ⟨gp, 1, none⟩)), kval (.map (some gm)), kval (.agg (cells8 K)), kval (.tuple #[(.int .i64 (j : Int)), (.bool true)]), kval (.tuple #[(.int .i64 (j : Int)), (.bool true)]), kval (.int .i64 (j : Int)), kval (.bool true), kval (.int .i64 (j : Int)), kval (.bool true)] := ⟨_, rfl⟩
        have K0 : KL.getD 0 kany = kval (.pointer (some ⟨gp, 0, none⟩)) := by rw [hKL]; rfl
        have K1 : KL.getD 1 kany = kval (.pointer (some ⟨gp, 0, none⟩)) := by rw [hKL]; rfl
        have K2 : KL.getD 2 kany = kval (.pointer (some ⟨gp, 1, none⟩)) := by rw [hKL]; rfl
        have K3 : KL.getD 3 kany = kval (.map (some gm)) := by rw [hKL]; rfl
        have K4 : KL.getD 4 kany = kval (.agg (cells8 K)) := by rw [hKL]; rfl
        have K5 : KL.getD 5 kany = kval (.tuple #[(.int .i64 (j : Int)), (.bool true)]) := by rw [hKL]; rfl
        have K6 : KL.getD 6 kany = kval (.tuple #[(.int .i64 (j : Int)), (.bool true)]) := by rw [hKL]; rfl
        have K7 : KL.getD 7 kany = kval (.int .i64 (j : Int)) := by rw [hKL]; rfl
        have K8 : KL.getD 8 kany = kval (.bool true) := by rw [hKL]; rfl
        have K9 : KL.getD 9 kany = kval (.int .i64 (j : Int)) := by rw [hKL]; rfl
        have K10 : KL.getD 10 kany = kval (.bool true) := by rw [hKL]; rfl
        clear hKL
        refine wp_region_kd 51 (by kernel_rfl) (by kernel_rfl) (by kernel_rfl) hF16.size KL ?_ ?_
        · refine ⟨?_, ?_, ?_, ?_, ?_, ?_, ?_, ?_, ?_, ?_, ?_, trivial⟩
          · refine asks_mk fun a W hS hh hd => ⟨wanted_yes rfl, ?_⟩
            exact giv_run (run_mv rfl (eval_tmp (hh 0 _ rfl (hF16.at 0 rfl)))) K0
          · refine asks_mk fun a W hS hh hd => ⟨wanted_yes rfl, ?_⟩
            exact giv_run (run_nilp rfl (eval_tmp (hd.val (j := 0) (s := 28) (by kernel_rfl) K0))) K1
          · refine asks_mk fun a W hS hh hd => ⟨wanted_yes rfl, ?_⟩
            exact giv_run (run_fldA (m := 1) (s := 1) rfl (eval_tmp (hd.val (j := 1) (s := 29) (by kernel_rfl) K1)) Tryd.underlying80 rfl rfl (by kernel_rfl) (by decide)) K2
          · refine asks_mk fun a W hS hh hd => ⟨wanted_yes rfl, ?_⟩
            exact giv_run (run_ldF rfl (eval_tmp (hd.val (j := 2) (s := 30) (by kernel_rfl) K2)) ((hM3.grow hS).at 1 rfl) rfl (by kernel_rfl)) K3
          · refine asks_mk fun a W hS hh hd => ⟨wanted_yes rfl, ?_⟩
            exact giv_run (run_ldB rfl (eval_tmp (hh 7 _ rfl (hF16.at 7 rfl))) ((hM3.grow hS).at 0 rfl) Tryd.underlying112 rfl sz4 (szOf hk4)) K4
          · refine asks_mk fun a W hS hh hd => ⟨wanted_yes rfl, ?_⟩
            exact giv_run (eqvV (by rw [hfK]; rfl) (run_inMap4 rfl (eval_tmp (hd.val (j := 3) (s := 31) (by kernel_rfl) K3)) (eval_tmp (hd.val (j := 4) (s := 32) (by kernel_rfl) K4)) ((hM3.grow hS).ob 3 rfl) hk4)) K5
          · refine asks_mk fun a W hS hh hd => ⟨wanted_yes rfl, ?_⟩
            exact giv_run (run_mv rfl (eval_tmp (hd.val (j := 5) (s := 33) (by kernel_rfl) K5))) K6
          · refine asks_mk fun a W hS hh hd => ⟨wanted_yes rfl, ?_⟩
            exact giv_run (run_ext rfl (eval_tmp (hd.val (j := 6) (s := 27) (by kernel_rfl) K6)) rfl) K7
          · refine asks_mk fun a W hS hh hd => ⟨wanted_yes rfl, ?_⟩
            exact giv_run (run_ext rfl (eval_tmp (hd.val (j := 6) (s := 27) (by kernel_rfl) K6)) rfl) K8
          · refine asks_mk fun a W hS hh hd => ⟨wanted_yes rfl, ?_⟩
            exact giv_run (run_as rfl (eval_tmp (hd.val (j := 7) (s := 34) (by kernel_rfl) K7))) K9
          · refine asks_mk fun a W hS hh hd => ⟨wanted_yes rfl, ?_⟩
            exact giv_run (run_as rfl (eval_tmp (hd.val (j := 8) (s := 35) (by kernel_rfl) K8))) K10
        · intro a17 w5 hb5 hK
          have e0 := hK.val (i := 0) (s := 28) (by kernel_rfl) K0
          have e1 := hK.val (i := 1) (s := 29) (by kernel_rfl) K1
          have e2 := hK.val (i := 2) (s := 30) (by kernel_rfl) K2
          have e3 := hK.val (i := 3) (s := 31) (by kernel_rfl) K3
          have e4 := hK.val (i := 4) (s := 32) (by kernel_rfl) K4
          have e5 := hK.val (i := 5) (s := 33) (by kernel_rfl) K5
          have e6 := hK.val (i := 6) (s := 27) (by kernel_rfl) K6
          have e7 := hK.val (i := 7) (s := 34) (by kernel_rfl) K7
          have e8 := hK.val (i := 8) (s := 35) (by kernel_rfl) K8
          have e9 := hK.val (i := 9) (s := 9) (by kernel_rfl) K9
          have e10 := hK.val (i := 10) (s := 10) (by kernel_rfl) K10
          have hF17 : Fr a17 51 [(0, (.pointer (some ⟨gp, 0, none⟩))), (1, (.int .i64 (p : Int))), (2, (.int .i64 (n : Int))), (6, (.int .i64 (i : Int))), (7, (.pointer (some ⟨g2, 0, none⟩))), (8, (.bool true)), (9, (.int .i64 (j : Int))), (10, (.bool true)), (12, (.int .i64 (i : Int))), (13, (.int .i64 (p : Int))), (14, (.int .i64 (n : Int))), (15, (.int .i64 ((p + n : Nat) : Int))), (16, (.bool true)), (19, (.tuple #[(.agg (cells8 K)), (.bool true)])), (20, (.pointer (some ⟨gp, 0, none⟩))), (21, (.int .i64 (i : Int))), (22, (.tuple #[(.agg (cells8 K)), (.bool true)])), (23, (.agg (cells8 K))), (24, (.bool true)), (25, (.bool true)), (26, (.bool false))] := (hK.fr hF16 [(.pointer (some ⟨gp, 0, none⟩)), (.pointer (some ⟨gp, 0, none⟩)), (.pointer (some ⟨gp, 1, none⟩)), (.map (some gm)), (.agg (cells8 K)), (.tuple #[(.int .i64 (j : Int)), (.bool true)]), (.tuple #[(.int .i64 (j : Int)), (.bool true)]), (.int .i64 (j : Int)), (.bool true), (.int .i64 (j : Int)), (.bool true)] ⟨e0, e1, e2, e3, e4, e5, e6, e7, e8, e9, e10, trivial⟩).sub ⟨rfl, rfl, rfl, rfl, rfl, rfl, rfl, rfl, rfl, rfl, rfl, rfl, rfl, rfl, rfl, rfl, rfl, rfl, rfl, rfl, rfl, trivial⟩
          have hM4 := hM3.grow hb5
          have hO4 := hO3.grow hb5
          clear hK K0 e0 K1 e1 K2 e2 K3 e3 K4 e4 K5 e5 K6 e6 K7 e7 K8 e8 K9 e9 K10 e10
          clear hF16 hM3
          refine nx ?_
          refine wp_seq ?_
          refine wp_seq ?_
          refine wp_region_lit ?_
          refine sq (v := (.bool true)) hF17 (wantedS rfl) (run_mv rfl (hF17.ev 10 rfl)) rfl (by decide) fun a18 hF18 => ?_
          refine sq (v := (.bool false)) hF18 (wantedS rfl) (run_not rfl (hF18.ev 36 rfl)) rfl (by decide) fun a19 hF19 => ?_
          refine sqEnd ?_
          clear hF17 hF18
          refine nx ?_
          refine wp_cond_false (hF19.ev 37 rfl) ?_
          refine wp_skip ?_
          refine nx ?_
          refine wp_seq ?_
          refine wp_region_lit ?_
          refine sq (v := (.pointer (some ⟨gp, 0, none⟩))) hF19 (wantedS rfl) (run_mv rfl (hF19.ev 0 rfl)) rfl (by decide) fun a20 hF20 => ?_
          refine sq (v := (.pointer (some ⟨gp, 0, none⟩))) hF20 (wantedS rfl) (run_nilp rfl (hF20.ev 38 rfl)) rfl (by decide) fun a21 hF21 => ?_
          refine sq (v := (.pointer (some ⟨gp, 2, none⟩))) hF21 (wantedS rfl) (run_fldA (m := 1) (s := 2) rfl (hF21.ev 39 rfl) Tryd.underlying80 rfl rfl (by kernel_rfl) (by decide)) rfl (by decide) fun a22 hF22 => ?_
          refine sq (v := (.slice (some ⟨ga, 0, none⟩) s.length s.length)) hF22 (wantedS rfl) (run_ldF rfl (hF22.ev 40 rfl) (hM4.at 1 rfl) rfl (by kernel_rfl)) rfl (by decide) fun a23 hF23 => ?_
          refine sq (v := (.int .i64 (i : Int))) hF23 (wantedS rfl) (run_mv rfl (hF23.ev 6 rfl)) rfl (by decide) fun a24 hF24 => ?_
          refine sq (v := (.int .i64 (j : Int))) hF24 (wantedS rfl) (run_mv rfl (hF24.ev 9 rfl)) rfl (by decide) fun a25 hF25 => ?_
          refine sq (v := (.pointer (some ⟨ga, i, none⟩))) hF25 (wantedS rfl) (run_idxI (i := i) rfl (hF25.ev 41 rfl) (hF25.ev 42 rfl) rfl (by omega)) rfl (by decide) fun a26 hF26 => ?_
          refine sqSetI (j := 2) (zs := zs2) hF26 hM4 rfl rfl rfl (hF26.ev 44 rfl) (hF26.ev 43 rfl) rfl (by omega) fun a27 w6 hgr6 hF27 hM5 => ?_
          have hO5 := hO4.upd 2 (S2 := isB 3 (cellsI (zs2.set i (j : Int)))) rfl hgr6
          refine sqEnd ?_
          clear hF19 hF20 hF21 hF22 hF23 hF24 hF25 hF26 hM4
          refine nx ?_
          obtain ⟨KL, hKL⟩ : ∃ KL, KL = [kval (.pointer (some ⟨gp, 0, none⟩)), kval (.pointer (some ⟨gp, 0, none⟩)), kval (.pointer (some ⟨gp, 1, none⟩)), kval (.map (some gm)), kval (.agg (cells8 K)), kval (.int .i64 (i : Int))] := ⟨_, rfl⟩
          have K0 : KL.getD 0 kany = kval (.pointer (some ⟨gp, 0, none⟩)) := by rw [hKL]; rfl
          have K1 : KL.getD 1 kany = kval (.pointer (some ⟨gp, 0, none⟩)) := by rw [hKL]; rfl
          have K2 : KL.getD 2 kany = kval (.pointer (some ⟨gp, 1, none⟩)) := by rw [hKL]; rfl
          have K3 : KL.getD 3 kany = kval (.map (some gm)) := by rw [hKL]; rfl
          have K4 : KL.getD 4 kany = kval (.agg (cells8 K)) := by rw [hKL]; rfl
          have K5 : KL.getD 5 kany = kval (.int .i64 (i : Int)) := by rw [hKL]; rfl
          have HKL : KL.length ≤ 6 := by rw [hKL]; exact Nat.le_refl _
          clear hKL
          refine wp_region_kdTail2 51 6 (by kernel_rfl) (by kernel_rfl) (by kernel_rfl) (by kernel_rfl) hF27.size KL HKL ?_ ?_
          · refine ⟨?_, ?_, ?_, ?_, ?_, ?_, trivial⟩
            · refine asksH_mk fun a W hS hh hd => ⟨wanted_yes rfl, ?_⟩
              exact giv_run (run_mv rfl (eval_tmp (hh 0 _ rfl (hF27.at 0 rfl)))) K0
            · refine asksH_mk fun a W hS hh hd => ⟨wanted_yes rfl, ?_⟩
              exact giv_run (run_nilp rfl (eval_tmp (hd.val (j := 0) (s := 45) (by kernel_rfl) K0))) K1
            · refine asksH_mk fun a W hS hh hd => ⟨wanted_yes rfl, ?_⟩
              exact giv_run (run_fldA (m := 1) (s := 1) rfl (eval_tmp (hd.val (j := 1) (s := 46) (by kernel_rfl) K1)) Tryd.underlying80 rfl rfl (by kernel_rfl) (by decide)) K2
            · refine asksH_mk fun a W hS hh hd => ⟨wanted_yes rfl, ?_⟩
              exact giv_run (run_ldF rfl (eval_tmp (hd.val (j := 2) (s := 47) (by kernel_rfl) K2)) ((hM5.grow hS).at 1 rfl) rfl (by kernel_rfl)) K3
            · refine asksH_mk fun a W hS hh hd => ⟨wanted_yes rfl, ?_⟩
              exact giv_run (run_ldB rfl (eval_tmp (hh 7 _ rfl (hF27.at 7 rfl))) ((hM5.grow hS).at 0 rfl) Tryd.underlying112 rfl sz4 (szOf hk4)) K4
            · refine asksH_mk fun a W hS hh hd => ⟨wanted_yes rfl, ?_⟩
              exact giv_run (run_mv rfl (eval_tmp (hh 6 _ rfl (hF27.at 6 rfl)))) K5
          · intro a28 w7 hb7 hK
            have e0 := hK.hval (i := 0) (s := 45) rfl (by kernel_rfl) K0
            have e1 := hK.hval (i := 1) (s := 46) rfl (by kernel_rfl) K1
            have e2 := hK.hval (i := 2) (s := 47) rfl (by kernel_rfl) K2
            have e3 := hK.hval (i := 3) (s := 48) rfl (by kernel_rfl) K3
            have e4 := hK.hval (i := 4) (s := 49) rfl (by kernel_rfl) K4
            have e5 := hK.hval (i := 5) (s := 50) rfl (by kernel_rfl) K5
            have hF28 : Fr a28 51 [(0, (.pointer (some ⟨gp, 0, none⟩))), (1, (.int .i64 (p : Int))), (2, (.int .i64 (n : Int))), (6, (.int .i64 (i : Int))), (7, (.pointer (some ⟨g2, 0, none⟩))), (8, (.bool true)), (9, (.int .i64 (j : Int))), (10, (.bool true)), (12, (.int .i64 (i : Int))), (13, (.int .i64 (p : Int))), (14, (.int .i64 (n : Int))), (15, (.int .i64 ((p + n : Nat) : Int))), (16, (.bool true)), (19, (.tuple #[(.agg (cells8 K)), (.bool true)])), (20, (.pointer (some ⟨gp, 0, none⟩))), (21, (.int .i64 (i : Int))), (22, (.tuple #[(.agg (cells8 K)), (.bool true)])), (23, (.agg (cells8 K))), (24, (.bool true)), (25, (.bool true)), (26, (.bool false)), (36, (.bool true)), (37, (.bool false)), (38, (.pointer (some ⟨gp, 0, none⟩))), (39, (.pointer (some ⟨gp, 0, none⟩))), (40, (.pointer (some ⟨gp, 2, none⟩))), (41, (.slice (some ⟨ga, 0, none⟩) s.length s.length)), (42, (.int .i64 (i : Int))), (43, (.int .i64 (j : Int))), (44, (.pointer (some ⟨ga, i, none⟩))), (48, (.map (some gm))), (49, (.agg (cells8 K))), (50, (.int .i64 (i : Int)))] := (hK.hfr hF27 [(.pointer (some ⟨gp, 0, none⟩)), (.pointer (some ⟨gp, 0, none⟩)), (.pointer (some ⟨gp, 1, none⟩)), (.map (some gm)), (.agg (cells8 K)), (.int .i64 (i : Int))] ⟨e0, e1, e2, e3, e4, e5, trivial⟩).sub ⟨rfl, rfl, rfl, rfl, rfl, rfl, rfl, rfl, rfl, rfl, rfl, rfl, rfl, rfl, rfl, rfl, rfl, rfl, rfl, rfl, rfl, rfl, rfl, rfl, rfl, rfl, rfl, rfl, rfl, rfl, rfl, rfl, rfl, trivial⟩
            have hM6 := hM5.grow hb7
            have hO6 := hO5.grow hb7
            clear hK K0 e0 K1 e1 K2 e2 K3 e3 K4 e4 K5 e5 HKL
            simp only [List.drop_succ_cons, List.drop_zero]
            refine sqMap4Put (i := 3) (k := i) hF28 hM6 rfl rfl rfl (hF28.ev 48 rfl) (hF28.ev 49 rfl) (hF28.ev 50 rfl) rfl hk4 (by unfold maxLen; omega) (by unfold maxLen; omega) fun a29 w8 hgr8 hF29 hM7 => ?_
            have hO7 := hO6.upd 3 (S2 := isMap4 (putF f2 K i) (k2 + 1)) rfl hgr8
            refine sqEnd ?_
            clear hF27 hF28 hM5 hM6
            refine bkEnd ?_
            refine nx ?_
            refine wp_region_lit ?_
            refine sq (v := (.int .i64 (i : Int))) hF29 (wantedS rfl) (run_mv rfl (hF29.ev 6 rfl)) rfl (by decide) fun a30 hF30 => ?_
            refine sq (v := (.int .i64 ((i + 1 : Nat) : Int))) hF30 (wantedS rfl) (run_add (r := ((i + 1 : Nat) : Int)) rfl (hF30.ev 17 rfl) rfl (by rw [IntKind.wrap_i64]; omega)) rfl (by decide) fun a31 hF31 => ?_
            refine sq (v := (.int .i64 ((i + 1 : Nat) : Int))) hF31 (wantedS rfl) (run_as rfl (hF31.ev 18 rfl)) rfl (by decide) fun a32 hF32 => ?_
            refine sqEnd ?_
            clear hF29 hF30 hF31
            refine nx ?_
            exact ⟨_, by omega, i + 1, _, _, _, by omega, by omega, rfl, hpd2.next hK (by omega) (by rw [hl]; rfl), hO7.sub (.cons _ (.refl _)), hF32.sub ⟨rfl, rfl, rfl, rfl, trivial⟩, hM7.sub (.cons _ (.refl _))⟩
  · have hie : i = p + n := by omega
    have hpe : Passed s f2 k2 zs2 (p + n) := by rw [← hie]; exact hpd2
    refine wp_seq ?_
    refine wp_seq ?_
    refine wp_region_lit ?_
    refine sq (v := (.int .i64 (i : Int))) hF0 (wantedS rfl) (run_mv rfl (hF0.ev 6 rfl)) rfl (by decide) fun a1 hF1 => ?_
    refine sq (v := (.int .i64 (p : Int))) hF1 (wantedS rfl) (run_mv rfl (hF1.ev 1 rfl)) rfl (by decide) fun a2 hF2 => ?_
    refine sq (v := (.int .i64 (n : Int))) hF2 (wantedS rfl) (run_mv rfl (hF2.ev 2 rfl)) rfl (by decide) fun a3 hF3 => ?_
    refine sq (v := (.int .i64 ((p + n : Nat) : Int))) hF3 (wantedS rfl) (run_add (r := ((p + n : Nat) : Int)) rfl (hF3.ev 13 rfl) (hF3.ev 14 rfl) (by rw [IntKind.wrap_i64]; omega)) rfl (by decide) fun a4 hF4 => ?_
    refine sq (v := (.bool false)) hF4 (wantedS rfl) (run_lss rfl (hF4.ev 12 rfl) (hF4.ev 15 rfl) (decide_eq_false (by omega))) rfl (by decide) fun a5 hF5 => ?_
    refine sqEnd ?_
    clear hF0 hF1 hF2 hF3 hF4
    refine nx ?_
    refine wp_cond_false (hF5.ev 16 rfl) ?_
    refine wp_exit ?_
    refine nxExit ?_
    refine nxExit ?_
    refine bkHere ?_
    exact end0 hF5 rfl ⟨_, rfl, f2, k2, zs2, hpe, hO0.sub (.refl _), hM0.sub (.refl _)⟩
end Go.Proofs.YtpobmaklgnioeaaDoor
