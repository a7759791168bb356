/- The walks of the reference's length and Row. Printed by gen_ref01.py. -/
import Derived.Test.YtioioibcldgknaaDoorNumB
import Derived.Test.YtioioibcldgknaaDoorBaseB
namespace Go.Proofs.YtioioibcldgknaaDoor
open Go.RowKit

set_option maxRecDepth 100000 in
set_option maxHeartbeats 1000000 in
theorem rlen_any (n : Nat) : n < 2 ^ 46 → ∀ w : World, Calls Tryd.prog 39 #[.int .i64 (n : Int)] w fun e w' => e = .returned (.string ⟨(lenB n).toArray⟩) ∧ Below w.heap.size w w' := by
  induction n using Nat.strongRecOn with
  | _ n ih =>
  intro hn w
  by_cases h8 : n < 128
  · skip
    refine walk_enter Tryd.func39 rfl rfl rfl fun a0 hF0 => ?_
    have hM0 := Mem.new w
    refine wp_seq ?_
    refine wp_region_lit ?_
    refine sq (v := (.string ⟨List.toArray []⟩)) hF0 (wantedS rfl) (run_as rfl rfl) rfl (by decide) fun a1 hF1 => ?_
    refine sqEnd ?_
    clear hF0
    refine nx ?_
    refine wp_seq ?_
    refine wp_seq ?_
    refine wp_region_lit ?_
    refine sq (v := (.int .i64 (n : Int))) hF1 (wantedS rfl) (run_mv rfl (hF1.ev 0 rfl)) rfl (by decide) fun a2 hF2 => ?_
    refine sq (v := (.bool true)) hF2 (wantedS rfl) (run_lss rfl (hF2.ev 3 rfl) rfl (decide_eq_true (by omega))) rfl (by decide) fun a3 hF3 => ?_
    refine sqEnd ?_
    clear hF1 hF2
    refine nx ?_
    refine wp_cond_true (hF3.ev 4 rfl) ?_
    refine wp_seq ?_
    refine wp_region_lit ?_
    refine sq (v := (.int .i64 (n : Int))) hF3 (wantedS rfl) (run_mv rfl (hF3.ev 0 rfl)) rfl (by decide) fun a4 hF4 => ?_
    refine sq (v := (.int .u8 ((UInt8.ofNat n).toNat : Int))) hF4 (wantedS rfl) (run_cvI (r := ((UInt8.ofNat n).toNat : Int)) rfl (hF4.ev 5 rfl) Tryd.underlying3 Tryd.underlying5 (by rw [IntKind.wrap_u8, ← low8 n h8]; omega)) rfl (by decide) fun a5 hF5 => ?_
    refine sqBytes [UInt8.ofNat n] hF5 hM0 (wantedS rfl) (run_bytes1 rfl (hF5.ev 6 rfl)) rfl (by decide) fun g0 a6 w1 hgg0 hb1 hF6 hM1 => ?_
    refine sq (v := (.string ⟨List.toArray [UInt8.ofNat n]⟩)) hF6 (wantedS rfl) (run_cv rfl (hF6.ev 7 rfl) (run_strBlk (l := [UInt8.ofNat n]) rfl (hM1.at 0 rfl))) rfl (by decide) fun a7 hF7 => ?_
    refine sq (v := (.string ⟨List.toArray [UInt8.ofNat n]⟩)) hF7 (wantedS rfl) (run_as rfl (hF7.ev 8 rfl)) rfl (by decide) fun a8 hF8 => ?_
    refine sqEnd ?_
    clear hF3 hF4 hF5 hF6 hF7 hM0
    refine nx ?_
    refine wp_ret ?_
    refine nxRet ?_
    exact ret1 hF8 rfl rfl ⟨by rw [lenB_lt n h8], hM1.below⟩
  · skip
    refine walk_enter Tryd.func39 rfl rfl rfl fun a0 hF0 => ?_
    have hM0 := Mem.new w
    refine wp_seq ?_
    refine wp_region_lit ?_
    refine sq (v := (.string ⟨List.toArray []⟩)) hF0 (wantedS rfl) (run_as rfl rfl) rfl (by decide) fun a1 hF1 => ?_
    refine sqEnd ?_
    clear hF0
    refine nx ?_
    refine wp_seq ?_
    refine wp_seq ?_
    refine wp_region_lit ?_
    refine sq (v := (.int .i64 (n : Int))) hF1 (wantedS rfl) (run_mv rfl (hF1.ev 0 rfl)) rfl (by decide) fun a2 hF2 => ?_
    refine sq (v := (.bool false)) hF2 (wantedS rfl) (run_lss rfl (hF2.ev 3 rfl) rfl (decide_eq_false (by omega))) rfl (by decide) fun a3 hF3 => ?_
    refine sqEnd ?_
    clear hF1 hF2
    refine nx ?_
    refine wp_cond_false (hF3.ev 4 rfl) ?_
    refine wp_skip ?_
    refine nx ?_
    refine wp_seq ?_
    have hll := lenB_len (n / 128)
    obtain ⟨KL, hKL⟩ : ∃ KL, KL = [kval (.int .i64 (n : Int)), kval (.int .i64 ((n % 128 : Nat) : Int)), kval (.int .i64 (((n % 128 : Nat) : Int) + 128)), kval (.int .u8 ((UInt8.ofNat (n % 128 + 128)).toNat : Int)), kbytes 5 [UInt8.ofNat (n % 128 + 128)], kval (.string ⟨List.toArray [UInt8.ofNat (n % 128 + 128)]⟩), kval (.int .i64 (n : Int)), kval (.int .i64 ((n / 128 : Nat) : Int)), kval (.string ⟨(lenB (n / 128)).toArray⟩), kval (.string ⟨([UInt8.ofNat (n % 128 + 128)] ++ (lenB (n / 128))).toArray⟩), kval (.string ⟨([UInt8.ofNat (n % 128 + 128)] ++ (lenB (n / 128))).toArray⟩)] := ⟨_, rfl⟩
    have K0 : KL.getD 0 kany = kval (.int .i64 (n : Int)) := by rw [hKL]; rfl
    have K1 : KL.getD 1 kany = kval (.int .i64 ((n % 128 : Nat) : Int)) := by rw [hKL]; rfl
    have K2 : KL.getD 2 kany = kval (.int .i64 (((n % 128 : Nat) : Int) + 128)) := by rw [hKL]; rfl
    have K3 : KL.getD 3 kany = kval (.int .u8 ((UInt8.ofNat (n % 128 + 128)).toNat : Int)) := by rw [hKL]; rfl
    have K4 : KL.getD 4 kany = kbytes 5 [UInt8.ofNat (n % 128 + 128)] := by rw [hKL]; rfl
    have K5 : KL.getD 5 kany = kval (.string ⟨List.toArray [UInt8.ofNat (n % 128 + 128)]⟩) := by rw [hKL]; rfl
    have K6 : KL.getD 6 kany = kval (.int .i64 (n : Int)) := by rw [hKL]; rfl
    have K7 : KL.getD 7 kany = kval (.int .i64 ((n / 128 : Nat) : Int)) := by rw [hKL]; rfl
    have K8 : KL.getD 8 kany = kval (.string ⟨(lenB (n / 128)).toArray⟩) := by rw [hKL]; rfl
    have K9 : KL.getD 9 kany = kval (.string ⟨([UInt8.ofNat (n % 128 + 128)] ++ (lenB (n / 128))).toArray⟩) := by rw [hKL]; rfl
    have K10 : KL.getD 10 kany = kval (.string ⟨([UInt8.ofNat (n % 128 + 128)] ++ (lenB (n / 128))).toArray⟩) := by rw [hKL]; rfl
    clear hKL
    refine wp_region_kd 19 (by kernel_rfl) (by kernel_rfl) (by kernel_rfl) hF3.size KL ?_ ?_
    · refine ⟨?_, ?_, ?_, ?_, ?_, ?_, ?_, ?_, ?_, ?_, ?_, trivial⟩
      · refine asks_mk fun a W hS hh hd => ⟨wanted_yes rfl, ?_⟩
        exact giv_run (run_mv rfl (eval_tmp (hh 0 _ rfl (hF3.at 0 rfl)))) K0
      · refine asks_mk fun a W hS hh hd => ⟨wanted_yes rfl, ?_⟩
        exact giv_run (run_rem (r := ((n % 128 : Nat) : Int)) rfl (eval_tmp (hd.val (j := 0) (s := 9) (by kernel_rfl) K0)) rfl (by omega) (by rw [Int.tmod_eq_emod_of_nonneg (by omega)]; try omega)) K1
      · refine asks_mk fun a W hS hh hd => ⟨wanted_yes rfl, ?_⟩
        exact giv_run (run_add (r := ((n % 128 : Nat) : Int) + 128) rfl (eval_tmp (hd.val (j := 1) (s := 10) (by kernel_rfl) K1)) rfl (by rw [IntKind.wrap_i64]; omega)) K2
      · refine asks_mk fun a W hS hh hd => ⟨wanted_yes rfl, ?_⟩
        exact giv_run (run_cvI (r := ((UInt8.ofNat (n % 128 + 128)).toNat : Int)) rfl (eval_tmp (hd.val (j := 2) (s := 11) (by kernel_rfl) K2)) Tryd.underlying3 Tryd.underlying5 (by rw [IntKind.wrap_u8]; simp; try omega)) K3
      · refine asks_mk fun a W hS hh hd => ⟨wanted_yes rfl, ?_⟩
        exact giv_bytes [UInt8.ofNat (n % 128 + 128)] 5 (run_bytes1 rfl (eval_tmp (hd.val (j := 3) (s := 12) (by kernel_rfl) K3))) K4
      · refine asks_mk fun a W hS hh hd => ⟨wanted_yes rfl, ?_⟩
        obtain ⟨g4, c4, e4, b4⟩ := Dep.bytes hd (j := 4) (s := 13) (by kernel_rfl) K4
        exact giv_run (run_cv rfl (eval_tmp e4) (run_strBlk (cap := c4) (l := [UInt8.ofNat (n % 128 + 128)]) rfl b4)) K5
      · refine asks_mk fun a W hS hh hd => ⟨wanted_yes rfl, ?_⟩
        exact giv_run (run_mv rfl (eval_tmp (hh 0 _ rfl (hF3.at 0 rfl)))) K6
      · refine asks_mk fun a W hS hh hd => ⟨wanted_yes rfl, ?_⟩
        exact giv_run (run_quo (r := ((n / 128 : Nat) : Int)) rfl (eval_tmp (hd.val (j := 6) (s := 15) (by kernel_rfl) K6)) rfl (by omega) (by rw [Int.tdiv_eq_ediv_of_nonneg (by omega), IntKind.wrap_i64]; try omega)) K7
      · refine asks_mk fun a W hS hh hd => ⟨wanted_yes rfl, ?_⟩
        exact giv_call (run_call rfl Tryd.func39 (by kernel_rfl) rfl (mapE1 (eval_tmp (hd.val (j := 7) (s := 16) (by kernel_rfl) K7)))) (ih (n / 128) (by omega) (by omega) W) K8
      · refine asks_mk fun a W hS hh hd => ⟨wanted_yes rfl, ?_⟩
        exact giv_run (run_cat rfl (eval_tmp (hd.val (j := 5) (s := 14) (by kernel_rfl) K5)) (eval_tmp (hd.val (j := 8) (s := 17) (by kernel_rfl) K8)) (by first | omega | decide | (simp; omega))) K9
      · refine asks_mk fun a W hS hh hd => ⟨wanted_yes rfl, ?_⟩
        exact giv_run (run_as rfl (eval_tmp (hd.val (j := 9) (s := 18) (by kernel_rfl) K9))) K10
    · intro a4 w1 hb1 hK
      have e0 := hK.val (i := 0) (s := 9) (by kernel_rfl) K0
      have e1 := hK.val (i := 1) (s := 10) (by kernel_rfl) K1
      have e2 := hK.val (i := 2) (s := 11) (by kernel_rfl) K2
      have e3 := hK.val (i := 3) (s := 12) (by kernel_rfl) K3
      obtain ⟨v0, e4, hpv0⟩ := hK.get (i := 4) (s := 13) (by kernel_rfl)
      rw [K4] at hpv0
      have e5 := hK.val (i := 5) (s := 14) (by kernel_rfl) K5
      have e6 := hK.val (i := 6) (s := 15) (by kernel_rfl) K6
      have e7 := hK.val (i := 7) (s := 16) (by kernel_rfl) K7
      have e8 := hK.val (i := 8) (s := 17) (by kernel_rfl) K8
      have e9 := hK.val (i := 9) (s := 18) (by kernel_rfl) K9
      have e10 := hK.val (i := 10) (s := 2) (by kernel_rfl) K10
      have hF4 : Fr a4 19 [(0, (.int .i64 (n : Int))), (2, (.string ⟨([UInt8.ofNat (n % 128 + 128)] ++ (lenB (n / 128))).toArray⟩)), (3, (.int .i64 (n : Int))), (4, (.bool false))] := (hK.fr hF3 [(.int .i64 (n : Int)), (.int .i64 ((n % 128 : Nat) : Int)), (.int .i64 (((n % 128 : Nat) : Int) + 128)), (.int .u8 ((UInt8.ofNat (n % 128 + 128)).toNat : Int)), v0, (.string ⟨List.toArray [UInt8.ofNat (n % 128 + 128)]⟩), (.int .i64 (n : Int)), (.int .i64 ((n / 128 : Nat) : Int)), (.string ⟨(lenB (n / 128)).toArray⟩), (.string ⟨([UInt8.ofNat (n % 128 + 128)] ++ (lenB (n / 128))).toArray⟩), (.string ⟨([UInt8.ofNat (n % 128 + 128)] ++ (lenB (n / 128))).toArray⟩)] ⟨e0, e1, e2, e3, e4, e5, e6, e7, e8, e9, e10, trivial⟩).sub ⟨rfl, rfl, rfl, rfl, trivial⟩
      have hM1 := hM0.grow hb1
      clear hK K0 e0 K1 e1 K2 e2 K3 e3 K4 e4 K5 e5 K6 e6 K7 e7 K8 e8 K9 e9 K10 e10
      clear hF3 hM0
      refine nx ?_
      refine wp_ret ?_
      exact ret1 hF4 rfl rfl ⟨by rw [lenB_ge n h8]; rfl, hM1.below⟩
set_option maxRecDepth 100000 in
set_option maxHeartbeats 1000000 in
theorem rrow_any (l : List (List UInt8)) (v : Value) (w : World) (hS : Strs w v l) (hl : l.flatten.length < 2 ^ 44) (hn : l.length < 2 ^ 44) :
    Calls Tryd.prog 17 #[v] w fun e w' => e = .returned (.string ⟨(rowS l).toArray⟩) ∧ Below w.heap.size w w' := by
  refine walk_enter Tryd.func17 rfl rfl rfl fun a0 hF0 => ?_
  have hM0 := Mem.new w
  refine wp_seq ?_
  refine wp_region_lit ?_
  refine sq (v := (.string ⟨List.toArray []⟩)) hF0 (wantedS rfl) (run_as rfl rfl) rfl (by decide) fun a1 hF1 => ?_
  refine sqEnd ?_
  clear hF0
  refine nx ?_
  refine wp_seq ?_
  refine wp_region_lit ?_
  refine sq (v := (.string ⟨List.toArray []⟩)) hF1 (wantedS rfl) (run_as rfl rfl) rfl (by decide) fun a2 hF2 => ?_
  refine sqEnd ?_
  clear hF1
  refine nx ?_
  refine wp_seq ?_
  refine wp_seq ?_
  refine wp_region_lit ?_
  refine sq (v := v) hF2 (wantedS rfl) (run_mv rfl (hF2.ev 0 rfl)) rfl (by decide) fun a3 hF3 => ?_
  refine sq (v := (.int .i64 (l.length : Int))) hF3 (wantedS rfl) (run_lenStrs rfl (hF3.ev 6 rfl) hS rfl Tryd.underlying34) rfl (by decide) fun a4 hF4 => ?_
  refine sq (v := (.int .i64 0)) hF4 (wantedS rfl) (run_mv rfl rfl) rfl (by decide) fun a5 hF5 => ?_
  refine sqEnd ?_
  clear hF2 hF3 hF4
  refine nx ?_
  refine wp_block ?_
  refine wkLoop (fun m a w2 => ∃ k : Nat, k ≤ l.length ∧ m = l.length - k ∧ Fr a 21 [(3, .string ⟨(rowS (l.take k)).toArray⟩), (6, v), (7, .int .i64 (l.length : Int)), (8, .int .i64 (k : Int))] ∧ Mem w [] w2) l.length ⟨0, Nat.zero_le _, rfl, hF5.sub ⟨rfl, rfl, rfl, rfl, trivial⟩, hM0⟩ ?_
  rintro m a0 w1 ⟨k, hk, rfl, hF0, hM0⟩
  have hSw := hS.below hM0.below
  by_cases hlt : k < l.length
  · obtain ⟨s, hs⟩ : ∃ s, l.getD k [] = s := ⟨_, rfl⟩
    have hle := rowS_len (l.take (k + 1))
    have hle2 := joinTo_le l (k + 1)
    unfold joinTo at hle2
    rw [rowS_snoc l k hlt, hs, List.length_append, List.length_append, List.length_take] at hle
    refine wp_seq ?_
    refine wp_region_lit ?_
    refine sq (v := (.bool true)) hF0 (wantedS rfl) (run_lss rfl (hF0.ev 8 rfl) (hF0.ev 7 rfl) (decide_eq_true (by omega))) rfl (by decide) fun a1 hF1 => ?_
    refine sqEnd ?_
    clear hF0
    refine nx ?_
    refine wp_seq ?_
    refine wp_cond_true (hF1.ev 9 rfl) ?_
    refine wp_skip ?_
    refine nx ?_
    refine wp_seq ?_
    refine wp_block ?_
    refine wp_seq ?_
    obtain ⟨q, hq, hqc⟩ := run_atStrs (P := Tryd.prog) (a := a1) (o := ⟨some 10, .indexAddr 34 (.tmp 6) (.tmp 8), 0, "", #[], none⟩) rfl (hF1.ev 6 rfl) (hF1.ev 8 rfl) rfl hSw hlt Tryd.underlying34 (by kernel_rfl)
    refine wp_region_lit ?_
    refine sq (v := (.pointer (some q))) hF1 (wantedS rfl) hq rfl (by decide) fun a2 hF2 => ?_
    refine sq (v := (.string ⟨s.toArray⟩)) hF2 (wantedS rfl) (run_ldC rfl (hF2.ev 10 rfl) (by rw [← hs]; exact hqc) (by kernel_rfl)) rfl (by decide) fun a3 hF3 => ?_
    refine sq (v := (.string ⟨s.toArray⟩)) hF3 (wantedS rfl) (run_as rfl (hF3.ev 11 rfl)) rfl (by decide) fun a4 hF4 => ?_
    refine sqEnd ?_
    clear hF1 hF2 hF3
    refine nx ?_
    refine wp_region_lit ?_
    refine sq (v := (.string ⟨(rowS (l.take k)).toArray⟩)) hF4 (wantedS rfl) (run_mv rfl (hF4.ev 3 rfl)) rfl (by decide) fun a5 hF5 => ?_
    refine sq (v := (.string ⟨s.toArray⟩)) hF5 (wantedS rfl) (run_mv rfl (hF5.ev 5 rfl)) rfl (by decide) fun a6 hF6 => ?_
    refine sq (v := (.int .i64 (s.length : Int))) hF6 (wantedS rfl) (run_len rfl (hF6.ev 13 rfl) rfl Tryd.underlying9) rfl (by decide) fun a7 hF7 => ?_
    refine sqC (v := (.string ⟨(lenB s.length).toArray⟩)) hF7 hM0 (wantedS rfl) (run_call rfl Tryd.func39 (by kernel_rfl) rfl (mapE1 (hF7.ev 14 rfl))) rfl (by decide) (rlen_any s.length (by omega) w1) fun a8 w2 hb2 hF8 hM1 => ?_
    refine sq (v := (.string ⟨s.toArray⟩)) hF8 (wantedS rfl) (run_mv rfl (hF8.ev 5 rfl)) rfl (by decide) fun a9 hF9 => ?_
    refine sq (v := (.string ⟨(lenB s.length ++ s).toArray⟩)) hF9 (wantedS rfl) (run_cat rfl (hF9.ev 15 rfl) (hF9.ev 16 rfl) (by first | omega | decide | (simp; omega))) rfl (by decide) fun a10 hF10 => ?_
    refine sq (v := (.string ⟨((rowS (l.take k)) ++ (lenB s.length ++ s)).toArray⟩)) hF10 (wantedS rfl) (run_cat rfl (hF10.ev 12 rfl) (hF10.ev 17 rfl) (by first | omega | decide | (simp; omega))) rfl (by decide) fun a11 hF11 => ?_
    refine sq (v := (.string ⟨((rowS (l.take k)) ++ (lenB s.length ++ s)).toArray⟩)) hF11 (wantedS rfl) (run_as rfl (hF11.ev 18 rfl)) rfl (by decide) fun a12 hF12 => ?_
    refine sqEnd ?_
    clear hF4 hF5 hF6 hF7 hF8 hF9 hF10 hF11 hM0
    refine bkEnd ?_
    refine nx ?_
    refine wp_region_lit ?_
    refine sq (v := (.int .i64 ((k + 1 : Nat) : Int))) hF12 (wantedS rfl) (run_add (r := ((k + 1 : Nat) : Int)) rfl (hF12.ev 8 rfl) rfl (by rw [IntKind.wrap_i64]; omega)) rfl (by decide) fun a13 hF13 => ?_
    refine sq (v := (.int .i64 ((k + 1 : Nat) : Int))) hF13 (wantedS rfl) (run_mv rfl (hF13.ev 19 rfl)) rfl (by decide) fun a14 hF14 => ?_
    refine sqEnd ?_
    clear hF12 hF13
    refine nx ?_
    exact ⟨_, by omega, k + 1, by omega, rfl, hF14.sub ⟨by rw [rowS_snoc l k hlt, hs]; rfl, rfl, rfl, rfl, trivial⟩, hM1⟩
  · have hke : k = l.length := by omega
    refine wp_seq ?_
    refine wp_region_lit ?_
    refine sq (v := (.bool false)) hF0 (wantedS rfl) (run_lss rfl (hF0.ev 8 rfl) (hF0.ev 7 rfl) (decide_eq_false (by omega))) rfl (by decide) fun a1 hF1 => ?_
    refine sqEnd ?_
    clear hF0
    refine nx ?_
    refine wp_seq ?_
    refine wp_cond_false (hF1.ev 9 rfl) ?_
    refine wp_exit ?_
    refine nxExit ?_
    refine nxExit ?_
    refine bkHere ?_
    refine nx ?_
    refine wp_seq ?_
    refine wp_region_lit ?_
    refine sq (v := (.string ⟨(rowS (l.take k)).toArray⟩)) hF1 (wantedS rfl) (run_mv rfl (hF1.ev 3 rfl)) rfl (by decide) fun a2 hF2 => ?_
    refine sq (v := (.string ⟨(rowS (l.take k)).toArray⟩)) hF2 (wantedS rfl) (run_as rfl (hF2.ev 20 rfl)) rfl (by decide) fun a3 hF3 => ?_
    refine sqEnd ?_
    clear hF1 hF2
    refine nx ?_
    refine wp_ret ?_
    exact ret1 hF3 rfl rfl ⟨by rw [hke, List.take_length], hM0.below⟩
end Go.Proofs.YtioioibcldgknaaDoor
