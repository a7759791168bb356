/- The walk of the reference's Unpack. Printed by gen_lz3.py. -/
import Derived.Test.YtpobmaklgnioeaaLz2
namespace Go.Proofs.Ytpobmaklgnioeaa
open Go.RowKit

theorem unpS_ne {b : List UInt8} {most : Int} (h : b ≠ []) : unpS b most = unpT [] b most := by
  unfold unpS
  rw [if_neg (fun e => h e.2)]
  by_cases hm : most < 0
  · rw [(unp_neg b most h hm).1, show max most 0 = 0 by omega]
  · rw [show max most 0 = most by omega]
theorem unpS_end {b : List UInt8} {most : Int} {r : List UInt8} (h : unpT [] b most = (r, 0)) : unpS b most = if most < 0 then ([], 6) else (r, 0) := by
  by_cases hb : b = []
  · subst hb
    rw [unpT_nil] at h
    unfold unpS
    by_cases hm : most < 0
    · rw [if_pos ⟨hm, rfl⟩, if_pos hm]
    · rw [if_neg (fun e => hm e.1), if_neg hm, unpT_nil]
      exact h
  · rw [unpS_ne hb, h]
    by_cases hm : most < 0
    · exfalso
      have := (unp_neg b most hb hm).2
      rw [h] at this
      exact this rfl
    · rw [if_neg hm]
set_option maxRecDepth 100000 in
set_option maxHeartbeats 1000000 in
theorem runp_any (b : List UInt8) (most : Int) (w : World) (hb : b.length ≤ 2 ^ 32) (hm1 : -9223372036854775808 ≤ most) (hm2 : most ≤ 9223372036854775807) : Calls Try.prog 13 #[.string ⟨b.toArray⟩, .int .i64 most] w fun e w' => e = .returned (.tuple #[.string ⟨(unpS b most).1.toArray⟩, .int .i64 (unpS b most).2]) ∧ Below w.heap.size w w' := by
  refine walk_enter Try.func13 rfl rfl rfl fun a0 hF0 => ?_
  have hM0 := Mem.new w
  refine wp_seq ?_
  refine wp_region_lit ?_
  refine sq (v := (.string ⟨List.toArray []⟩)) hF0 (wantedS rfl) (run_as rfl rfl) rfl (by decide) fun a1 hF1 => ?_
  refine sq (v := (.int .i64 0)) hF1 (wantedS rfl) (run_as rfl rfl) rfl (by decide) fun a2 hF2 => ?_
  refine sqEnd ?_
  clear hF0 hF1
  refine nx ?_
  refine wp_seq ?_
  refine wp_region_lit ?_
  refine sq (v := (.string ⟨List.toArray []⟩)) hF2 (wantedS rfl) (run_as rfl rfl) rfl (by decide) fun a3 hF3 => ?_
  refine sqEnd ?_
  clear hF2
  refine nx ?_
  refine wp_seq ?_
  refine wp_block ?_
  refine wkLoop (fun m a w2 => ∃ o2 b2 : List UInt8, m = b2.length ∧ unpT o2 b2 most = unpT [] b most ∧ b2.length ≤ b.length ∧ o2.length + 131 * b2.length ≤ 131 * b.length ∧ Fr a 89 [(0, .string ⟨b2.toArray⟩), (1, .int .i64 most), (6, .string ⟨o2.toArray⟩)] ∧ Mem w [] w2) b.length ⟨[], b, rfl, rfl, Nat.le_refl _, by simp, hF3.sub ⟨rfl, rfl, rfl, trivial⟩, hM0⟩ ?_
  rintro m a0 w1 ⟨o2, b2, rfl, he, hbl, hlen, hF0, hM0⟩
  by_cases hlt : 0 < b2.length
  · have hne : b2 ≠ [] := List.length_pos_iff.1 hlt
    have hnb : b ≠ [] := List.length_pos_iff.1 (by omega)
    rw [unpT_step _ _ hne] at he
    have hbad : ∀ e : Int, e ≠ 0 → (tokS o2 b2 most).1 = e → unpS b most = ([], e) := fun e h1 h2 => by
      rw [unpS_ne hnb, ← he, if_pos (by rw [h2]; exact h1), h2]
    have h0 := (bt b2 0).toNat_lt
    have h1 := (bt b2 1).toNat_lt
    have h2 := (bt b2 2).toNat_lt
    obtain ⟨c, hc⟩ : ∃ c, (bt b2 0).toNat = c := ⟨_, rfl⟩
    obtain ⟨far, hfar⟩ : ∃ far, (bt b2 1).toNat + 256 * (bt b2 2).toNat = far := ⟨_, rfl⟩
    have hc' : (b2.getD 0 0).toNat = c := hc
    have hfar' : (b2.getD 1 0).toNat + 256 * (b2.getD 2 0).toNat = far := hfar
    by_cases k1 : c < 128
    · by_cases k2 : b2.length < c + 2
      · have hr := hbad 4 (by decide) (by unfold tokS; rw [hc', if_pos k1, if_pos k2])
        refine wp_seq ?_
        refine wp_seq ?_
        refine wp_region_lit ?_
        refine sq (v := (.string ⟨b2.toArray⟩)) hF0 (wantedS rfl) (run_mv rfl (hF0.ev 0 rfl)) rfl (by decide) fun a1 hF1 => ?_
        refine sq (v := (.int .i64 (b2.length : Int))) hF1 (wantedS rfl) (run_len rfl (hF1.ev 11 rfl) rfl Try.underlying9) rfl (by decide) fun a2 hF2 => ?_
        refine sq (v := (.bool true)) hF2 (wantedS rfl) (run_gtr rfl (hF2.ev 12 rfl) rfl (decide_eq_true (by omega))) rfl (by decide) fun a3 hF3 => ?_
        refine sqEnd ?_
        clear hF0 hF1 hF2
        refine nx ?_
        refine wp_cond_true (hF3.ev 13 rfl) ?_
        refine wp_skip ?_
        refine nx ?_
        refine wp_block ?_
        refine wp_seq ?_
        refine wp_region_lit ?_
        refine sq (v := (.string ⟨b2.toArray⟩)) hF3 (wantedS rfl) (run_mv rfl (hF3.ev 0 rfl)) rfl (by decide) fun a4 hF4 => ?_
        refine sq (v := (.int .u8 ((bt b2 0).toNat : Int))) hF4 (wantedS rfl) (run_sAt (n := 0) rfl (hF4.ev 14 rfl) rfl Try.underlying9 rfl (by omega)) rfl (by decide) fun a5 hF5 => ?_
        refine sq (v := (.int .i64 (c : Int))) hF5 (wantedS rfl) (run_cvI (r := (c : Int)) rfl (hF5.ev 15 rfl) Try.underlying5 Try.underlying3 (by rw [IntKind.wrap_i64]; omega)) rfl (by decide) fun a6 hF6 => ?_
        refine sq (v := (.int .i64 (c : Int))) hF6 (wantedS rfl) (run_as rfl (hF6.ev 16 rfl)) rfl (by decide) fun a7 hF7 => ?_
        refine sqEnd ?_
        clear hF3 hF4 hF5 hF6
        refine nx ?_
        refine wp_seq ?_
        refine wp_region_lit ?_
        refine sq (v := (.int .i64 (c : Int))) hF7 (wantedS rfl) (run_mv rfl (hF7.ev 7 rfl)) rfl (by decide) fun a8 hF8 => ?_
        refine sq (v := (.bool true)) hF8 (wantedS rfl) (run_lss rfl (hF8.ev 17 rfl) rfl (decide_eq_true (by omega))) rfl (by decide) fun a9 hF9 => ?_
        refine sqEnd ?_
        clear hF7 hF8
        refine nx ?_
        refine wp_cond_true (hF9.ev 18 rfl) ?_
        refine wp_seq ?_
        refine wp_seq ?_
        refine wp_region_lit ?_
        refine sq (v := (.string ⟨b2.toArray⟩)) hF9 (wantedS rfl) (run_mv rfl (hF9.ev 0 rfl)) rfl (by decide) fun a10 hF10 => ?_
        refine sq (v := (.int .i64 (b2.length : Int))) hF10 (wantedS rfl) (run_len rfl (hF10.ev 19 rfl) rfl Try.underlying9) rfl (by decide) fun a11 hF11 => ?_
        refine sq (v := (.int .i64 (c : Int))) hF11 (wantedS rfl) (run_mv rfl (hF11.ev 7 rfl)) rfl (by decide) fun a12 hF12 => ?_
        refine sq (v := (.int .i64 ((c + 2 : Nat) : Int))) hF12 (wantedS rfl) (run_add (r := ((c + 2 : Nat) : Int)) rfl (hF12.ev 21 rfl) rfl (by rw [IntKind.wrap_i64]; omega)) rfl (by decide) fun a13 hF13 => ?_
        refine sq (v := (.bool true)) hF13 (wantedS rfl) (run_lss rfl (hF13.ev 20 rfl) (hF13.ev 22 rfl) (decide_eq_true (by omega))) rfl (by decide) fun a14 hF14 => ?_
        refine sqEnd ?_
        clear hF9 hF10 hF11 hF12 hF13
        refine nx ?_
        refine wp_cond_true (hF14.ev 23 rfl) ?_
        refine wp_seq ?_
        refine wp_region_lit ?_
        refine sq (v := (.string ⟨List.toArray []⟩)) hF14 (wantedS rfl) (run_as rfl rfl) rfl (by decide) fun a15 hF15 => ?_
        refine sq (v := (.int .i64 4)) hF15 (wantedS rfl) (run_as rfl rfl) rfl (by decide) fun a16 hF16 => ?_
        refine sqEnd ?_
        clear hF14 hF15
        refine nx ?_
        refine wp_ret ?_
        refine nxRet ?_
        refine bkRet ?_
        refine nxRet ?_
        refine bkRet ?_
        refine nxRet ?_
        exact ret2 hF16 rfl rfl rfl ⟨by rw [hr], hM0.below⟩
      by_cases k3 : most < o2.length + c + 1
      · have hr := hbad 6 (by decide) (by unfold tokS; rw [hc', if_pos k1, if_neg k2, if_pos k3])
        refine wp_seq ?_
        refine wp_seq ?_
        refine wp_region_lit ?_
        refine sq (v := (.string ⟨b2.toArray⟩)) hF0 (wantedS rfl) (run_mv rfl (hF0.ev 0 rfl)) rfl (by decide) fun a1 hF1 => ?_
        refine sq (v := (.int .i64 (b2.length : Int))) hF1 (wantedS rfl) (run_len rfl (hF1.ev 11 rfl) rfl Try.underlying9) rfl (by decide) fun a2 hF2 => ?_
        refine sq (v := (.bool true)) hF2 (wantedS rfl) (run_gtr rfl (hF2.ev 12 rfl) rfl (decide_eq_true (by omega))) rfl (by decide) fun a3 hF3 => ?_
        refine sqEnd ?_
        clear hF0 hF1 hF2
        refine nx ?_
        refine wp_cond_true (hF3.ev 13 rfl) ?_
        refine wp_skip ?_
        refine nx ?_
        refine wp_block ?_
        refine wp_seq ?_
        refine wp_region_lit ?_
        refine sq (v := (.string ⟨b2.toArray⟩)) hF3 (wantedS rfl) (run_mv rfl (hF3.ev 0 rfl)) rfl (by decide) fun a4 hF4 => ?_
        refine sq (v := (.int .u8 ((bt b2 0).toNat : Int))) hF4 (wantedS rfl) (run_sAt (n := 0) rfl (hF4.ev 14 rfl) rfl Try.underlying9 rfl (by omega)) rfl (by decide) fun a5 hF5 => ?_
        refine sq (v := (.int .i64 (c : Int))) hF5 (wantedS rfl) (run_cvI (r := (c : Int)) rfl (hF5.ev 15 rfl) Try.underlying5 Try.underlying3 (by rw [IntKind.wrap_i64]; omega)) rfl (by decide) fun a6 hF6 => ?_
        refine sq (v := (.int .i64 (c : Int))) hF6 (wantedS rfl) (run_as rfl (hF6.ev 16 rfl)) rfl (by decide) fun a7 hF7 => ?_
        refine sqEnd ?_
        clear hF3 hF4 hF5 hF6
        refine nx ?_
        refine wp_seq ?_
        refine wp_region_lit ?_
        refine sq (v := (.int .i64 (c : Int))) hF7 (wantedS rfl) (run_mv rfl (hF7.ev 7 rfl)) rfl (by decide) fun a8 hF8 => ?_
        refine sq (v := (.bool true)) hF8 (wantedS rfl) (run_lss rfl (hF8.ev 17 rfl) rfl (decide_eq_true (by omega))) rfl (by decide) fun a9 hF9 => ?_
        refine sqEnd ?_
        clear hF7 hF8
        refine nx ?_
        refine wp_cond_true (hF9.ev 18 rfl) ?_
        refine wp_seq ?_
        refine wp_seq ?_
        refine wp_region_lit ?_
        refine sq (v := (.string ⟨b2.toArray⟩)) hF9 (wantedS rfl) (run_mv rfl (hF9.ev 0 rfl)) rfl (by decide) fun a10 hF10 => ?_
        refine sq (v := (.int .i64 (b2.length : Int))) hF10 (wantedS rfl) (run_len rfl (hF10.ev 19 rfl) rfl Try.underlying9) rfl (by decide) fun a11 hF11 => ?_
        refine sq (v := (.int .i64 (c : Int))) hF11 (wantedS rfl) (run_mv rfl (hF11.ev 7 rfl)) rfl (by decide) fun a12 hF12 => ?_
        refine sq (v := (.int .i64 ((c + 2 : Nat) : Int))) hF12 (wantedS rfl) (run_add (r := ((c + 2 : Nat) : Int)) rfl (hF12.ev 21 rfl) rfl (by rw [IntKind.wrap_i64]; omega)) rfl (by decide) fun a13 hF13 => ?_
        refine sq (v := (.bool false)) hF13 (wantedS rfl) (run_lss rfl (hF13.ev 20 rfl) (hF13.ev 22 rfl) (decide_eq_false (by omega))) rfl (by decide) fun a14 hF14 => ?_
        refine sqEnd ?_
        clear hF9 hF10 hF11 hF12 hF13
        refine nx ?_
        refine wp_cond_false (hF14.ev 23 rfl) ?_
        refine wp_skip ?_
        refine nx ?_
        refine wp_seq ?_
        refine wp_seq ?_
        refine wp_region_lit ?_
        refine sq (v := (.string ⟨o2.toArray⟩)) hF14 (wantedS rfl) (run_mv rfl (hF14.ev 6 rfl)) rfl (by decide) fun a15 hF15 => ?_
        refine sq (v := (.int .i64 (o2.length : Int))) hF15 (wantedS rfl) (run_len rfl (hF15.ev 24 rfl) rfl Try.underlying9) rfl (by decide) fun a16 hF16 => ?_
        refine sq (v := (.int .i64 (c : Int))) hF16 (wantedS rfl) (run_mv rfl (hF16.ev 7 rfl)) rfl (by decide) fun a17 hF17 => ?_
        refine sq (v := (.int .i64 ((o2.length : Int) + (c : Int)))) hF17 (wantedS rfl) (run_add (r := (o2.length : Int) + (c : Int)) rfl (hF17.ev 25 rfl) (hF17.ev 26 rfl) (by rw [IntKind.wrap_i64]; omega)) rfl (by decide) fun a18 hF18 => ?_
        refine sq (v := (.int .i64 (((o2.length : Int) + (c : Int)) + 1))) hF18 (wantedS rfl) (run_add (r := ((o2.length : Int) + (c : Int)) + 1) rfl (hF18.ev 27 rfl) rfl (by rw [IntKind.wrap_i64]; omega)) rfl (by decide) fun a19 hF19 => ?_
        refine sq (v := (.int .i64 most)) hF19 (wantedS rfl) (run_mv rfl (hF19.ev 1 rfl)) rfl (by decide) fun a20 hF20 => ?_
        refine sq (v := (.bool true)) hF20 (wantedS rfl) (run_gtr rfl (hF20.ev 28 rfl) (hF20.ev 29 rfl) (decide_eq_true (by omega))) rfl (by decide) fun a21 hF21 => ?_
        refine sqEnd ?_
        clear hF14 hF15 hF16 hF17 hF18 hF19 hF20
        refine nx ?_
        refine wp_cond_true (hF21.ev 30 rfl) ?_
        refine wp_seq ?_
        refine wp_region_lit ?_
        refine sq (v := (.string ⟨List.toArray []⟩)) hF21 (wantedS rfl) (run_as rfl rfl) rfl (by decide) fun a22 hF22 => ?_
        refine sq (v := (.int .i64 6)) hF22 (wantedS rfl) (run_as rfl rfl) rfl (by decide) fun a23 hF23 => ?_
        refine sqEnd ?_
        clear hF21 hF22
        refine nx ?_
        refine wp_ret ?_
        refine nxRet ?_
        refine bkRet ?_
        refine nxRet ?_
        refine bkRet ?_
        refine nxRet ?_
        exact ret2 hF23 rfl rfl rfl ⟨by rw [hr], hM0.below⟩
      have hres : tokS o2 b2 most = (0, o2 ++ (b2.drop 1).take (c + 1), c + 2) := by unfold tokS; rw [hc', if_pos k1, if_neg k2, if_neg k3]
      rw [hres, if_neg (by simp)] at he
      have htl : ((b2.drop 1).take (c + 1)).length = c + 1 := by rw [List.length_take, List.length_drop]; omega
      refine wp_seq ?_
      refine wp_seq ?_
      refine wp_region_lit ?_
      refine sq (v := (.string ⟨b2.toArray⟩)) hF0 (wantedS rfl) (run_mv rfl (hF0.ev 0 rfl)) rfl (by decide) fun a1 hF1 => ?_
      refine sq (v := (.int .i64 (b2.length : Int))) hF1 (wantedS rfl) (run_len rfl (hF1.ev 11 rfl) rfl Try.underlying9) rfl (by decide) fun a2 hF2 => ?_
      refine sq (v := (.bool true)) hF2 (wantedS rfl) (run_gtr rfl (hF2.ev 12 rfl) rfl (decide_eq_true (by omega))) rfl (by decide) fun a3 hF3 => ?_
      refine sqEnd ?_
      clear hF0 hF1 hF2
      refine nx ?_
      refine wp_cond_true (hF3.ev 13 rfl) ?_
      refine wp_skip ?_
      refine nx ?_
      refine wp_block ?_
      refine wp_seq ?_
      refine wp_region_lit ?_
      refine sq (v := (.string ⟨b2.toArray⟩)) hF3 (wantedS rfl) (run_mv rfl (hF3.ev 0 rfl)) rfl (by decide) fun a4 hF4 => ?_
      refine sq (v := (.int .u8 ((bt b2 0).toNat : Int))) hF4 (wantedS rfl) (run_sAt (n := 0) rfl (hF4.ev 14 rfl) rfl Try.underlying9 rfl (by omega)) rfl (by decide) fun a5 hF5 => ?_
      refine sq (v := (.int .i64 (c : Int))) hF5 (wantedS rfl) (run_cvI (r := (c : Int)) rfl (hF5.ev 15 rfl) Try.underlying5 Try.underlying3 (by rw [IntKind.wrap_i64]; omega)) rfl (by decide) fun a6 hF6 => ?_
      refine sq (v := (.int .i64 (c : Int))) hF6 (wantedS rfl) (run_as rfl (hF6.ev 16 rfl)) rfl (by decide) fun a7 hF7 => ?_
      refine sqEnd ?_
      clear hF3 hF4 hF5 hF6
      refine nx ?_
      refine wp_seq ?_
      refine wp_region_lit ?_
      refine sq (v := (.int .i64 (c : Int))) hF7 (wantedS rfl) (run_mv rfl (hF7.ev 7 rfl)) rfl (by decide) fun a8 hF8 => ?_
      refine sq (v := (.bool true)) hF8 (wantedS rfl) (run_lss rfl (hF8.ev 17 rfl) rfl (decide_eq_true (by omega))) rfl (by decide) fun a9 hF9 => ?_
      refine sqEnd ?_
      clear hF7 hF8
      refine nx ?_
      refine wp_cond_true (hF9.ev 18 rfl) ?_
      refine wp_seq ?_
      refine wp_seq ?_
      refine wp_region_lit ?_
      refine sq (v := (.string ⟨b2.toArray⟩)) hF9 (wantedS rfl) (run_mv rfl (hF9.ev 0 rfl)) rfl (by decide) fun a10 hF10 => ?_
      refine sq (v := (.int .i64 (b2.length : Int))) hF10 (wantedS rfl) (run_len rfl (hF10.ev 19 rfl) rfl Try.underlying9) rfl (by decide) fun a11 hF11 => ?_
      refine sq (v := (.int .i64 (c : Int))) hF11 (wantedS rfl) (run_mv rfl (hF11.ev 7 rfl)) rfl (by decide) fun a12 hF12 => ?_
      refine sq (v := (.int .i64 ((c + 2 : Nat) : Int))) hF12 (wantedS rfl) (run_add (r := ((c + 2 : Nat) : Int)) rfl (hF12.ev 21 rfl) rfl (by rw [IntKind.wrap_i64]; omega)) rfl (by decide) fun a13 hF13 => ?_
      refine sq (v := (.bool false)) hF13 (wantedS rfl) (run_lss rfl (hF13.ev 20 rfl) (hF13.ev 22 rfl) (decide_eq_false (by omega))) rfl (by decide) fun a14 hF14 => ?_
      refine sqEnd ?_
      clear hF9 hF10 hF11 hF12 hF13
      refine nx ?_
      refine wp_cond_false (hF14.ev 23 rfl) ?_
      refine wp_skip ?_
      refine nx ?_
      refine wp_seq ?_
      refine wp_seq ?_
      refine wp_region_lit ?_
      refine sq (v := (.string ⟨o2.toArray⟩)) hF14 (wantedS rfl) (run_mv rfl (hF14.ev 6 rfl)) rfl (by decide) fun a15 hF15 => ?_
      refine sq (v := (.int .i64 (o2.length : Int))) hF15 (wantedS rfl) (run_len rfl (hF15.ev 24 rfl) rfl Try.underlying9) rfl (by decide) fun a16 hF16 => ?_
      refine sq (v := (.int .i64 (c : Int))) hF16 (wantedS rfl) (run_mv rfl (hF16.ev 7 rfl)) rfl (by decide) fun a17 hF17 => ?_
      refine sq (v := (.int .i64 ((o2.length : Int) + (c : Int)))) hF17 (wantedS rfl) (run_add (r := (o2.length : Int) + (c : Int)) rfl (hF17.ev 25 rfl) (hF17.ev 26 rfl) (by rw [IntKind.wrap_i64]; omega)) rfl (by decide) fun a18 hF18 => ?_
      refine sq (v := (.int .i64 (((o2.length : Int) + (c : Int)) + 1))) hF18 (wantedS rfl) (run_add (r := ((o2.length : Int) + (c : Int)) + 1) rfl (hF18.ev 27 rfl) rfl (by rw [IntKind.wrap_i64]; omega)) rfl (by decide) fun a19 hF19 => ?_
      refine sq (v := (.int .i64 most)) hF19 (wantedS rfl) (run_mv rfl (hF19.ev 1 rfl)) rfl (by decide) fun a20 hF20 => ?_
      refine sq (v := (.bool false)) hF20 (wantedS rfl) (run_gtr rfl (hF20.ev 28 rfl) (hF20.ev 29 rfl) (decide_eq_false (by omega))) rfl (by decide) fun a21 hF21 => ?_
      refine sqEnd ?_
      clear hF14 hF15 hF16 hF17 hF18 hF19 hF20
      refine nx ?_
      refine wp_cond_false (hF21.ev 30 rfl) ?_
      refine wp_skip ?_
      refine nx ?_
      refine wp_seq ?_
      refine wp_region_lit ?_
      refine sq (v := (.string ⟨o2.toArray⟩)) hF21 (wantedS rfl) (run_mv rfl (hF21.ev 6 rfl)) rfl (by decide) fun a22 hF22 => ?_
      refine sq (v := (.string ⟨b2.toArray⟩)) hF22 (wantedS rfl) (run_mv rfl (hF22.ev 0 rfl)) rfl (by decide) fun a23 hF23 => ?_
      refine sq (v := (.int .i64 (c : Int))) hF23 (wantedS rfl) (run_mv rfl (hF23.ev 7 rfl)) rfl (by decide) fun a24 hF24 => ?_
      refine sq (v := (.int .i64 ((c + 2 : Nat) : Int))) hF24 (wantedS rfl) (run_add (r := ((c + 2 : Nat) : Int)) rfl (hF24.ev 33 rfl) rfl (by rw [IntKind.wrap_i64]; omega)) rfl (by decide) fun a25 hF25 => ?_
      refine sq (v := (.string ⟨((b2.drop 1).take (c + 1)).toArray⟩)) hF25 (wantedS rfl) (run_sMidE (m := 1) (m2 := (c + 2)) (by rw [show c + 2 - 1 = c + 1 by omega]) rfl (hF25.ev 32 rfl) rfl (hF25.ev 34 rfl) Try.underlying9 (by omega) (by omega) (by omega) (by omega)) rfl (by decide) fun a26 hF26 => ?_
      refine sq (v := (.string ⟨(o2 ++ ((b2.drop 1).take (c + 1))).toArray⟩)) hF26 (wantedS rfl) (run_cat rfl (hF26.ev 31 rfl) (hF26.ev 35 rfl) (by omega)) rfl (by decide) fun a27 hF27 => ?_
      refine sq (v := (.string ⟨(o2 ++ ((b2.drop 1).take (c + 1))).toArray⟩)) hF27 (wantedS rfl) (run_as rfl (hF27.ev 36 rfl)) rfl (by decide) fun a28 hF28 => ?_
      refine sqEnd ?_
      clear hF21 hF22 hF23 hF24 hF25 hF26 hF27
      refine nx ?_
      refine wp_region_lit ?_
      refine sq (v := (.string ⟨b2.toArray⟩)) hF28 (wantedS rfl) (run_mv rfl (hF28.ev 0 rfl)) rfl (by decide) fun a29 hF29 => ?_
      refine sq (v := (.int .i64 (c : Int))) hF29 (wantedS rfl) (run_mv rfl (hF29.ev 7 rfl)) rfl (by decide) fun a30 hF30 => ?_
      refine sq (v := (.int .i64 ((c + 2 : Nat) : Int))) hF30 (wantedS rfl) (run_add (r := ((c + 2 : Nat) : Int)) rfl (hF30.ev 38 rfl) rfl (by rw [IntKind.wrap_i64]; omega)) rfl (by decide) fun a31 hF31 => ?_
      refine sq (v := (.string ⟨(b2.drop (c + 2)).toArray⟩)) hF31 (wantedS rfl) (run_sFrom (m := (c + 2)) rfl (hF31.ev 37 rfl) (hF31.ev 39 rfl) Try.underlying9 (by omega) (by omega)) rfl (by decide) fun a32 hF32 => ?_
      refine sq (v := (.string ⟨(b2.drop (c + 2)).toArray⟩)) hF32 (wantedS rfl) (run_as rfl (hF32.ev 40 rfl)) rfl (by decide) fun a33 hF33 => ?_
      refine sqEnd ?_
      clear hF28 hF29 hF30 hF31 hF32
      refine bkEnd ?_
      refine nx ?_
      exact ⟨_, by rw [List.length_drop]; omega, _, b2.drop (c + 2), rfl, he, by rw [List.length_drop]; omega, by rw [List.length_drop, List.length_append, htl]; omega, hF33.sub ⟨rfl, rfl, rfl, trivial⟩, hM0⟩
    · by_cases k2 : b2.length < 3
      · have hr := hbad 4 (by decide) (by unfold tokS; rw [hc', if_neg k1, if_pos k2])
        refine wp_seq ?_
        refine wp_seq ?_
        refine wp_region_lit ?_
        refine sq (v := (.string ⟨b2.toArray⟩)) hF0 (wantedS rfl) (run_mv rfl (hF0.ev 0 rfl)) rfl (by decide) fun a1 hF1 => ?_
        refine sq (v := (.int .i64 (b2.length : Int))) hF1 (wantedS rfl) (run_len rfl (hF1.ev 11 rfl) rfl Try.underlying9) rfl (by decide) fun a2 hF2 => ?_
        refine sq (v := (.bool true)) hF2 (wantedS rfl) (run_gtr rfl (hF2.ev 12 rfl) rfl (decide_eq_true (by omega))) rfl (by decide) fun a3 hF3 => ?_
        refine sqEnd ?_
        clear hF0 hF1 hF2
        refine nx ?_
        refine wp_cond_true (hF3.ev 13 rfl) ?_
        refine wp_skip ?_
        refine nx ?_
        refine wp_block ?_
        refine wp_seq ?_
        refine wp_region_lit ?_
        refine sq (v := (.string ⟨b2.toArray⟩)) hF3 (wantedS rfl) (run_mv rfl (hF3.ev 0 rfl)) rfl (by decide) fun a4 hF4 => ?_
        refine sq (v := (.int .u8 ((bt b2 0).toNat : Int))) hF4 (wantedS rfl) (run_sAt (n := 0) rfl (hF4.ev 14 rfl) rfl Try.underlying9 rfl (by omega)) rfl (by decide) fun a5 hF5 => ?_
        refine sq (v := (.int .i64 (c : Int))) hF5 (wantedS rfl) (run_cvI (r := (c : Int)) rfl (hF5.ev 15 rfl) Try.underlying5 Try.underlying3 (by rw [IntKind.wrap_i64]; omega)) rfl (by decide) fun a6 hF6 => ?_
        refine sq (v := (.int .i64 (c : Int))) hF6 (wantedS rfl) (run_as rfl (hF6.ev 16 rfl)) rfl (by decide) fun a7 hF7 => ?_
        refine sqEnd ?_
        clear hF3 hF4 hF5 hF6
        refine nx ?_
        refine wp_seq ?_
        refine wp_region_lit ?_
        refine sq (v := (.int .i64 (c : Int))) hF7 (wantedS rfl) (run_mv rfl (hF7.ev 7 rfl)) rfl (by decide) fun a8 hF8 => ?_
        refine sq (v := (.bool false)) hF8 (wantedS rfl) (run_lss rfl (hF8.ev 17 rfl) rfl (decide_eq_false (by omega))) rfl (by decide) fun a9 hF9 => ?_
        refine sqEnd ?_
        clear hF7 hF8
        refine nx ?_
        refine wp_cond_false (hF9.ev 18 rfl) ?_
        refine wp_seq ?_
        refine wp_seq ?_
        refine wp_region_lit ?_
        refine sq (v := (.string ⟨b2.toArray⟩)) hF9 (wantedS rfl) (run_mv rfl (hF9.ev 0 rfl)) rfl (by decide) fun a10 hF10 => ?_
        refine sq (v := (.int .i64 (b2.length : Int))) hF10 (wantedS rfl) (run_len rfl (hF10.ev 41 rfl) rfl Try.underlying9) rfl (by decide) fun a11 hF11 => ?_
        refine sq (v := (.bool true)) hF11 (wantedS rfl) (run_lss rfl (hF11.ev 42 rfl) rfl (decide_eq_true (by omega))) rfl (by decide) fun a12 hF12 => ?_
        refine sqEnd ?_
        clear hF9 hF10 hF11
        refine nx ?_
        refine wp_cond_true (hF12.ev 43 rfl) ?_
        refine wp_seq ?_
        refine wp_region_lit ?_
        refine sq (v := (.string ⟨List.toArray []⟩)) hF12 (wantedS rfl) (run_as rfl rfl) rfl (by decide) fun a13 hF13 => ?_
        refine sq (v := (.int .i64 4)) hF13 (wantedS rfl) (run_as rfl rfl) rfl (by decide) fun a14 hF14 => ?_
        refine sqEnd ?_
        clear hF12 hF13
        refine nx ?_
        refine wp_ret ?_
        refine nxRet ?_
        refine bkRet ?_
        refine nxRet ?_
        refine bkRet ?_
        refine nxRet ?_
        exact ret2 hF14 rfl rfl rfl ⟨by rw [hr], hM0.below⟩
      by_cases k3 : far = 0
      · have hr := hbad 3 (by decide) (by unfold tokS; rw [hc', if_neg k1, if_neg k2, hfar', if_pos (.inl k3)])
        refine wp_seq ?_
        refine wp_seq ?_
        refine wp_region_lit ?_
        refine sq (v := (.string ⟨b2.toArray⟩)) hF0 (wantedS rfl) (run_mv rfl (hF0.ev 0 rfl)) rfl (by decide) fun a1 hF1 => ?_
        refine sq (v := (.int .i64 (b2.length : Int))) hF1 (wantedS rfl) (run_len rfl (hF1.ev 11 rfl) rfl Try.underlying9) rfl (by decide) fun a2 hF2 => ?_
        refine sq (v := (.bool true)) hF2 (wantedS rfl) (run_gtr rfl (hF2.ev 12 rfl) rfl (decide_eq_true (by omega))) rfl (by decide) fun a3 hF3 => ?_
        refine sqEnd ?_
        clear hF0 hF1 hF2
        refine nx ?_
        refine wp_cond_true (hF3.ev 13 rfl) ?_
        refine wp_skip ?_
        refine nx ?_
        refine wp_block ?_
        refine wp_seq ?_
        refine wp_region_lit ?_
        refine sq (v := (.string ⟨b2.toArray⟩)) hF3 (wantedS rfl) (run_mv rfl (hF3.ev 0 rfl)) rfl (by decide) fun a4 hF4 => ?_
        refine sq (v := (.int .u8 ((bt b2 0).toNat : Int))) hF4 (wantedS rfl) (run_sAt (n := 0) rfl (hF4.ev 14 rfl) rfl Try.underlying9 rfl (by omega)) rfl (by decide) fun a5 hF5 => ?_
        refine sq (v := (.int .i64 (c : Int))) hF5 (wantedS rfl) (run_cvI (r := (c : Int)) rfl (hF5.ev 15 rfl) Try.underlying5 Try.underlying3 (by rw [IntKind.wrap_i64]; omega)) rfl (by decide) fun a6 hF6 => ?_
        refine sq (v := (.int .i64 (c : Int))) hF6 (wantedS rfl) (run_as rfl (hF6.ev 16 rfl)) rfl (by decide) fun a7 hF7 => ?_
        refine sqEnd ?_
        clear hF3 hF4 hF5 hF6
        refine nx ?_
        refine wp_seq ?_
        refine wp_region_lit ?_
        refine sq (v := (.int .i64 (c : Int))) hF7 (wantedS rfl) (run_mv rfl (hF7.ev 7 rfl)) rfl (by decide) fun a8 hF8 => ?_
        refine sq (v := (.bool false)) hF8 (wantedS rfl) (run_lss rfl (hF8.ev 17 rfl) rfl (decide_eq_false (by omega))) rfl (by decide) fun a9 hF9 => ?_
        refine sqEnd ?_
        clear hF7 hF8
        refine nx ?_
        refine wp_cond_false (hF9.ev 18 rfl) ?_
        refine wp_seq ?_
        refine wp_seq ?_
        refine wp_region_lit ?_
        refine sq (v := (.string ⟨b2.toArray⟩)) hF9 (wantedS rfl) (run_mv rfl (hF9.ev 0 rfl)) rfl (by decide) fun a10 hF10 => ?_
        refine sq (v := (.int .i64 (b2.length : Int))) hF10 (wantedS rfl) (run_len rfl (hF10.ev 41 rfl) rfl Try.underlying9) rfl (by decide) fun a11 hF11 => ?_
        refine sq (v := (.bool false)) hF11 (wantedS rfl) (run_lss rfl (hF11.ev 42 rfl) rfl (decide_eq_false (by omega))) rfl (by decide) fun a12 hF12 => ?_
        refine sqEnd ?_
        clear hF9 hF10 hF11
        refine nx ?_
        refine wp_cond_false (hF12.ev 43 rfl) ?_
        refine wp_skip ?_
        refine nx ?_
        refine wp_seq ?_
        obtain ⟨KL, hKL⟩ : ∃ KL, KL = [kval (.string ⟨b2.toArray⟩), kval (.int .u8 ((bt b2 1).toNat : Int)), kval (.int .i64 ((bt b2 1).toNat : Int)), kval (.string ⟨b2.toArray⟩), kval (.int .u8 ((bt b2 2).toNat : Int)), kval (.int .i64 ((bt b2 2).toNat : Int)), kval (.int .i64 ((256 * (bt b2 2).toNat : Nat) : Int)), kval (.int .i64 (far : Int)), kval (.int .i64 (far : Int))] := ⟨_, rfl⟩
        have K0 : KL.getD 0 kany = kval (.string ⟨b2.toArray⟩) := by rw [hKL]; rfl
        have K1 : KL.getD 1 kany = kval (.int .u8 ((bt b2 1).toNat : Int)) := by rw [hKL]; rfl
        have K2 : KL.getD 2 kany = kval (.int .i64 ((bt b2 1).toNat : Int)) := by rw [hKL]; rfl
        have K3 : KL.getD 3 kany = kval (.string ⟨b2.toArray⟩) := by rw [hKL]; rfl
        have K4 : KL.getD 4 kany = kval (.int .u8 ((bt b2 2).toNat : Int)) := by rw [hKL]; rfl
        have K5 : KL.getD 5 kany = kval (.int .i64 ((bt b2 2).toNat : Int)) := by rw [hKL]; rfl
        have K6 : KL.getD 6 kany = kval (.int .i64 ((256 * (bt b2 2).toNat : Nat) : Int)) := by rw [hKL]; rfl
        have K7 : KL.getD 7 kany = kval (.int .i64 (far : Int)) := by rw [hKL]; rfl
        have K8 : KL.getD 8 kany = kval (.int .i64 (far : Int)) := by rw [hKL]; rfl
        clear hKL
        refine wp_region_kd 89 (by kernel_rfl) (by kernel_rfl) (by kernel_rfl) hF12.size KL ?_ ?_
        · refine ⟨?_, ?_, ?_, ?_, ?_, ?_, ?_, ?_, ?_, trivial⟩
          · refine asks_mk fun a W hS hh hd => ⟨wanted_yes rfl, ?_⟩
            exact giv_run (run_mv rfl (eval_tmp (hh 0 _ rfl (hF12.at 0 rfl)))) K0
          · refine asks_mk fun a W hS hh hd => ⟨wanted_yes rfl, ?_⟩
            exact giv_run (run_sAt (n := 1) rfl (eval_tmp (hd.val (j := 0) (s := 44) (by kernel_rfl) K0)) rfl Try.underlying9 rfl (by omega)) K1
          · refine asks_mk fun a W hS hh hd => ⟨wanted_yes rfl, ?_⟩
            exact giv_run (run_cvI (r := ((bt b2 1).toNat : Int)) rfl (eval_tmp (hd.val (j := 1) (s := 45) (by kernel_rfl) K1)) Try.underlying5 Try.underlying3 (by rw [IntKind.wrap_i64]; omega)) K2
          · refine asks_mk fun a W hS hh hd => ⟨wanted_yes rfl, ?_⟩
            exact giv_run (run_mv rfl (eval_tmp (hh 0 _ rfl (hF12.at 0 rfl)))) K3
          · refine asks_mk fun a W hS hh hd => ⟨wanted_yes rfl, ?_⟩
            exact giv_run (run_sAt (n := 2) rfl (eval_tmp (hd.val (j := 3) (s := 47) (by kernel_rfl) K3)) rfl Try.underlying9 rfl (by omega)) K4
          · refine asks_mk fun a W hS hh hd => ⟨wanted_yes rfl, ?_⟩
            exact giv_run (run_cvI (r := ((bt b2 2).toNat : Int)) rfl (eval_tmp (hd.val (j := 4) (s := 48) (by kernel_rfl) K4)) Try.underlying5 Try.underlying3 (by rw [IntKind.wrap_i64]; omega)) K5
          · refine asks_mk fun a W hS hh hd => ⟨wanted_yes rfl, ?_⟩
            exact giv_run (run_mul (r := ((256 * (bt b2 2).toNat : Nat) : Int)) rfl rfl (eval_tmp (hd.val (j := 5) (s := 49) (by kernel_rfl) K5)) (by rw [IntKind.wrap_i64]; omega)) K6
          · refine asks_mk fun a W hS hh hd => ⟨wanted_yes rfl, ?_⟩
            exact giv_run (run_add (r := (far : Int)) rfl (eval_tmp (hd.val (j := 2) (s := 46) (by kernel_rfl) K2)) (eval_tmp (hd.val (j := 6) (s := 50) (by kernel_rfl) K6)) (by rw [IntKind.wrap_i64]; omega)) K7
          · refine asks_mk fun a W hS hh hd => ⟨wanted_yes rfl, ?_⟩
            exact giv_run (run_as rfl (eval_tmp (hd.val (j := 7) (s := 51) (by kernel_rfl) K7))) K8
        · intro a13 w2 hb2 hK
          have e0 := hK.val (i := 0) (s := 44) (by kernel_rfl) K0
          have e1 := hK.val (i := 1) (s := 45) (by kernel_rfl) K1
          have e2 := hK.val (i := 2) (s := 46) (by kernel_rfl) K2
          have e3 := hK.val (i := 3) (s := 47) (by kernel_rfl) K3
          have e4 := hK.val (i := 4) (s := 48) (by kernel_rfl) K4
          have e5 := hK.val (i := 5) (s := 49) (by kernel_rfl) K5
          have e6 := hK.val (i := 6) (s := 50) (by kernel_rfl) K6
          have e7 := hK.val (i := 7) (s := 51) (by kernel_rfl) K7
          have e8 := hK.val (i := 8) (s := 8) (by kernel_rfl) K8
          have hF13 : Fr a13 89 [(0, (.string ⟨b2.toArray⟩)), (1, (.int .i64 most)), (6, (.string ⟨o2.toArray⟩)), (7, (.int .i64 (c : Int))), (8, (.int .i64 (far : Int))), (11, (.string ⟨b2.toArray⟩)), (12, (.int .i64 (b2.length : Int))), (13, (.bool true)), (14, (.string ⟨b2.toArray⟩)), (15, (.int .u8 ((bt b2 0).toNat : Int))), (16, (.int .i64 (c : Int))), (17, (.int .i64 (c : Int))), (18, (.bool false)), (41, (.string ⟨b2.toArray⟩)), (42, (.int .i64 (b2.length : Int))), (43, (.bool false))] := (hK.fr hF12 [(.string ⟨b2.toArray⟩), (.int .u8 ((bt b2 1).toNat : Int)), (.int .i64 ((bt b2 1).toNat : Int)), (.string ⟨b2.toArray⟩), (.int .u8 ((bt b2 2).toNat : Int)), (.int .i64 ((bt b2 2).toNat : Int)), (.int .i64 ((256 * (bt b2 2).toNat : Nat) : Int)), (.int .i64 (far : Int)), (.int .i64 (far : Int))] ⟨e0, e1, e2, e3, e4, e5, e6, e7, e8, trivial⟩).sub ⟨rfl, rfl, rfl, rfl, rfl, rfl, rfl, rfl, rfl, rfl, rfl, rfl, rfl, rfl, rfl, rfl, trivial⟩
          have hM1 := hM0.grow hb2
          clear hK K0 e0 K1 e1 K2 e2 K3 e3 K4 e4 K5 e5 K6 e6 K7 e7 K8 e8
          clear hF12 hM0
          refine nx ?_
          refine wp_seq ?_
          refine wp_seq ?_
          refine wp_region_lit ?_
          refine sq (v := (.int .i64 (far : Int))) hF13 (wantedS rfl) (run_mv rfl (hF13.ev 8 rfl)) rfl (by decide) fun a14 hF14 => ?_
          refine sq (v := (.bool true)) hF14 (wantedS rfl) (run_eqi rfl (hF14.ev 52 rfl) rfl (beq_iff_eq.2 (by omega))) rfl (by decide) fun a15 hF15 => ?_
          refine sq (v := (.bool true)) hF15 (wantedS rfl) (run_mv rfl (hF15.ev 53 rfl)) rfl (by decide) fun a16 hF16 => ?_
          refine sqSkip hF16 (unwantedG hF16 rfl rfl rfl rfl rfl) rfl (by decide) fun a17 hF17 => ?_
          refine sqSkip hF17 (unwantedG hF17 rfl rfl rfl rfl rfl) rfl (by decide) fun a18 hF18 => ?_
          refine sqSkip hF18 (unwantedG hF18 rfl rfl rfl rfl rfl) rfl (by decide) fun a19 hF19 => ?_
          refine sqSkip hF19 (unwantedG hF19 rfl rfl rfl rfl rfl) rfl (by decide) fun a20 hF20 => ?_
          refine sq (v := (.bool true)) hF20 (wantedS rfl) (run_pick rfl (hF20.ev 54 rfl) rfl (hF20.ev 58 rfl)) rfl (by decide) fun a21 hF21 => ?_
          refine sqEnd ?_
          clear hF13 hF14 hF15 hF16 hF17 hF18 hF19 hF20
          refine nx ?_
          refine wp_cond_true (hF21.ev 59 rfl) ?_
          refine wp_seq ?_
          refine wp_region_lit ?_
          refine sq (v := (.string ⟨List.toArray []⟩)) hF21 (wantedS rfl) (run_as rfl rfl) rfl (by decide) fun a22 hF22 => ?_
          refine sq (v := (.int .i64 3)) hF22 (wantedS rfl) (run_as rfl rfl) rfl (by decide) fun a23 hF23 => ?_
          refine sqEnd ?_
          clear hF21 hF22
          refine nx ?_
          refine wp_ret ?_
          refine nxRet ?_
          refine bkRet ?_
          refine nxRet ?_
          refine bkRet ?_
          refine nxRet ?_
          exact ret2 hF23 rfl rfl rfl ⟨by rw [hr], hM1.below⟩
      by_cases k4 : o2.length < far
      · have hr := hbad 3 (by decide) (by unfold tokS; rw [hc', if_neg k1, if_neg k2, hfar', if_pos (.inr k4)])
        refine wp_seq ?_
        refine wp_seq ?_
        refine wp_region_lit ?_
        refine sq (v := (.string ⟨b2.toArray⟩)) hF0 (wantedS rfl) (run_mv rfl (hF0.ev 0 rfl)) rfl (by decide) fun a1 hF1 => ?_
        refine sq (v := (.int .i64 (b2.length : Int))) hF1 (wantedS rfl) (run_len rfl (hF1.ev 11 rfl) rfl Try.underlying9) rfl (by decide) fun a2 hF2 => ?_
        refine sq (v := (.bool true)) hF2 (wantedS rfl) (run_gtr rfl (hF2.ev 12 rfl) rfl (decide_eq_true (by omega))) rfl (by decide) fun a3 hF3 => ?_
        refine sqEnd ?_
        clear hF0 hF1 hF2
        refine nx ?_
        refine wp_cond_true (hF3.ev 13 rfl) ?_
        refine wp_skip ?_
        refine nx ?_
        refine wp_block ?_
        refine wp_seq ?_
        refine wp_region_lit ?_
        refine sq (v := (.string ⟨b2.toArray⟩)) hF3 (wantedS rfl) (run_mv rfl (hF3.ev 0 rfl)) rfl (by decide) fun a4 hF4 => ?_
        refine sq (v := (.int .u8 ((bt b2 0).toNat : Int))) hF4 (wantedS rfl) (run_sAt (n := 0) rfl (hF4.ev 14 rfl) rfl Try.underlying9 rfl (by omega)) rfl (by decide) fun a5 hF5 => ?_
        refine sq (v := (.int .i64 (c : Int))) hF5 (wantedS rfl) (run_cvI (r := (c : Int)) rfl (hF5.ev 15 rfl) Try.underlying5 Try.underlying3 (by rw [IntKind.wrap_i64]; omega)) rfl (by decide) fun a6 hF6 => ?_
        refine sq (v := (.int .i64 (c : Int))) hF6 (wantedS rfl) (run_as rfl (hF6.ev 16 rfl)) rfl (by decide) fun a7 hF7 => ?_
        refine sqEnd ?_
        clear hF3 hF4 hF5 hF6
        refine nx ?_
        refine wp_seq ?_
        refine wp_region_lit ?_
        refine sq (v := (.int .i64 (c : Int))) hF7 (wantedS rfl) (run_mv rfl (hF7.ev 7 rfl)) rfl (by decide) fun a8 hF8 => ?_
        refine sq (v := (.bool false)) hF8 (wantedS rfl) (run_lss rfl (hF8.ev 17 rfl) rfl (decide_eq_false (by omega))) rfl (by decide) fun a9 hF9 => ?_
        refine sqEnd ?_
        clear hF7 hF8
        refine nx ?_
        refine wp_cond_false (hF9.ev 18 rfl) ?_
        refine wp_seq ?_
        refine wp_seq ?_
        refine wp_region_lit ?_
        refine sq (v := (.string ⟨b2.toArray⟩)) hF9 (wantedS rfl) (run_mv rfl (hF9.ev 0 rfl)) rfl (by decide) fun a10 hF10 => ?_
        refine sq (v := (.int .i64 (b2.length : Int))) hF10 (wantedS rfl) (run_len rfl (hF10.ev 41 rfl) rfl Try.underlying9) rfl (by decide) fun a11 hF11 => ?_
        refine sq (v := (.bool false)) hF11 (wantedS rfl) (run_lss rfl (hF11.ev 42 rfl) rfl (decide_eq_false (by omega))) rfl (by decide) fun a12 hF12 => ?_
        refine sqEnd ?_
        clear hF9 hF10 hF11
        refine nx ?_
        refine wp_cond_false (hF12.ev 43 rfl) ?_
        refine wp_skip ?_
        refine nx ?_
        refine wp_seq ?_
        obtain ⟨KL, hKL⟩ : ∃ KL, KL = [kval (.string ⟨b2.toArray⟩), kval (.int .u8 ((bt b2 1).toNat : Int)), kval (.int .i64 ((bt b2 1).toNat : Int)), kval (.string ⟨b2.toArray⟩), kval (.int .u8 ((bt b2 2).toNat : Int)), kval (.int .i64 ((bt b2 2).toNat : Int)), kval (.int .i64 ((256 * (bt b2 2).toNat : Nat) : Int)), kval (.int .i64 (far : Int)), kval (.int .i64 (far : Int))] := ⟨_, rfl⟩
        have K0 : KL.getD 0 kany = kval (.string ⟨b2.toArray⟩) := by rw [hKL]; rfl
        have K1 : KL.getD 1 kany = kval (.int .u8 ((bt b2 1).toNat : Int)) := by rw [hKL]; rfl
        have K2 : KL.getD 2 kany = kval (.int .i64 ((bt b2 1).toNat : Int)) := by rw [hKL]; rfl
        have K3 : KL.getD 3 kany = kval (.string ⟨b2.toArray⟩) := by rw [hKL]; rfl
        have K4 : KL.getD 4 kany = kval (.int .u8 ((bt b2 2).toNat : Int)) := by rw [hKL]; rfl
        have K5 : KL.getD 5 kany = kval (.int .i64 ((bt b2 2).toNat : Int)) := by rw [hKL]; rfl
        have K6 : KL.getD 6 kany = kval (.int .i64 ((256 * (bt b2 2).toNat : Nat) : Int)) := by rw [hKL]; rfl
        have K7 : KL.getD 7 kany = kval (.int .i64 (far : Int)) := by rw [hKL]; rfl
        have K8 : KL.getD 8 kany = kval (.int .i64 (far : Int)) := by rw [hKL]; rfl
        clear hKL
        refine wp_region_kd 89 (by kernel_rfl) (by kernel_rfl) (by kernel_rfl) hF12.size KL ?_ ?_
        · refine ⟨?_, ?_, ?_, ?_, ?_, ?_, ?_, ?_, ?_, trivial⟩
          · refine asks_mk fun a W hS hh hd => ⟨wanted_yes rfl, ?_⟩
            exact giv_run (run_mv rfl (eval_tmp (hh 0 _ rfl (hF12.at 0 rfl)))) K0
          · refine asks_mk fun a W hS hh hd => ⟨wanted_yes rfl, ?_⟩
            exact giv_run (run_sAt (n := 1) rfl (eval_tmp (hd.val (j := 0) (s := 44) (by kernel_rfl) K0)) rfl Try.underlying9 rfl (by omega)) K1
          · refine asks_mk fun a W hS hh hd => ⟨wanted_yes rfl, ?_⟩
            exact giv_run (run_cvI (r := ((bt b2 1).toNat : Int)) rfl (eval_tmp (hd.val (j := 1) (s := 45) (by kernel_rfl) K1)) Try.underlying5 Try.underlying3 (by rw [IntKind.wrap_i64]; omega)) K2
          · refine asks_mk fun a W hS hh hd => ⟨wanted_yes rfl, ?_⟩
            exact giv_run (run_mv rfl (eval_tmp (hh 0 _ rfl (hF12.at 0 rfl)))) K3
          · refine asks_mk fun a W hS hh hd => ⟨wanted_yes rfl, ?_⟩
            exact giv_run (run_sAt (n := 2) rfl (eval_tmp (hd.val (j := 3) (s := 47) (by kernel_rfl) K3)) rfl Try.underlying9 rfl (by omega)) K4
          · refine asks_mk fun a W hS hh hd => ⟨wanted_yes rfl, ?_⟩
            exact giv_run (run_cvI (r := ((bt b2 2).toNat : Int)) rfl (eval_tmp (hd.val (j := 4) (s := 48) (by kernel_rfl) K4)) Try.underlying5 Try.underlying3 (by rw [IntKind.wrap_i64]; omega)) K5
          · refine asks_mk fun a W hS hh hd => ⟨wanted_yes rfl, ?_⟩
            exact giv_run (run_mul (r := ((256 * (bt b2 2).toNat : Nat) : Int)) rfl rfl (eval_tmp (hd.val (j := 5) (s := 49) (by kernel_rfl) K5)) (by rw [IntKind.wrap_i64]; omega)) K6
          · refine asks_mk fun a W hS hh hd => ⟨wanted_yes rfl, ?_⟩
            exact giv_run (run_add (r := (far : Int)) rfl (eval_tmp (hd.val (j := 2) (s := 46) (by kernel_rfl) K2)) (eval_tmp (hd.val (j := 6) (s := 50) (by kernel_rfl) K6)) (by rw [IntKind.wrap_i64]; omega)) K7
          · refine asks_mk fun a W hS hh hd => ⟨wanted_yes rfl, ?_⟩
            exact giv_run (run_as rfl (eval_tmp (hd.val (j := 7) (s := 51) (by kernel_rfl) K7))) K8
        · intro a13 w2 hb2 hK
          have e0 := hK.val (i := 0) (s := 44) (by kernel_rfl) K0
          have e1 := hK.val (i := 1) (s := 45) (by kernel_rfl) K1
          have e2 := hK.val (i := 2) (s := 46) (by kernel_rfl) K2
          have e3 := hK.val (i := 3) (s := 47) (by kernel_rfl) K3
          have e4 := hK.val (i := 4) (s := 48) (by kernel_rfl) K4
          have e5 := hK.val (i := 5) (s := 49) (by kernel_rfl) K5
          have e6 := hK.val (i := 6) (s := 50) (by kernel_rfl) K6
          have e7 := hK.val (i := 7) (s := 51) (by kernel_rfl) K7
          have e8 := hK.val (i := 8) (s := 8) (by kernel_rfl) K8
          have hF13 : Fr a13 89 [(0, (.string ⟨b2.toArray⟩)), (1, (.int .i64 most)), (6, (.string ⟨o2.toArray⟩)), (7, (.int .i64 (c : Int))), (8, (.int .i64 (far : Int))), (11, (.string ⟨b2.toArray⟩)), (12, (.int .i64 (b2.length : Int))), (13, (.bool true)), (14, (.string ⟨b2.toArray⟩)), (15, (.int .u8 ((bt b2 0).toNat : Int))), (16, (.int .i64 (c : Int))), (17, (.int .i64 (c : Int))), (18, (.bool false)), (41, (.string ⟨b2.toArray⟩)), (42, (.int .i64 (b2.length : Int))), (43, (.bool false))] := (hK.fr hF12 [(.string ⟨b2.toArray⟩), (.int .u8 ((bt b2 1).toNat : Int)), (.int .i64 ((bt b2 1).toNat : Int)), (.string ⟨b2.toArray⟩), (.int .u8 ((bt b2 2).toNat : Int)), (.int .i64 ((bt b2 2).toNat : Int)), (.int .i64 ((256 * (bt b2 2).toNat : Nat) : Int)), (.int .i64 (far : Int)), (.int .i64 (far : Int))] ⟨e0, e1, e2, e3, e4, e5, e6, e7, e8, trivial⟩).sub ⟨rfl, rfl, rfl, rfl, rfl, rfl, rfl, rfl, rfl, rfl, rfl, rfl, rfl, rfl, rfl, rfl, trivial⟩
          have hM1 := hM0.grow hb2
          clear hK K0 e0 K1 e1 K2 e2 K3 e3 K4 e4 K5 e5 K6 e6 K7 e7 K8 e8
          clear hF12 hM0
          refine nx ?_
          refine wp_seq ?_
          refine wp_seq ?_
          refine wp_region_lit ?_
          refine sq (v := (.int .i64 (far : Int))) hF13 (wantedS rfl) (run_mv rfl (hF13.ev 8 rfl)) rfl (by decide) fun a14 hF14 => ?_
          refine sq (v := (.bool false)) hF14 (wantedS rfl) (run_eqi rfl (hF14.ev 52 rfl) rfl (beq_eq_false_iff_ne.2 (by omega))) rfl (by decide) fun a15 hF15 => ?_
          refine sq (v := (.bool false)) hF15 (wantedS rfl) (run_mv rfl (hF15.ev 53 rfl)) rfl (by decide) fun a16 hF16 => ?_
          refine sq (v := (.int .i64 (far : Int))) hF16 (wantedG hF16 rfl rfl rfl rfl rfl) (run_mv rfl (hF16.ev 8 rfl)) rfl (by decide) fun a17 hF17 => ?_
          refine sq (v := (.string ⟨o2.toArray⟩)) hF17 (wantedG hF17 rfl rfl rfl rfl rfl) (run_mv rfl (hF17.ev 6 rfl)) rfl (by decide) fun a18 hF18 => ?_
          refine sq (v := (.int .i64 (o2.length : Int))) hF18 (wantedG hF18 rfl rfl rfl rfl rfl) (run_len rfl (hF18.ev 56 rfl) rfl Try.underlying9) rfl (by decide) fun a19 hF19 => ?_
          refine sq (v := (.bool true)) hF19 (wantedG hF19 rfl rfl rfl rfl rfl) (run_gtr rfl (hF19.ev 55 rfl) (hF19.ev 57 rfl) (decide_eq_true (by omega))) rfl (by decide) fun a20 hF20 => ?_
          refine sq (v := (.bool true)) hF20 (wantedS rfl) (run_pick rfl (hF20.ev 54 rfl) rfl (hF20.ev 58 rfl)) rfl (by decide) fun a21 hF21 => ?_
          refine sqEnd ?_
          clear hF13 hF14 hF15 hF16 hF17 hF18 hF19 hF20
          refine nx ?_
          refine wp_cond_true (hF21.ev 59 rfl) ?_
          refine wp_seq ?_
          refine wp_region_lit ?_
          refine sq (v := (.string ⟨List.toArray []⟩)) hF21 (wantedS rfl) (run_as rfl rfl) rfl (by decide) fun a22 hF22 => ?_
          refine sq (v := (.int .i64 3)) hF22 (wantedS rfl) (run_as rfl rfl) rfl (by decide) fun a23 hF23 => ?_
          refine sqEnd ?_
          clear hF21 hF22
          refine nx ?_
          refine wp_ret ?_
          refine nxRet ?_
          refine bkRet ?_
          refine nxRet ?_
          refine bkRet ?_
          refine nxRet ?_
          exact ret2 hF23 rfl rfl rfl ⟨by rw [hr], hM1.below⟩
      have k5 : ¬ (far = 0 ∨ o2.length < far) := by omega
      by_cases k6 : most < o2.length + (c - 124 : Nat)
      · have hr := hbad 6 (by decide) (by unfold tokS; rw [hc', if_neg k1, if_neg k2, hfar', if_neg k5, if_pos k6])
        refine wp_seq ?_
        refine wp_seq ?_
        refine wp_region_lit ?_
        refine sq (v := (.string ⟨b2.toArray⟩)) hF0 (wantedS rfl) (run_mv rfl (hF0.ev 0 rfl)) rfl (by decide) fun a1 hF1 => ?_
        refine sq (v := (.int .i64 (b2.length : Int))) hF1 (wantedS rfl) (run_len rfl (hF1.ev 11 rfl) rfl Try.underlying9) rfl (by decide) fun a2 hF2 => ?_
        refine sq (v := (.bool true)) hF2 (wantedS rfl) (run_gtr rfl (hF2.ev 12 rfl) rfl (decide_eq_true (by omega))) rfl (by decide) fun a3 hF3 => ?_
        refine sqEnd ?_
        clear hF0 hF1 hF2
        refine nx ?_
        refine wp_cond_true (hF3.ev 13 rfl) ?_
        refine wp_skip ?_
        refine nx ?_
        refine wp_block ?_
        refine wp_seq ?_
        refine wp_region_lit ?_
        refine sq (v := (.string ⟨b2.toArray⟩)) hF3 (wantedS rfl) (run_mv rfl (hF3.ev 0 rfl)) rfl (by decide) fun a4 hF4 => ?_
        refine sq (v := (.int .u8 ((bt b2 0).toNat : Int))) hF4 (wantedS rfl) (run_sAt (n := 0) rfl (hF4.ev 14 rfl) rfl Try.underlying9 rfl (by omega)) rfl (by decide) fun a5 hF5 => ?_
        refine sq (v := (.int .i64 (c : Int))) hF5 (wantedS rfl) (run_cvI (r := (c : Int)) rfl (hF5.ev 15 rfl) Try.underlying5 Try.underlying3 (by rw [IntKind.wrap_i64]; omega)) rfl (by decide) fun a6 hF6 => ?_
        refine sq (v := (.int .i64 (c : Int))) hF6 (wantedS rfl) (run_as rfl (hF6.ev 16 rfl)) rfl (by decide) fun a7 hF7 => ?_
        refine sqEnd ?_
        clear hF3 hF4 hF5 hF6
        refine nx ?_
        refine wp_seq ?_
        refine wp_region_lit ?_
        refine sq (v := (.int .i64 (c : Int))) hF7 (wantedS rfl) (run_mv rfl (hF7.ev 7 rfl)) rfl (by decide) fun a8 hF8 => ?_
        refine sq (v := (.bool false)) hF8 (wantedS rfl) (run_lss rfl (hF8.ev 17 rfl) rfl (decide_eq_false (by omega))) rfl (by decide) fun a9 hF9 => ?_
        refine sqEnd ?_
        clear hF7 hF8
        refine nx ?_
        refine wp_cond_false (hF9.ev 18 rfl) ?_
        refine wp_seq ?_
        refine wp_seq ?_
        refine wp_region_lit ?_
        refine sq (v := (.string ⟨b2.toArray⟩)) hF9 (wantedS rfl) (run_mv rfl (hF9.ev 0 rfl)) rfl (by decide) fun a10 hF10 => ?_
        refine sq (v := (.int .i64 (b2.length : Int))) hF10 (wantedS rfl) (run_len rfl (hF10.ev 41 rfl) rfl Try.underlying9) rfl (by decide) fun a11 hF11 => ?_
        refine sq (v := (.bool false)) hF11 (wantedS rfl) (run_lss rfl (hF11.ev 42 rfl) rfl (decide_eq_false (by omega))) rfl (by decide) fun a12 hF12 => ?_
        refine sqEnd ?_
        clear hF9 hF10 hF11
        refine nx ?_
        refine wp_cond_false (hF12.ev 43 rfl) ?_
        refine wp_skip ?_
        refine nx ?_
        refine wp_seq ?_
        obtain ⟨KL, hKL⟩ : ∃ KL, KL = [kval (.string ⟨b2.toArray⟩), kval (.int .u8 ((bt b2 1).toNat : Int)), kval (.int .i64 ((bt b2 1).toNat : Int)), kval (.string ⟨b2.toArray⟩), kval (.int .u8 ((bt b2 2).toNat : Int)), kval (.int .i64 ((bt b2 2).toNat : Int)), kval (.int .i64 ((256 * (bt b2 2).toNat : Nat) : Int)), kval (.int .i64 (far : Int)), kval (.int .i64 (far : Int))] := ⟨_, rfl⟩
        have K0 : KL.getD 0 kany = kval (.string ⟨b2.toArray⟩) := by rw [hKL]; rfl
        have K1 : KL.getD 1 kany = kval (.int .u8 ((bt b2 1).toNat : Int)) := by rw [hKL]; rfl
        have K2 : KL.getD 2 kany = kval (.int .i64 ((bt b2 1).toNat : Int)) := by rw [hKL]; rfl
        have K3 : KL.getD 3 kany = kval (.string ⟨b2.toArray⟩) := by rw [hKL]; rfl
        have K4 : KL.getD 4 kany = kval (.int .u8 ((bt b2 2).toNat : Int)) := by rw [hKL]; rfl
        have K5 : KL.getD 5 kany = kval (.int .i64 ((bt b2 2).toNat : Int)) := by rw [hKL]; rfl
        have K6 : KL.getD 6 kany = kval (.int .i64 ((256 * (bt b2 2).toNat : Nat) : Int)) := by rw [hKL]; rfl
        have K7 : KL.getD 7 kany = kval (.int .i64 (far : Int)) := by rw [hKL]; rfl
        have K8 : KL.getD 8 kany = kval (.int .i64 (far : Int)) := by rw [hKL]; rfl
        clear hKL
        refine wp_region_kd 89 (by kernel_rfl) (by kernel_rfl) (by kernel_rfl) hF12.size KL ?_ ?_
        · refine ⟨?_, ?_, ?_, ?_, ?_, ?_, ?_, ?_, ?_, trivial⟩
          · refine asks_mk fun a W hS hh hd => ⟨wanted_yes rfl, ?_⟩
            exact giv_run (run_mv rfl (eval_tmp (hh 0 _ rfl (hF12.at 0 rfl)))) K0
          · refine asks_mk fun a W hS hh hd => ⟨wanted_yes rfl, ?_⟩
            exact giv_run (run_sAt (n := 1) rfl (eval_tmp (hd.val (j := 0) (s := 44) (by kernel_rfl) K0)) rfl Try.underlying9 rfl (by omega)) K1
          · refine asks_mk fun a W hS hh hd => ⟨wanted_yes rfl, ?_⟩
            exact giv_run (run_cvI (r := ((bt b2 1).toNat : Int)) rfl (eval_tmp (hd.val (j := 1) (s := 45) (by kernel_rfl) K1)) Try.underlying5 Try.underlying3 (by rw [IntKind.wrap_i64]; omega)) K2
          · refine asks_mk fun a W hS hh hd => ⟨wanted_yes rfl, ?_⟩
            exact giv_run (run_mv rfl (eval_tmp (hh 0 _ rfl (hF12.at 0 rfl)))) K3
          · refine asks_mk fun a W hS hh hd => ⟨wanted_yes rfl, ?_⟩
            exact giv_run (run_sAt (n := 2) rfl (eval_tmp (hd.val (j := 3) (s := 47) (by kernel_rfl) K3)) rfl Try.underlying9 rfl (by omega)) K4
          · refine asks_mk fun a W hS hh hd => ⟨wanted_yes rfl, ?_⟩
            exact giv_run (run_cvI (r := ((bt b2 2).toNat : Int)) rfl (eval_tmp (hd.val (j := 4) (s := 48) (by kernel_rfl) K4)) Try.underlying5 Try.underlying3 (by rw [IntKind.wrap_i64]; omega)) K5
          · refine asks_mk fun a W hS hh hd => ⟨wanted_yes rfl, ?_⟩
            exact giv_run (run_mul (r := ((256 * (bt b2 2).toNat : Nat) : Int)) rfl rfl (eval_tmp (hd.val (j := 5) (s := 49) (by kernel_rfl) K5)) (by rw [IntKind.wrap_i64]; omega)) K6
          · refine asks_mk fun a W hS hh hd => ⟨wanted_yes rfl, ?_⟩
            exact giv_run (run_add (r := (far : Int)) rfl (eval_tmp (hd.val (j := 2) (s := 46) (by kernel_rfl) K2)) (eval_tmp (hd.val (j := 6) (s := 50) (by kernel_rfl) K6)) (by rw [IntKind.wrap_i64]; omega)) K7
          · refine asks_mk fun a W hS hh hd => ⟨wanted_yes rfl, ?_⟩
            exact giv_run (run_as rfl (eval_tmp (hd.val (j := 7) (s := 51) (by kernel_rfl) K7))) K8
        · intro a13 w2 hb2 hK
          have e0 := hK.val (i := 0) (s := 44) (by kernel_rfl) K0
          have e1 := hK.val (i := 1) (s := 45) (by kernel_rfl) K1
          have e2 := hK.val (i := 2) (s := 46) (by kernel_rfl) K2
          have e3 := hK.val (i := 3) (s := 47) (by kernel_rfl) K3
          have e4 := hK.val (i := 4) (s := 48) (by kernel_rfl) K4
          have e5 := hK.val (i := 5) (s := 49) (by kernel_rfl) K5
          have e6 := hK.val (i := 6) (s := 50) (by kernel_rfl) K6
          have e7 := hK.val (i := 7) (s := 51) (by kernel_rfl) K7
          have e8 := hK.val (i := 8) (s := 8) (by kernel_rfl) K8
          have hF13 : Fr a13 89 [(0, (.string ⟨b2.toArray⟩)), (1, (.int .i64 most)), (6, (.string ⟨o2.toArray⟩)), (7, (.int .i64 (c : Int))), (8, (.int .i64 (far : Int))), (11, (.string ⟨b2.toArray⟩)), (12, (.int .i64 (b2.length : Int))), (13, (.bool true)), (14, (.string ⟨b2.toArray⟩)), (15, (.int .u8 ((bt b2 0).toNat : Int))), (16, (.int .i64 (c : Int))), (17, (.int .i64 (c : Int))), (18, (.bool false)), (41, (.string ⟨b2.toArray⟩)), (42, (.int .i64 (b2.length : Int))), (43, (.bool false))] := (hK.fr hF12 [(.string ⟨b2.toArray⟩), (.int .u8 ((bt b2 1).toNat : Int)), (.int .i64 ((bt b2 1).toNat : Int)), (.string ⟨b2.toArray⟩), (.int .u8 ((bt b2 2).toNat : Int)), (.int .i64 ((bt b2 2).toNat : Int)), (.int .i64 ((256 * (bt b2 2).toNat : Nat) : Int)), (.int .i64 (far : Int)), (.int .i64 (far : Int))] ⟨e0, e1, e2, e3, e4, e5, e6, e7, e8, trivial⟩).sub ⟨rfl, rfl, rfl, rfl, rfl, rfl, rfl, rfl, rfl, rfl, rfl, rfl, rfl, rfl, rfl, rfl, trivial⟩
          have hM1 := hM0.grow hb2
          clear hK K0 e0 K1 e1 K2 e2 K3 e3 K4 e4 K5 e5 K6 e6 K7 e7 K8 e8
          clear hF12 hM0
          refine nx ?_
          refine wp_seq ?_
          refine wp_seq ?_
          refine wp_region_lit ?_
          refine sq (v := (.int .i64 (far : Int))) hF13 (wantedS rfl) (run_mv rfl (hF13.ev 8 rfl)) rfl (by decide) fun a14 hF14 => ?_
          refine sq (v := (.bool false)) hF14 (wantedS rfl) (run_eqi rfl (hF14.ev 52 rfl) rfl (beq_eq_false_iff_ne.2 (by omega))) rfl (by decide) fun a15 hF15 => ?_
          refine sq (v := (.bool false)) hF15 (wantedS rfl) (run_mv rfl (hF15.ev 53 rfl)) rfl (by decide) fun a16 hF16 => ?_
          refine sq (v := (.int .i64 (far : Int))) hF16 (wantedG hF16 rfl rfl rfl rfl rfl) (run_mv rfl (hF16.ev 8 rfl)) rfl (by decide) fun a17 hF17 => ?_
          refine sq (v := (.string ⟨o2.toArray⟩)) hF17 (wantedG hF17 rfl rfl rfl rfl rfl) (run_mv rfl (hF17.ev 6 rfl)) rfl (by decide) fun a18 hF18 => ?_
          refine sq (v := (.int .i64 (o2.length : Int))) hF18 (wantedG hF18 rfl rfl rfl rfl rfl) (run_len rfl (hF18.ev 56 rfl) rfl Try.underlying9) rfl (by decide) fun a19 hF19 => ?_
          refine sq (v := (.bool false)) hF19 (wantedG hF19 rfl rfl rfl rfl rfl) (run_gtr rfl (hF19.ev 55 rfl) (hF19.ev 57 rfl) (decide_eq_false (by omega))) rfl (by decide) fun a20 hF20 => ?_
          refine sq (v := (.bool false)) hF20 (wantedS rfl) (run_pick rfl (hF20.ev 54 rfl) rfl (hF20.ev 58 rfl)) rfl (by decide) fun a21 hF21 => ?_
          refine sqEnd ?_
          clear hF13 hF14 hF15 hF16 hF17 hF18 hF19 hF20
          refine nx ?_
          refine wp_cond_false (hF21.ev 59 rfl) ?_
          refine wp_skip ?_
          refine nx ?_
          refine wp_seq ?_
          refine wp_seq ?_
          refine wp_region_lit ?_
          refine sq (v := (.string ⟨o2.toArray⟩)) hF21 (wantedS rfl) (run_mv rfl (hF21.ev 6 rfl)) rfl (by decide) fun a22 hF22 => ?_
          refine sq (v := (.int .i64 (o2.length : Int))) hF22 (wantedS rfl) (run_len rfl (hF22.ev 60 rfl) rfl Try.underlying9) rfl (by decide) fun a23 hF23 => ?_
          refine sq (v := (.int .i64 (c : Int))) hF23 (wantedS rfl) (run_mv rfl (hF23.ev 7 rfl)) rfl (by decide) fun a24 hF24 => ?_
          refine sq (v := (.int .i64 ((o2.length : Int) + (c : Int)))) hF24 (wantedS rfl) (run_add (r := (o2.length : Int) + (c : Int)) rfl (hF24.ev 61 rfl) (hF24.ev 62 rfl) (by rw [IntKind.wrap_i64]; omega)) rfl (by decide) fun a25 hF25 => ?_
          refine sq (v := (.int .i64 (((o2.length : Int) + (c : Int)) - 124))) hF25 (wantedS rfl) (run_sub (r := ((o2.length : Int) + (c : Int)) - 124) rfl (hF25.ev 63 rfl) rfl (by rw [IntKind.wrap_i64]; omega)) rfl (by decide) fun a26 hF26 => ?_
          refine sq (v := (.int .i64 most)) hF26 (wantedS rfl) (run_mv rfl (hF26.ev 1 rfl)) rfl (by decide) fun a27 hF27 => ?_
          refine sq (v := (.bool true)) hF27 (wantedS rfl) (run_gtr rfl (hF27.ev 64 rfl) (hF27.ev 65 rfl) (decide_eq_true (by omega))) rfl (by decide) fun a28 hF28 => ?_
          refine sqEnd ?_
          clear hF21 hF22 hF23 hF24 hF25 hF26 hF27
          refine nx ?_
          refine wp_cond_true (hF28.ev 66 rfl) ?_
          refine wp_seq ?_
          refine wp_region_lit ?_
          refine sq (v := (.string ⟨List.toArray []⟩)) hF28 (wantedS rfl) (run_as rfl rfl) rfl (by decide) fun a29 hF29 => ?_
          refine sq (v := (.int .i64 6)) hF29 (wantedS rfl) (run_as rfl rfl) rfl (by decide) fun a30 hF30 => ?_
          refine sqEnd ?_
          clear hF28 hF29
          refine nx ?_
          refine wp_ret ?_
          refine nxRet ?_
          refine bkRet ?_
          refine nxRet ?_
          refine bkRet ?_
          refine nxRet ?_
          exact ret2 hF30 rfl rfl rfl ⟨by rw [hr], hM1.below⟩
      have hres : tokS o2 b2 most = (0, copyS o2 far (c - 124), 3) := by unfold tokS; rw [hc', if_neg k1, if_neg k2, hfar', if_neg k5, if_neg k6]
      rw [hres, if_neg (by simp)] at he
      refine wp_seq ?_
      refine wp_seq ?_
      refine wp_region_lit ?_
      refine sq (v := (.string ⟨b2.toArray⟩)) hF0 (wantedS rfl) (run_mv rfl (hF0.ev 0 rfl)) rfl (by decide) fun a1 hF1 => ?_
      refine sq (v := (.int .i64 (b2.length : Int))) hF1 (wantedS rfl) (run_len rfl (hF1.ev 11 rfl) rfl Try.underlying9) rfl (by decide) fun a2 hF2 => ?_
      refine sq (v := (.bool true)) hF2 (wantedS rfl) (run_gtr rfl (hF2.ev 12 rfl) rfl (decide_eq_true (by omega))) rfl (by decide) fun a3 hF3 => ?_
      refine sqEnd ?_
      clear hF0 hF1 hF2
      refine nx ?_
      refine wp_cond_true (hF3.ev 13 rfl) ?_
      refine wp_skip ?_
      refine nx ?_
      refine wp_block ?_
      refine wp_seq ?_
      refine wp_region_lit ?_
      refine sq (v := (.string ⟨b2.toArray⟩)) hF3 (wantedS rfl) (run_mv rfl (hF3.ev 0 rfl)) rfl (by decide) fun a4 hF4 => ?_
      refine sq (v := (.int .u8 ((bt b2 0).toNat : Int))) hF4 (wantedS rfl) (run_sAt (n := 0) rfl (hF4.ev 14 rfl) rfl Try.underlying9 rfl (by omega)) rfl (by decide) fun a5 hF5 => ?_
      refine sq (v := (.int .i64 (c : Int))) hF5 (wantedS rfl) (run_cvI (r := (c : Int)) rfl (hF5.ev 15 rfl) Try.underlying5 Try.underlying3 (by rw [IntKind.wrap_i64]; omega)) rfl (by decide) fun a6 hF6 => ?_
      refine sq (v := (.int .i64 (c : Int))) hF6 (wantedS rfl) (run_as rfl (hF6.ev 16 rfl)) rfl (by decide) fun a7 hF7 => ?_
      refine sqEnd ?_
      clear hF3 hF4 hF5 hF6
      refine nx ?_
      refine wp_seq ?_
      refine wp_region_lit ?_
      refine sq (v := (.int .i64 (c : Int))) hF7 (wantedS rfl) (run_mv rfl (hF7.ev 7 rfl)) rfl (by decide) fun a8 hF8 => ?_
      refine sq (v := (.bool false)) hF8 (wantedS rfl) (run_lss rfl (hF8.ev 17 rfl) rfl (decide_eq_false (by omega))) rfl (by decide) fun a9 hF9 => ?_
      refine sqEnd ?_
      clear hF7 hF8
      refine nx ?_
      refine wp_cond_false (hF9.ev 18 rfl) ?_
      refine wp_seq ?_
      refine wp_seq ?_
      refine wp_region_lit ?_
      refine sq (v := (.string ⟨b2.toArray⟩)) hF9 (wantedS rfl) (run_mv rfl (hF9.ev 0 rfl)) rfl (by decide) fun a10 hF10 => ?_
      refine sq (v := (.int .i64 (b2.length : Int))) hF10 (wantedS rfl) (run_len rfl (hF10.ev 41 rfl) rfl Try.underlying9) rfl (by decide) fun a11 hF11 => ?_
      refine sq (v := (.bool false)) hF11 (wantedS rfl) (run_lss rfl (hF11.ev 42 rfl) rfl (decide_eq_false (by omega))) rfl (by decide) fun a12 hF12 => ?_
      refine sqEnd ?_
      clear hF9 hF10 hF11
      refine nx ?_
      refine wp_cond_false (hF12.ev 43 rfl) ?_
      refine wp_skip ?_
      refine nx ?_
      refine wp_seq ?_
      obtain ⟨KL, hKL⟩ : ∃ KL, KL = [kval (.string ⟨b2.toArray⟩), kval (.int .u8 ((bt b2 1).toNat : Int)), kval (.int .i64 ((bt b2 1).toNat : Int)), kval (.string ⟨b2.toArray⟩), kval (.int .u8 ((bt b2 2).toNat : Int)), kval (.int .i64 ((bt b2 2).toNat : Int)), kval (.int .i64 ((256 * (bt b2 2).toNat : Nat) : Int)), kval (.int .i64 (far : Int)), kval (.int .i64 (far : Int))] := ⟨_, rfl⟩
      have K0 : KL.getD 0 kany = kval (.string ⟨b2.toArray⟩) := by rw [hKL]; rfl
      have K1 : KL.getD 1 kany = kval (.int .u8 ((bt b2 1).toNat : Int)) := by rw [hKL]; rfl
      have K2 : KL.getD 2 kany = kval (.int .i64 ((bt b2 1).toNat : Int)) := by rw [hKL]; rfl
      have K3 : KL.getD 3 kany = kval (.string ⟨b2.toArray⟩) := by rw [hKL]; rfl
      have K4 : KL.getD 4 kany = kval (.int .u8 ((bt b2 2).toNat : Int)) := by rw [hKL]; rfl
      have K5 : KL.getD 5 kany = kval (.int .i64 ((bt b2 2).toNat : Int)) := by rw [hKL]; rfl
      have K6 : KL.getD 6 kany = kval (.int .i64 ((256 * (bt b2 2).toNat : Nat) : Int)) := by rw [hKL]; rfl
      have K7 : KL.getD 7 kany = kval (.int .i64 (far : Int)) := by rw [hKL]; rfl
      have K8 : KL.getD 8 kany = kval (.int .i64 (far : Int)) := by rw [hKL]; rfl
      clear hKL
      refine wp_region_kd 89 (by kernel_rfl) (by kernel_rfl) (by kernel_rfl) hF12.size KL ?_ ?_
      · refine ⟨?_, ?_, ?_, ?_, ?_, ?_, ?_, ?_, ?_, trivial⟩
        · refine asks_mk fun a W hS hh hd => ⟨wanted_yes rfl, ?_⟩
          exact giv_run (run_mv rfl (eval_tmp (hh 0 _ rfl (hF12.at 0 rfl)))) K0
        · refine asks_mk fun a W hS hh hd => ⟨wanted_yes rfl, ?_⟩
          exact giv_run (run_sAt (n := 1) rfl (eval_tmp (hd.val (j := 0) (s := 44) (by kernel_rfl) K0)) rfl Try.underlying9 rfl (by omega)) K1
        · refine asks_mk fun a W hS hh hd => ⟨wanted_yes rfl, ?_⟩
          exact giv_run (run_cvI (r := ((bt b2 1).toNat : Int)) rfl (eval_tmp (hd.val (j := 1) (s := 45) (by kernel_rfl) K1)) Try.underlying5 Try.underlying3 (by rw [IntKind.wrap_i64]; omega)) K2
        · refine asks_mk fun a W hS hh hd => ⟨wanted_yes rfl, ?_⟩
          exact giv_run (run_mv rfl (eval_tmp (hh 0 _ rfl (hF12.at 0 rfl)))) K3
        · refine asks_mk fun a W hS hh hd => ⟨wanted_yes rfl, ?_⟩
          exact giv_run (run_sAt (n := 2) rfl (eval_tmp (hd.val (j := 3) (s := 47) (by kernel_rfl) K3)) rfl Try.underlying9 rfl (by omega)) K4
        · refine asks_mk fun a W hS hh hd => ⟨wanted_yes rfl, ?_⟩
          exact giv_run (run_cvI (r := ((bt b2 2).toNat : Int)) rfl (eval_tmp (hd.val (j := 4) (s := 48) (by kernel_rfl) K4)) Try.underlying5 Try.underlying3 (by rw [IntKind.wrap_i64]; omega)) K5
        · refine asks_mk fun a W hS hh hd => ⟨wanted_yes rfl, ?_⟩
          exact giv_run (run_mul (r := ((256 * (bt b2 2).toNat : Nat) : Int)) rfl rfl (eval_tmp (hd.val (j := 5) (s := 49) (by kernel_rfl) K5)) (by rw [IntKind.wrap_i64]; omega)) K6
        · refine asks_mk fun a W hS hh hd => ⟨wanted_yes rfl, ?_⟩
          exact giv_run (run_add (r := (far : Int)) rfl (eval_tmp (hd.val (j := 2) (s := 46) (by kernel_rfl) K2)) (eval_tmp (hd.val (j := 6) (s := 50) (by kernel_rfl) K6)) (by rw [IntKind.wrap_i64]; omega)) K7
        · refine asks_mk fun a W hS hh hd => ⟨wanted_yes rfl, ?_⟩
          exact giv_run (run_as rfl (eval_tmp (hd.val (j := 7) (s := 51) (by kernel_rfl) K7))) K8
      · intro a13 w2 hb2 hK
        have e0 := hK.val (i := 0) (s := 44) (by kernel_rfl) K0
        have e1 := hK.val (i := 1) (s := 45) (by kernel_rfl) K1
        have e2 := hK.val (i := 2) (s := 46) (by kernel_rfl) K2
        have e3 := hK.val (i := 3) (s := 47) (by kernel_rfl) K3
        have e4 := hK.val (i := 4) (s := 48) (by kernel_rfl) K4
        have e5 := hK.val (i := 5) (s := 49) (by kernel_rfl) K5
        have e6 := hK.val (i := 6) (s := 50) (by kernel_rfl) K6
        have e7 := hK.val (i := 7) (s := 51) (by kernel_rfl) K7
        have e8 := hK.val (i := 8) (s := 8) (by kernel_rfl) K8
        have hF13 : Fr a13 89 [(0, (.string ⟨b2.toArray⟩)), (1, (.int .i64 most)), (6, (.string ⟨o2.toArray⟩)), (7, (.int .i64 (c : Int))), (8, (.int .i64 (far : Int))), (11, (.string ⟨b2.toArray⟩)), (12, (.int .i64 (b2.length : Int))), (13, (.bool true)), (14, (.string ⟨b2.toArray⟩)), (15, (.int .u8 ((bt b2 0).toNat : Int))), (16, (.int .i64 (c : Int))), (17, (.int .i64 (c : Int))), (18, (.bool false)), (41, (.string ⟨b2.toArray⟩)), (42, (.int .i64 (b2.length : Int))), (43, (.bool false))] := (hK.fr hF12 [(.string ⟨b2.toArray⟩), (.int .u8 ((bt b2 1).toNat : Int)), (.int .i64 ((bt b2 1).toNat : Int)), (.string ⟨b2.toArray⟩), (.int .u8 ((bt b2 2).toNat : Int)), (.int .i64 ((bt b2 2).toNat : Int)), (.int .i64 ((256 * (bt b2 2).toNat : Nat) : Int)), (.int .i64 (far : Int)), (.int .i64 (far : Int))] ⟨e0, e1, e2, e3, e4, e5, e6, e7, e8, trivial⟩).sub ⟨rfl, rfl, rfl, rfl, rfl, rfl, rfl, rfl, rfl, rfl, rfl, rfl, rfl, rfl, rfl, rfl, trivial⟩
        have hM1 := hM0.grow hb2
        clear hK K0 e0 K1 e1 K2 e2 K3 e3 K4 e4 K5 e5 K6 e6 K7 e7 K8 e8
        clear hF12 hM0
        refine nx ?_
        refine wp_seq ?_
        refine wp_seq ?_
        refine wp_region_lit ?_
        refine sq (v := (.int .i64 (far : Int))) hF13 (wantedS rfl) (run_mv rfl (hF13.ev 8 rfl)) rfl (by decide) fun a14 hF14 => ?_
        refine sq (v := (.bool false)) hF14 (wantedS rfl) (run_eqi rfl (hF14.ev 52 rfl) rfl (beq_eq_false_iff_ne.2 (by omega))) rfl (by decide) fun a15 hF15 => ?_
        refine sq (v := (.bool false)) hF15 (wantedS rfl) (run_mv rfl (hF15.ev 53 rfl)) rfl (by decide) fun a16 hF16 => ?_
        refine sq (v := (.int .i64 (far : Int))) hF16 (wantedG hF16 rfl rfl rfl rfl rfl) (run_mv rfl (hF16.ev 8 rfl)) rfl (by decide) fun a17 hF17 => ?_
        refine sq (v := (.string ⟨o2.toArray⟩)) hF17 (wantedG hF17 rfl rfl rfl rfl rfl) (run_mv rfl (hF17.ev 6 rfl)) rfl (by decide) fun a18 hF18 => ?_
        refine sq (v := (.int .i64 (o2.length : Int))) hF18 (wantedG hF18 rfl rfl rfl rfl rfl) (run_len rfl (hF18.ev 56 rfl) rfl Try.underlying9) rfl (by decide) fun a19 hF19 => ?_
        refine sq (v := (.bool false)) hF19 (wantedG hF19 rfl rfl rfl rfl rfl) (run_gtr rfl (hF19.ev 55 rfl) (hF19.ev 57 rfl) (decide_eq_false (by omega))) rfl (by decide) fun a20 hF20 => ?_
        refine sq (v := (.bool false)) hF20 (wantedS rfl) (run_pick rfl (hF20.ev 54 rfl) rfl (hF20.ev 58 rfl)) rfl (by decide) fun a21 hF21 => ?_
        refine sqEnd ?_
        clear hF13 hF14 hF15 hF16 hF17 hF18 hF19 hF20
        refine nx ?_
        refine wp_cond_false (hF21.ev 59 rfl) ?_
        refine wp_skip ?_
        refine nx ?_
        refine wp_seq ?_
        refine wp_seq ?_
        refine wp_region_lit ?_
        refine sq (v := (.string ⟨o2.toArray⟩)) hF21 (wantedS rfl) (run_mv rfl (hF21.ev 6 rfl)) rfl (by decide) fun a22 hF22 => ?_
        refine sq (v := (.int .i64 (o2.length : Int))) hF22 (wantedS rfl) (run_len rfl (hF22.ev 60 rfl) rfl Try.underlying9) rfl (by decide) fun a23 hF23 => ?_
        refine sq (v := (.int .i64 (c : Int))) hF23 (wantedS rfl) (run_mv rfl (hF23.ev 7 rfl)) rfl (by decide) fun a24 hF24 => ?_
        refine sq (v := (.int .i64 ((o2.length : Int) + (c : Int)))) hF24 (wantedS rfl) (run_add (r := (o2.length : Int) + (c : Int)) rfl (hF24.ev 61 rfl) (hF24.ev 62 rfl) (by rw [IntKind.wrap_i64]; omega)) rfl (by decide) fun a25 hF25 => ?_
        refine sq (v := (.int .i64 (((o2.length : Int) + (c : Int)) - 124))) hF25 (wantedS rfl) (run_sub (r := ((o2.length : Int) + (c : Int)) - 124) rfl (hF25.ev 63 rfl) rfl (by rw [IntKind.wrap_i64]; omega)) rfl (by decide) fun a26 hF26 => ?_
        refine sq (v := (.int .i64 most)) hF26 (wantedS rfl) (run_mv rfl (hF26.ev 1 rfl)) rfl (by decide) fun a27 hF27 => ?_
        refine sq (v := (.bool false)) hF27 (wantedS rfl) (run_gtr rfl (hF27.ev 64 rfl) (hF27.ev 65 rfl) (decide_eq_false (by omega))) rfl (by decide) fun a28 hF28 => ?_
        refine sqEnd ?_
        clear hF21 hF22 hF23 hF24 hF25 hF26 hF27
        refine nx ?_
        refine wp_cond_false (hF28.ev 66 rfl) ?_
        refine wp_skip ?_
        refine nx ?_
        refine wp_seq ?_
        refine wp_seq ?_
        refine wp_region_lit ?_
        refine sq (v := (.int .i64 0)) hF28 (wantedS rfl) (run_as rfl rfl) rfl (by decide) fun a29 hF29 => ?_
        refine sqEnd ?_
        clear hF28
        refine nx ?_
        refine wp_block ?_
        refine wkLoop (fun m a w2 => ∃ i : Nat, i ≤ c - 124 ∧ m = c - 124 - i ∧ Fr a 89 [(0, .string ⟨b2.toArray⟩), (1, .int .i64 most), (6, .string ⟨(copyS o2 far i).toArray⟩), (7, .int .i64 (c : Int)), (8, .int .i64 (far : Int)), (9, .int .i64 (i : Int))] ∧ Mem w [] w2) (c - 124) ⟨0, Nat.zero_le _, rfl, hF29.sub ⟨rfl, rfl, rfl, rfl, rfl, rfl, trivial⟩, hM1⟩ ?_
        rintro m0 a0 w1 ⟨i, hi, rfl, hF0, hM0⟩
        have hcl := copyS_len o2 far i
        by_cases hlt2 : i < c - 124
        · have hx := bt_get (l := copyS o2 far i) (i := o2.length + i - far) (by omega)
          have hst : copyS o2 far (i + 1) = copyS o2 far i ++ ((copyS o2 far i).drop (o2.length + i - far)).take 1 := by
            rw [copyS, hcl, List.drop_eq_getElem_cons (by omega), List.take_succ_cons, List.take_zero, List.getD_eq_getElem?_getD, List.getElem?_eq_getElem (by omega)]
            rfl
          refine wp_seq ?_
          refine wp_seq ?_
          refine wp_region_lit ?_
          refine sq (v := (.int .i64 (i : Int))) hF0 (wantedS rfl) (run_mv rfl (hF0.ev 9 rfl)) rfl (by decide) fun a1 hF1 => ?_
          refine sq (v := (.int .i64 (c : Int))) hF1 (wantedS rfl) (run_mv rfl (hF1.ev 7 rfl)) rfl (by decide) fun a2 hF2 => ?_
          refine sq (v := (.int .i64 ((c - 124 : Nat) : Int))) hF2 (wantedS rfl) (run_sub (r := ((c - 124 : Nat) : Int)) rfl (hF2.ev 68 rfl) rfl (by rw [IntKind.wrap_i64]; omega)) rfl (by decide) fun a3 hF3 => ?_
          refine sq (v := (.bool true)) hF3 (wantedS rfl) (run_lss rfl (hF3.ev 67 rfl) (hF3.ev 69 rfl) (decide_eq_true (by omega))) rfl (by decide) fun a4 hF4 => ?_
          refine sqEnd ?_
          clear hF0 hF1 hF2 hF3
          refine nx ?_
          refine wp_cond_true (hF4.ev 70 rfl) ?_
          refine wp_skip ?_
          refine nx ?_
          refine wp_seq ?_
          refine wp_block ?_
          refine wp_seq ?_
          refine wp_region_lit ?_
          refine sq (v := (.string ⟨(copyS o2 far i).toArray⟩)) hF4 (wantedS rfl) (run_mv rfl (hF4.ev 6 rfl)) rfl (by decide) fun a5 hF5 => ?_
          refine sq (v := (.int .i64 ((copyS o2 far i).length : Int))) hF5 (wantedS rfl) (run_len rfl (hF5.ev 73 rfl) rfl Try.underlying9) rfl (by decide) fun a6 hF6 => ?_
          refine sq (v := (.int .i64 (far : Int))) hF6 (wantedS rfl) (run_mv rfl (hF6.ev 8 rfl)) rfl (by decide) fun a7 hF7 => ?_
          refine sq (v := (.int .i64 ((o2.length + i - far : Nat) : Int))) hF7 (wantedS rfl) (run_sub (r := ((o2.length + i - far : Nat) : Int)) rfl (hF7.ev 74 rfl) (hF7.ev 75 rfl) (by rw [IntKind.wrap_i64]; omega)) rfl (by decide) fun a8 hF8 => ?_
          refine sq (v := (.int .i64 ((o2.length + i - far : Nat) : Int))) hF8 (wantedS rfl) (run_as rfl (hF8.ev 76 rfl)) rfl (by decide) fun a9 hF9 => ?_
          refine sqEnd ?_
          clear hF4 hF5 hF6 hF7 hF8
          refine nx ?_
          refine wp_region_lit ?_
          refine sq (v := (.string ⟨(copyS o2 far i).toArray⟩)) hF9 (wantedS rfl) (run_mv rfl (hF9.ev 6 rfl)) rfl (by decide) fun a10 hF10 => ?_
          refine sq (v := (.string ⟨(copyS o2 far i).toArray⟩)) hF10 (wantedS rfl) (run_mv rfl (hF10.ev 6 rfl)) rfl (by decide) fun a11 hF11 => ?_
          refine sq (v := (.int .i64 ((o2.length + i - far : Nat) : Int))) hF11 (wantedS rfl) (run_mv rfl (hF11.ev 10 rfl)) rfl (by decide) fun a12 hF12 => ?_
          refine sq (v := (.int .i64 ((o2.length + i - far : Nat) : Int))) hF12 (wantedS rfl) (run_mv rfl (hF12.ev 10 rfl)) rfl (by decide) fun a13 hF13 => ?_
          refine sq (v := (.int .i64 ((o2.length + i - far + 1 : Nat) : Int))) hF13 (wantedS rfl) (run_add (r := ((o2.length + i - far + 1 : Nat) : Int)) rfl (hF13.ev 80 rfl) rfl (by rw [IntKind.wrap_i64]; omega)) rfl (by decide) fun a14 hF14 => ?_
          refine sq (v := (.string ⟨(((copyS o2 far i).drop (o2.length + i - far)).take 1).toArray⟩)) hF14 (wantedS rfl) (run_sMidE (m := (o2.length + i - far)) (m2 := (o2.length + i - far + 1)) (by rw [show o2.length + i - far + 1 - (o2.length + i - far) = 1 by omega]) rfl (hF14.ev 78 rfl) (hF14.ev 79 rfl) (hF14.ev 81 rfl) Try.underlying9 (by omega) (by omega) (by omega) (by omega)) rfl (by decide) fun a15 hF15 => ?_
          refine sq (v := (.string ⟨(copyS o2 far i ++ (((copyS o2 far i).drop (o2.length + i - far)).take 1)).toArray⟩)) hF15 (wantedS rfl) (run_cat rfl (hF15.ev 77 rfl) (hF15.ev 82 rfl) (by simp; omega)) rfl (by decide) fun a16 hF16 => ?_
          refine sq (v := (.string ⟨(copyS o2 far i ++ (((copyS o2 far i).drop (o2.length + i - far)).take 1)).toArray⟩)) hF16 (wantedS rfl) (run_as rfl (hF16.ev 83 rfl)) rfl (by decide) fun a17 hF17 => ?_
          refine sqEnd ?_
          clear hF9 hF10 hF11 hF12 hF13 hF14 hF15 hF16
          refine bkEnd ?_
          refine nx ?_
          refine wp_region_lit ?_
          refine sq (v := (.int .i64 (i : Int))) hF17 (wantedS rfl) (run_mv rfl (hF17.ev 9 rfl)) rfl (by decide) fun a18 hF18 => ?_
          refine sq (v := (.int .i64 ((i + 1 : Nat) : Int))) hF18 (wantedS rfl) (run_add (r := ((i + 1 : Nat) : Int)) rfl (hF18.ev 71 rfl) rfl (by rw [IntKind.wrap_i64]; omega)) rfl (by decide) fun a19 hF19 => ?_
          refine sq (v := (.int .i64 ((i + 1 : Nat) : Int))) hF19 (wantedS rfl) (run_as rfl (hF19.ev 72 rfl)) rfl (by decide) fun a20 hF20 => ?_
          refine sqEnd ?_
          clear hF17 hF18 hF19
          refine nx ?_
          exact ⟨_, by omega, i + 1, by omega, rfl, by rw [hst]; exact hF20.sub ⟨rfl, rfl, rfl, rfl, rfl, rfl, trivial⟩, hM0⟩
        · have hie : i = c - 124 := by omega
          rw [hie] at hF0
          refine wp_seq ?_
          refine wp_seq ?_
          refine wp_region_lit ?_
          refine sq (v := (.int .i64 ((c - 124 : Nat) : Int))) hF0 (wantedS rfl) (run_mv rfl (hF0.ev 9 rfl)) rfl (by decide) fun a1 hF1 => ?_
          refine sq (v := (.int .i64 (c : Int))) hF1 (wantedS rfl) (run_mv rfl (hF1.ev 7 rfl)) rfl (by decide) fun a2 hF2 => ?_
          refine sq (v := (.int .i64 ((c - 124 : Nat) : Int))) hF2 (wantedS rfl) (run_sub (r := ((c - 124 : Nat) : Int)) rfl (hF2.ev 68 rfl) rfl (by rw [IntKind.wrap_i64]; omega)) rfl (by decide) fun a3 hF3 => ?_
          refine sq (v := (.bool false)) hF3 (wantedS rfl) (run_lss rfl (hF3.ev 67 rfl) (hF3.ev 69 rfl) (decide_eq_false (by omega))) rfl (by decide) fun a4 hF4 => ?_
          refine sqEnd ?_
          clear hF0 hF1 hF2 hF3
          refine nx ?_
          refine wp_cond_false (hF4.ev 70 rfl) ?_
          refine wp_exit ?_
          refine nxExit ?_
          refine nxExit ?_
          refine bkHere ?_
          refine nx ?_
          refine wp_region_lit ?_
          refine sq (v := (.string ⟨b2.toArray⟩)) hF4 (wantedS rfl) (run_mv rfl (hF4.ev 0 rfl)) rfl (by decide) fun a5 hF5 => ?_
          refine sq (v := (.string ⟨(b2.drop 3).toArray⟩)) hF5 (wantedS rfl) (run_sFrom (m := 3) rfl (hF5.ev 84 rfl) rfl Try.underlying9 (by omega) (by omega)) rfl (by decide) fun a6 hF6 => ?_
          refine sq (v := (.string ⟨(b2.drop 3).toArray⟩)) hF6 (wantedS rfl) (run_as rfl (hF6.ev 85 rfl)) rfl (by decide) fun a7 hF7 => ?_
          refine sqEnd ?_
          clear hF4 hF5 hF6
          refine bkEnd ?_
          refine nx ?_
          exact ⟨_, by rw [List.length_drop]; omega, copyS o2 far (c - 124), b2.drop 3, rfl, he, by rw [List.length_drop]; omega, by rw [List.length_drop, copyS_len]; omega, hF7.sub ⟨rfl, rfl, rfl, trivial⟩, hM0⟩
  · have he0 : b2 = [] := List.length_eq_zero_iff.1 (by omega)
    rw [he0, unpT_nil] at he
    have hr := unpS_end he.symm
    by_cases hm : most < 0
    · rw [if_pos hm] at hr
      refine wp_seq ?_
      refine wp_seq ?_
      refine wp_region_lit ?_
      refine sq (v := (.string ⟨b2.toArray⟩)) hF0 (wantedS rfl) (run_mv rfl (hF0.ev 0 rfl)) rfl (by decide) fun a1 hF1 => ?_
      refine sq (v := (.int .i64 (b2.length : Int))) hF1 (wantedS rfl) (run_len rfl (hF1.ev 11 rfl) rfl Try.underlying9) rfl (by decide) fun a2 hF2 => ?_
      refine sq (v := (.bool false)) hF2 (wantedS rfl) (run_gtr rfl (hF2.ev 12 rfl) rfl (decide_eq_false (by omega))) rfl (by decide) fun a3 hF3 => ?_
      refine sqEnd ?_
      clear hF0 hF1 hF2
      refine nx ?_
      refine wp_cond_false (hF3.ev 13 rfl) ?_
      refine wp_exit ?_
      refine nxExit ?_
      refine nxExit ?_
      refine bkHere ?_
      refine nx ?_
      refine wp_seq ?_
      refine wp_seq ?_
      refine wp_region_lit ?_
      refine sq (v := (.int .i64 most)) hF3 (wantedS rfl) (run_mv rfl (hF3.ev 1 rfl)) rfl (by decide) fun a4 hF4 => ?_
      refine sq (v := (.bool true)) hF4 (wantedS rfl) (run_lss rfl (hF4.ev 86 rfl) rfl (decide_eq_true (by omega))) rfl (by decide) fun a5 hF5 => ?_
      refine sqEnd ?_
      clear hF3 hF4
      refine nx ?_
      refine wp_cond_true (hF5.ev 87 rfl) ?_
      refine wp_seq ?_
      refine wp_region_lit ?_
      refine sq (v := (.string ⟨List.toArray []⟩)) hF5 (wantedS rfl) (run_as rfl rfl) rfl (by decide) fun a6 hF6 => ?_
      refine sq (v := (.int .i64 6)) hF6 (wantedS rfl) (run_as rfl rfl) rfl (by decide) fun a7 hF7 => ?_
      refine sqEnd ?_
      clear hF5 hF6
      refine nx ?_
      refine wp_ret ?_
      refine nxRet ?_
      exact ret2 hF7 rfl rfl rfl ⟨by rw [hr], hM0.below⟩
    · rw [if_neg hm] at hr
      refine wp_seq ?_
      refine wp_seq ?_
      refine wp_region_lit ?_
      refine sq (v := (.string ⟨b2.toArray⟩)) hF0 (wantedS rfl) (run_mv rfl (hF0.ev 0 rfl)) rfl (by decide) fun a1 hF1 => ?_
      refine sq (v := (.int .i64 (b2.length : Int))) hF1 (wantedS rfl) (run_len rfl (hF1.ev 11 rfl) rfl Try.underlying9) rfl (by decide) fun a2 hF2 => ?_
      refine sq (v := (.bool false)) hF2 (wantedS rfl) (run_gtr rfl (hF2.ev 12 rfl) rfl (decide_eq_false (by omega))) rfl (by decide) fun a3 hF3 => ?_
      refine sqEnd ?_
      clear hF0 hF1 hF2
      refine nx ?_
      refine wp_cond_false (hF3.ev 13 rfl) ?_
      refine wp_exit ?_
      refine nxExit ?_
      refine nxExit ?_
      refine bkHere ?_
      refine nx ?_
      refine wp_seq ?_
      refine wp_seq ?_
      refine wp_region_lit ?_
      refine sq (v := (.int .i64 most)) hF3 (wantedS rfl) (run_mv rfl (hF3.ev 1 rfl)) rfl (by decide) fun a4 hF4 => ?_
      refine sq (v := (.bool false)) hF4 (wantedS rfl) (run_lss rfl (hF4.ev 86 rfl) rfl (decide_eq_false (by omega))) rfl (by decide) fun a5 hF5 => ?_
      refine sqEnd ?_
      clear hF3 hF4
      refine nx ?_
      refine wp_cond_false (hF5.ev 87 rfl) ?_
      refine wp_skip ?_
      refine nx ?_
      refine wp_seq ?_
      refine wp_region_lit ?_
      refine sq (v := (.string ⟨o2.toArray⟩)) hF5 (wantedS rfl) (run_mv rfl (hF5.ev 6 rfl)) rfl (by decide) fun a6 hF6 => ?_
      refine sq (v := (.string ⟨o2.toArray⟩)) hF6 (wantedS rfl) (run_as rfl (hF6.ev 88 rfl)) rfl (by decide) fun a7 hF7 => ?_
      refine sq (v := (.int .i64 0)) hF7 (wantedS rfl) (run_as rfl rfl) rfl (by decide) fun a8 hF8 => ?_
      refine sqEnd ?_
      clear hF5 hF6 hF7
      refine nx ?_
      refine wp_ret ?_
      exact ret2 hF8 rfl rfl rfl ⟨by rw [hr], hM0.below⟩
end Go.Proofs.Ytpobmaklgnioeaa
