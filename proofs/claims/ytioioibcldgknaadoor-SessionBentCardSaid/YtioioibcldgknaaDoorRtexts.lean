/- The walk of the reference's Texts. Printed by gen_rtexts.py. -/
import Derived.Test.YtioioibcldgknaaDoorNumTexts
namespace Go.Proofs.YtioioibcldgknaaDoor
open Go.RowKit

set_option maxRecDepth 100000 in
set_option maxHeartbeats 1000000 in
theorem rtexts_any (b : List UInt8) (w : World) (hb : b.length < 2 ^ 42) : Calls Tryd.prog 14 #[.string ⟨b.toArray⟩] w fun e w' => ∃ u, e = .returned u ∧ TxR b w.heap.size u w' ∧ Below w.heap.size w w' := by
  refine walk_enter Tryd.func14 rfl rfl rfl fun a0 hF0 => ?_
  have hM0 := Mem.new w
  refine wp_seq ?_
  refine wp_region_lit ?_
  refine sq (v := (.slice none 0 0)) hF0 (wantedS rfl) (run_as rfl rfl) rfl (by decide) fun a1 hF1 => ?_
  refine sq (v := (.int .i64 0)) hF1 (wantedS rfl) (run_as rfl rfl) rfl (by decide) fun a2 hF2 => ?_
  refine sqEnd ?_
  clear hF0 hF1
  refine nx ?_
  refine wp_seq ?_
  refine wp_region_lit ?_
  refine sqOwn0 (size := 1) (e := 9) hF2 hM0 (wantedS rfl) (run_none (m := 1) rfl elStr.un (by kernel_rfl)) rfl (by decide) fun v0 a3 w1 hO1 hb1 hM1 hF3 => ?_
  refine sq (v := v0) hF3 (wantedS rfl) (run_as rfl (hF3.ev 10 rfl)) rfl (by decide) fun a4 hF4 => ?_
  refine sqEnd ?_
  clear hF2 hF3 hM0
  refine nx ?_
  refine wp_seq ?_
  refine wp_region_lit ?_
  refine sq (v := (.int .i64 0)) hF4 (wantedS rfl) (run_as rfl rfl) rfl (by decide) fun a5 hF5 => ?_
  refine sqEnd ?_
  clear hF4
  refine nx ?_
  refine wp_seq ?_
  refine wp_block ?_
  refine wkLoop (fun m a w2 => ∃ (d : List (List UInt8)) (p : Nat) (v : Value), m = b.length - p ∧ p ≤ b.length ∧ d.length ≤ p ∧ textsS b = txAcc d (textsS (b.drop p)) ∧ OwnR w [] w2 9 1 v d.length (d.map tx) ∧ Fr a 64 [(0, .string ⟨b.toArray⟩), (4, v), (5, .int .i64 (p : Int))] ∧ Mem w [] w2) b.length ⟨[], 0, v0, rfl, by omega, by simp, by rw [List.drop_zero, txAcc_nil], hO1, hF5.sub ⟨rfl, rfl, rfl, trivial⟩, hM1⟩ ?_
  rintro m a0 w1 ⟨d, p, v, rfl, hp, hdp, hT, hO0, hF0, hM0⟩
  by_cases hlt : p < b.length
  · have hne : b.drop p ≠ [] := by intro e; have := congrArg List.length e; rw [List.length_drop, List.length_nil] at this; omega
    rw [textsS_step hne] at hT
    refine wp_seq ?_
    refine wp_seq ?_
    refine wp_region_lit ?_
    refine sq (v := (.int .i64 (p : Int))) hF0 (wantedS rfl) (run_mv rfl (hF0.ev 5 rfl)) rfl (by decide) fun a1 hF1 => ?_
    refine sq (v := (.string ⟨b.toArray⟩)) hF1 (wantedS rfl) (run_mv rfl (hF1.ev 0 rfl)) rfl (by decide) fun a2 hF2 => ?_
    refine sq (v := (.int .i64 (b.length : Int))) hF2 (wantedS rfl) (run_len rfl (hF2.ev 12 rfl) rfl Tryd.underlying9) rfl (by decide) fun a3 hF3 => ?_
    refine sq (v := (.bool true)) hF3 (wantedS rfl) (run_lss rfl (hF3.ev 11 rfl) (hF3.ev 13 rfl) (decide_eq_true (by omega))) rfl (by decide) fun a4 hF4 => ?_
    refine sqEnd ?_
    clear hF0 hF1 hF2 hF3
    refine nx ?_
    refine wp_cond_true (hF4.ev 14 rfl) ?_
    refine wp_skip ?_
    refine nx ?_
    refine wp_block ?_
    refine wp_seq ?_
    refine wp_region_lit ?_
    refine sq (v := (.int .i64 0)) hF4 (wantedS rfl) (run_as rfl rfl) rfl (by decide) fun a5 hF5 => ?_
    refine sqEnd ?_
    clear hF4
    refine nx ?_
    refine wp_seq ?_
    refine wp_region_lit ?_
    refine sq (v := (.int .i64 1)) hF5 (wantedS rfl) (run_as rfl rfl) rfl (by decide) fun a6 hF6 => ?_
    refine sqEnd ?_
    clear hF5
    refine nx ?_
    refine wp_seq ?_
    refine wp_seq ?_
    refine wp_region_lit ?_
    refine sq (v := (.int .i64 0)) hF6 (wantedS rfl) (run_as rfl rfl) rfl (by decide) fun a7 hF7 => ?_
    refine sqEnd ?_
    clear hF6
    refine nx ?_
    refine wp_block ?_
    refine wkLoop (fun m a w2 => ∃ k q : Nat, m = 4 - k ∧ k ≤ 3 ∧ p + k ≤ b.length ∧ q < 128 ^ k ∧ lenP 0 (b.drop p) = lenAcc k q (lenP k (b.drop (p + k))) ∧ OwnR w [] w2 9 1 v d.length (d.map tx) ∧ Fr a 64 [(0, .string ⟨b.toArray⟩), (4, v), (5, .int .i64 ((p + k : Nat) : Int)), (6, .int .i64 (q : Int)), (7, .int .i64 ((128 ^ k : Nat) : Int)), (8, .int .i64 (k : Int))] ∧ Mem w [] w2) 4 ⟨0, 0, rfl, by omega, by omega, by simp, by rw [lenAcc_zero]; rfl, hO0, hF7.sub ⟨rfl, rfl, rfl, rfl, rfl, rfl, trivial⟩, hM0⟩ ?_
    rintro m0 a0 w1 ⟨k, q, rfl, hk, hpk, hq, hR, hO0, hF0, hM0⟩
    have hb128 : (128 : Nat) ^ k ≤ 128 ^ 3 := Nat.pow_le_pow_right (by decide) hk
    have hmul : (bt b (p + k)).toNat % 128 * 128 ^ k ≤ 127 * 128 ^ 3 := Nat.mul_le_mul (by omega) hb128
    by_cases hend : p + k = b.length
    · have hT2 : textsS b = .error 4 := by rw [hT, hR, hend, List.drop_length]; rfl
      refine wp_seq ?_
      refine wp_block ?_
      refine wp_seq ?_
      refine wp_seq ?_
      refine wp_region_lit ?_
      refine sq (v := (.int .i64 ((p + k : Nat) : Int))) hF0 (wantedS rfl) (run_mv rfl (hF0.ev 5 rfl)) rfl (by decide) fun a1 hF1 => ?_
      refine sq (v := (.string ⟨b.toArray⟩)) hF1 (wantedS rfl) (run_mv rfl (hF1.ev 0 rfl)) rfl (by decide) fun a2 hF2 => ?_
      refine sq (v := (.int .i64 (b.length : Int))) hF2 (wantedS rfl) (run_len rfl (hF2.ev 18 rfl) rfl Tryd.underlying9) rfl (by decide) fun a3 hF3 => ?_
      refine sq (v := (.bool true)) hF3 (wantedS rfl) (run_eqi rfl (hF3.ev 17 rfl) (hF3.ev 19 rfl) (beq_iff_eq.2 (by omega))) rfl (by decide) fun a4 hF4 => ?_
      refine sqEnd ?_
      clear hF0 hF1 hF2 hF3
      refine nx ?_
      refine wp_cond_true (hF4.ev 20 rfl) ?_
      refine wp_seq ?_
      refine wp_region_lit ?_
      refine sq (v := (.slice none 0 0)) hF4 (wantedS rfl) (run_as rfl rfl) rfl (by decide) fun a5 hF5 => ?_
      refine sq (v := (.int .i64 4)) hF5 (wantedS rfl) (run_as rfl rfl) rfl (by decide) fun a6 hF6 => ?_
      refine sqEnd ?_
      clear hF4 hF5
      refine nx ?_
      refine wp_ret ?_
      refine nxRet ?_
      refine bkRet ?_
      refine nxRet ?_
      refine nxRet ?_
      refine bkRet ?_
      refine nxRet ?_
      refine bkRet ?_
      refine nxRet ?_
      refine bkRet ?_
      refine nxRet ?_
      exact ret2 hF6 rfl rfl rfl ⟨_, rfl, by unfold TxR; rw [hT2], hM0.below⟩
    rw [drop_bt b (p + k) (by omega)] at hR
    have hc := (bt b (p + k)).toNat_lt
    by_cases h8 : (bt b (p + k)).toNat < 128
    · by_cases h0 : (bt b (p + k)).toNat = 0 ∧ 0 < k
      · have hT2 : textsS b = .error 3 := by rw [hT, hR, lenP_cons, if_pos h8, if_pos h0]; rfl
        refine wp_seq ?_
        refine wp_block ?_
        refine wp_seq ?_
        refine wp_seq ?_
        refine wp_region_lit ?_
        refine sq (v := (.int .i64 ((p + k : Nat) : Int))) hF0 (wantedS rfl) (run_mv rfl (hF0.ev 5 rfl)) rfl (by decide) fun a1 hF1 => ?_
        refine sq (v := (.string ⟨b.toArray⟩)) hF1 (wantedS rfl) (run_mv rfl (hF1.ev 0 rfl)) rfl (by decide) fun a2 hF2 => ?_
        refine sq (v := (.int .i64 (b.length : Int))) hF2 (wantedS rfl) (run_len rfl (hF2.ev 18 rfl) rfl Tryd.underlying9) rfl (by decide) fun a3 hF3 => ?_
        refine sq (v := (.bool false)) hF3 (wantedS rfl) (run_eqi rfl (hF3.ev 17 rfl) (hF3.ev 19 rfl) (beq_eq_false_iff_ne.2 (by omega))) rfl (by decide) fun a4 hF4 => ?_
        refine sqEnd ?_
        clear hF0 hF1 hF2 hF3
        refine nx ?_
        refine wp_cond_false (hF4.ev 20 rfl) ?_
        refine wp_skip ?_
        refine nx ?_
        refine wp_seq ?_
        refine wp_region_lit ?_
        refine sq (v := (.string ⟨b.toArray⟩)) hF4 (wantedS rfl) (run_mv rfl (hF4.ev 0 rfl)) rfl (by decide) fun a5 hF5 => ?_
        refine sq (v := (.int .i64 ((p + k : Nat) : Int))) hF5 (wantedS rfl) (run_mv rfl (hF5.ev 5 rfl)) rfl (by decide) fun a6 hF6 => ?_
        refine sq (v := (.int .u8 ((bt b (p + k)).toNat : Int))) hF6 (wantedS rfl) (run_sAt (n := (p + k)) rfl (hF6.ev 21 rfl) (hF6.ev 22 rfl) Tryd.underlying9 rfl (by omega)) rfl (by decide) fun a7 hF7 => ?_
        refine sq (v := (.int .i64 ((bt b (p + k)).toNat : Int))) hF7 (wantedS rfl) (run_cvI (r := ((bt b (p + k)).toNat : Int)) rfl (hF7.ev 23 rfl) Tryd.underlying5 Tryd.underlying3 (by rw [IntKind.wrap_i64]; omega)) rfl (by decide) fun a8 hF8 => ?_
        refine sq (v := (.int .i64 ((bt b (p + k)).toNat : Int))) hF8 (wantedS rfl) (run_as rfl (hF8.ev 24 rfl)) rfl (by decide) fun a9 hF9 => ?_
        refine sqEnd ?_
        clear hF4 hF5 hF6 hF7 hF8
        refine nx ?_
        refine wp_seq ?_
        refine wp_region_lit ?_
        refine sq (v := (.int .i64 ((p + k : Nat) : Int))) hF9 (wantedS rfl) (run_mv rfl (hF9.ev 5 rfl)) rfl (by decide) fun a10 hF10 => ?_
        refine sq (v := (.int .i64 ((p + k + 1 : Nat) : Int))) hF10 (wantedS rfl) (run_add (r := ((p + k + 1 : Nat) : Int)) rfl (hF10.ev 25 rfl) rfl (by rw [IntKind.wrap_i64]; omega)) rfl (by decide) fun a11 hF11 => ?_
        refine sq (v := (.int .i64 ((p + k + 1 : Nat) : Int))) hF11 (wantedS rfl) (run_as rfl (hF11.ev 26 rfl)) rfl (by decide) fun a12 hF12 => ?_
        refine sqEnd ?_
        clear hF9 hF10 hF11
        refine nx ?_
        refine wp_seq ?_
        refine wp_region_lit ?_
        refine sq (v := (.int .i64 (q : Int))) hF12 (wantedS rfl) (run_mv rfl (hF12.ev 6 rfl)) rfl (by decide) fun a13 hF13 => ?_
        refine sq (v := (.int .i64 ((bt b (p + k)).toNat : Int))) hF13 (wantedS rfl) (run_mv rfl (hF13.ev 9 rfl)) rfl (by decide) fun a14 hF14 => ?_
        refine sq (v := (.int .i64 (((bt b (p + k)).toNat % 128 : Nat) : Int))) hF14 (wantedS rfl) (run_rem (r := (((bt b (p + k)).toNat % 128 : Nat) : Int)) rfl (hF14.ev 28 rfl) rfl (by omega) (by rw [Int.tmod_eq_emod_of_nonneg (by omega)]; try omega)) rfl (by decide) fun a15 hF15 => ?_
        refine sq (v := (.int .i64 ((128 ^ k : Nat) : Int))) hF15 (wantedS rfl) (run_mv rfl (hF15.ev 7 rfl)) rfl (by decide) fun a16 hF16 => ?_
        refine sq (v := (.int .i64 (((bt b (p + k)).toNat % 128 * 128 ^ k : Nat) : Int))) hF16 (wantedS rfl) (run_mul (r := (((bt b (p + k)).toNat % 128 * 128 ^ k : Nat) : Int)) rfl (hF16.ev 29 rfl) (hF16.ev 30 rfl) (by rw [IntKind.wrap_i64, ← Int.natCast_mul]; omega)) rfl (by decide) fun a17 hF17 => ?_
        refine sq (v := (.int .i64 ((q + (bt b (p + k)).toNat % 128 * 128 ^ k : Nat) : Int))) hF17 (wantedS rfl) (run_add (r := ((q + (bt b (p + k)).toNat % 128 * 128 ^ k : Nat) : Int)) rfl (hF17.ev 27 rfl) (hF17.ev 31 rfl) (by rw [IntKind.wrap_i64]; omega)) rfl (by decide) fun a18 hF18 => ?_
        refine sq (v := (.int .i64 ((q + (bt b (p + k)).toNat % 128 * 128 ^ k : Nat) : Int))) hF18 (wantedS rfl) (run_as rfl (hF18.ev 32 rfl)) rfl (by decide) fun a19 hF19 => ?_
        refine sqEnd ?_
        clear hF12 hF13 hF14 hF15 hF16 hF17 hF18
        refine nx ?_
        refine wp_seq ?_
        refine wp_region_lit ?_
        refine sq (v := (.int .i64 ((128 ^ k : Nat) : Int))) hF19 (wantedS rfl) (run_mv rfl (hF19.ev 7 rfl)) rfl (by decide) fun a20 hF20 => ?_
        refine sq (v := (.int .i64 ((128 ^ (k + 1) : Nat) : Int))) hF20 (wantedS rfl) (run_mul (r := ((128 ^ (k + 1) : Nat) : Int)) rfl (hF20.ev 33 rfl) rfl (by rw [IntKind.wrap_i64, Nat.pow_succ]; omega)) rfl (by decide) fun a21 hF21 => ?_
        refine sq (v := (.int .i64 ((128 ^ (k + 1) : Nat) : Int))) hF21 (wantedS rfl) (run_as rfl (hF21.ev 34 rfl)) rfl (by decide) fun a22 hF22 => ?_
        refine sqEnd ?_
        clear hF19 hF20 hF21
        refine nx ?_
        refine wp_seq ?_
        refine wp_seq ?_
        refine wp_region_lit ?_
        refine sq (v := (.int .i64 ((bt b (p + k)).toNat : Int))) hF22 (wantedS rfl) (run_mv rfl (hF22.ev 9 rfl)) rfl (by decide) fun a23 hF23 => ?_
        refine sq (v := (.bool true)) hF23 (wantedS rfl) (run_lss rfl (hF23.ev 35 rfl) rfl (decide_eq_true (by omega))) rfl (by decide) fun a24 hF24 => ?_
        refine sqEnd ?_
        clear hF22 hF23
        refine nx ?_
        refine wp_cond_true (hF24.ev 36 rfl) ?_
        refine wp_seq ?_
        refine wp_seq ?_
        refine wp_region_lit ?_
        refine sq (v := (.int .i64 ((bt b (p + k)).toNat : Int))) hF24 (wantedS rfl) (run_mv rfl (hF24.ev 9 rfl)) rfl (by decide) fun a25 hF25 => ?_
        refine sq (v := (.bool true)) hF25 (wantedS rfl) (run_eqi rfl (hF25.ev 37 rfl) rfl (beq_iff_eq.2 (by omega))) rfl (by decide) fun a26 hF26 => ?_
        refine sq (v := (.bool true)) hF26 (wantedS rfl) (run_mv rfl (hF26.ev 38 rfl)) rfl (by decide) fun a27 hF27 => ?_
        refine sq (v := (.int .i64 (k : Int))) hF27 (wantedG hF27 rfl rfl rfl rfl rfl) (run_mv rfl (hF27.ev 8 rfl)) rfl (by decide) fun a28 hF28 => ?_
        refine sq (v := (.bool true)) hF28 (wantedG hF28 rfl rfl rfl rfl rfl) (run_gtr rfl (hF28.ev 40 rfl) rfl (decide_eq_true (by omega))) rfl (by decide) fun a29 hF29 => ?_
        refine sq (v := (.bool true)) hF29 (wantedS rfl) (run_pick rfl (hF29.ev 39 rfl) (hF29.ev 41 rfl) rfl) rfl (by decide) fun a30 hF30 => ?_
        refine sqEnd ?_
        clear hF24 hF25 hF26 hF27 hF28 hF29
        refine nx ?_
        refine wp_cond_true (hF30.ev 42 rfl) ?_
        refine wp_seq ?_
        refine wp_region_lit ?_
        refine sq (v := (.slice none 0 0)) hF30 (wantedS rfl) (run_as rfl rfl) rfl (by decide) fun a31 hF31 => ?_
        refine sq (v := (.int .i64 3)) hF31 (wantedS rfl) (run_as rfl rfl) rfl (by decide) fun a32 hF32 => ?_
        refine sqEnd ?_
        clear hF30 hF31
        refine nx ?_
        refine wp_ret ?_
        refine nxRet ?_
        refine nxRet ?_
        refine bkRet ?_
        refine nxRet ?_
        refine nxRet ?_
        refine bkRet ?_
        refine nxRet ?_
        refine bkRet ?_
        refine nxRet ?_
        refine bkRet ?_
        refine nxRet ?_
        exact ret2 hF32 rfl rfl rfl ⟨_, rfl, by unfold TxR; rw [hT2], hM0.below⟩
      · obtain ⟨m, hm⟩ : ∃ m, q + (bt b (p + k)).toNat % 128 * 128 ^ k = m := ⟨_, rfl⟩
        have hR2 : lenP 0 (b.drop p) = .ok (m, b.drop (p + k + 1)) := by rw [hR, lenP_cons, if_pos h8, if_neg h0, ← hm, Nat.mod_eq_of_lt h8]; rfl
        rw [hR2] at hT
        dsimp only at hT
        have hdl : (b.drop (p + k + 1)).length = b.length - (p + k + 1) := List.length_drop ..
        have hb3 : m < 2 ^ 30 := by omega
        by_cases hshort : (b.drop (p + k + 1)).length < m
        · have hT2 : textsS b = .error 4 := by rw [hT, if_pos hshort]; rfl
          by_cases hz : (bt b (p + k)).toNat = 0
          · skip
            refine wp_seq ?_
            refine wp_block ?_
            refine wp_seq ?_
            refine wp_seq ?_
            refine wp_region_lit ?_
            refine sq (v := (.int .i64 ((p + k : Nat) : Int))) hF0 (wantedS rfl) (run_mv rfl (hF0.ev 5 rfl)) rfl (by decide) fun a1 hF1 => ?_
            refine sq (v := (.string ⟨b.toArray⟩)) hF1 (wantedS rfl) (run_mv rfl (hF1.ev 0 rfl)) rfl (by decide) fun a2 hF2 => ?_
            refine sq (v := (.int .i64 (b.length : Int))) hF2 (wantedS rfl) (run_len rfl (hF2.ev 18 rfl) rfl Tryd.underlying9) rfl (by decide) fun a3 hF3 => ?_
            refine sq (v := (.bool false)) hF3 (wantedS rfl) (run_eqi rfl (hF3.ev 17 rfl) (hF3.ev 19 rfl) (beq_eq_false_iff_ne.2 (by omega))) rfl (by decide) fun a4 hF4 => ?_
            refine sqEnd ?_
            clear hF0 hF1 hF2 hF3
            refine nx ?_
            refine wp_cond_false (hF4.ev 20 rfl) ?_
            refine wp_skip ?_
            refine nx ?_
            refine wp_seq ?_
            refine wp_region_lit ?_
            refine sq (v := (.string ⟨b.toArray⟩)) hF4 (wantedS rfl) (run_mv rfl (hF4.ev 0 rfl)) rfl (by decide) fun a5 hF5 => ?_
            refine sq (v := (.int .i64 ((p + k : Nat) : Int))) hF5 (wantedS rfl) (run_mv rfl (hF5.ev 5 rfl)) rfl (by decide) fun a6 hF6 => ?_
            refine sq (v := (.int .u8 ((bt b (p + k)).toNat : Int))) hF6 (wantedS rfl) (run_sAt (n := (p + k)) rfl (hF6.ev 21 rfl) (hF6.ev 22 rfl) Tryd.underlying9 rfl (by omega)) rfl (by decide) fun a7 hF7 => ?_
            refine sq (v := (.int .i64 ((bt b (p + k)).toNat : Int))) hF7 (wantedS rfl) (run_cvI (r := ((bt b (p + k)).toNat : Int)) rfl (hF7.ev 23 rfl) Tryd.underlying5 Tryd.underlying3 (by rw [IntKind.wrap_i64]; omega)) rfl (by decide) fun a8 hF8 => ?_
            refine sq (v := (.int .i64 ((bt b (p + k)).toNat : Int))) hF8 (wantedS rfl) (run_as rfl (hF8.ev 24 rfl)) rfl (by decide) fun a9 hF9 => ?_
            refine sqEnd ?_
            clear hF4 hF5 hF6 hF7 hF8
            refine nx ?_
            refine wp_seq ?_
            refine wp_region_lit ?_
            refine sq (v := (.int .i64 ((p + k : Nat) : Int))) hF9 (wantedS rfl) (run_mv rfl (hF9.ev 5 rfl)) rfl (by decide) fun a10 hF10 => ?_
            refine sq (v := (.int .i64 ((p + k + 1 : Nat) : Int))) hF10 (wantedS rfl) (run_add (r := ((p + k + 1 : Nat) : Int)) rfl (hF10.ev 25 rfl) rfl (by rw [IntKind.wrap_i64]; omega)) rfl (by decide) fun a11 hF11 => ?_
            refine sq (v := (.int .i64 ((p + k + 1 : Nat) : Int))) hF11 (wantedS rfl) (run_as rfl (hF11.ev 26 rfl)) rfl (by decide) fun a12 hF12 => ?_
            refine sqEnd ?_
            clear hF9 hF10 hF11
            refine nx ?_
            refine wp_seq ?_
            refine wp_region_lit ?_
            refine sq (v := (.int .i64 (q : Int))) hF12 (wantedS rfl) (run_mv rfl (hF12.ev 6 rfl)) rfl (by decide) fun a13 hF13 => ?_
            refine sq (v := (.int .i64 ((bt b (p + k)).toNat : Int))) hF13 (wantedS rfl) (run_mv rfl (hF13.ev 9 rfl)) rfl (by decide) fun a14 hF14 => ?_
            refine sq (v := (.int .i64 (((bt b (p + k)).toNat % 128 : Nat) : Int))) hF14 (wantedS rfl) (run_rem (r := (((bt b (p + k)).toNat % 128 : Nat) : Int)) rfl (hF14.ev 28 rfl) rfl (by omega) (by rw [Int.tmod_eq_emod_of_nonneg (by omega)]; try omega)) rfl (by decide) fun a15 hF15 => ?_
            refine sq (v := (.int .i64 ((128 ^ k : Nat) : Int))) hF15 (wantedS rfl) (run_mv rfl (hF15.ev 7 rfl)) rfl (by decide) fun a16 hF16 => ?_
            refine sq (v := (.int .i64 (((bt b (p + k)).toNat % 128 * 128 ^ k : Nat) : Int))) hF16 (wantedS rfl) (run_mul (r := (((bt b (p + k)).toNat % 128 * 128 ^ k : Nat) : Int)) rfl (hF16.ev 29 rfl) (hF16.ev 30 rfl) (by rw [IntKind.wrap_i64, ← Int.natCast_mul]; omega)) rfl (by decide) fun a17 hF17 => ?_
            refine sq (v := (.int .i64 (m : Int))) hF17 (wantedS rfl) (run_add (r := (m : Int)) rfl (hF17.ev 27 rfl) (hF17.ev 31 rfl) (by rw [IntKind.wrap_i64, ← hm]; omega)) rfl (by decide) fun a18 hF18 => ?_
            refine sq (v := (.int .i64 (m : Int))) hF18 (wantedS rfl) (run_as rfl (hF18.ev 32 rfl)) rfl (by decide) fun a19 hF19 => ?_
            refine sqEnd ?_
            clear hF12 hF13 hF14 hF15 hF16 hF17 hF18
            refine nx ?_
            refine wp_seq ?_
            refine wp_region_lit ?_
            refine sq (v := (.int .i64 ((128 ^ k : Nat) : Int))) hF19 (wantedS rfl) (run_mv rfl (hF19.ev 7 rfl)) rfl (by decide) fun a20 hF20 => ?_
            refine sq (v := (.int .i64 ((128 ^ (k + 1) : Nat) : Int))) hF20 (wantedS rfl) (run_mul (r := ((128 ^ (k + 1) : Nat) : Int)) rfl (hF20.ev 33 rfl) rfl (by rw [IntKind.wrap_i64, Nat.pow_succ]; omega)) rfl (by decide) fun a21 hF21 => ?_
            refine sq (v := (.int .i64 ((128 ^ (k + 1) : Nat) : Int))) hF21 (wantedS rfl) (run_as rfl (hF21.ev 34 rfl)) rfl (by decide) fun a22 hF22 => ?_
            refine sqEnd ?_
            clear hF19 hF20 hF21
            refine nx ?_
            refine wp_seq ?_
            refine wp_seq ?_
            refine wp_region_lit ?_
            refine sq (v := (.int .i64 ((bt b (p + k)).toNat : Int))) hF22 (wantedS rfl) (run_mv rfl (hF22.ev 9 rfl)) rfl (by decide) fun a23 hF23 => ?_
            refine sq (v := (.bool true)) hF23 (wantedS rfl) (run_lss rfl (hF23.ev 35 rfl) rfl (decide_eq_true (by omega))) rfl (by decide) fun a24 hF24 => ?_
            refine sqEnd ?_
            clear hF22 hF23
            refine nx ?_
            refine wp_cond_true (hF24.ev 36 rfl) ?_
            refine wp_seq ?_
            refine wp_seq ?_
            refine wp_region_lit ?_
            refine sq (v := (.int .i64 ((bt b (p + k)).toNat : Int))) hF24 (wantedS rfl) (run_mv rfl (hF24.ev 9 rfl)) rfl (by decide) fun a25 hF25 => ?_
            refine sq (v := (.bool true)) hF25 (wantedS rfl) (run_eqi rfl (hF25.ev 37 rfl) rfl (beq_iff_eq.2 (by omega))) rfl (by decide) fun a26 hF26 => ?_
            refine sq (v := (.bool true)) hF26 (wantedS rfl) (run_mv rfl (hF26.ev 38 rfl)) rfl (by decide) fun a27 hF27 => ?_
            refine sq (v := (.int .i64 (k : Int))) hF27 (wantedG hF27 rfl rfl rfl rfl rfl) (run_mv rfl (hF27.ev 8 rfl)) rfl (by decide) fun a28 hF28 => ?_
            refine sq (v := (.bool false)) hF28 (wantedG hF28 rfl rfl rfl rfl rfl) (run_gtr rfl (hF28.ev 40 rfl) rfl (decide_eq_false (by omega))) rfl (by decide) fun a29 hF29 => ?_
            refine sq (v := (.bool false)) hF29 (wantedS rfl) (run_pick rfl (hF29.ev 39 rfl) (hF29.ev 41 rfl) rfl) rfl (by decide) fun a30 hF30 => ?_
            refine sqEnd ?_
            clear hF24 hF25 hF26 hF27 hF28 hF29
            refine nx ?_
            refine wp_cond_false (hF30.ev 42 rfl) ?_
            refine wp_skip ?_
            refine nx ?_
            refine wp_exit ?_
            refine nxExit ?_
            refine bkFar (by decide) ?_
            refine nxExit ?_
            refine nxExit ?_
            refine bkHere ?_
            refine nx ?_
            refine wp_seq ?_
            refine wp_seq ?_
            refine wp_region_lit ?_
            refine sq (v := (.string ⟨b.toArray⟩)) hF30 (wantedS rfl) (run_mv rfl (hF30.ev 0 rfl)) rfl (by decide) fun a31 hF31 => ?_
            refine sq (v := (.int .i64 (b.length : Int))) hF31 (wantedS rfl) (run_len rfl (hF31.ev 45 rfl) rfl Tryd.underlying9) rfl (by decide) fun a32 hF32 => ?_
            refine sq (v := (.int .i64 ((p + k + 1 : Nat) : Int))) hF32 (wantedS rfl) (run_mv rfl (hF32.ev 5 rfl)) rfl (by decide) fun a33 hF33 => ?_
            refine sq (v := (.int .i64 ((b.length - (p + k + 1) : Nat) : Int))) hF33 (wantedS rfl) (run_sub (r := ((b.length - (p + k + 1) : Nat) : Int)) rfl (hF33.ev 46 rfl) (hF33.ev 47 rfl) (by rw [IntKind.wrap_i64]; omega)) rfl (by decide) fun a34 hF34 => ?_
            refine sq (v := (.int .i64 (m : Int))) hF34 (wantedS rfl) (run_mv rfl (hF34.ev 6 rfl)) rfl (by decide) fun a35 hF35 => ?_
            refine sq (v := (.bool true)) hF35 (wantedS rfl) (run_lss rfl (hF35.ev 48 rfl) (hF35.ev 49 rfl) (decide_eq_true (by omega))) rfl (by decide) fun a36 hF36 => ?_
            refine sqEnd ?_
            clear hF30 hF31 hF32 hF33 hF34 hF35
            refine nx ?_
            refine wp_cond_true (hF36.ev 50 rfl) ?_
            refine wp_seq ?_
            refine wp_region_lit ?_
            refine sq (v := (.slice none 0 0)) hF36 (wantedS rfl) (run_as rfl rfl) rfl (by decide) fun a37 hF37 => ?_
            refine sq (v := (.int .i64 4)) hF37 (wantedS rfl) (run_as rfl rfl) rfl (by decide) fun a38 hF38 => ?_
            refine sqEnd ?_
            clear hF36 hF37
            refine nx ?_
            refine wp_ret ?_
            refine nxRet ?_
            refine bkRet ?_
            refine nxRet ?_
            refine bkRet ?_
            refine nxRet ?_
            exact ret2 hF38 rfl rfl rfl ⟨_, rfl, by unfold TxR; rw [hT2], hM0.below⟩
          · skip
            refine wp_seq ?_
            refine wp_block ?_
            refine wp_seq ?_
            refine wp_seq ?_
            refine wp_region_lit ?_
            refine sq (v := (.int .i64 ((p + k : Nat) : Int))) hF0 (wantedS rfl) (run_mv rfl (hF0.ev 5 rfl)) rfl (by decide) fun a1 hF1 => ?_
            refine sq (v := (.string ⟨b.toArray⟩)) hF1 (wantedS rfl) (run_mv rfl (hF1.ev 0 rfl)) rfl (by decide) fun a2 hF2 => ?_
            refine sq (v := (.int .i64 (b.length : Int))) hF2 (wantedS rfl) (run_len rfl (hF2.ev 18 rfl) rfl Tryd.underlying9) rfl (by decide) fun a3 hF3 => ?_
            refine sq (v := (.bool false)) hF3 (wantedS rfl) (run_eqi rfl (hF3.ev 17 rfl) (hF3.ev 19 rfl) (beq_eq_false_iff_ne.2 (by omega))) rfl (by decide) fun a4 hF4 => ?_
            refine sqEnd ?_
            clear hF0 hF1 hF2 hF3
            refine nx ?_
            refine wp_cond_false (hF4.ev 20 rfl) ?_
            refine wp_skip ?_
            refine nx ?_
            refine wp_seq ?_
            refine wp_region_lit ?_
            refine sq (v := (.string ⟨b.toArray⟩)) hF4 (wantedS rfl) (run_mv rfl (hF4.ev 0 rfl)) rfl (by decide) fun a5 hF5 => ?_
            refine sq (v := (.int .i64 ((p + k : Nat) : Int))) hF5 (wantedS rfl) (run_mv rfl (hF5.ev 5 rfl)) rfl (by decide) fun a6 hF6 => ?_
            refine sq (v := (.int .u8 ((bt b (p + k)).toNat : Int))) hF6 (wantedS rfl) (run_sAt (n := (p + k)) rfl (hF6.ev 21 rfl) (hF6.ev 22 rfl) Tryd.underlying9 rfl (by omega)) rfl (by decide) fun a7 hF7 => ?_
            refine sq (v := (.int .i64 ((bt b (p + k)).toNat : Int))) hF7 (wantedS rfl) (run_cvI (r := ((bt b (p + k)).toNat : Int)) rfl (hF7.ev 23 rfl) Tryd.underlying5 Tryd.underlying3 (by rw [IntKind.wrap_i64]; omega)) rfl (by decide) fun a8 hF8 => ?_
            refine sq (v := (.int .i64 ((bt b (p + k)).toNat : Int))) hF8 (wantedS rfl) (run_as rfl (hF8.ev 24 rfl)) rfl (by decide) fun a9 hF9 => ?_
            refine sqEnd ?_
            clear hF4 hF5 hF6 hF7 hF8
            refine nx ?_
            refine wp_seq ?_
            refine wp_region_lit ?_
            refine sq (v := (.int .i64 ((p + k : Nat) : Int))) hF9 (wantedS rfl) (run_mv rfl (hF9.ev 5 rfl)) rfl (by decide) fun a10 hF10 => ?_
            refine sq (v := (.int .i64 ((p + k + 1 : Nat) : Int))) hF10 (wantedS rfl) (run_add (r := ((p + k + 1 : Nat) : Int)) rfl (hF10.ev 25 rfl) rfl (by rw [IntKind.wrap_i64]; omega)) rfl (by decide) fun a11 hF11 => ?_
            refine sq (v := (.int .i64 ((p + k + 1 : Nat) : Int))) hF11 (wantedS rfl) (run_as rfl (hF11.ev 26 rfl)) rfl (by decide) fun a12 hF12 => ?_
            refine sqEnd ?_
            clear hF9 hF10 hF11
            refine nx ?_
            refine wp_seq ?_
            refine wp_region_lit ?_
            refine sq (v := (.int .i64 (q : Int))) hF12 (wantedS rfl) (run_mv rfl (hF12.ev 6 rfl)) rfl (by decide) fun a13 hF13 => ?_
            refine sq (v := (.int .i64 ((bt b (p + k)).toNat : Int))) hF13 (wantedS rfl) (run_mv rfl (hF13.ev 9 rfl)) rfl (by decide) fun a14 hF14 => ?_
            refine sq (v := (.int .i64 (((bt b (p + k)).toNat % 128 : Nat) : Int))) hF14 (wantedS rfl) (run_rem (r := (((bt b (p + k)).toNat % 128 : Nat) : Int)) rfl (hF14.ev 28 rfl) rfl (by omega) (by rw [Int.tmod_eq_emod_of_nonneg (by omega)]; try omega)) rfl (by decide) fun a15 hF15 => ?_
            refine sq (v := (.int .i64 ((128 ^ k : Nat) : Int))) hF15 (wantedS rfl) (run_mv rfl (hF15.ev 7 rfl)) rfl (by decide) fun a16 hF16 => ?_
            refine sq (v := (.int .i64 (((bt b (p + k)).toNat % 128 * 128 ^ k : Nat) : Int))) hF16 (wantedS rfl) (run_mul (r := (((bt b (p + k)).toNat % 128 * 128 ^ k : Nat) : Int)) rfl (hF16.ev 29 rfl) (hF16.ev 30 rfl) (by rw [IntKind.wrap_i64, ← Int.natCast_mul]; omega)) rfl (by decide) fun a17 hF17 => ?_
            refine sq (v := (.int .i64 (m : Int))) hF17 (wantedS rfl) (run_add (r := (m : Int)) rfl (hF17.ev 27 rfl) (hF17.ev 31 rfl) (by rw [IntKind.wrap_i64, ← hm]; omega)) rfl (by decide) fun a18 hF18 => ?_
            refine sq (v := (.int .i64 (m : Int))) hF18 (wantedS rfl) (run_as rfl (hF18.ev 32 rfl)) rfl (by decide) fun a19 hF19 => ?_
            refine sqEnd ?_
            clear hF12 hF13 hF14 hF15 hF16 hF17 hF18
            refine nx ?_
            refine wp_seq ?_
            refine wp_region_lit ?_
            refine sq (v := (.int .i64 ((128 ^ k : Nat) : Int))) hF19 (wantedS rfl) (run_mv rfl (hF19.ev 7 rfl)) rfl (by decide) fun a20 hF20 => ?_
            refine sq (v := (.int .i64 ((128 ^ (k + 1) : Nat) : Int))) hF20 (wantedS rfl) (run_mul (r := ((128 ^ (k + 1) : Nat) : Int)) rfl (hF20.ev 33 rfl) rfl (by rw [IntKind.wrap_i64, Nat.pow_succ]; omega)) rfl (by decide) fun a21 hF21 => ?_
            refine sq (v := (.int .i64 ((128 ^ (k + 1) : Nat) : Int))) hF21 (wantedS rfl) (run_as rfl (hF21.ev 34 rfl)) rfl (by decide) fun a22 hF22 => ?_
            refine sqEnd ?_
            clear hF19 hF20 hF21
            refine nx ?_
            refine wp_seq ?_
            refine wp_seq ?_
            refine wp_region_lit ?_
            refine sq (v := (.int .i64 ((bt b (p + k)).toNat : Int))) hF22 (wantedS rfl) (run_mv rfl (hF22.ev 9 rfl)) rfl (by decide) fun a23 hF23 => ?_
            refine sq (v := (.bool true)) hF23 (wantedS rfl) (run_lss rfl (hF23.ev 35 rfl) rfl (decide_eq_true (by omega))) rfl (by decide) fun a24 hF24 => ?_
            refine sqEnd ?_
            clear hF22 hF23
            refine nx ?_
            refine wp_cond_true (hF24.ev 36 rfl) ?_
            refine wp_seq ?_
            refine wp_seq ?_
            refine wp_region_lit ?_
            refine sq (v := (.int .i64 ((bt b (p + k)).toNat : Int))) hF24 (wantedS rfl) (run_mv rfl (hF24.ev 9 rfl)) rfl (by decide) fun a25 hF25 => ?_
            refine sq (v := (.bool false)) hF25 (wantedS rfl) (run_eqi rfl (hF25.ev 37 rfl) rfl (beq_eq_false_iff_ne.2 (by omega))) rfl (by decide) fun a26 hF26 => ?_
            refine sq (v := (.bool false)) hF26 (wantedS rfl) (run_mv rfl (hF26.ev 38 rfl)) rfl (by decide) fun a27 hF27 => ?_
            refine sqSkip hF27 (unwantedG hF27 rfl rfl rfl rfl rfl) rfl (by decide) fun a28 hF28 => ?_
            refine sqSkip hF28 (unwantedG hF28 rfl rfl rfl rfl rfl) rfl (by decide) fun a29 hF29 => ?_
            refine sq (v := (.bool false)) hF29 (wantedS rfl) (run_pick rfl (hF29.ev 39 rfl) (hF29.ev 41 rfl) rfl) rfl (by decide) fun a30 hF30 => ?_
            refine sqEnd ?_
            clear hF24 hF25 hF26 hF27 hF28 hF29
            refine nx ?_
            refine wp_cond_false (hF30.ev 42 rfl) ?_
            refine wp_skip ?_
            refine nx ?_
            refine wp_exit ?_
            refine nxExit ?_
            refine bkFar (by decide) ?_
            refine nxExit ?_
            refine nxExit ?_
            refine bkHere ?_
            refine nx ?_
            refine wp_seq ?_
            refine wp_seq ?_
            refine wp_region_lit ?_
            refine sq (v := (.string ⟨b.toArray⟩)) hF30 (wantedS rfl) (run_mv rfl (hF30.ev 0 rfl)) rfl (by decide) fun a31 hF31 => ?_
            refine sq (v := (.int .i64 (b.length : Int))) hF31 (wantedS rfl) (run_len rfl (hF31.ev 45 rfl) rfl Tryd.underlying9) rfl (by decide) fun a32 hF32 => ?_
            refine sq (v := (.int .i64 ((p + k + 1 : Nat) : Int))) hF32 (wantedS rfl) (run_mv rfl (hF32.ev 5 rfl)) rfl (by decide) fun a33 hF33 => ?_
            refine sq (v := (.int .i64 ((b.length - (p + k + 1) : Nat) : Int))) hF33 (wantedS rfl) (run_sub (r := ((b.length - (p + k + 1) : Nat) : Int)) rfl (hF33.ev 46 rfl) (hF33.ev 47 rfl) (by rw [IntKind.wrap_i64]; omega)) rfl (by decide) fun a34 hF34 => ?_
            refine sq (v := (.int .i64 (m : Int))) hF34 (wantedS rfl) (run_mv rfl (hF34.ev 6 rfl)) rfl (by decide) fun a35 hF35 => ?_
            refine sq (v := (.bool true)) hF35 (wantedS rfl) (run_lss rfl (hF35.ev 48 rfl) (hF35.ev 49 rfl) (decide_eq_true (by omega))) rfl (by decide) fun a36 hF36 => ?_
            refine sqEnd ?_
            clear hF30 hF31 hF32 hF33 hF34 hF35
            refine nx ?_
            refine wp_cond_true (hF36.ev 50 rfl) ?_
            refine wp_seq ?_
            refine wp_region_lit ?_
            refine sq (v := (.slice none 0 0)) hF36 (wantedS rfl) (run_as rfl rfl) rfl (by decide) fun a37 hF37 => ?_
            refine sq (v := (.int .i64 4)) hF37 (wantedS rfl) (run_as rfl rfl) rfl (by decide) fun a38 hF38 => ?_
            refine sqEnd ?_
            clear hF36 hF37
            refine nx ?_
            refine wp_ret ?_
            refine nxRet ?_
            refine bkRet ?_
            refine nxRet ?_
            refine bkRet ?_
            refine nxRet ?_
            exact ret2 hF38 rfl rfl rfl ⟨_, rfl, by unfold TxR; rw [hT2], hM0.below⟩
        · rw [if_neg hshort] at hT
          replace hT := hT.trans (txAcc_snoc d ((b.drop (p + k + 1)).take m) (textsS ((b.drop (p + k + 1)).drop m)))
          by_cases hz : (bt b (p + k)).toNat = 0
          · skip
            refine wp_seq ?_
            refine wp_block ?_
            refine wp_seq ?_
            refine wp_seq ?_
            refine wp_region_lit ?_
            refine sq (v := (.int .i64 ((p + k : Nat) : Int))) hF0 (wantedS rfl) (run_mv rfl (hF0.ev 5 rfl)) rfl (by decide) fun a1 hF1 => ?_
            refine sq (v := (.string ⟨b.toArray⟩)) hF1 (wantedS rfl) (run_mv rfl (hF1.ev 0 rfl)) rfl (by decide) fun a2 hF2 => ?_
            refine sq (v := (.int .i64 (b.length : Int))) hF2 (wantedS rfl) (run_len rfl (hF2.ev 18 rfl) rfl Tryd.underlying9) rfl (by decide) fun a3 hF3 => ?_
            refine sq (v := (.bool false)) hF3 (wantedS rfl) (run_eqi rfl (hF3.ev 17 rfl) (hF3.ev 19 rfl) (beq_eq_false_iff_ne.2 (by omega))) rfl (by decide) fun a4 hF4 => ?_
            refine sqEnd ?_
            clear hF0 hF1 hF2 hF3
            refine nx ?_
            refine wp_cond_false (hF4.ev 20 rfl) ?_
            refine wp_skip ?_
            refine nx ?_
            refine wp_seq ?_
            refine wp_region_lit ?_
            refine sq (v := (.string ⟨b.toArray⟩)) hF4 (wantedS rfl) (run_mv rfl (hF4.ev 0 rfl)) rfl (by decide) fun a5 hF5 => ?_
            refine sq (v := (.int .i64 ((p + k : Nat) : Int))) hF5 (wantedS rfl) (run_mv rfl (hF5.ev 5 rfl)) rfl (by decide) fun a6 hF6 => ?_
            refine sq (v := (.int .u8 ((bt b (p + k)).toNat : Int))) hF6 (wantedS rfl) (run_sAt (n := (p + k)) rfl (hF6.ev 21 rfl) (hF6.ev 22 rfl) Tryd.underlying9 rfl (by omega)) rfl (by decide) fun a7 hF7 => ?_
            refine sq (v := (.int .i64 ((bt b (p + k)).toNat : Int))) hF7 (wantedS rfl) (run_cvI (r := ((bt b (p + k)).toNat : Int)) rfl (hF7.ev 23 rfl) Tryd.underlying5 Tryd.underlying3 (by rw [IntKind.wrap_i64]; omega)) rfl (by decide) fun a8 hF8 => ?_
            refine sq (v := (.int .i64 ((bt b (p + k)).toNat : Int))) hF8 (wantedS rfl) (run_as rfl (hF8.ev 24 rfl)) rfl (by decide) fun a9 hF9 => ?_
            refine sqEnd ?_
            clear hF4 hF5 hF6 hF7 hF8
            refine nx ?_
            refine wp_seq ?_
            refine wp_region_lit ?_
            refine sq (v := (.int .i64 ((p + k : Nat) : Int))) hF9 (wantedS rfl) (run_mv rfl (hF9.ev 5 rfl)) rfl (by decide) fun a10 hF10 => ?_
            refine sq (v := (.int .i64 ((p + k + 1 : Nat) : Int))) hF10 (wantedS rfl) (run_add (r := ((p + k + 1 : Nat) : Int)) rfl (hF10.ev 25 rfl) rfl (by rw [IntKind.wrap_i64]; omega)) rfl (by decide) fun a11 hF11 => ?_
            refine sq (v := (.int .i64 ((p + k + 1 : Nat) : Int))) hF11 (wantedS rfl) (run_as rfl (hF11.ev 26 rfl)) rfl (by decide) fun a12 hF12 => ?_
            refine sqEnd ?_
            clear hF9 hF10 hF11
            refine nx ?_
            refine wp_seq ?_
            refine wp_region_lit ?_
            refine sq (v := (.int .i64 (q : Int))) hF12 (wantedS rfl) (run_mv rfl (hF12.ev 6 rfl)) rfl (by decide) fun a13 hF13 => ?_
            refine sq (v := (.int .i64 ((bt b (p + k)).toNat : Int))) hF13 (wantedS rfl) (run_mv rfl (hF13.ev 9 rfl)) rfl (by decide) fun a14 hF14 => ?_
            refine sq (v := (.int .i64 (((bt b (p + k)).toNat % 128 : Nat) : Int))) hF14 (wantedS rfl) (run_rem (r := (((bt b (p + k)).toNat % 128 : Nat) : Int)) rfl (hF14.ev 28 rfl) rfl (by omega) (by rw [Int.tmod_eq_emod_of_nonneg (by omega)]; try omega)) rfl (by decide) fun a15 hF15 => ?_
            refine sq (v := (.int .i64 ((128 ^ k : Nat) : Int))) hF15 (wantedS rfl) (run_mv rfl (hF15.ev 7 rfl)) rfl (by decide) fun a16 hF16 => ?_
            refine sq (v := (.int .i64 (((bt b (p + k)).toNat % 128 * 128 ^ k : Nat) : Int))) hF16 (wantedS rfl) (run_mul (r := (((bt b (p + k)).toNat % 128 * 128 ^ k : Nat) : Int)) rfl (hF16.ev 29 rfl) (hF16.ev 30 rfl) (by rw [IntKind.wrap_i64, ← Int.natCast_mul]; omega)) rfl (by decide) fun a17 hF17 => ?_
            refine sq (v := (.int .i64 (m : Int))) hF17 (wantedS rfl) (run_add (r := (m : Int)) rfl (hF17.ev 27 rfl) (hF17.ev 31 rfl) (by rw [IntKind.wrap_i64, ← hm]; omega)) rfl (by decide) fun a18 hF18 => ?_
            refine sq (v := (.int .i64 (m : Int))) hF18 (wantedS rfl) (run_as rfl (hF18.ev 32 rfl)) rfl (by decide) fun a19 hF19 => ?_
            refine sqEnd ?_
            clear hF12 hF13 hF14 hF15 hF16 hF17 hF18
            refine nx ?_
            refine wp_seq ?_
            refine wp_region_lit ?_
            refine sq (v := (.int .i64 ((128 ^ k : Nat) : Int))) hF19 (wantedS rfl) (run_mv rfl (hF19.ev 7 rfl)) rfl (by decide) fun a20 hF20 => ?_
            refine sq (v := (.int .i64 ((128 ^ (k + 1) : Nat) : Int))) hF20 (wantedS rfl) (run_mul (r := ((128 ^ (k + 1) : Nat) : Int)) rfl (hF20.ev 33 rfl) rfl (by rw [IntKind.wrap_i64, Nat.pow_succ]; omega)) rfl (by decide) fun a21 hF21 => ?_
            refine sq (v := (.int .i64 ((128 ^ (k + 1) : Nat) : Int))) hF21 (wantedS rfl) (run_as rfl (hF21.ev 34 rfl)) rfl (by decide) fun a22 hF22 => ?_
            refine sqEnd ?_
            clear hF19 hF20 hF21
            refine nx ?_
            refine wp_seq ?_
            refine wp_seq ?_
            refine wp_region_lit ?_
            refine sq (v := (.int .i64 ((bt b (p + k)).toNat : Int))) hF22 (wantedS rfl) (run_mv rfl (hF22.ev 9 rfl)) rfl (by decide) fun a23 hF23 => ?_
            refine sq (v := (.bool true)) hF23 (wantedS rfl) (run_lss rfl (hF23.ev 35 rfl) rfl (decide_eq_true (by omega))) rfl (by decide) fun a24 hF24 => ?_
            refine sqEnd ?_
            clear hF22 hF23
            refine nx ?_
            refine wp_cond_true (hF24.ev 36 rfl) ?_
            refine wp_seq ?_
            refine wp_seq ?_
            refine wp_region_lit ?_
            refine sq (v := (.int .i64 ((bt b (p + k)).toNat : Int))) hF24 (wantedS rfl) (run_mv rfl (hF24.ev 9 rfl)) rfl (by decide) fun a25 hF25 => ?_
            refine sq (v := (.bool true)) hF25 (wantedS rfl) (run_eqi rfl (hF25.ev 37 rfl) rfl (beq_iff_eq.2 (by omega))) rfl (by decide) fun a26 hF26 => ?_
            refine sq (v := (.bool true)) hF26 (wantedS rfl) (run_mv rfl (hF26.ev 38 rfl)) rfl (by decide) fun a27 hF27 => ?_
            refine sq (v := (.int .i64 (k : Int))) hF27 (wantedG hF27 rfl rfl rfl rfl rfl) (run_mv rfl (hF27.ev 8 rfl)) rfl (by decide) fun a28 hF28 => ?_
            refine sq (v := (.bool false)) hF28 (wantedG hF28 rfl rfl rfl rfl rfl) (run_gtr rfl (hF28.ev 40 rfl) rfl (decide_eq_false (by omega))) rfl (by decide) fun a29 hF29 => ?_
            refine sq (v := (.bool false)) hF29 (wantedS rfl) (run_pick rfl (hF29.ev 39 rfl) (hF29.ev 41 rfl) rfl) rfl (by decide) fun a30 hF30 => ?_
            refine sqEnd ?_
            clear hF24 hF25 hF26 hF27 hF28 hF29
            refine nx ?_
            refine wp_cond_false (hF30.ev 42 rfl) ?_
            refine wp_skip ?_
            refine nx ?_
            refine wp_exit ?_
            refine nxExit ?_
            refine bkFar (by decide) ?_
            refine nxExit ?_
            refine nxExit ?_
            refine bkHere ?_
            refine nx ?_
            refine wp_seq ?_
            refine wp_seq ?_
            refine wp_region_lit ?_
            refine sq (v := (.string ⟨b.toArray⟩)) hF30 (wantedS rfl) (run_mv rfl (hF30.ev 0 rfl)) rfl (by decide) fun a31 hF31 => ?_
            refine sq (v := (.int .i64 (b.length : Int))) hF31 (wantedS rfl) (run_len rfl (hF31.ev 45 rfl) rfl Tryd.underlying9) rfl (by decide) fun a32 hF32 => ?_
            refine sq (v := (.int .i64 ((p + k + 1 : Nat) : Int))) hF32 (wantedS rfl) (run_mv rfl (hF32.ev 5 rfl)) rfl (by decide) fun a33 hF33 => ?_
            refine sq (v := (.int .i64 ((b.length - (p + k + 1) : Nat) : Int))) hF33 (wantedS rfl) (run_sub (r := ((b.length - (p + k + 1) : Nat) : Int)) rfl (hF33.ev 46 rfl) (hF33.ev 47 rfl) (by rw [IntKind.wrap_i64]; omega)) rfl (by decide) fun a34 hF34 => ?_
            refine sq (v := (.int .i64 (m : Int))) hF34 (wantedS rfl) (run_mv rfl (hF34.ev 6 rfl)) rfl (by decide) fun a35 hF35 => ?_
            refine sq (v := (.bool false)) hF35 (wantedS rfl) (run_lss rfl (hF35.ev 48 rfl) (hF35.ev 49 rfl) (decide_eq_false (by omega))) rfl (by decide) fun a36 hF36 => ?_
            refine sqEnd ?_
            clear hF30 hF31 hF32 hF33 hF34 hF35
            refine nx ?_
            refine wp_cond_false (hF36.ev 50 rfl) ?_
            refine wp_skip ?_
            refine nx ?_
            refine wp_seq ?_
            refine wp_region_lit ?_
            refine sq (v := v) hF36 (wantedS rfl) (run_mv rfl (hF36.ev 4 rfl)) rfl (by decide) fun a37 hF37 => ?_
            refine sq (v := (.string ⟨b.toArray⟩)) hF37 (wantedS rfl) (run_mv rfl (hF37.ev 0 rfl)) rfl (by decide) fun a38 hF38 => ?_
            refine sq (v := (.int .i64 ((p + k + 1 : Nat) : Int))) hF38 (wantedS rfl) (run_mv rfl (hF38.ev 5 rfl)) rfl (by decide) fun a39 hF39 => ?_
            refine sq (v := (.int .i64 ((p + k + 1 : Nat) : Int))) hF39 (wantedS rfl) (run_mv rfl (hF39.ev 5 rfl)) rfl (by decide) fun a40 hF40 => ?_
            refine sq (v := (.int .i64 (m : Int))) hF40 (wantedS rfl) (run_mv rfl (hF40.ev 6 rfl)) rfl (by decide) fun a41 hF41 => ?_
            refine sq (v := (.int .i64 ((p + k + 1 + m : Nat) : Int))) hF41 (wantedS rfl) (run_add (r := ((p + k + 1 + m : Nat) : Int)) rfl (hF41.ev 54 rfl) (hF41.ev 55 rfl) (by rw [IntKind.wrap_i64]; omega)) rfl (by decide) fun a42 hF42 => ?_
            refine sq (v := (.string ⟨((b.drop (p + k + 1)).take m).toArray⟩)) hF42 (wantedS rfl) (run_sMidE (m := (p + k + 1)) (m2 := (p + k + 1 + m)) (by rw [Nat.add_sub_cancel_left]) rfl (hF42.ev 52 rfl) (hF42.ev 53 rfl) (hF42.ev 56 rfl) Tryd.underlying9 rfl rfl (by omega) (by omega)) rfl (by decide) fun a43 hF43 => ?_
            refine sqRow (cs := #[.string ⟨((b.drop (p + k + 1)).take m).toArray⟩]) (t := 9) (m := 1) hF43 hM0 (wantedS rfl) (run_strs1 rfl (hF43.ev 57 rfl)) rfl (by decide) fun g1 a44 w2 hgg1 hb2 hF44 hM1 => ?_
            have hO1 := hO0.add (S := isB 9 #[.string ⟨((b.drop (p + k + 1)).take m).toArray⟩]) hb2 hgg1
            refine sqAppend (news := [.string ⟨((b.drop (p + k + 1)).take m).toArray⟩]) elStr hF44 hM1 hO1 rfl rfl (hF44.ev 51 rfl) (hF44.ev 58 rfl) rfl (blkNews (hM1.at 0 rfl)) (all_one rfl) (by unfold maxLen; omega) (by omega) rfl (by decide) fun v2 a45 w3 hO2 hM2 hnilv2 hF45 => ?_
            refine sq (v := v2) hF45 (wantedS rfl) (run_as rfl (hF45.ev 59 rfl)) rfl (by decide) fun a46 hF46 => ?_
            refine sqEnd ?_
            clear hF36 hF37 hF38 hF39 hF40 hF41 hF42 hF43 hF44 hF45 hM0 hM1
            refine nx ?_
            refine wp_region_lit ?_
            refine sq (v := (.int .i64 ((p + k + 1 : Nat) : Int))) hF46 (wantedS rfl) (run_mv rfl (hF46.ev 5 rfl)) rfl (by decide) fun a47 hF47 => ?_
            refine sq (v := (.int .i64 (m : Int))) hF47 (wantedS rfl) (run_mv rfl (hF47.ev 6 rfl)) rfl (by decide) fun a48 hF48 => ?_
            refine sq (v := (.int .i64 ((p + k + 1 + m : Nat) : Int))) hF48 (wantedS rfl) (run_add (r := ((p + k + 1 + m : Nat) : Int)) rfl (hF48.ev 60 rfl) (hF48.ev 61 rfl) (by rw [IntKind.wrap_i64]; omega)) rfl (by decide) fun a49 hF49 => ?_
            refine sq (v := (.int .i64 ((p + k + 1 + m : Nat) : Int))) hF49 (wantedS rfl) (run_as rfl (hF49.ev 62 rfl)) rfl (by decide) fun a50 hF50 => ?_
            refine sqEnd ?_
            clear hF46 hF47 hF48 hF49
            refine bkEnd ?_
            refine nx ?_
            exact ⟨_, by omega, d ++ [(b.drop (p + k + 1)).take m], p + k + 1 + m, v2, rfl, by omega, by rw [List.length_append, List.length_singleton]; omega, by rw [List.drop_drop] at hT; exact hT, by rw [List.map_append, List.length_append]; exact hO2.sub (List.nil_sublist _), hF50.sub ⟨rfl, rfl, rfl, trivial⟩, hM2.sub (List.nil_sublist _)⟩
          · skip
            refine wp_seq ?_
            refine wp_block ?_
            refine wp_seq ?_
            refine wp_seq ?_
            refine wp_region_lit ?_
            refine sq (v := (.int .i64 ((p + k : Nat) : Int))) hF0 (wantedS rfl) (run_mv rfl (hF0.ev 5 rfl)) rfl (by decide) fun a1 hF1 => ?_
            refine sq (v := (.string ⟨b.toArray⟩)) hF1 (wantedS rfl) (run_mv rfl (hF1.ev 0 rfl)) rfl (by decide) fun a2 hF2 => ?_
            refine sq (v := (.int .i64 (b.length : Int))) hF2 (wantedS rfl) (run_len rfl (hF2.ev 18 rfl) rfl Tryd.underlying9) rfl (by decide) fun a3 hF3 => ?_
            refine sq (v := (.bool false)) hF3 (wantedS rfl) (run_eqi rfl (hF3.ev 17 rfl) (hF3.ev 19 rfl) (beq_eq_false_iff_ne.2 (by omega))) rfl (by decide) fun a4 hF4 => ?_
            refine sqEnd ?_
            clear hF0 hF1 hF2 hF3
            refine nx ?_
            refine wp_cond_false (hF4.ev 20 rfl) ?_
            refine wp_skip ?_
            refine nx ?_
            refine wp_seq ?_
            refine wp_region_lit ?_
            refine sq (v := (.string ⟨b.toArray⟩)) hF4 (wantedS rfl) (run_mv rfl (hF4.ev 0 rfl)) rfl (by decide) fun a5 hF5 => ?_
            refine sq (v := (.int .i64 ((p + k : Nat) : Int))) hF5 (wantedS rfl) (run_mv rfl (hF5.ev 5 rfl)) rfl (by decide) fun a6 hF6 => ?_
            refine sq (v := (.int .u8 ((bt b (p + k)).toNat : Int))) hF6 (wantedS rfl) (run_sAt (n := (p + k)) rfl (hF6.ev 21 rfl) (hF6.ev 22 rfl) Tryd.underlying9 rfl (by omega)) rfl (by decide) fun a7 hF7 => ?_
            refine sq (v := (.int .i64 ((bt b (p + k)).toNat : Int))) hF7 (wantedS rfl) (run_cvI (r := ((bt b (p + k)).toNat : Int)) rfl (hF7.ev 23 rfl) Tryd.underlying5 Tryd.underlying3 (by rw [IntKind.wrap_i64]; omega)) rfl (by decide) fun a8 hF8 => ?_
            refine sq (v := (.int .i64 ((bt b (p + k)).toNat : Int))) hF8 (wantedS rfl) (run_as rfl (hF8.ev 24 rfl)) rfl (by decide) fun a9 hF9 => ?_
            refine sqEnd ?_
            clear hF4 hF5 hF6 hF7 hF8
            refine nx ?_
            refine wp_seq ?_
            refine wp_region_lit ?_
            refine sq (v := (.int .i64 ((p + k : Nat) : Int))) hF9 (wantedS rfl) (run_mv rfl (hF9.ev 5 rfl)) rfl (by decide) fun a10 hF10 => ?_
            refine sq (v := (.int .i64 ((p + k + 1 : Nat) : Int))) hF10 (wantedS rfl) (run_add (r := ((p + k + 1 : Nat) : Int)) rfl (hF10.ev 25 rfl) rfl (by rw [IntKind.wrap_i64]; omega)) rfl (by decide) fun a11 hF11 => ?_
            refine sq (v := (.int .i64 ((p + k + 1 : Nat) : Int))) hF11 (wantedS rfl) (run_as rfl (hF11.ev 26 rfl)) rfl (by decide) fun a12 hF12 => ?_
            refine sqEnd ?_
            clear hF9 hF10 hF11
            refine nx ?_
            refine wp_seq ?_
            refine wp_region_lit ?_
            refine sq (v := (.int .i64 (q : Int))) hF12 (wantedS rfl) (run_mv rfl (hF12.ev 6 rfl)) rfl (by decide) fun a13 hF13 => ?_
            refine sq (v := (.int .i64 ((bt b (p + k)).toNat : Int))) hF13 (wantedS rfl) (run_mv rfl (hF13.ev 9 rfl)) rfl (by decide) fun a14 hF14 => ?_
            refine sq (v := (.int .i64 (((bt b (p + k)).toNat % 128 : Nat) : Int))) hF14 (wantedS rfl) (run_rem (r := (((bt b (p + k)).toNat % 128 : Nat) : Int)) rfl (hF14.ev 28 rfl) rfl (by omega) (by rw [Int.tmod_eq_emod_of_nonneg (by omega)]; try omega)) rfl (by decide) fun a15 hF15 => ?_
            refine sq (v := (.int .i64 ((128 ^ k : Nat) : Int))) hF15 (wantedS rfl) (run_mv rfl (hF15.ev 7 rfl)) rfl (by decide) fun a16 hF16 => ?_
            refine sq (v := (.int .i64 (((bt b (p + k)).toNat % 128 * 128 ^ k : Nat) : Int))) hF16 (wantedS rfl) (run_mul (r := (((bt b (p + k)).toNat % 128 * 128 ^ k : Nat) : Int)) rfl (hF16.ev 29 rfl) (hF16.ev 30 rfl) (by rw [IntKind.wrap_i64, ← Int.natCast_mul]; omega)) rfl (by decide) fun a17 hF17 => ?_
            refine sq (v := (.int .i64 (m : Int))) hF17 (wantedS rfl) (run_add (r := (m : Int)) rfl (hF17.ev 27 rfl) (hF17.ev 31 rfl) (by rw [IntKind.wrap_i64, ← hm]; omega)) rfl (by decide) fun a18 hF18 => ?_
            refine sq (v := (.int .i64 (m : Int))) hF18 (wantedS rfl) (run_as rfl (hF18.ev 32 rfl)) rfl (by decide) fun a19 hF19 => ?_
            refine sqEnd ?_
            clear hF12 hF13 hF14 hF15 hF16 hF17 hF18
            refine nx ?_
            refine wp_seq ?_
            refine wp_region_lit ?_
            refine sq (v := (.int .i64 ((128 ^ k : Nat) : Int))) hF19 (wantedS rfl) (run_mv rfl (hF19.ev 7 rfl)) rfl (by decide) fun a20 hF20 => ?_
            refine sq (v := (.int .i64 ((128 ^ (k + 1) : Nat) : Int))) hF20 (wantedS rfl) (run_mul (r := ((128 ^ (k + 1) : Nat) : Int)) rfl (hF20.ev 33 rfl) rfl (by rw [IntKind.wrap_i64, Nat.pow_succ]; omega)) rfl (by decide) fun a21 hF21 => ?_
            refine sq (v := (.int .i64 ((128 ^ (k + 1) : Nat) : Int))) hF21 (wantedS rfl) (run_as rfl (hF21.ev 34 rfl)) rfl (by decide) fun a22 hF22 => ?_
            refine sqEnd ?_
            clear hF19 hF20 hF21
            refine nx ?_
            refine wp_seq ?_
            refine wp_seq ?_
            refine wp_region_lit ?_
            refine sq (v := (.int .i64 ((bt b (p + k)).toNat : Int))) hF22 (wantedS rfl) (run_mv rfl (hF22.ev 9 rfl)) rfl (by decide) fun a23 hF23 => ?_
            refine sq (v := (.bool true)) hF23 (wantedS rfl) (run_lss rfl (hF23.ev 35 rfl) rfl (decide_eq_true (by omega))) rfl (by decide) fun a24 hF24 => ?_
            refine sqEnd ?_
            clear hF22 hF23
            refine nx ?_
            refine wp_cond_true (hF24.ev 36 rfl) ?_
            refine wp_seq ?_
            refine wp_seq ?_
            refine wp_region_lit ?_
            refine sq (v := (.int .i64 ((bt b (p + k)).toNat : Int))) hF24 (wantedS rfl) (run_mv rfl (hF24.ev 9 rfl)) rfl (by decide) fun a25 hF25 => ?_
            refine sq (v := (.bool false)) hF25 (wantedS rfl) (run_eqi rfl (hF25.ev 37 rfl) rfl (beq_eq_false_iff_ne.2 (by omega))) rfl (by decide) fun a26 hF26 => ?_
            refine sq (v := (.bool false)) hF26 (wantedS rfl) (run_mv rfl (hF26.ev 38 rfl)) rfl (by decide) fun a27 hF27 => ?_
            refine sqSkip hF27 (unwantedG hF27 rfl rfl rfl rfl rfl) rfl (by decide) fun a28 hF28 => ?_
            refine sqSkip hF28 (unwantedG hF28 rfl rfl rfl rfl rfl) rfl (by decide) fun a29 hF29 => ?_
            refine sq (v := (.bool false)) hF29 (wantedS rfl) (run_pick rfl (hF29.ev 39 rfl) (hF29.ev 41 rfl) rfl) rfl (by decide) fun a30 hF30 => ?_
            refine sqEnd ?_
            clear hF24 hF25 hF26 hF27 hF28 hF29
            refine nx ?_
            refine wp_cond_false (hF30.ev 42 rfl) ?_
            refine wp_skip ?_
            refine nx ?_
            refine wp_exit ?_
            refine nxExit ?_
            refine bkFar (by decide) ?_
            refine nxExit ?_
            refine nxExit ?_
            refine bkHere ?_
            refine nx ?_
            refine wp_seq ?_
            refine wp_seq ?_
            refine wp_region_lit ?_
            refine sq (v := (.string ⟨b.toArray⟩)) hF30 (wantedS rfl) (run_mv rfl (hF30.ev 0 rfl)) rfl (by decide) fun a31 hF31 => ?_
            refine sq (v := (.int .i64 (b.length : Int))) hF31 (wantedS rfl) (run_len rfl (hF31.ev 45 rfl) rfl Tryd.underlying9) rfl (by decide) fun a32 hF32 => ?_
            refine sq (v := (.int .i64 ((p + k + 1 : Nat) : Int))) hF32 (wantedS rfl) (run_mv rfl (hF32.ev 5 rfl)) rfl (by decide) fun a33 hF33 => ?_
            refine sq (v := (.int .i64 ((b.length - (p + k + 1) : Nat) : Int))) hF33 (wantedS rfl) (run_sub (r := ((b.length - (p + k + 1) : Nat) : Int)) rfl (hF33.ev 46 rfl) (hF33.ev 47 rfl) (by rw [IntKind.wrap_i64]; omega)) rfl (by decide) fun a34 hF34 => ?_
            refine sq (v := (.int .i64 (m : Int))) hF34 (wantedS rfl) (run_mv rfl (hF34.ev 6 rfl)) rfl (by decide) fun a35 hF35 => ?_
            refine sq (v := (.bool false)) hF35 (wantedS rfl) (run_lss rfl (hF35.ev 48 rfl) (hF35.ev 49 rfl) (decide_eq_false (by omega))) rfl (by decide) fun a36 hF36 => ?_
            refine sqEnd ?_
            clear hF30 hF31 hF32 hF33 hF34 hF35
            refine nx ?_
            refine wp_cond_false (hF36.ev 50 rfl) ?_
            refine wp_skip ?_
            refine nx ?_
            refine wp_seq ?_
            refine wp_region_lit ?_
            refine sq (v := v) hF36 (wantedS rfl) (run_mv rfl (hF36.ev 4 rfl)) rfl (by decide) fun a37 hF37 => ?_
            refine sq (v := (.string ⟨b.toArray⟩)) hF37 (wantedS rfl) (run_mv rfl (hF37.ev 0 rfl)) rfl (by decide) fun a38 hF38 => ?_
            refine sq (v := (.int .i64 ((p + k + 1 : Nat) : Int))) hF38 (wantedS rfl) (run_mv rfl (hF38.ev 5 rfl)) rfl (by decide) fun a39 hF39 => ?_
            refine sq (v := (.int .i64 ((p + k + 1 : Nat) : Int))) hF39 (wantedS rfl) (run_mv rfl (hF39.ev 5 rfl)) rfl (by decide) fun a40 hF40 => ?_
            refine sq (v := (.int .i64 (m : Int))) hF40 (wantedS rfl) (run_mv rfl (hF40.ev 6 rfl)) rfl (by decide) fun a41 hF41 => ?_
            refine sq (v := (.int .i64 ((p + k + 1 + m : Nat) : Int))) hF41 (wantedS rfl) (run_add (r := ((p + k + 1 + m : Nat) : Int)) rfl (hF41.ev 54 rfl) (hF41.ev 55 rfl) (by rw [IntKind.wrap_i64]; omega)) rfl (by decide) fun a42 hF42 => ?_
            refine sq (v := (.string ⟨((b.drop (p + k + 1)).take m).toArray⟩)) hF42 (wantedS rfl) (run_sMidE (m := (p + k + 1)) (m2 := (p + k + 1 + m)) (by rw [Nat.add_sub_cancel_left]) rfl (hF42.ev 52 rfl) (hF42.ev 53 rfl) (hF42.ev 56 rfl) Tryd.underlying9 rfl rfl (by omega) (by omega)) rfl (by decide) fun a43 hF43 => ?_
            refine sqRow (cs := #[.string ⟨((b.drop (p + k + 1)).take m).toArray⟩]) (t := 9) (m := 1) hF43 hM0 (wantedS rfl) (run_strs1 rfl (hF43.ev 57 rfl)) rfl (by decide) fun g3 a44 w2 hgg3 hb2 hF44 hM1 => ?_
            have hO1 := hO0.add (S := isB 9 #[.string ⟨((b.drop (p + k + 1)).take m).toArray⟩]) hb2 hgg3
            refine sqAppend (news := [.string ⟨((b.drop (p + k + 1)).take m).toArray⟩]) elStr hF44 hM1 hO1 rfl rfl (hF44.ev 51 rfl) (hF44.ev 58 rfl) rfl (blkNews (hM1.at 0 rfl)) (all_one rfl) (by unfold maxLen; omega) (by omega) rfl (by decide) fun v4 a45 w3 hO2 hM2 hnilv4 hF45 => ?_
            refine sq (v := v4) hF45 (wantedS rfl) (run_as rfl (hF45.ev 59 rfl)) rfl (by decide) fun a46 hF46 => ?_
            refine sqEnd ?_
            clear hF36 hF37 hF38 hF39 hF40 hF41 hF42 hF43 hF44 hF45 hM0 hM1
            refine nx ?_
            refine wp_region_lit ?_
            refine sq (v := (.int .i64 ((p + k + 1 : Nat) : Int))) hF46 (wantedS rfl) (run_mv rfl (hF46.ev 5 rfl)) rfl (by decide) fun a47 hF47 => ?_
            refine sq (v := (.int .i64 (m : Int))) hF47 (wantedS rfl) (run_mv rfl (hF47.ev 6 rfl)) rfl (by decide) fun a48 hF48 => ?_
            refine sq (v := (.int .i64 ((p + k + 1 + m : Nat) : Int))) hF48 (wantedS rfl) (run_add (r := ((p + k + 1 + m : Nat) : Int)) rfl (hF48.ev 60 rfl) (hF48.ev 61 rfl) (by rw [IntKind.wrap_i64]; omega)) rfl (by decide) fun a49 hF49 => ?_
            refine sq (v := (.int .i64 ((p + k + 1 + m : Nat) : Int))) hF49 (wantedS rfl) (run_as rfl (hF49.ev 62 rfl)) rfl (by decide) fun a50 hF50 => ?_
            refine sqEnd ?_
            clear hF46 hF47 hF48 hF49
            refine bkEnd ?_
            refine nx ?_
            exact ⟨_, by omega, d ++ [(b.drop (p + k + 1)).take m], p + k + 1 + m, v4, rfl, by omega, by rw [List.length_append, List.length_singleton]; omega, by rw [List.drop_drop] at hT; exact hT, by rw [List.map_append, List.length_append]; exact hO2.sub (List.nil_sublist _), hF50.sub ⟨rfl, rfl, rfl, trivial⟩, hM2.sub (List.nil_sublist _)⟩
    · by_cases h3 : k = 3
      · have hT2 : textsS b = .error 3 := by rw [hT, hR, lenP_cons, if_neg h8, if_pos h3]; rfl
        refine wp_seq ?_
        refine wp_block ?_
        refine wp_seq ?_
        refine wp_seq ?_
        refine wp_region_lit ?_
        refine sq (v := (.int .i64 ((p + k : Nat) : Int))) hF0 (wantedS rfl) (run_mv rfl (hF0.ev 5 rfl)) rfl (by decide) fun a1 hF1 => ?_
        refine sq (v := (.string ⟨b.toArray⟩)) hF1 (wantedS rfl) (run_mv rfl (hF1.ev 0 rfl)) rfl (by decide) fun a2 hF2 => ?_
        refine sq (v := (.int .i64 (b.length : Int))) hF2 (wantedS rfl) (run_len rfl (hF2.ev 18 rfl) rfl Tryd.underlying9) rfl (by decide) fun a3 hF3 => ?_
        refine sq (v := (.bool false)) hF3 (wantedS rfl) (run_eqi rfl (hF3.ev 17 rfl) (hF3.ev 19 rfl) (beq_eq_false_iff_ne.2 (by omega))) rfl (by decide) fun a4 hF4 => ?_
        refine sqEnd ?_
        clear hF0 hF1 hF2 hF3
        refine nx ?_
        refine wp_cond_false (hF4.ev 20 rfl) ?_
        refine wp_skip ?_
        refine nx ?_
        refine wp_seq ?_
        refine wp_region_lit ?_
        refine sq (v := (.string ⟨b.toArray⟩)) hF4 (wantedS rfl) (run_mv rfl (hF4.ev 0 rfl)) rfl (by decide) fun a5 hF5 => ?_
        refine sq (v := (.int .i64 ((p + k : Nat) : Int))) hF5 (wantedS rfl) (run_mv rfl (hF5.ev 5 rfl)) rfl (by decide) fun a6 hF6 => ?_
        refine sq (v := (.int .u8 ((bt b (p + k)).toNat : Int))) hF6 (wantedS rfl) (run_sAt (n := (p + k)) rfl (hF6.ev 21 rfl) (hF6.ev 22 rfl) Tryd.underlying9 rfl (by omega)) rfl (by decide) fun a7 hF7 => ?_
        refine sq (v := (.int .i64 ((bt b (p + k)).toNat : Int))) hF7 (wantedS rfl) (run_cvI (r := ((bt b (p + k)).toNat : Int)) rfl (hF7.ev 23 rfl) Tryd.underlying5 Tryd.underlying3 (by rw [IntKind.wrap_i64]; omega)) rfl (by decide) fun a8 hF8 => ?_
        refine sq (v := (.int .i64 ((bt b (p + k)).toNat : Int))) hF8 (wantedS rfl) (run_as rfl (hF8.ev 24 rfl)) rfl (by decide) fun a9 hF9 => ?_
        refine sqEnd ?_
        clear hF4 hF5 hF6 hF7 hF8
        refine nx ?_
        refine wp_seq ?_
        refine wp_region_lit ?_
        refine sq (v := (.int .i64 ((p + k : Nat) : Int))) hF9 (wantedS rfl) (run_mv rfl (hF9.ev 5 rfl)) rfl (by decide) fun a10 hF10 => ?_
        refine sq (v := (.int .i64 ((p + k + 1 : Nat) : Int))) hF10 (wantedS rfl) (run_add (r := ((p + k + 1 : Nat) : Int)) rfl (hF10.ev 25 rfl) rfl (by rw [IntKind.wrap_i64]; omega)) rfl (by decide) fun a11 hF11 => ?_
        refine sq (v := (.int .i64 ((p + k + 1 : Nat) : Int))) hF11 (wantedS rfl) (run_as rfl (hF11.ev 26 rfl)) rfl (by decide) fun a12 hF12 => ?_
        refine sqEnd ?_
        clear hF9 hF10 hF11
        refine nx ?_
        refine wp_seq ?_
        refine wp_region_lit ?_
        refine sq (v := (.int .i64 (q : Int))) hF12 (wantedS rfl) (run_mv rfl (hF12.ev 6 rfl)) rfl (by decide) fun a13 hF13 => ?_
        refine sq (v := (.int .i64 ((bt b (p + k)).toNat : Int))) hF13 (wantedS rfl) (run_mv rfl (hF13.ev 9 rfl)) rfl (by decide) fun a14 hF14 => ?_
        refine sq (v := (.int .i64 (((bt b (p + k)).toNat % 128 : Nat) : Int))) hF14 (wantedS rfl) (run_rem (r := (((bt b (p + k)).toNat % 128 : Nat) : Int)) rfl (hF14.ev 28 rfl) rfl (by omega) (by rw [Int.tmod_eq_emod_of_nonneg (by omega)]; try omega)) rfl (by decide) fun a15 hF15 => ?_
        refine sq (v := (.int .i64 ((128 ^ k : Nat) : Int))) hF15 (wantedS rfl) (run_mv rfl (hF15.ev 7 rfl)) rfl (by decide) fun a16 hF16 => ?_
        refine sq (v := (.int .i64 (((bt b (p + k)).toNat % 128 * 128 ^ k : Nat) : Int))) hF16 (wantedS rfl) (run_mul (r := (((bt b (p + k)).toNat % 128 * 128 ^ k : Nat) : Int)) rfl (hF16.ev 29 rfl) (hF16.ev 30 rfl) (by rw [IntKind.wrap_i64, ← Int.natCast_mul]; omega)) rfl (by decide) fun a17 hF17 => ?_
        refine sq (v := (.int .i64 ((q + (bt b (p + k)).toNat % 128 * 128 ^ k : Nat) : Int))) hF17 (wantedS rfl) (run_add (r := ((q + (bt b (p + k)).toNat % 128 * 128 ^ k : Nat) : Int)) rfl (hF17.ev 27 rfl) (hF17.ev 31 rfl) (by rw [IntKind.wrap_i64]; omega)) rfl (by decide) fun a18 hF18 => ?_
        refine sq (v := (.int .i64 ((q + (bt b (p + k)).toNat % 128 * 128 ^ k : Nat) : Int))) hF18 (wantedS rfl) (run_as rfl (hF18.ev 32 rfl)) rfl (by decide) fun a19 hF19 => ?_
        refine sqEnd ?_
        clear hF12 hF13 hF14 hF15 hF16 hF17 hF18
        refine nx ?_
        refine wp_seq ?_
        refine wp_region_lit ?_
        refine sq (v := (.int .i64 ((128 ^ k : Nat) : Int))) hF19 (wantedS rfl) (run_mv rfl (hF19.ev 7 rfl)) rfl (by decide) fun a20 hF20 => ?_
        refine sq (v := (.int .i64 ((128 ^ (k + 1) : Nat) : Int))) hF20 (wantedS rfl) (run_mul (r := ((128 ^ (k + 1) : Nat) : Int)) rfl (hF20.ev 33 rfl) rfl (by rw [IntKind.wrap_i64, Nat.pow_succ]; omega)) rfl (by decide) fun a21 hF21 => ?_
        refine sq (v := (.int .i64 ((128 ^ (k + 1) : Nat) : Int))) hF21 (wantedS rfl) (run_as rfl (hF21.ev 34 rfl)) rfl (by decide) fun a22 hF22 => ?_
        refine sqEnd ?_
        clear hF19 hF20 hF21
        refine nx ?_
        refine wp_seq ?_
        refine wp_seq ?_
        refine wp_region_lit ?_
        refine sq (v := (.int .i64 ((bt b (p + k)).toNat : Int))) hF22 (wantedS rfl) (run_mv rfl (hF22.ev 9 rfl)) rfl (by decide) fun a23 hF23 => ?_
        refine sq (v := (.bool false)) hF23 (wantedS rfl) (run_lss rfl (hF23.ev 35 rfl) rfl (decide_eq_false (by omega))) rfl (by decide) fun a24 hF24 => ?_
        refine sqEnd ?_
        clear hF22 hF23
        refine nx ?_
        refine wp_cond_false (hF24.ev 36 rfl) ?_
        refine wp_skip ?_
        refine nx ?_
        refine wp_seq ?_
        refine wp_region_lit ?_
        refine sq (v := (.int .i64 (k : Int))) hF24 (wantedS rfl) (run_mv rfl (hF24.ev 8 rfl)) rfl (by decide) fun a25 hF25 => ?_
        refine sq (v := (.bool true)) hF25 (wantedS rfl) (run_eqi rfl (hF25.ev 43 rfl) rfl (beq_iff_eq.2 (by omega))) rfl (by decide) fun a26 hF26 => ?_
        refine sqEnd ?_
        clear hF24 hF25
        refine nx ?_
        refine wp_cond_true (hF26.ev 44 rfl) ?_
        refine wp_seq ?_
        refine wp_region_lit ?_
        refine sq (v := (.slice none 0 0)) hF26 (wantedS rfl) (run_as rfl rfl) rfl (by decide) fun a27 hF27 => ?_
        refine sq (v := (.int .i64 3)) hF27 (wantedS rfl) (run_as rfl rfl) rfl (by decide) fun a28 hF28 => ?_
        refine sqEnd ?_
        clear hF26 hF27
        refine nx ?_
        refine wp_ret ?_
        refine bkRet ?_
        refine nxRet ?_
        refine nxRet ?_
        refine bkRet ?_
        refine nxRet ?_
        refine bkRet ?_
        refine nxRet ?_
        refine bkRet ?_
        refine nxRet ?_
        exact ret2 hF28 rfl rfl rfl ⟨_, rfl, by unfold TxR; rw [hT2], hM0.below⟩
      · skip
        refine wp_seq ?_
        refine wp_block ?_
        refine wp_seq ?_
        refine wp_seq ?_
        refine wp_region_lit ?_
        refine sq (v := (.int .i64 ((p + k : Nat) : Int))) hF0 (wantedS rfl) (run_mv rfl (hF0.ev 5 rfl)) rfl (by decide) fun a1 hF1 => ?_
        refine sq (v := (.string ⟨b.toArray⟩)) hF1 (wantedS rfl) (run_mv rfl (hF1.ev 0 rfl)) rfl (by decide) fun a2 hF2 => ?_
        refine sq (v := (.int .i64 (b.length : Int))) hF2 (wantedS rfl) (run_len rfl (hF2.ev 18 rfl) rfl Tryd.underlying9) rfl (by decide) fun a3 hF3 => ?_
        refine sq (v := (.bool false)) hF3 (wantedS rfl) (run_eqi rfl (hF3.ev 17 rfl) (hF3.ev 19 rfl) (beq_eq_false_iff_ne.2 (by omega))) rfl (by decide) fun a4 hF4 => ?_
        refine sqEnd ?_
        clear hF0 hF1 hF2 hF3
        refine nx ?_
        refine wp_cond_false (hF4.ev 20 rfl) ?_
        refine wp_skip ?_
        refine nx ?_
        refine wp_seq ?_
        refine wp_region_lit ?_
        refine sq (v := (.string ⟨b.toArray⟩)) hF4 (wantedS rfl) (run_mv rfl (hF4.ev 0 rfl)) rfl (by decide) fun a5 hF5 => ?_
        refine sq (v := (.int .i64 ((p + k : Nat) : Int))) hF5 (wantedS rfl) (run_mv rfl (hF5.ev 5 rfl)) rfl (by decide) fun a6 hF6 => ?_
        refine sq (v := (.int .u8 ((bt b (p + k)).toNat : Int))) hF6 (wantedS rfl) (run_sAt (n := (p + k)) rfl (hF6.ev 21 rfl) (hF6.ev 22 rfl) Tryd.underlying9 rfl (by omega)) rfl (by decide) fun a7 hF7 => ?_
        refine sq (v := (.int .i64 ((bt b (p + k)).toNat : Int))) hF7 (wantedS rfl) (run_cvI (r := ((bt b (p + k)).toNat : Int)) rfl (hF7.ev 23 rfl) Tryd.underlying5 Tryd.underlying3 (by rw [IntKind.wrap_i64]; omega)) rfl (by decide) fun a8 hF8 => ?_
        refine sq (v := (.int .i64 ((bt b (p + k)).toNat : Int))) hF8 (wantedS rfl) (run_as rfl (hF8.ev 24 rfl)) rfl (by decide) fun a9 hF9 => ?_
        refine sqEnd ?_
        clear hF4 hF5 hF6 hF7 hF8
        refine nx ?_
        refine wp_seq ?_
        refine wp_region_lit ?_
        refine sq (v := (.int .i64 ((p + k : Nat) : Int))) hF9 (wantedS rfl) (run_mv rfl (hF9.ev 5 rfl)) rfl (by decide) fun a10 hF10 => ?_
        refine sq (v := (.int .i64 ((p + k + 1 : Nat) : Int))) hF10 (wantedS rfl) (run_add (r := ((p + k + 1 : Nat) : Int)) rfl (hF10.ev 25 rfl) rfl (by rw [IntKind.wrap_i64]; omega)) rfl (by decide) fun a11 hF11 => ?_
        refine sq (v := (.int .i64 ((p + k + 1 : Nat) : Int))) hF11 (wantedS rfl) (run_as rfl (hF11.ev 26 rfl)) rfl (by decide) fun a12 hF12 => ?_
        refine sqEnd ?_
        clear hF9 hF10 hF11
        refine nx ?_
        refine wp_seq ?_
        refine wp_region_lit ?_
        refine sq (v := (.int .i64 (q : Int))) hF12 (wantedS rfl) (run_mv rfl (hF12.ev 6 rfl)) rfl (by decide) fun a13 hF13 => ?_
        refine sq (v := (.int .i64 ((bt b (p + k)).toNat : Int))) hF13 (wantedS rfl) (run_mv rfl (hF13.ev 9 rfl)) rfl (by decide) fun a14 hF14 => ?_
        refine sq (v := (.int .i64 (((bt b (p + k)).toNat % 128 : Nat) : Int))) hF14 (wantedS rfl) (run_rem (r := (((bt b (p + k)).toNat % 128 : Nat) : Int)) rfl (hF14.ev 28 rfl) rfl (by omega) (by rw [Int.tmod_eq_emod_of_nonneg (by omega)]; try omega)) rfl (by decide) fun a15 hF15 => ?_
        refine sq (v := (.int .i64 ((128 ^ k : Nat) : Int))) hF15 (wantedS rfl) (run_mv rfl (hF15.ev 7 rfl)) rfl (by decide) fun a16 hF16 => ?_
        refine sq (v := (.int .i64 (((bt b (p + k)).toNat % 128 * 128 ^ k : Nat) : Int))) hF16 (wantedS rfl) (run_mul (r := (((bt b (p + k)).toNat % 128 * 128 ^ k : Nat) : Int)) rfl (hF16.ev 29 rfl) (hF16.ev 30 rfl) (by rw [IntKind.wrap_i64, ← Int.natCast_mul]; omega)) rfl (by decide) fun a17 hF17 => ?_
        refine sq (v := (.int .i64 ((q + (bt b (p + k)).toNat % 128 * 128 ^ k : Nat) : Int))) hF17 (wantedS rfl) (run_add (r := ((q + (bt b (p + k)).toNat % 128 * 128 ^ k : Nat) : Int)) rfl (hF17.ev 27 rfl) (hF17.ev 31 rfl) (by rw [IntKind.wrap_i64]; omega)) rfl (by decide) fun a18 hF18 => ?_
        refine sq (v := (.int .i64 ((q + (bt b (p + k)).toNat % 128 * 128 ^ k : Nat) : Int))) hF18 (wantedS rfl) (run_as rfl (hF18.ev 32 rfl)) rfl (by decide) fun a19 hF19 => ?_
        refine sqEnd ?_
        clear hF12 hF13 hF14 hF15 hF16 hF17 hF18
        refine nx ?_
        refine wp_seq ?_
        refine wp_region_lit ?_
        refine sq (v := (.int .i64 ((128 ^ k : Nat) : Int))) hF19 (wantedS rfl) (run_mv rfl (hF19.ev 7 rfl)) rfl (by decide) fun a20 hF20 => ?_
        refine sq (v := (.int .i64 ((128 ^ (k + 1) : Nat) : Int))) hF20 (wantedS rfl) (run_mul (r := ((128 ^ (k + 1) : Nat) : Int)) rfl (hF20.ev 33 rfl) rfl (by rw [IntKind.wrap_i64, Nat.pow_succ]; omega)) rfl (by decide) fun a21 hF21 => ?_
        refine sq (v := (.int .i64 ((128 ^ (k + 1) : Nat) : Int))) hF21 (wantedS rfl) (run_as rfl (hF21.ev 34 rfl)) rfl (by decide) fun a22 hF22 => ?_
        refine sqEnd ?_
        clear hF19 hF20 hF21
        refine nx ?_
        refine wp_seq ?_
        refine wp_seq ?_
        refine wp_region_lit ?_
        refine sq (v := (.int .i64 ((bt b (p + k)).toNat : Int))) hF22 (wantedS rfl) (run_mv rfl (hF22.ev 9 rfl)) rfl (by decide) fun a23 hF23 => ?_
        refine sq (v := (.bool false)) hF23 (wantedS rfl) (run_lss rfl (hF23.ev 35 rfl) rfl (decide_eq_false (by omega))) rfl (by decide) fun a24 hF24 => ?_
        refine sqEnd ?_
        clear hF22 hF23
        refine nx ?_
        refine wp_cond_false (hF24.ev 36 rfl) ?_
        refine wp_skip ?_
        refine nx ?_
        refine wp_seq ?_
        refine wp_region_lit ?_
        refine sq (v := (.int .i64 (k : Int))) hF24 (wantedS rfl) (run_mv rfl (hF24.ev 8 rfl)) rfl (by decide) fun a25 hF25 => ?_
        refine sq (v := (.bool false)) hF25 (wantedS rfl) (run_eqi rfl (hF25.ev 43 rfl) rfl (beq_eq_false_iff_ne.2 (by omega))) rfl (by decide) fun a26 hF26 => ?_
        refine sqEnd ?_
        clear hF24 hF25
        refine nx ?_
        refine wp_cond_false (hF26.ev 44 rfl) ?_
        refine wp_skip ?_
        refine bkEnd ?_
        refine nx ?_
        refine wp_region_lit ?_
        refine sq (v := (.int .i64 (k : Int))) hF26 (wantedS rfl) (run_mv rfl (hF26.ev 8 rfl)) rfl (by decide) fun a27 hF27 => ?_
        refine sq (v := (.int .i64 ((k + 1 : Nat) : Int))) hF27 (wantedS rfl) (run_add (r := ((k + 1 : Nat) : Int)) rfl (hF27.ev 15 rfl) rfl (by rw [IntKind.wrap_i64]; omega)) rfl (by decide) fun a28 hF28 => ?_
        refine sq (v := (.int .i64 ((k + 1 : Nat) : Int))) hF28 (wantedS rfl) (run_as rfl (hF28.ev 16 rfl)) rfl (by decide) fun a29 hF29 => ?_
        refine sqEnd ?_
        clear hF26 hF27 hF28
        refine nx ?_
        refine ⟨_, by omega, k + 1, q + (bt b (p + k)).toNat % 128 * 128 ^ k, rfl, by omega, by omega, ?_, ?_, hO0, hF29.sub ⟨rfl, rfl, rfl, rfl, rfl, rfl, trivial⟩, hM0⟩
        · have := Nat.mul_le_mul_right (128 ^ k) (show (bt b (p + k)).toNat % 128 ≤ 127 by omega)
          rw [Nat.pow_succ]; omega
        · rw [hR, lenAcc_step k q _ _ h8 h3]; rfl
  · have hpe : p = b.length := by omega
    have hT2 : textsS b = .ok d := by rw [hT, hpe, List.drop_length, textsS_nil]; simp [txAcc]
    refine wp_seq ?_
    refine wp_seq ?_
    refine wp_region_lit ?_
    refine sq (v := (.int .i64 (p : Int))) hF0 (wantedS rfl) (run_mv rfl (hF0.ev 5 rfl)) rfl (by decide) fun a1 hF1 => ?_
    refine sq (v := (.string ⟨b.toArray⟩)) hF1 (wantedS rfl) (run_mv rfl (hF1.ev 0 rfl)) rfl (by decide) fun a2 hF2 => ?_
    refine sq (v := (.int .i64 (b.length : Int))) hF2 (wantedS rfl) (run_len rfl (hF2.ev 12 rfl) rfl Tryd.underlying9) rfl (by decide) fun a3 hF3 => ?_
    refine sq (v := (.bool false)) hF3 (wantedS rfl) (run_lss rfl (hF3.ev 11 rfl) (hF3.ev 13 rfl) (decide_eq_false (by omega))) rfl (by decide) fun a4 hF4 => ?_
    refine sqEnd ?_
    clear hF0 hF1 hF2 hF3
    refine nx ?_
    refine wp_cond_false (hF4.ev 14 rfl) ?_
    refine wp_exit ?_
    refine nxExit ?_
    refine nxExit ?_
    refine bkHere ?_
    refine nx ?_
    refine wp_seq ?_
    refine wp_region_lit ?_
    refine sq (v := v) hF4 (wantedS rfl) (run_mv rfl (hF4.ev 4 rfl)) rfl (by decide) fun a5 hF5 => ?_
    refine sq (v := v) hF5 (wantedS rfl) (run_as rfl (hF5.ev 63 rfl)) rfl (by decide) fun a6 hF6 => ?_
    refine sq (v := (.int .i64 0)) hF6 (wantedS rfl) (run_as rfl rfl) rfl (by decide) fun a7 hF7 => ?_
    refine sqEnd ?_
    clear hF4 hF5 hF6
    refine nx ?_
    refine wp_ret ?_
    exact ret2 hF7 rfl rfl rfl ⟨_, rfl, by unfold TxR; rw [hT2]; exact ⟨v, rfl, hO0.owns⟩, hM0.below⟩
end Go.Proofs.YtioioibcldgknaaDoor
