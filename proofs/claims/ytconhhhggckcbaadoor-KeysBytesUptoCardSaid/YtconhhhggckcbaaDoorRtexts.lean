/- The walk of the reference's Texts. Printed by gen_rtexts.py. -/
import Derived.Test.YtconhhhggckcbaaDoorNumTexts
namespace Go.Proofs.YtconhhhggckcbaaDoor
open Go.RowKit

set_option maxRecDepth 100000 in
set_option maxHeartbeats 1000000 in
theorem rtexts_any (b : List UInt8) (w : World) (hb : b.length < 2 ^ 42) : Calls Tryd.prog 64 #[.string ⟨b.toArray⟩] w fun e w' => ∃ u, e = .returned u ∧ TxR b w.heap.size u w' ∧ Below w.heap.size w w' := by
  refine walk_enter Tryd.func64 rfl rfl rfl fun a0 F0 => ?_
  have M0 := Mem.new w
  refine wsl ?_
  refine sr (v := (.slice none 0 0)) F0 (run_as rfl rfl) rfl rfl rfl fun a1 F1 => ?_
  refine sr (v := (.int .i64 0)) F1 (run_as rfl rfl) rfl rfl rfl fun a2 F2 => ?_
  refine sn ?_
  clear F0 F1
  refine wsl ?_
  refine sqOwn0 (size := 1) (e := 9) F2 M0 (wantedS rfl) (run_none (m := 1) rfl elStr.un (by kernel_rfl)) rfl (by decide) fun v0 a3 w1 hO1 hb1 M1 F3 => ?_
  refine asS F3 rfl rfl rfl rfl rfl fun a4 F4 => ?_
  refine sn ?_
  clear F2 F3 M0
  refine wsl ?_
  refine sr (v := (.int .i64 0)) F4 (run_as rfl rfl) rfl rfl rfl fun a5 F5 => ?_
  refine sn ?_
  clear F4
  refine wp_seq ?_
  refine wp_block ?_
  refine wkLoop (fun m a w2 => ∃ (d : List (List UInt8)) (p : Nat) (v : Value), m = b.length - p ∧ p ≤ b.length ∧ d.length ≤ p ∧ textsS b = txAcc d (textsS (b.drop p)) ∧ OwnR w [] w2 9 1 v d.length (d.map tx) ∧ Fr a 64 [(0, .string ⟨b.toArray⟩), (4, v), (5, .int .i64 (p : Int))] ∧ Mem w [] w2) b.length ⟨[], 0, v0, rfl, by omega, by simp, by rw [List.drop_zero, txAcc_nil], hO1, F5.sub ⟨rfl, rfl, rfl, trivial⟩, M1⟩ ?_
  rintro m a0 w1 ⟨d, p, v, rfl, hp, hdp, hT, hO0, F0, M0⟩
  by_cases hlt : p < b.length
  · have hne : b.drop p ≠ [] := by intro e; have := congrArg List.length e; rw [List.length_drop, List.length_nil] at this; omega
    rw [textsS_step hne] at hT
    refine wp_seq ?_
    refine wsl ?_
    refine mvS F0 rfl rfl rfl rfl rfl fun a1 F1 => ?_
    refine mvS F1 rfl rfl rfl rfl rfl fun a2 F2 => ?_
    refine sr F2 (run_len rfl (F2.ev 12 rfl) rfl Tryd.underlying9) rfl rfl rfl fun a3 F3 => ?_
    refine sr (v := (.bool true)) F3 (run_lss rfl (F3.ev 11 rfl) (F3.ev 13 rfl) (decide_eq_true (by omega))) rfl rfl rfl fun a4 F4 => ?_
    refine sn ?_
    clear F0 F1 F2 F3
    refine cts (F4.ev 14 rfl) ?_
    refine wp_block ?_
    refine wsl ?_
    refine sr (v := (.int .i64 0)) F4 (run_as rfl rfl) rfl rfl rfl fun a5 F5 => ?_
    refine sn ?_
    clear F4
    refine wsl ?_
    refine sr (v := (.int .i64 1)) F5 (run_as rfl rfl) rfl rfl rfl fun a6 F6 => ?_
    refine sn ?_
    clear F5
    refine wp_seq ?_
    refine wsl ?_
    refine sr (v := (.int .i64 0)) F6 (run_as rfl rfl) rfl rfl rfl fun a7 F7 => ?_
    refine sn ?_
    clear F6
    refine wp_block ?_
    refine wkLoop (fun m a w2 => ∃ k q : Nat, m = 4 - k ∧ k ≤ 3 ∧ p + k ≤ b.length ∧ q < 128 ^ k ∧ lenP 0 (b.drop p) = lenAcc k q (lenP k (b.drop (p + k))) ∧ OwnR w [] w2 9 1 v d.length (d.map tx) ∧ Fr a 64 [(0, .string ⟨b.toArray⟩), (4, v), (5, .int .i64 ((p + k : Nat) : Int)), (6, .int .i64 (q : Int)), (7, .int .i64 ((128 ^ k : Nat) : Int)), (8, .int .i64 (k : Int))] ∧ Mem w [] w2) 4 ⟨0, 0, rfl, by omega, by omega, by simp, by rw [lenAcc_zero]; rfl, hO0, F7.sub ⟨rfl, rfl, rfl, rfl, rfl, rfl, trivial⟩, M0⟩ ?_
    rintro m0 a0 w1 ⟨k, q, rfl, hk, hpk, hq, hR, hO0, F0, M0⟩
    have hb128 : (128 : Nat) ^ k ≤ 128 ^ 3 := Nat.pow_le_pow_right (by decide) hk
    have hmul : (bt b (p + k)).toNat % 128 * 128 ^ k ≤ 127 * 128 ^ 3 := Nat.mul_le_mul (by omega) hb128
    by_cases hend : p + k = b.length
    · have hT2 : textsS b = .error 4 := by rw [hT, hR, hend, List.drop_length]; rfl
      refine wp_seq ?_
      refine wp_block ?_
      refine wp_seq ?_
      refine wsl ?_
      refine mvS F0 rfl rfl rfl rfl rfl fun a1 F1 => ?_
      refine mvS F1 rfl rfl rfl rfl rfl fun a2 F2 => ?_
      refine sr F2 (run_len rfl (F2.ev 18 rfl) rfl Tryd.underlying9) rfl rfl rfl fun a3 F3 => ?_
      refine sr (v := (.bool true)) F3 (run_eqi rfl (F3.ev 17 rfl) (F3.ev 19 rfl) (beq_iff_eq.2 (by omega))) rfl rfl rfl fun a4 F4 => ?_
      refine sn ?_
      clear F0 F1 F2 F3
      refine wp_cond_true (F4.ev 20 rfl) ?_
      refine wsl ?_
      refine sr (v := (.slice none 0 0)) F4 (run_as rfl rfl) rfl rfl rfl fun a5 F5 => ?_
      refine sr (v := (.int .i64 4)) F5 (run_as rfl rfl) rfl rfl rfl fun a6 F6 => ?_
      refine sn ?_
      clear F4 F5
      refine wp_ret ?_
      refine nxRet ?_
      refine bkRet ?_
      refine nxRet ?_
      refine nxRet ?_
      refine bkRet ?_
      refine nxRet ?_
      refine bkRet ?_
      refine nxRet ?_
      refine bkRet ?_
      refine nxRet ?_
      exact ret2 F6 rfl rfl rfl ⟨_, rfl, by unfold TxR; rw [hT2], M0.below⟩
    rw [drop_bt b (p + k) (by omega)] at hR
    have hc := (bt b (p + k)).toNat_lt
    by_cases h8 : (bt b (p + k)).toNat < 128
    · by_cases h0 : (bt b (p + k)).toNat = 0 ∧ 0 < k
      · have hT2 : textsS b = .error 3 := by rw [hT, hR, lenP_cons, if_pos h8, if_pos h0]; rfl
        refine wp_seq ?_
        refine wp_block ?_
        refine wp_seq ?_
        refine wsl ?_
        refine mvS F0 rfl rfl rfl rfl rfl fun a1 F1 => ?_
        refine mvS F1 rfl rfl rfl rfl rfl fun a2 F2 => ?_
        refine sr F2 (run_len rfl (F2.ev 18 rfl) rfl Tryd.underlying9) rfl rfl rfl fun a3 F3 => ?_
        refine sr (v := (.bool false)) F3 (run_eqi rfl (F3.ev 17 rfl) (F3.ev 19 rfl) (beq_eq_false_iff_ne.2 (by omega))) rfl rfl rfl fun a4 F4 => ?_
        refine sn ?_
        clear F0 F1 F2 F3
        refine cfs (F4.ev 20 rfl) ?_
        refine wsl ?_
        refine mvS F4 rfl rfl rfl rfl rfl fun a5 F5 => ?_
        refine mvS F5 rfl rfl rfl rfl rfl fun a6 F6 => ?_
        refine sr (v := (.int .u8 ((bt b (p + k)).toNat : Int))) F6 (run_sAt (n := (p + k)) rfl (F6.ev 21 rfl) (F6.ev 22 rfl) Tryd.underlying9 rfl (by omega)) rfl rfl rfl fun a7 F7 => ?_
        refine sr F7 (run_cvI (r := ((bt b (p + k)).toNat : Int)) rfl (F7.ev 23 rfl) Tryd.underlying5 Tryd.underlying3 (by rw [IntKind.wrap_i64]; omega)) rfl rfl rfl fun a8 F8 => ?_
        refine asS F8 rfl rfl rfl rfl rfl fun a9 F9 => ?_
        refine sn ?_
        clear F4 F5 F6 F7 F8
        refine wsl ?_
        refine mvS F9 rfl rfl rfl rfl rfl fun a10 F10 => ?_
        refine sr F10 (run_add (r := ((p + k + 1 : Nat) : Int)) rfl (F10.ev 25 rfl) rfl (by rw [IntKind.wrap_i64]; omega)) rfl rfl rfl fun a11 F11 => ?_
        refine asS F11 rfl rfl rfl rfl rfl fun a12 F12 => ?_
        refine sn ?_
        clear F9 F10 F11
        refine wsl ?_
        refine mvS F12 rfl rfl rfl rfl rfl fun a13 F13 => ?_
        refine mvS F13 rfl rfl rfl rfl rfl fun a14 F14 => ?_
        refine sr (v := (.int .i64 (((bt b (p + k)).toNat % 128 : Nat) : Int))) F14 (run_rem (r := (((bt b (p + k)).toNat % 128 : Nat) : Int)) rfl (F14.ev 28 rfl) rfl (by omega) (by rw [Int.tmod_eq_emod_of_nonneg (by omega)]; try omega)) rfl rfl rfl fun a15 F15 => ?_
        refine mvS F15 rfl rfl rfl rfl rfl fun a16 F16 => ?_
        refine sr (v := (.int .i64 (((bt b (p + k)).toNat % 128 * 128 ^ k : Nat) : Int))) F16 (run_mul (r := (((bt b (p + k)).toNat % 128 * 128 ^ k : Nat) : Int)) rfl (F16.ev 29 rfl) (F16.ev 30 rfl) (by rw [IntKind.wrap_i64, ← Int.natCast_mul]; omega)) rfl rfl rfl fun a17 F17 => ?_
        refine sr F17 (run_add (r := ((q + (bt b (p + k)).toNat % 128 * 128 ^ k : Nat) : Int)) rfl (F17.ev 27 rfl) (F17.ev 31 rfl) (by rw [IntKind.wrap_i64]; omega)) rfl rfl rfl fun a18 F18 => ?_
        refine asS F18 rfl rfl rfl rfl rfl fun a19 F19 => ?_
        refine sn ?_
        clear F12 F13 F14 F15 F16 F17 F18
        refine wsl ?_
        refine mvS F19 rfl rfl rfl rfl rfl fun a20 F20 => ?_
        refine sr (v := (.int .i64 ((128 ^ (k + 1) : Nat) : Int))) F20 (run_mul (r := ((128 ^ (k + 1) : Nat) : Int)) rfl (F20.ev 33 rfl) rfl (by rw [IntKind.wrap_i64, Nat.pow_succ]; omega)) rfl rfl rfl fun a21 F21 => ?_
        refine asS F21 rfl rfl rfl rfl rfl fun a22 F22 => ?_
        refine sn ?_
        clear F19 F20 F21
        refine wp_seq ?_
        refine wsl ?_
        refine mvS F22 rfl rfl rfl rfl rfl fun a23 F23 => ?_
        refine sr (v := (.bool true)) F23 (run_lss rfl (F23.ev 35 rfl) rfl (decide_eq_true (by omega))) rfl rfl rfl fun a24 F24 => ?_
        refine sn ?_
        clear F22 F23
        refine wp_cond_true (F24.ev 36 rfl) ?_
        refine wp_seq ?_
        refine wsl ?_
        refine mvS F24 rfl rfl rfl rfl rfl fun a25 F25 => ?_
        refine sr (v := (.bool true)) F25 (run_eqi rfl (F25.ev 37 rfl) rfl (beq_iff_eq.2 (by omega))) rfl rfl rfl fun a26 F26 => ?_
        refine mvS F26 rfl rfl rfl rfl rfl fun a27 F27 => ?_
        refine sq (v := (.int .i64 (k : Int))) F27 (wantedG F27 rfl rfl rfl rfl rfl) (run_mv rfl (F27.ev 8 rfl)) rfl (by decide) fun a28 F28 => ?_
        refine sq (v := (.bool true)) F28 (wantedG F28 rfl rfl rfl rfl rfl) (run_gtr rfl (F28.ev 40 rfl) rfl (decide_eq_true (by omega))) rfl (by decide) fun a29 F29 => ?_
        refine sr (v := (.bool true)) F29 (run_pick rfl (F29.ev 39 rfl) (F29.ev 41 rfl) rfl) rfl rfl rfl fun a30 F30 => ?_
        refine sn ?_
        clear F24 F25 F26 F27 F28 F29
        refine wp_cond_true (F30.ev 42 rfl) ?_
        refine wsl ?_
        refine sr (v := (.slice none 0 0)) F30 (run_as rfl rfl) rfl rfl rfl fun a31 F31 => ?_
        refine sr (v := (.int .i64 3)) F31 (run_as rfl rfl) rfl rfl rfl fun a32 F32 => ?_
        refine sn ?_
        clear F30 F31
        refine wp_ret ?_
        refine nxRet ?_
        refine nxRet ?_
        refine bkRet ?_
        refine nxRet ?_
        refine nxRet ?_
        refine bkRet ?_
        refine nxRet ?_
        refine bkRet ?_
        refine nxRet ?_
        refine bkRet ?_
        refine nxRet ?_
        exact ret2 F32 rfl rfl rfl ⟨_, rfl, by unfold TxR; rw [hT2], M0.below⟩
      · obtain ⟨m, hm⟩ : ∃ m, q + (bt b (p + k)).toNat % 128 * 128 ^ k = m := ⟨_, rfl⟩
        have hR2 : lenP 0 (b.drop p) = .ok (m, b.drop (p + k + 1)) := by rw [hR, lenP_cons, if_pos h8, if_neg h0, ← hm, Nat.mod_eq_of_lt h8]; rfl
        rw [hR2] at hT
        dsimp only at hT
        have hdl : (b.drop (p + k + 1)).length = b.length - (p + k + 1) := List.length_drop ..
        have hb3 : m < 2 ^ 30 := by omega
        by_cases hshort : (b.drop (p + k + 1)).length < m
        · have hT2 : textsS b = .error 4 := by rw [hT, if_pos hshort]; rfl
          by_cases hz : (bt b (p + k)).toNat = 0
          · skip
            refine wp_seq ?_
            refine wp_block ?_
            refine wp_seq ?_
            refine wsl ?_
            refine mvS F0 rfl rfl rfl rfl rfl fun a1 F1 => ?_
            refine mvS F1 rfl rfl rfl rfl rfl fun a2 F2 => ?_
            refine sr F2 (run_len rfl (F2.ev 18 rfl) rfl Tryd.underlying9) rfl rfl rfl fun a3 F3 => ?_
            refine sr (v := (.bool false)) F3 (run_eqi rfl (F3.ev 17 rfl) (F3.ev 19 rfl) (beq_eq_false_iff_ne.2 (by omega))) rfl rfl rfl fun a4 F4 => ?_
            refine sn ?_
            clear F0 F1 F2 F3
            refine cfs (F4.ev 20 rfl) ?_
            refine wsl ?_
            refine mvS F4 rfl rfl rfl rfl rfl fun a5 F5 => ?_
            refine mvS F5 rfl rfl rfl rfl rfl fun a6 F6 => ?_
            refine sr (v := (.int .u8 ((bt b (p + k)).toNat : Int))) F6 (run_sAt (n := (p + k)) rfl (F6.ev 21 rfl) (F6.ev 22 rfl) Tryd.underlying9 rfl (by omega)) rfl rfl rfl fun a7 F7 => ?_
            refine sr F7 (run_cvI (r := ((bt b (p + k)).toNat : Int)) rfl (F7.ev 23 rfl) Tryd.underlying5 Tryd.underlying3 (by rw [IntKind.wrap_i64]; omega)) rfl rfl rfl fun a8 F8 => ?_
            refine asS F8 rfl rfl rfl rfl rfl fun a9 F9 => ?_
            refine sn ?_
            clear F4 F5 F6 F7 F8
            refine wsl ?_
            refine mvS F9 rfl rfl rfl rfl rfl fun a10 F10 => ?_
            refine sr F10 (run_add (r := ((p + k + 1 : Nat) : Int)) rfl (F10.ev 25 rfl) rfl (by rw [IntKind.wrap_i64]; omega)) rfl rfl rfl fun a11 F11 => ?_
            refine asS F11 rfl rfl rfl rfl rfl fun a12 F12 => ?_
            refine sn ?_
            clear F9 F10 F11
            refine wsl ?_
            refine mvS F12 rfl rfl rfl rfl rfl fun a13 F13 => ?_
            refine mvS F13 rfl rfl rfl rfl rfl fun a14 F14 => ?_
            refine sr (v := (.int .i64 (((bt b (p + k)).toNat % 128 : Nat) : Int))) F14 (run_rem (r := (((bt b (p + k)).toNat % 128 : Nat) : Int)) rfl (F14.ev 28 rfl) rfl (by omega) (by rw [Int.tmod_eq_emod_of_nonneg (by omega)]; try omega)) rfl rfl rfl fun a15 F15 => ?_
            refine mvS F15 rfl rfl rfl rfl rfl fun a16 F16 => ?_
            refine sr (v := (.int .i64 (((bt b (p + k)).toNat % 128 * 128 ^ k : Nat) : Int))) F16 (run_mul (r := (((bt b (p + k)).toNat % 128 * 128 ^ k : Nat) : Int)) rfl (F16.ev 29 rfl) (F16.ev 30 rfl) (by rw [IntKind.wrap_i64, ← Int.natCast_mul]; omega)) rfl rfl rfl fun a17 F17 => ?_
            refine sr F17 (run_add (r := (m : Int)) rfl (F17.ev 27 rfl) (F17.ev 31 rfl) (by rw [IntKind.wrap_i64, ← hm]; omega)) rfl rfl rfl fun a18 F18 => ?_
            refine asS F18 rfl rfl rfl rfl rfl fun a19 F19 => ?_
            refine sn ?_
            clear F12 F13 F14 F15 F16 F17 F18
            refine wsl ?_
            refine mvS F19 rfl rfl rfl rfl rfl fun a20 F20 => ?_
            refine sr (v := (.int .i64 ((128 ^ (k + 1) : Nat) : Int))) F20 (run_mul (r := ((128 ^ (k + 1) : Nat) : Int)) rfl (F20.ev 33 rfl) rfl (by rw [IntKind.wrap_i64, Nat.pow_succ]; omega)) rfl rfl rfl fun a21 F21 => ?_
            refine asS F21 rfl rfl rfl rfl rfl fun a22 F22 => ?_
            refine sn ?_
            clear F19 F20 F21
            refine wp_seq ?_
            refine wsl ?_
            refine mvS F22 rfl rfl rfl rfl rfl fun a23 F23 => ?_
            refine sr (v := (.bool true)) F23 (run_lss rfl (F23.ev 35 rfl) rfl (decide_eq_true (by omega))) rfl rfl rfl fun a24 F24 => ?_
            refine sn ?_
            clear F22 F23
            refine wp_cond_true (F24.ev 36 rfl) ?_
            refine wp_seq ?_
            refine wsl ?_
            refine mvS F24 rfl rfl rfl rfl rfl fun a25 F25 => ?_
            refine sr (v := (.bool true)) F25 (run_eqi rfl (F25.ev 37 rfl) rfl (beq_iff_eq.2 (by omega))) rfl rfl rfl fun a26 F26 => ?_
            refine mvS F26 rfl rfl rfl rfl rfl fun a27 F27 => ?_
            refine sq (v := (.int .i64 (k : Int))) F27 (wantedG F27 rfl rfl rfl rfl rfl) (run_mv rfl (F27.ev 8 rfl)) rfl (by decide) fun a28 F28 => ?_
            refine sq (v := (.bool false)) F28 (wantedG F28 rfl rfl rfl rfl rfl) (run_gtr rfl (F28.ev 40 rfl) rfl (decide_eq_false (by omega))) rfl (by decide) fun a29 F29 => ?_
            refine sr (v := (.bool false)) F29 (run_pick rfl (F29.ev 39 rfl) (F29.ev 41 rfl) rfl) rfl rfl rfl fun a30 F30 => ?_
            refine sn ?_
            clear F24 F25 F26 F27 F28 F29
            refine cfs (F30.ev 42 rfl) ?_
            refine wp_exit ?_
            refine nxExit ?_
            refine bkFar (by decide) ?_
            refine nxExit ?_
            refine nxExit ?_
            refine bkHere ?_
            refine nx ?_
            refine wp_seq ?_
            refine wsl ?_
            refine mvS F30 rfl rfl rfl rfl rfl fun a31 F31 => ?_
            refine sr F31 (run_len rfl (F31.ev 45 rfl) rfl Tryd.underlying9) rfl rfl rfl fun a32 F32 => ?_
            refine mvS F32 rfl rfl rfl rfl rfl fun a33 F33 => ?_
            refine sr F33 (run_sub (r := ((b.length - (p + k + 1) : Nat) : Int)) rfl (F33.ev 46 rfl) (F33.ev 47 rfl) (by rw [IntKind.wrap_i64]; omega)) rfl rfl rfl fun a34 F34 => ?_
            refine mvS F34 rfl rfl rfl rfl rfl fun a35 F35 => ?_
            refine sr (v := (.bool true)) F35 (run_lss rfl (F35.ev 48 rfl) (F35.ev 49 rfl) (decide_eq_true (by omega))) rfl rfl rfl fun a36 F36 => ?_
            refine sn ?_
            clear F30 F31 F32 F33 F34 F35
            refine wp_cond_true (F36.ev 50 rfl) ?_
            refine wsl ?_
            refine sr (v := (.slice none 0 0)) F36 (run_as rfl rfl) rfl rfl rfl fun a37 F37 => ?_
            refine sr (v := (.int .i64 4)) F37 (run_as rfl rfl) rfl rfl rfl fun a38 F38 => ?_
            refine sn ?_
            clear F36 F37
            refine wp_ret ?_
            refine nxRet ?_
            refine bkRet ?_
            refine nxRet ?_
            refine bkRet ?_
            refine nxRet ?_
            exact ret2 F38 rfl rfl rfl ⟨_, rfl, by unfold TxR; rw [hT2], M0.below⟩
          · skip
            refine wp_seq ?_
            refine wp_block ?_
            refine wp_seq ?_
            refine wsl ?_
            refine mvS F0 rfl rfl rfl rfl rfl fun a1 F1 => ?_
            refine mvS F1 rfl rfl rfl rfl rfl fun a2 F2 => ?_
            refine sr F2 (run_len rfl (F2.ev 18 rfl) rfl Tryd.underlying9) rfl rfl rfl fun a3 F3 => ?_
            refine sr (v := (.bool false)) F3 (run_eqi rfl (F3.ev 17 rfl) (F3.ev 19 rfl) (beq_eq_false_iff_ne.2 (by omega))) rfl rfl rfl fun a4 F4 => ?_
            refine sn ?_
            clear F0 F1 F2 F3
            refine cfs (F4.ev 20 rfl) ?_
            refine wsl ?_
            refine mvS F4 rfl rfl rfl rfl rfl fun a5 F5 => ?_
            refine mvS F5 rfl rfl rfl rfl rfl fun a6 F6 => ?_
            refine sr (v := (.int .u8 ((bt b (p + k)).toNat : Int))) F6 (run_sAt (n := (p + k)) rfl (F6.ev 21 rfl) (F6.ev 22 rfl) Tryd.underlying9 rfl (by omega)) rfl rfl rfl fun a7 F7 => ?_
            refine sr F7 (run_cvI (r := ((bt b (p + k)).toNat : Int)) rfl (F7.ev 23 rfl) Tryd.underlying5 Tryd.underlying3 (by rw [IntKind.wrap_i64]; omega)) rfl rfl rfl fun a8 F8 => ?_
            refine asS F8 rfl rfl rfl rfl rfl fun a9 F9 => ?_
            refine sn ?_
            clear F4 F5 F6 F7 F8
            refine wsl ?_
            refine mvS F9 rfl rfl rfl rfl rfl fun a10 F10 => ?_
            refine sr F10 (run_add (r := ((p + k + 1 : Nat) : Int)) rfl (F10.ev 25 rfl) rfl (by rw [IntKind.wrap_i64]; omega)) rfl rfl rfl fun a11 F11 => ?_
            refine asS F11 rfl rfl rfl rfl rfl fun a12 F12 => ?_
            refine sn ?_
            clear F9 F10 F11
            refine wsl ?_
            refine mvS F12 rfl rfl rfl rfl rfl fun a13 F13 => ?_
            refine mvS F13 rfl rfl rfl rfl rfl fun a14 F14 => ?_
            refine sr (v := (.int .i64 (((bt b (p + k)).toNat % 128 : Nat) : Int))) F14 (run_rem (r := (((bt b (p + k)).toNat % 128 : Nat) : Int)) rfl (F14.ev 28 rfl) rfl (by omega) (by rw [Int.tmod_eq_emod_of_nonneg (by omega)]; try omega)) rfl rfl rfl fun a15 F15 => ?_
            refine mvS F15 rfl rfl rfl rfl rfl fun a16 F16 => ?_
            refine sr (v := (.int .i64 (((bt b (p + k)).toNat % 128 * 128 ^ k : Nat) : Int))) F16 (run_mul (r := (((bt b (p + k)).toNat % 128 * 128 ^ k : Nat) : Int)) rfl (F16.ev 29 rfl) (F16.ev 30 rfl) (by rw [IntKind.wrap_i64, ← Int.natCast_mul]; omega)) rfl rfl rfl fun a17 F17 => ?_
            refine sr F17 (run_add (r := (m : Int)) rfl (F17.ev 27 rfl) (F17.ev 31 rfl) (by rw [IntKind.wrap_i64, ← hm]; omega)) rfl rfl rfl fun a18 F18 => ?_
            refine asS F18 rfl rfl rfl rfl rfl fun a19 F19 => ?_
            refine sn ?_
            clear F12 F13 F14 F15 F16 F17 F18
            refine wsl ?_
            refine mvS F19 rfl rfl rfl rfl rfl fun a20 F20 => ?_
            refine sr (v := (.int .i64 ((128 ^ (k + 1) : Nat) : Int))) F20 (run_mul (r := ((128 ^ (k + 1) : Nat) : Int)) rfl (F20.ev 33 rfl) rfl (by rw [IntKind.wrap_i64, Nat.pow_succ]; omega)) rfl rfl rfl fun a21 F21 => ?_
            refine asS F21 rfl rfl rfl rfl rfl fun a22 F22 => ?_
            refine sn ?_
            clear F19 F20 F21
            refine wp_seq ?_
            refine wsl ?_
            refine mvS F22 rfl rfl rfl rfl rfl fun a23 F23 => ?_
            refine sr (v := (.bool true)) F23 (run_lss rfl (F23.ev 35 rfl) rfl (decide_eq_true (by omega))) rfl rfl rfl fun a24 F24 => ?_
            refine sn ?_
            clear F22 F23
            refine wp_cond_true (F24.ev 36 rfl) ?_
            refine wp_seq ?_
            refine wsl ?_
            refine mvS F24 rfl rfl rfl rfl rfl fun a25 F25 => ?_
            refine sr (v := (.bool false)) F25 (run_eqi rfl (F25.ev 37 rfl) rfl (beq_eq_false_iff_ne.2 (by omega))) rfl rfl rfl fun a26 F26 => ?_
            refine mvS F26 rfl rfl rfl rfl rfl fun a27 F27 => ?_
            refine sqSkip F27 (unwantedG F27 rfl rfl rfl rfl rfl) rfl (by decide) fun a28 F28 => ?_
            refine sqSkip F28 (unwantedG F28 rfl rfl rfl rfl rfl) rfl (by decide) fun a29 F29 => ?_
            refine sr (v := (.bool false)) F29 (run_pick rfl (F29.ev 39 rfl) (F29.ev 41 rfl) rfl) rfl rfl rfl fun a30 F30 => ?_
            refine sn ?_
            clear F24 F25 F26 F27 F28 F29
            refine cfs (F30.ev 42 rfl) ?_
            refine wp_exit ?_
            refine nxExit ?_
            refine bkFar (by decide) ?_
            refine nxExit ?_
            refine nxExit ?_
            refine bkHere ?_
            refine nx ?_
            refine wp_seq ?_
            refine wsl ?_
            refine mvS F30 rfl rfl rfl rfl rfl fun a31 F31 => ?_
            refine sr F31 (run_len rfl (F31.ev 45 rfl) rfl Tryd.underlying9) rfl rfl rfl fun a32 F32 => ?_
            refine mvS F32 rfl rfl rfl rfl rfl fun a33 F33 => ?_
            refine sr F33 (run_sub (r := ((b.length - (p + k + 1) : Nat) : Int)) rfl (F33.ev 46 rfl) (F33.ev 47 rfl) (by rw [IntKind.wrap_i64]; omega)) rfl rfl rfl fun a34 F34 => ?_
            refine mvS F34 rfl rfl rfl rfl rfl fun a35 F35 => ?_
            refine sr (v := (.bool true)) F35 (run_lss rfl (F35.ev 48 rfl) (F35.ev 49 rfl) (decide_eq_true (by omega))) rfl rfl rfl fun a36 F36 => ?_
            refine sn ?_
            clear F30 F31 F32 F33 F34 F35
            refine wp_cond_true (F36.ev 50 rfl) ?_
            refine wsl ?_
            refine sr (v := (.slice none 0 0)) F36 (run_as rfl rfl) rfl rfl rfl fun a37 F37 => ?_
            refine sr (v := (.int .i64 4)) F37 (run_as rfl rfl) rfl rfl rfl fun a38 F38 => ?_
            refine sn ?_
            clear F36 F37
            refine wp_ret ?_
            refine nxRet ?_
            refine bkRet ?_
            refine nxRet ?_
            refine bkRet ?_
            refine nxRet ?_
            exact ret2 F38 rfl rfl rfl ⟨_, rfl, by unfold TxR; rw [hT2], M0.below⟩
        · rw [if_neg hshort] at hT
          replace hT := hT.trans (txAcc_snoc d ((b.drop (p + k + 1)).take m) (textsS ((b.drop (p + k + 1)).drop m)))
          by_cases hz : (bt b (p + k)).toNat = 0
          · skip
            refine wp_seq ?_
            refine wp_block ?_
            refine wp_seq ?_
            refine wsl ?_
            refine mvS F0 rfl rfl rfl rfl rfl fun a1 F1 => ?_
            refine mvS F1 rfl rfl rfl rfl rfl fun a2 F2 => ?_
            refine sr F2 (run_len rfl (F2.ev 18 rfl) rfl Tryd.underlying9) rfl rfl rfl fun a3 F3 => ?_
            refine sr (v := (.bool false)) F3 (run_eqi rfl (F3.ev 17 rfl) (F3.ev 19 rfl) (beq_eq_false_iff_ne.2 (by omega))) rfl rfl rfl fun a4 F4 => ?_
            refine sn ?_
            clear F0 F1 F2 F3
            refine cfs (F4.ev 20 rfl) ?_
            refine wsl ?_
            refine mvS F4 rfl rfl rfl rfl rfl fun a5 F5 => ?_
            refine mvS F5 rfl rfl rfl rfl rfl fun a6 F6 => ?_
            refine sr (v := (.int .u8 ((bt b (p + k)).toNat : Int))) F6 (run_sAt (n := (p + k)) rfl (F6.ev 21 rfl) (F6.ev 22 rfl) Tryd.underlying9 rfl (by omega)) rfl rfl rfl fun a7 F7 => ?_
            refine sr F7 (run_cvI (r := ((bt b (p + k)).toNat : Int)) rfl (F7.ev 23 rfl) Tryd.underlying5 Tryd.underlying3 (by rw [IntKind.wrap_i64]; omega)) rfl rfl rfl fun a8 F8 => ?_
            refine asS F8 rfl rfl rfl rfl rfl fun a9 F9 => ?_
            refine sn ?_
            clear F4 F5 F6 F7 F8
            refine wsl ?_
            refine mvS F9 rfl rfl rfl rfl rfl fun a10 F10 => ?_
            refine sr F10 (run_add (r := ((p + k + 1 : Nat) : Int)) rfl (F10.ev 25 rfl) rfl (by rw [IntKind.wrap_i64]; omega)) rfl rfl rfl fun a11 F11 => ?_
            refine asS F11 rfl rfl rfl rfl rfl fun a12 F12 => ?_
            refine sn ?_
            clear F9 F10 F11
            refine wsl ?_
            refine mvS F12 rfl rfl rfl rfl rfl fun a13 F13 => ?_
            refine mvS F13 rfl rfl rfl rfl rfl fun a14 F14 => ?_
            refine sr (v := (.int .i64 (((bt b (p + k)).toNat % 128 : Nat) : Int))) F14 (run_rem (r := (((bt b (p + k)).toNat % 128 : Nat) : Int)) rfl (F14.ev 28 rfl) rfl (by omega) (by rw [Int.tmod_eq_emod_of_nonneg (by omega)]; try omega)) rfl rfl rfl fun a15 F15 => ?_
            refine mvS F15 rfl rfl rfl rfl rfl fun a16 F16 => ?_
            refine sr (v := (.int .i64 (((bt b (p + k)).toNat % 128 * 128 ^ k : Nat) : Int))) F16 (run_mul (r := (((bt b (p + k)).toNat % 128 * 128 ^ k : Nat) : Int)) rfl (F16.ev 29 rfl) (F16.ev 30 rfl) (by rw [IntKind.wrap_i64, ← Int.natCast_mul]; omega)) rfl rfl rfl fun a17 F17 => ?_
            refine sr F17 (run_add (r := (m : Int)) rfl (F17.ev 27 rfl) (F17.ev 31 rfl) (by rw [IntKind.wrap_i64, ← hm]; omega)) rfl rfl rfl fun a18 F18 => ?_
            refine asS F18 rfl rfl rfl rfl rfl fun a19 F19 => ?_
            refine sn ?_
            clear F12 F13 F14 F15 F16 F17 F18
            refine wsl ?_
            refine mvS F19 rfl rfl rfl rfl rfl fun a20 F20 => ?_
            refine sr (v := (.int .i64 ((128 ^ (k + 1) : Nat) : Int))) F20 (run_mul (r := ((128 ^ (k + 1) : Nat) : Int)) rfl (F20.ev 33 rfl) rfl (by rw [IntKind.wrap_i64, Nat.pow_succ]; omega)) rfl rfl rfl fun a21 F21 => ?_
            refine asS F21 rfl rfl rfl rfl rfl fun a22 F22 => ?_
            refine sn ?_
            clear F19 F20 F21
            refine wp_seq ?_
            refine wsl ?_
            refine mvS F22 rfl rfl rfl rfl rfl fun a23 F23 => ?_
            refine sr (v := (.bool true)) F23 (run_lss rfl (F23.ev 35 rfl) rfl (decide_eq_true (by omega))) rfl rfl rfl fun a24 F24 => ?_
            refine sn ?_
            clear F22 F23
            refine wp_cond_true (F24.ev 36 rfl) ?_
            refine wp_seq ?_
            refine wsl ?_
            refine mvS F24 rfl rfl rfl rfl rfl fun a25 F25 => ?_
            refine sr (v := (.bool true)) F25 (run_eqi rfl (F25.ev 37 rfl) rfl (beq_iff_eq.2 (by omega))) rfl rfl rfl fun a26 F26 => ?_
            refine mvS F26 rfl rfl rfl rfl rfl fun a27 F27 => ?_
            refine sq (v := (.int .i64 (k : Int))) F27 (wantedG F27 rfl rfl rfl rfl rfl) (run_mv rfl (F27.ev 8 rfl)) rfl (by decide) fun a28 F28 => ?_
            refine sq (v := (.bool false)) F28 (wantedG F28 rfl rfl rfl rfl rfl) (run_gtr rfl (F28.ev 40 rfl) rfl (decide_eq_false (by omega))) rfl (by decide) fun a29 F29 => ?_
            refine sr (v := (.bool false)) F29 (run_pick rfl (F29.ev 39 rfl) (F29.ev 41 rfl) rfl) rfl rfl rfl fun a30 F30 => ?_
            refine sn ?_
            clear F24 F25 F26 F27 F28 F29
            refine cfs (F30.ev 42 rfl) ?_
            refine wp_exit ?_
            refine nxExit ?_
            refine bkFar (by decide) ?_
            refine nxExit ?_
            refine nxExit ?_
            refine bkHere ?_
            refine nx ?_
            refine wp_seq ?_
            refine wsl ?_
            refine mvS F30 rfl rfl rfl rfl rfl fun a31 F31 => ?_
            refine sr F31 (run_len rfl (F31.ev 45 rfl) rfl Tryd.underlying9) rfl rfl rfl fun a32 F32 => ?_
            refine mvS F32 rfl rfl rfl rfl rfl fun a33 F33 => ?_
            refine sr F33 (run_sub (r := ((b.length - (p + k + 1) : Nat) : Int)) rfl (F33.ev 46 rfl) (F33.ev 47 rfl) (by rw [IntKind.wrap_i64]; omega)) rfl rfl rfl fun a34 F34 => ?_
            refine mvS F34 rfl rfl rfl rfl rfl fun a35 F35 => ?_
            refine sr (v := (.bool false)) F35 (run_lss rfl (F35.ev 48 rfl) (F35.ev 49 rfl) (decide_eq_false (by omega))) rfl rfl rfl fun a36 F36 => ?_
            refine sn ?_
            clear F30 F31 F32 F33 F34 F35
            refine cfs (F36.ev 50 rfl) ?_
            refine wsl ?_
            refine mvS F36 rfl rfl rfl rfl rfl fun a37 F37 => ?_
            refine mvS F37 rfl rfl rfl rfl rfl fun a38 F38 => ?_
            refine mvS F38 rfl rfl rfl rfl rfl fun a39 F39 => ?_
            refine mvS F39 rfl rfl rfl rfl rfl fun a40 F40 => ?_
            refine mvS F40 rfl rfl rfl rfl rfl fun a41 F41 => ?_
            refine sr F41 (run_add (r := ((p + k + 1 + m : Nat) : Int)) rfl (F41.ev 54 rfl) (F41.ev 55 rfl) (by rw [IntKind.wrap_i64]; omega)) rfl rfl rfl fun a42 F42 => ?_
            refine sr (v := (.string ⟨((b.drop (p + k + 1)).take m).toArray⟩)) F42 (run_sMidE (m := (p + k + 1)) (m2 := (p + k + 1 + m)) (by rw [Nat.add_sub_cancel_left]) rfl (F42.ev 52 rfl) (F42.ev 53 rfl) (F42.ev 56 rfl) Tryd.underlying9 rfl rfl (by omega) (by omega)) rfl rfl rfl fun a43 F43 => ?_
            refine sqRow (cs := #[.string ⟨((b.drop (p + k + 1)).take m).toArray⟩]) (t := 9) (m := 1) F43 M0 (wantedS rfl) (run_strs1 rfl (F43.ev 57 rfl)) rfl (by decide) fun g1 a44 w2 hgg1 hb2 F44 M1 => ?_
            have hO1 := hO0.add (S := isB 9 #[.string ⟨((b.drop (p + k + 1)).take m).toArray⟩]) hb2 hgg1
            refine sqAppend (news := [.string ⟨((b.drop (p + k + 1)).take m).toArray⟩]) elStr F44 M1 hO1 rfl rfl (F44.ev 51 rfl) (F44.ev 58 rfl) rfl (blkNews (M1.at 0 rfl)) (all_one rfl) (by unfold maxLen; omega) (by omega) rfl (by decide) fun v2 a45 w3 hO2 M2 hnilv2 F45 => ?_
            refine asS F45 rfl rfl rfl rfl rfl fun a46 F46 => ?_
            refine sn ?_
            clear F36 F37 F38 F39 F40 F41 F42 F43 F44 F45 M0 M1
            refine wp_region_lit ?_
            refine mvS F46 rfl rfl rfl rfl rfl fun a47 F47 => ?_
            refine mvS F47 rfl rfl rfl rfl rfl fun a48 F48 => ?_
            refine sr F48 (run_add (r := ((p + k + 1 + m : Nat) : Int)) rfl (F48.ev 60 rfl) (F48.ev 61 rfl) (by rw [IntKind.wrap_i64]; omega)) rfl rfl rfl fun a49 F49 => ?_
            refine asS F49 rfl rfl rfl rfl rfl fun a50 F50 => ?_
            refine sqEnd ?_
            clear F46 F47 F48 F49
            refine bkEnd ?_
            refine nx ?_
            exact ⟨_, by omega, d ++ [(b.drop (p + k + 1)).take m], p + k + 1 + m, v2, rfl, by omega, by rw [List.length_append, List.length_singleton]; omega, by rw [List.drop_drop] at hT; exact hT, by rw [List.map_append, List.length_append]; exact hO2.sub (List.nil_sublist _), F50.sub ⟨rfl, rfl, rfl, trivial⟩, M2.sub (List.nil_sublist _)⟩
          · skip
            refine wp_seq ?_
            refine wp_block ?_
            refine wp_seq ?_
            refine wsl ?_
            refine mvS F0 rfl rfl rfl rfl rfl fun a1 F1 => ?_
            refine mvS F1 rfl rfl rfl rfl rfl fun a2 F2 => ?_
            refine sr F2 (run_len rfl (F2.ev 18 rfl) rfl Tryd.underlying9) rfl rfl rfl fun a3 F3 => ?_
            refine sr (v := (.bool false)) F3 (run_eqi rfl (F3.ev 17 rfl) (F3.ev 19 rfl) (beq_eq_false_iff_ne.2 (by omega))) rfl rfl rfl fun a4 F4 => ?_
            refine sn ?_
            clear F0 F1 F2 F3
            refine cfs (F4.ev 20 rfl) ?_
            refine wsl ?_
            refine mvS F4 rfl rfl rfl rfl rfl fun a5 F5 => ?_
            refine mvS F5 rfl rfl rfl rfl rfl fun a6 F6 => ?_
            refine sr (v := (.int .u8 ((bt b (p + k)).toNat : Int))) F6 (run_sAt (n := (p + k)) rfl (F6.ev 21 rfl) (F6.ev 22 rfl) Tryd.underlying9 rfl (by omega)) rfl rfl rfl fun a7 F7 => ?_
            refine sr F7 (run_cvI (r := ((bt b (p + k)).toNat : Int)) rfl (F7.ev 23 rfl) Tryd.underlying5 Tryd.underlying3 (by rw [IntKind.wrap_i64]; omega)) rfl rfl rfl fun a8 F8 => ?_
            refine asS F8 rfl rfl rfl rfl rfl fun a9 F9 => ?_
            refine sn ?_
            clear F4 F5 F6 F7 F8
            refine wsl ?_
            refine mvS F9 rfl rfl rfl rfl rfl fun a10 F10 => ?_
            refine sr F10 (run_add (r := ((p + k + 1 : Nat) : Int)) rfl (F10.ev 25 rfl) rfl (by rw [IntKind.wrap_i64]; omega)) rfl rfl rfl fun a11 F11 => ?_
            refine asS F11 rfl rfl rfl rfl rfl fun a12 F12 => ?_
            refine sn ?_
            clear F9 F10 F11
            refine wsl ?_
            refine mvS F12 rfl rfl rfl rfl rfl fun a13 F13 => ?_
            refine mvS F13 rfl rfl rfl rfl rfl fun a14 F14 => ?_
            refine sr (v := (.int .i64 (((bt b (p + k)).toNat % 128 : Nat) : Int))) F14 (run_rem (r := (((bt b (p + k)).toNat % 128 : Nat) : Int)) rfl (F14.ev 28 rfl) rfl (by omega) (by rw [Int.tmod_eq_emod_of_nonneg (by omega)]; try omega)) rfl rfl rfl fun a15 F15 => ?_
            refine mvS F15 rfl rfl rfl rfl rfl fun a16 F16 => ?_
            refine sr (v := (.int .i64 (((bt b (p + k)).toNat % 128 * 128 ^ k : Nat) : Int))) F16 (run_mul (r := (((bt b (p + k)).toNat % 128 * 128 ^ k : Nat) : Int)) rfl (F16.ev 29 rfl) (F16.ev 30 rfl) (by rw [IntKind.wrap_i64, ← Int.natCast_mul]; omega)) rfl rfl rfl fun a17 F17 => ?_
            refine sr F17 (run_add (r := (m : Int)) rfl (F17.ev 27 rfl) (F17.ev 31 rfl) (by rw [IntKind.wrap_i64, ← hm]; omega)) rfl rfl rfl fun a18 F18 => ?_
            refine asS F18 rfl rfl rfl rfl rfl fun a19 F19 => ?_
            refine sn ?_
            clear F12 F13 F14 F15 F16 F17 F18
            refine wsl ?_
            refine mvS F19 rfl rfl rfl rfl rfl fun a20 F20 => ?_
            refine sr (v := (.int .i64 ((128 ^ (k + 1) : Nat) : Int))) F20 (run_mul (r := ((128 ^ (k + 1) : Nat) : Int)) rfl (F20.ev 33 rfl) rfl (by rw [IntKind.wrap_i64, Nat.pow_succ]; omega)) rfl rfl rfl fun a21 F21 => ?_
            refine asS F21 rfl rfl rfl rfl rfl fun a22 F22 => ?_
            refine sn ?_
            clear F19 F20 F21
            refine wp_seq ?_
            refine wsl ?_
            refine mvS F22 rfl rfl rfl rfl rfl fun a23 F23 => ?_
            refine sr (v := (.bool true)) F23 (run_lss rfl (F23.ev 35 rfl) rfl (decide_eq_true (by omega))) rfl rfl rfl fun a24 F24 => ?_
            refine sn ?_
            clear F22 F23
            refine wp_cond_true (F24.ev 36 rfl) ?_
            refine wp_seq ?_
            refine wsl ?_
            refine mvS F24 rfl rfl rfl rfl rfl fun a25 F25 => ?_
            refine sr (v := (.bool false)) F25 (run_eqi rfl (F25.ev 37 rfl) rfl (beq_eq_false_iff_ne.2 (by omega))) rfl rfl rfl fun a26 F26 => ?_
            refine mvS F26 rfl rfl rfl rfl rfl fun a27 F27 => ?_
            refine sqSkip F27 (unwantedG F27 rfl rfl rfl rfl rfl) rfl (by decide) fun a28 F28 => ?_
            refine sqSkip F28 (unwantedG F28 rfl rfl rfl rfl rfl) rfl (by decide) fun a29 F29 => ?_
            refine sr (v := (.bool false)) F29 (run_pick rfl (F29.ev 39 rfl) (F29.ev 41 rfl) rfl) rfl rfl rfl fun a30 F30 => ?_
            refine sn ?_
            clear F24 F25 F26 F27 F28 F29
            refine cfs (F30.ev 42 rfl) ?_
            refine wp_exit ?_
            refine nxExit ?_
            refine bkFar (by decide) ?_
            refine nxExit ?_
            refine nxExit ?_
            refine bkHere ?_
            refine nx ?_
            refine wp_seq ?_
            refine wsl ?_
            refine mvS F30 rfl rfl rfl rfl rfl fun a31 F31 => ?_
            refine sr F31 (run_len rfl (F31.ev 45 rfl) rfl Tryd.underlying9) rfl rfl rfl fun a32 F32 => ?_
            refine mvS F32 rfl rfl rfl rfl rfl fun a33 F33 => ?_
            refine sr F33 (run_sub (r := ((b.length - (p + k + 1) : Nat) : Int)) rfl (F33.ev 46 rfl) (F33.ev 47 rfl) (by rw [IntKind.wrap_i64]; omega)) rfl rfl rfl fun a34 F34 => ?_
            refine mvS F34 rfl rfl rfl rfl rfl fun a35 F35 => ?_
            refine sr (v := (.bool false)) F35 (run_lss rfl (F35.ev 48 rfl) (F35.ev 49 rfl) (decide_eq_false (by omega))) rfl rfl rfl fun a36 F36 => ?_
            refine sn ?_
            clear F30 F31 F32 F33 F34 F35
            refine cfs (F36.ev 50 rfl) ?_
            refine wsl ?_
            refine mvS F36 rfl rfl rfl rfl rfl fun a37 F37 => ?_
            refine mvS F37 rfl rfl rfl rfl rfl fun a38 F38 => ?_
            refine mvS F38 rfl rfl rfl rfl rfl fun a39 F39 => ?_
            refine mvS F39 rfl rfl rfl rfl rfl fun a40 F40 => ?_
            refine mvS F40 rfl rfl rfl rfl rfl fun a41 F41 => ?_
            refine sr F41 (run_add (r := ((p + k + 1 + m : Nat) : Int)) rfl (F41.ev 54 rfl) (F41.ev 55 rfl) (by rw [IntKind.wrap_i64]; omega)) rfl rfl rfl fun a42 F42 => ?_
            refine sr (v := (.string ⟨((b.drop (p + k + 1)).take m).toArray⟩)) F42 (run_sMidE (m := (p + k + 1)) (m2 := (p + k + 1 + m)) (by rw [Nat.add_sub_cancel_left]) rfl (F42.ev 52 rfl) (F42.ev 53 rfl) (F42.ev 56 rfl) Tryd.underlying9 rfl rfl (by omega) (by omega)) rfl rfl rfl fun a43 F43 => ?_
            refine sqRow (cs := #[.string ⟨((b.drop (p + k + 1)).take m).toArray⟩]) (t := 9) (m := 1) F43 M0 (wantedS rfl) (run_strs1 rfl (F43.ev 57 rfl)) rfl (by decide) fun g3 a44 w2 hgg3 hb2 F44 M1 => ?_
            have hO1 := hO0.add (S := isB 9 #[.string ⟨((b.drop (p + k + 1)).take m).toArray⟩]) hb2 hgg3
            refine sqAppend (news := [.string ⟨((b.drop (p + k + 1)).take m).toArray⟩]) elStr F44 M1 hO1 rfl rfl (F44.ev 51 rfl) (F44.ev 58 rfl) rfl (blkNews (M1.at 0 rfl)) (all_one rfl) (by unfold maxLen; omega) (by omega) rfl (by decide) fun v4 a45 w3 hO2 M2 hnilv4 F45 => ?_
            refine asS F45 rfl rfl rfl rfl rfl fun a46 F46 => ?_
            refine sn ?_
            clear F36 F37 F38 F39 F40 F41 F42 F43 F44 F45 M0 M1
            refine wp_region_lit ?_
            refine mvS F46 rfl rfl rfl rfl rfl fun a47 F47 => ?_
            refine mvS F47 rfl rfl rfl rfl rfl fun a48 F48 => ?_
            refine sr F48 (run_add (r := ((p + k + 1 + m : Nat) : Int)) rfl (F48.ev 60 rfl) (F48.ev 61 rfl) (by rw [IntKind.wrap_i64]; omega)) rfl rfl rfl fun a49 F49 => ?_
            refine asS F49 rfl rfl rfl rfl rfl fun a50 F50 => ?_
            refine sqEnd ?_
            clear F46 F47 F48 F49
            refine bkEnd ?_
            refine nx ?_
            exact ⟨_, by omega, d ++ [(b.drop (p + k + 1)).take m], p + k + 1 + m, v4, rfl, by omega, by rw [List.length_append, List.length_singleton]; omega, by rw [List.drop_drop] at hT; exact hT, by rw [List.map_append, List.length_append]; exact hO2.sub (List.nil_sublist _), F50.sub ⟨rfl, rfl, rfl, trivial⟩, M2.sub (List.nil_sublist _)⟩
    · by_cases h3 : k = 3
      · have hT2 : textsS b = .error 3 := by rw [hT, hR, lenP_cons, if_neg h8, if_pos h3]; rfl
        refine wp_seq ?_
        refine wp_block ?_
        refine wp_seq ?_
        refine wsl ?_
        refine mvS F0 rfl rfl rfl rfl rfl fun a1 F1 => ?_
        refine mvS F1 rfl rfl rfl rfl rfl fun a2 F2 => ?_
        refine sr F2 (run_len rfl (F2.ev 18 rfl) rfl Tryd.underlying9) rfl rfl rfl fun a3 F3 => ?_
        refine sr (v := (.bool false)) F3 (run_eqi rfl (F3.ev 17 rfl) (F3.ev 19 rfl) (beq_eq_false_iff_ne.2 (by omega))) rfl rfl rfl fun a4 F4 => ?_
        refine sn ?_
        clear F0 F1 F2 F3
        refine cfs (F4.ev 20 rfl) ?_
        refine wsl ?_
        refine mvS F4 rfl rfl rfl rfl rfl fun a5 F5 => ?_
        refine mvS F5 rfl rfl rfl rfl rfl fun a6 F6 => ?_
        refine sr (v := (.int .u8 ((bt b (p + k)).toNat : Int))) F6 (run_sAt (n := (p + k)) rfl (F6.ev 21 rfl) (F6.ev 22 rfl) Tryd.underlying9 rfl (by omega)) rfl rfl rfl fun a7 F7 => ?_
        refine sr F7 (run_cvI (r := ((bt b (p + k)).toNat : Int)) rfl (F7.ev 23 rfl) Tryd.underlying5 Tryd.underlying3 (by rw [IntKind.wrap_i64]; omega)) rfl rfl rfl fun a8 F8 => ?_
        refine asS F8 rfl rfl rfl rfl rfl fun a9 F9 => ?_
        refine sn ?_
        clear F4 F5 F6 F7 F8
        refine wsl ?_
        refine mvS F9 rfl rfl rfl rfl rfl fun a10 F10 => ?_
        refine sr F10 (run_add (r := ((p + k + 1 : Nat) : Int)) rfl (F10.ev 25 rfl) rfl (by rw [IntKind.wrap_i64]; omega)) rfl rfl rfl fun a11 F11 => ?_
        refine asS F11 rfl rfl rfl rfl rfl fun a12 F12 => ?_
        refine sn ?_
        clear F9 F10 F11
        refine wsl ?_
        refine mvS F12 rfl rfl rfl rfl rfl fun a13 F13 => ?_
        refine mvS F13 rfl rfl rfl rfl rfl fun a14 F14 => ?_
        refine sr (v := (.int .i64 (((bt b (p + k)).toNat % 128 : Nat) : Int))) F14 (run_rem (r := (((bt b (p + k)).toNat % 128 : Nat) : Int)) rfl (F14.ev 28 rfl) rfl (by omega) (by rw [Int.tmod_eq_emod_of_nonneg (by omega)]; try omega)) rfl rfl rfl fun a15 F15 => ?_
        refine mvS F15 rfl rfl rfl rfl rfl fun a16 F16 => ?_
        refine sr (v := (.int .i64 (((bt b (p + k)).toNat % 128 * 128 ^ k : Nat) : Int))) F16 (run_mul (r := (((bt b (p + k)).toNat % 128 * 128 ^ k : Nat) : Int)) rfl (F16.ev 29 rfl) (F16.ev 30 rfl) (by rw [IntKind.wrap_i64, ← Int.natCast_mul]; omega)) rfl rfl rfl fun a17 F17 => ?_
        refine sr F17 (run_add (r := ((q + (bt b (p + k)).toNat % 128 * 128 ^ k : Nat) : Int)) rfl (F17.ev 27 rfl) (F17.ev 31 rfl) (by rw [IntKind.wrap_i64]; omega)) rfl rfl rfl fun a18 F18 => ?_
        refine asS F18 rfl rfl rfl rfl rfl fun a19 F19 => ?_
        refine sn ?_
        clear F12 F13 F14 F15 F16 F17 F18
        refine wsl ?_
        refine mvS F19 rfl rfl rfl rfl rfl fun a20 F20 => ?_
        refine sr (v := (.int .i64 ((128 ^ (k + 1) : Nat) : Int))) F20 (run_mul (r := ((128 ^ (k + 1) : Nat) : Int)) rfl (F20.ev 33 rfl) rfl (by rw [IntKind.wrap_i64, Nat.pow_succ]; omega)) rfl rfl rfl fun a21 F21 => ?_
        refine asS F21 rfl rfl rfl rfl rfl fun a22 F22 => ?_
        refine sn ?_
        clear F19 F20 F21
        refine wp_seq ?_
        refine wsl ?_
        refine mvS F22 rfl rfl rfl rfl rfl fun a23 F23 => ?_
        refine sr (v := (.bool false)) F23 (run_lss rfl (F23.ev 35 rfl) rfl (decide_eq_false (by omega))) rfl rfl rfl fun a24 F24 => ?_
        refine sn ?_
        clear F22 F23
        refine cfs (F24.ev 36 rfl) ?_
        refine wsl ?_
        refine mvS F24 rfl rfl rfl rfl rfl fun a25 F25 => ?_
        refine sr (v := (.bool true)) F25 (run_eqi rfl (F25.ev 43 rfl) rfl (beq_iff_eq.2 (by omega))) rfl rfl rfl fun a26 F26 => ?_
        refine sn ?_
        clear F24 F25
        refine wp_cond_true (F26.ev 44 rfl) ?_
        refine wsl ?_
        refine sr (v := (.slice none 0 0)) F26 (run_as rfl rfl) rfl rfl rfl fun a27 F27 => ?_
        refine sr (v := (.int .i64 3)) F27 (run_as rfl rfl) rfl rfl rfl fun a28 F28 => ?_
        refine sn ?_
        clear F26 F27
        refine wp_ret ?_
        refine bkRet ?_
        refine nxRet ?_
        refine nxRet ?_
        refine bkRet ?_
        refine nxRet ?_
        refine bkRet ?_
        refine nxRet ?_
        refine bkRet ?_
        refine nxRet ?_
        exact ret2 F28 rfl rfl rfl ⟨_, rfl, by unfold TxR; rw [hT2], M0.below⟩
      · skip
        refine wp_seq ?_
        refine wp_block ?_
        refine wp_seq ?_
        refine wsl ?_
        refine mvS F0 rfl rfl rfl rfl rfl fun a1 F1 => ?_
        refine mvS F1 rfl rfl rfl rfl rfl fun a2 F2 => ?_
        refine sr F2 (run_len rfl (F2.ev 18 rfl) rfl Tryd.underlying9) rfl rfl rfl fun a3 F3 => ?_
        refine sr (v := (.bool false)) F3 (run_eqi rfl (F3.ev 17 rfl) (F3.ev 19 rfl) (beq_eq_false_iff_ne.2 (by omega))) rfl rfl rfl fun a4 F4 => ?_
        refine sn ?_
        clear F0 F1 F2 F3
        refine cfs (F4.ev 20 rfl) ?_
        refine wsl ?_
        refine mvS F4 rfl rfl rfl rfl rfl fun a5 F5 => ?_
        refine mvS F5 rfl rfl rfl rfl rfl fun a6 F6 => ?_
        refine sr (v := (.int .u8 ((bt b (p + k)).toNat : Int))) F6 (run_sAt (n := (p + k)) rfl (F6.ev 21 rfl) (F6.ev 22 rfl) Tryd.underlying9 rfl (by omega)) rfl rfl rfl fun a7 F7 => ?_
        refine sr F7 (run_cvI (r := ((bt b (p + k)).toNat : Int)) rfl (F7.ev 23 rfl) Tryd.underlying5 Tryd.underlying3 (by rw [IntKind.wrap_i64]; omega)) rfl rfl rfl fun a8 F8 => ?_
        refine asS F8 rfl rfl rfl rfl rfl fun a9 F9 => ?_
        refine sn ?_
        clear F4 F5 F6 F7 F8
        refine wsl ?_
        refine mvS F9 rfl rfl rfl rfl rfl fun a10 F10 => ?_
        refine sr F10 (run_add (r := ((p + k + 1 : Nat) : Int)) rfl (F10.ev 25 rfl) rfl (by rw [IntKind.wrap_i64]; omega)) rfl rfl rfl fun a11 F11 => ?_
        refine asS F11 rfl rfl rfl rfl rfl fun a12 F12 => ?_
        refine sn ?_
        clear F9 F10 F11
        refine wsl ?_
        refine mvS F12 rfl rfl rfl rfl rfl fun a13 F13 => ?_
        refine mvS F13 rfl rfl rfl rfl rfl fun a14 F14 => ?_
        refine sr (v := (.int .i64 (((bt b (p + k)).toNat % 128 : Nat) : Int))) F14 (run_rem (r := (((bt b (p + k)).toNat % 128 : Nat) : Int)) rfl (F14.ev 28 rfl) rfl (by omega) (by rw [Int.tmod_eq_emod_of_nonneg (by omega)]; try omega)) rfl rfl rfl fun a15 F15 => ?_
        refine mvS F15 rfl rfl rfl rfl rfl fun a16 F16 => ?_
        refine sr (v := (.int .i64 (((bt b (p + k)).toNat % 128 * 128 ^ k : Nat) : Int))) F16 (run_mul (r := (((bt b (p + k)).toNat % 128 * 128 ^ k : Nat) : Int)) rfl (F16.ev 29 rfl) (F16.ev 30 rfl) (by rw [IntKind.wrap_i64, ← Int.natCast_mul]; omega)) rfl rfl rfl fun a17 F17 => ?_
        refine sr F17 (run_add (r := ((q + (bt b (p + k)).toNat % 128 * 128 ^ k : Nat) : Int)) rfl (F17.ev 27 rfl) (F17.ev 31 rfl) (by rw [IntKind.wrap_i64]; omega)) rfl rfl rfl fun a18 F18 => ?_
        refine asS F18 rfl rfl rfl rfl rfl fun a19 F19 => ?_
        refine sn ?_
        clear F12 F13 F14 F15 F16 F17 F18
        refine wsl ?_
        refine mvS F19 rfl rfl rfl rfl rfl fun a20 F20 => ?_
        refine sr (v := (.int .i64 ((128 ^ (k + 1) : Nat) : Int))) F20 (run_mul (r := ((128 ^ (k + 1) : Nat) : Int)) rfl (F20.ev 33 rfl) rfl (by rw [IntKind.wrap_i64, Nat.pow_succ]; omega)) rfl rfl rfl fun a21 F21 => ?_
        refine asS F21 rfl rfl rfl rfl rfl fun a22 F22 => ?_
        refine sn ?_
        clear F19 F20 F21
        refine wp_seq ?_
        refine wsl ?_
        refine mvS F22 rfl rfl rfl rfl rfl fun a23 F23 => ?_
        refine sr (v := (.bool false)) F23 (run_lss rfl (F23.ev 35 rfl) rfl (decide_eq_false (by omega))) rfl rfl rfl fun a24 F24 => ?_
        refine sn ?_
        clear F22 F23
        refine cfs (F24.ev 36 rfl) ?_
        refine wsl ?_
        refine mvS F24 rfl rfl rfl rfl rfl fun a25 F25 => ?_
        refine sr (v := (.bool false)) F25 (run_eqi rfl (F25.ev 43 rfl) rfl (beq_eq_false_iff_ne.2 (by omega))) rfl rfl rfl fun a26 F26 => ?_
        refine sn ?_
        clear F24 F25
        refine wp_cond_false (F26.ev 44 rfl) ?_
        refine wp_skip ?_
        refine bkEnd ?_
        refine nx ?_
        refine wp_region_lit ?_
        refine mvS F26 rfl rfl rfl rfl rfl fun a27 F27 => ?_
        refine sr F27 (run_add (r := ((k + 1 : Nat) : Int)) rfl (F27.ev 15 rfl) rfl (by rw [IntKind.wrap_i64]; omega)) rfl rfl rfl fun a28 F28 => ?_
        refine asS F28 rfl rfl rfl rfl rfl fun a29 F29 => ?_
        refine sn ?_
        clear F26 F27 F28
        refine ⟨_, by omega, k + 1, q + (bt b (p + k)).toNat % 128 * 128 ^ k, rfl, by omega, by omega, ?_, ?_, hO0, F29.sub ⟨rfl, rfl, rfl, rfl, rfl, rfl, trivial⟩, M0⟩
        · have := Nat.mul_le_mul_right (128 ^ k) (show (bt b (p + k)).toNat % 128 ≤ 127 by omega)
          rw [Nat.pow_succ]; omega
        · rw [hR, lenAcc_step k q _ _ h8 h3]; rfl
  · have hpe : p = b.length := by omega
    have hT2 : textsS b = .ok d := by rw [hT, hpe, List.drop_length, textsS_nil]; simp [txAcc]
    refine wp_seq ?_
    refine wsl ?_
    refine mvS F0 rfl rfl rfl rfl rfl fun a1 F1 => ?_
    refine mvS F1 rfl rfl rfl rfl rfl fun a2 F2 => ?_
    refine sr F2 (run_len rfl (F2.ev 12 rfl) rfl Tryd.underlying9) rfl rfl rfl fun a3 F3 => ?_
    refine sr (v := (.bool false)) F3 (run_lss rfl (F3.ev 11 rfl) (F3.ev 13 rfl) (decide_eq_false (by omega))) rfl rfl rfl fun a4 F4 => ?_
    refine sn ?_
    clear F0 F1 F2 F3
    refine wp_cond_false (F4.ev 14 rfl) ?_
    refine wp_exit ?_
    refine nxExit ?_
    refine nxExit ?_
    refine bkHere ?_
    refine nx ?_
    refine wsl ?_
    refine mvS F4 rfl rfl rfl rfl rfl fun a5 F5 => ?_
    refine asS F5 rfl rfl rfl rfl rfl fun a6 F6 => ?_
    refine sr (v := (.int .i64 0)) F6 (run_as rfl rfl) rfl rfl rfl fun a7 F7 => ?_
    refine sn ?_
    clear F4 F5 F6
    refine wp_ret ?_
    exact ret2 F7 rfl rfl rfl ⟨_, rfl, by unfold TxR; rw [hT2]; exact ⟨v, rfl, hO0.owns⟩, M0.below⟩
end Go.Proofs.YtconhhhggckcbaaDoor
