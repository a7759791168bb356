/- The walks of the reference's names, bytes, Make and Great. Printed by gen_pack3.py. -/
import Derived.Test.YtnkklogkjnfjgaaPack2
import Derived.Test.YtnkklogkjnfjgaaRef01
namespace Go.Proofs.Ytnkklogkjnfjgaa
open Go.RowKit

theorem contains_snoc (l : List (List UInt8)) (y x : List UInt8) : (l ++ [y]).contains x = (l.contains x || y == x) := by
  rw [Bool.eq_iff_iff]
  simp only [List.contains_iff_mem, List.mem_append, List.mem_singleton, Bool.or_eq_true, beq_iff_eq]
  exact or_congr Iff.rfl eq_comm
theorem contains_of (l : List Bx) (i k : Nat) {y : Bx} (hy : l[k]? = some y) (hk : k < i) : ((l.take i).map (·.1)).contains y.1 = true := by
  have h1 : (l.take i)[k]? = some y := by rw [List.getElem?_take_of_lt hk]; exact hy
  have h2 := List.mem_of_getElem? h1
  simp only [List.contains_iff_mem, List.mem_map]
  exact ⟨y, h2, rfl⟩
set_option maxRecDepth 100000 in
set_option maxHeartbeats 1000000 in
theorem rnames_any (l : List Bx) (v : Value) (w : World) (hV : Sl w v 2 l.length (l.flatMap boxC)) (hn : l.length < 2 ^ 40) : Calls Try.prog 28 #[v] w fun e w' => e = .returned (.int .i64 (namesS l)) ∧ Below w.heap.size w w' := by
  refine walk_enter Try.func28 rfl rfl rfl fun a0 hF0 => ?_
  have hM0 := Mem.new w
  refine wp_seq ?_
  refine wp_region_lit ?_
  refine sq (v := (.int .i64 0)) hF0 (wantedS rfl) (run_as rfl rfl) rfl (by decide) fun a1 hF1 => ?_
  refine sqEnd ?_
  clear hF0
  refine nx ?_
  refine wp_seq ?_
  refine wp_seq ?_
  refine wp_region_lit ?_
  refine sq (v := v) hF1 (wantedS rfl) (run_mv rfl (hF1.ev 0 rfl)) rfl (by decide) fun a2 hF2 => ?_
  refine sq (v := (.int .i64 (l.length : Int))) hF2 (wantedS rfl) (run_lenS rfl (hF2.ev 5 rfl) (hV.below hM0.below) rfl Try.underlying22) rfl (by decide) fun a3 hF3 => ?_
  refine sq (v := (.int .i64 0)) hF3 (wantedS rfl) (run_mv rfl rfl) rfl (by decide) fun a4 hF4 => ?_
  refine sqEnd ?_
  clear hF1 hF2 hF3
  refine nx ?_
  refine wp_block ?_
  refine wkLoop (fun m a w2 => ∃ i : Nat, i ≤ l.length ∧ m = l.length - i ∧ namesS l = namesF ((l.take i).map (·.1)) (l.drop i) ∧ Fr a 43 [(0, v), (6, .int .i64 (l.length : Int)), (7, .int .i64 (i : Int))] ∧ Mem w [] w2) l.length ⟨0, Nat.zero_le _, rfl, rfl, hF4.sub ⟨rfl, rfl, rfl, trivial⟩, hM0⟩ ?_
  rintro m a0 w1 ⟨i, hi, rfl, hnm, hF0, hM0⟩
  obtain ⟨nms, hnms⟩ : ∃ nms, (l.take i).map (·.1) = nms := ⟨_, rfl⟩
  rw [hnms] at hnm
  by_cases hlt : i < l.length
  · obtain ⟨x, hx⟩ : ∃ x, l[i]? = some x := ⟨l[i], by simp [hlt]⟩
    rw [namesF_step _ l i hx] at hnm
    by_cases h1 : x.1.length < 1
    · have hm : mayS nms x.1 = 7 := by unfold mayS; rw [if_pos (.inl h1)]
      have hres : namesS l = 7 := by rw [hnm, hm]; rfl
      refine wp_seq ?_
      refine wp_region_lit ?_
      refine sq (v := (.bool true)) hF0 (wantedS rfl) (run_lss rfl (hF0.ev 7 rfl) (hF0.ev 6 rfl) (decide_eq_true (by omega))) rfl (by decide) fun a1 hF1 => ?_
      refine sqEnd ?_
      clear hF0
      refine nx ?_
      refine wp_seq ?_
      refine wp_cond_true (hF1.ev 8 rfl) ?_
      refine wp_skip ?_
      refine nx ?_
      refine wp_seq ?_
      refine wp_block ?_
      refine wp_seq ?_
      refine wp_region_lit ?_
      refine sq (v := (.int .i64 (i : Int))) hF1 (wantedS rfl) (run_mv rfl (hF1.ev 7 rfl)) rfl (by decide) fun a2 hF2 => ?_
      refine sq (v := (.int .i64 (i : Int))) hF2 (wantedS rfl) (run_as rfl (hF2.ev 9 rfl)) rfl (by decide) fun a3 hF3 => ?_
      refine sqEnd ?_
      clear hF1 hF2
      refine nx ?_
      refine wp_seq ?_
      refine wp_seq ?_
      refine wp_region_lit ?_
      refine sq (v := v) hF3 (wantedS rfl) (run_mv rfl (hF3.ev 0 rfl)) rfl (by decide) fun a4 hF4 => ?_
      refine sq (v := (.int .i64 (i : Int))) hF4 (wantedS rfl) (run_mv rfl (hF4.ev 3 rfl)) rfl (by decide) fun a5 hF5 => ?_
      refine sq (v := (slPtr v (i * 2))) hF5 (wantedS rfl) (run_atP (i := i) rfl (hF5.ev 10 rfl) (hF5.ev 11 rfl) rfl (hV.below hM0.below) (by omega) elBox.un (by kernel_rfl)) rfl (by decide) fun a6 hF6 => ?_
      refine sq (v := (slPtr v (i * 2 + 0))) hF6 (wantedS rfl) (run_fldP (m2 := 1) (s := 0) rfl (hF6.ev 12 rfl) (hV.below hM0.below) (by omega) Try.underlying29 rfl rfl (by kernel_rfl) (by decide)) rfl (by decide) fun a7 hF7 => ?_
      refine sq (v := (.string ⟨x.1.toArray⟩)) hF7 (wantedS rfl) (run_ldP rfl (hF7.ev 13 rfl) (hV.below hM0.below) (flat_at boxC_len hx 0 rfl) (by kernel_rfl)) rfl (by decide) fun a8 hF8 => ?_
      refine sq (v := (.int .i64 (x.1.length : Int))) hF8 (wantedS rfl) (run_len rfl (hF8.ev 14 rfl) rfl Try.underlying9) rfl (by decide) fun a9 hF9 => ?_
      refine sq (v := (.bool true)) hF9 (wantedS rfl) (run_lss rfl (hF9.ev 15 rfl) rfl (decide_eq_true (by omega))) rfl (by decide) fun a10 hF10 => ?_
      refine sq (v := (.bool true)) hF10 (wantedS rfl) (run_mv rfl (hF10.ev 16 rfl)) rfl (by decide) fun a11 hF11 => ?_
      refine sqSkip hF11 (unwantedG hF11 rfl rfl rfl rfl rfl) rfl (by decide) fun a12 hF12 => ?_
      refine sqSkip hF12 (unwantedG hF12 rfl rfl rfl rfl rfl) rfl (by decide) fun a13 hF13 => ?_
      refine sqSkip hF13 (unwantedG hF13 rfl rfl rfl rfl rfl) rfl (by decide) fun a14 hF14 => ?_
      refine sqSkip hF14 (unwantedG hF14 rfl rfl rfl rfl rfl) rfl (by decide) fun a15 hF15 => ?_
      refine sqSkip hF15 (unwantedG hF15 rfl rfl rfl rfl rfl) rfl (by decide) fun a16 hF16 => ?_
      refine sqSkip hF16 (unwantedG hF16 rfl rfl rfl rfl rfl) rfl (by decide) fun a17 hF17 => ?_
      refine sqSkip hF17 (unwantedG hF17 rfl rfl rfl rfl rfl) rfl (by decide) fun a18 hF18 => ?_
      refine sq (v := (.bool true)) hF18 (wantedS rfl) (run_pick rfl (hF18.ev 17 rfl) rfl (hF18.ev 24 rfl)) rfl (by decide) fun a19 hF19 => ?_
      refine sqEnd ?_
      clear hF3 hF4 hF5 hF6 hF7 hF8 hF9 hF10 hF11 hF12 hF13 hF14 hF15 hF16 hF17 hF18
      refine nx ?_
      refine wp_cond_true (hF19.ev 25 rfl) ?_
      refine wp_seq ?_
      refine wp_region_lit ?_
      refine sq (v := (.int .i64 7)) hF19 (wantedS rfl) (run_as rfl rfl) rfl (by decide) fun a20 hF20 => ?_
      refine sqEnd ?_
      clear hF19
      refine nx ?_
      refine wp_ret ?_
      refine nxRet ?_
      refine bkRet ?_
      refine nxRet ?_
      refine nxRet ?_
      refine bkRet ?_
      refine nxRet ?_
      exact ret1 hF20 rfl rfl ⟨by rw [hres], hM0.below⟩
    by_cases h2 : 100 < x.1.length
    · have hm : mayS nms x.1 = 7 := by unfold mayS; rw [if_pos (.inr h2)]
      have hres : namesS l = 7 := by rw [hnm, hm]; rfl
      refine wp_seq ?_
      refine wp_region_lit ?_
      refine sq (v := (.bool true)) hF0 (wantedS rfl) (run_lss rfl (hF0.ev 7 rfl) (hF0.ev 6 rfl) (decide_eq_true (by omega))) rfl (by decide) fun a1 hF1 => ?_
      refine sqEnd ?_
      clear hF0
      refine nx ?_
      refine wp_seq ?_
      refine wp_cond_true (hF1.ev 8 rfl) ?_
      refine wp_skip ?_
      refine nx ?_
      refine wp_seq ?_
      refine wp_block ?_
      refine wp_seq ?_
      refine wp_region_lit ?_
      refine sq (v := (.int .i64 (i : Int))) hF1 (wantedS rfl) (run_mv rfl (hF1.ev 7 rfl)) rfl (by decide) fun a2 hF2 => ?_
      refine sq (v := (.int .i64 (i : Int))) hF2 (wantedS rfl) (run_as rfl (hF2.ev 9 rfl)) rfl (by decide) fun a3 hF3 => ?_
      refine sqEnd ?_
      clear hF1 hF2
      refine nx ?_
      refine wp_seq ?_
      refine wp_seq ?_
      refine wp_region_lit ?_
      refine sq (v := v) hF3 (wantedS rfl) (run_mv rfl (hF3.ev 0 rfl)) rfl (by decide) fun a4 hF4 => ?_
      refine sq (v := (.int .i64 (i : Int))) hF4 (wantedS rfl) (run_mv rfl (hF4.ev 3 rfl)) rfl (by decide) fun a5 hF5 => ?_
      refine sq (v := (slPtr v (i * 2))) hF5 (wantedS rfl) (run_atP (i := i) rfl (hF5.ev 10 rfl) (hF5.ev 11 rfl) rfl (hV.below hM0.below) (by omega) elBox.un (by kernel_rfl)) rfl (by decide) fun a6 hF6 => ?_
      refine sq (v := (slPtr v (i * 2 + 0))) hF6 (wantedS rfl) (run_fldP (m2 := 1) (s := 0) rfl (hF6.ev 12 rfl) (hV.below hM0.below) (by omega) Try.underlying29 rfl rfl (by kernel_rfl) (by decide)) rfl (by decide) fun a7 hF7 => ?_
      refine sq (v := (.string ⟨x.1.toArray⟩)) hF7 (wantedS rfl) (run_ldP rfl (hF7.ev 13 rfl) (hV.below hM0.below) (flat_at boxC_len hx 0 rfl) (by kernel_rfl)) rfl (by decide) fun a8 hF8 => ?_
      refine sq (v := (.int .i64 (x.1.length : Int))) hF8 (wantedS rfl) (run_len rfl (hF8.ev 14 rfl) rfl Try.underlying9) rfl (by decide) fun a9 hF9 => ?_
      refine sq (v := (.bool false)) hF9 (wantedS rfl) (run_lss rfl (hF9.ev 15 rfl) rfl (decide_eq_false (by omega))) rfl (by decide) fun a10 hF10 => ?_
      refine sq (v := (.bool false)) hF10 (wantedS rfl) (run_mv rfl (hF10.ev 16 rfl)) rfl (by decide) fun a11 hF11 => ?_
      refine sq (v := v) hF11 (wantedG hF11 rfl rfl rfl rfl rfl) (run_mv rfl (hF11.ev 0 rfl)) rfl (by decide) fun a12 hF12 => ?_
      refine sq (v := (.int .i64 (i : Int))) hF12 (wantedG hF12 rfl rfl rfl rfl rfl) (run_mv rfl (hF12.ev 3 rfl)) rfl (by decide) fun a13 hF13 => ?_
      refine sq (v := (slPtr v (i * 2))) hF13 (wantedG hF13 rfl rfl rfl rfl rfl) (run_atP (i := i) rfl (hF13.ev 18 rfl) (hF13.ev 19 rfl) rfl (hV.below hM0.below) (by omega) elBox.un (by kernel_rfl)) rfl (by decide) fun a14 hF14 => ?_
      refine sq (v := (slPtr v (i * 2 + 0))) hF14 (wantedG hF14 rfl rfl rfl rfl rfl) (run_fldP (m2 := 1) (s := 0) rfl (hF14.ev 20 rfl) (hV.below hM0.below) (by omega) Try.underlying29 rfl rfl (by kernel_rfl) (by decide)) rfl (by decide) fun a15 hF15 => ?_
      refine sq (v := (.string ⟨x.1.toArray⟩)) hF15 (wantedG hF15 rfl rfl rfl rfl rfl) (run_ldP rfl (hF15.ev 21 rfl) (hV.below hM0.below) (flat_at boxC_len hx 0 rfl) (by kernel_rfl)) rfl (by decide) fun a16 hF16 => ?_
      refine sq (v := (.int .i64 (x.1.length : Int))) hF16 (wantedG hF16 rfl rfl rfl rfl rfl) (run_len rfl (hF16.ev 22 rfl) rfl Try.underlying9) rfl (by decide) fun a17 hF17 => ?_
      refine sq (v := (.bool true)) hF17 (wantedG hF17 rfl rfl rfl rfl rfl) (run_gtr rfl (hF17.ev 23 rfl) rfl (decide_eq_true (by omega))) rfl (by decide) fun a18 hF18 => ?_
      refine sq (v := (.bool true)) hF18 (wantedS rfl) (run_pick rfl (hF18.ev 17 rfl) rfl (hF18.ev 24 rfl)) rfl (by decide) fun a19 hF19 => ?_
      refine sqEnd ?_
      clear hF3 hF4 hF5 hF6 hF7 hF8 hF9 hF10 hF11 hF12 hF13 hF14 hF15 hF16 hF17 hF18
      refine nx ?_
      refine wp_cond_true (hF19.ev 25 rfl) ?_
      refine wp_seq ?_
      refine wp_region_lit ?_
      refine sq (v := (.int .i64 7)) hF19 (wantedS rfl) (run_as rfl rfl) rfl (by decide) fun a20 hF20 => ?_
      refine sqEnd ?_
      clear hF19
      refine nx ?_
      refine wp_ret ?_
      refine nxRet ?_
      refine bkRet ?_
      refine nxRet ?_
      refine nxRet ?_
      refine bkRet ?_
      refine nxRet ?_
      exact ret1 hF20 rfl rfl ⟨by rw [hres], hM0.below⟩
    have h3 : ¬ (x.1.length < 1 ∨ 100 < x.1.length) := by omega
    refine wp_seq ?_
    refine wp_region_lit ?_
    refine sq (v := (.bool true)) hF0 (wantedS rfl) (run_lss rfl (hF0.ev 7 rfl) (hF0.ev 6 rfl) (decide_eq_true (by omega))) rfl (by decide) fun a1 hF1 => ?_
    refine sqEnd ?_
    clear hF0
    refine nx ?_
    refine wp_seq ?_
    refine wp_cond_true (hF1.ev 8 rfl) ?_
    refine wp_skip ?_
    refine nx ?_
    refine wp_seq ?_
    refine wp_block ?_
    refine wp_seq ?_
    refine wp_region_lit ?_
    refine sq (v := (.int .i64 (i : Int))) hF1 (wantedS rfl) (run_mv rfl (hF1.ev 7 rfl)) rfl (by decide) fun a2 hF2 => ?_
    refine sq (v := (.int .i64 (i : Int))) hF2 (wantedS rfl) (run_as rfl (hF2.ev 9 rfl)) rfl (by decide) fun a3 hF3 => ?_
    refine sqEnd ?_
    clear hF1 hF2
    refine nx ?_
    refine wp_seq ?_
    refine wp_seq ?_
    refine wp_region_lit ?_
    refine sq (v := v) hF3 (wantedS rfl) (run_mv rfl (hF3.ev 0 rfl)) rfl (by decide) fun a4 hF4 => ?_
    refine sq (v := (.int .i64 (i : Int))) hF4 (wantedS rfl) (run_mv rfl (hF4.ev 3 rfl)) rfl (by decide) fun a5 hF5 => ?_
    refine sq (v := (slPtr v (i * 2))) hF5 (wantedS rfl) (run_atP (i := i) rfl (hF5.ev 10 rfl) (hF5.ev 11 rfl) rfl (hV.below hM0.below) (by omega) elBox.un (by kernel_rfl)) rfl (by decide) fun a6 hF6 => ?_
    refine sq (v := (slPtr v (i * 2 + 0))) hF6 (wantedS rfl) (run_fldP (m2 := 1) (s := 0) rfl (hF6.ev 12 rfl) (hV.below hM0.below) (by omega) Try.underlying29 rfl rfl (by kernel_rfl) (by decide)) rfl (by decide) fun a7 hF7 => ?_
    refine sq (v := (.string ⟨x.1.toArray⟩)) hF7 (wantedS rfl) (run_ldP rfl (hF7.ev 13 rfl) (hV.below hM0.below) (flat_at boxC_len hx 0 rfl) (by kernel_rfl)) rfl (by decide) fun a8 hF8 => ?_
    refine sq (v := (.int .i64 (x.1.length : Int))) hF8 (wantedS rfl) (run_len rfl (hF8.ev 14 rfl) rfl Try.underlying9) rfl (by decide) fun a9 hF9 => ?_
    refine sq (v := (.bool false)) hF9 (wantedS rfl) (run_lss rfl (hF9.ev 15 rfl) rfl (decide_eq_false (by omega))) rfl (by decide) fun a10 hF10 => ?_
    refine sq (v := (.bool false)) hF10 (wantedS rfl) (run_mv rfl (hF10.ev 16 rfl)) rfl (by decide) fun a11 hF11 => ?_
    refine sq (v := v) hF11 (wantedG hF11 rfl rfl rfl rfl rfl) (run_mv rfl (hF11.ev 0 rfl)) rfl (by decide) fun a12 hF12 => ?_
    refine sq (v := (.int .i64 (i : Int))) hF12 (wantedG hF12 rfl rfl rfl rfl rfl) (run_mv rfl (hF12.ev 3 rfl)) rfl (by decide) fun a13 hF13 => ?_
    refine sq (v := (slPtr v (i * 2))) hF13 (wantedG hF13 rfl rfl rfl rfl rfl) (run_atP (i := i) rfl (hF13.ev 18 rfl) (hF13.ev 19 rfl) rfl (hV.below hM0.below) (by omega) elBox.un (by kernel_rfl)) rfl (by decide) fun a14 hF14 => ?_
    refine sq (v := (slPtr v (i * 2 + 0))) hF14 (wantedG hF14 rfl rfl rfl rfl rfl) (run_fldP (m2 := 1) (s := 0) rfl (hF14.ev 20 rfl) (hV.below hM0.below) (by omega) Try.underlying29 rfl rfl (by kernel_rfl) (by decide)) rfl (by decide) fun a15 hF15 => ?_
    refine sq (v := (.string ⟨x.1.toArray⟩)) hF15 (wantedG hF15 rfl rfl rfl rfl rfl) (run_ldP rfl (hF15.ev 21 rfl) (hV.below hM0.below) (flat_at boxC_len hx 0 rfl) (by kernel_rfl)) rfl (by decide) fun a16 hF16 => ?_
    refine sq (v := (.int .i64 (x.1.length : Int))) hF16 (wantedG hF16 rfl rfl rfl rfl rfl) (run_len rfl (hF16.ev 22 rfl) rfl Try.underlying9) rfl (by decide) fun a17 hF17 => ?_
    refine sq (v := (.bool false)) hF17 (wantedG hF17 rfl rfl rfl rfl rfl) (run_gtr rfl (hF17.ev 23 rfl) rfl (decide_eq_false (by omega))) rfl (by decide) fun a18 hF18 => ?_
    refine sq (v := (.bool false)) hF18 (wantedS rfl) (run_pick rfl (hF18.ev 17 rfl) rfl (hF18.ev 24 rfl)) rfl (by decide) fun a19 hF19 => ?_
    refine sqEnd ?_
    clear hF3 hF4 hF5 hF6 hF7 hF8 hF9 hF10 hF11 hF12 hF13 hF14 hF15 hF16 hF17 hF18
    refine nx ?_
    refine wp_cond_false (hF19.ev 25 rfl) ?_
    refine wp_skip ?_
    refine nx ?_
    refine wp_seq ?_
    refine wp_region_lit ?_
    refine sq (v := (.int .i64 0)) hF19 (wantedS rfl) (run_as rfl rfl) rfl (by decide) fun a20 hF20 => ?_
    refine sqEnd ?_
    clear hF19
    refine nx ?_
    refine wp_block ?_
    refine wkLoop (fun m a w2 => ∃ k : Nat, k ≤ i ∧ m = i - k ∧ ((l.take k).map (·.1)).contains x.1 = false ∧ Fr a 43 [(0, v), (3, .int .i64 (i : Int)), (4, .int .i64 (k : Int)), (6, .int .i64 (l.length : Int)), (7, .int .i64 (i : Int))] ∧ Mem w [] w2) i ⟨0, Nat.zero_le _, rfl, by rfl, hF20.sub ⟨rfl, rfl, rfl, rfl, rfl, trivial⟩, hM0⟩ ?_
    rintro m0 a0 w1 ⟨k, hk, rfl, hct, hF0, hM0⟩
    by_cases hki : k < i
    · obtain ⟨y, hy⟩ : ∃ y, l[k]? = some y := ⟨l[k], by simp [show k < l.length by omega]⟩
      by_cases hyx : y.1 = x.1
      · have hm : mayS nms x.1 = 8 := by unfold mayS; rw [if_neg h3, ← hnms, ← hyx, contains_of l i k hy hki]; rfl
        have hres : namesS l = 8 := by rw [hnm, hm]; rfl
        refine wp_seq ?_
        refine wp_seq ?_
        refine wp_region_lit ?_
        refine sq (v := (.int .i64 (k : Int))) hF0 (wantedS rfl) (run_mv rfl (hF0.ev 4 rfl)) rfl (by decide) fun a1 hF1 => ?_
        refine sq (v := (.int .i64 (i : Int))) hF1 (wantedS rfl) (run_mv rfl (hF1.ev 3 rfl)) rfl (by decide) fun a2 hF2 => ?_
        refine sq (v := (.bool true)) hF2 (wantedS rfl) (run_lss rfl (hF2.ev 26 rfl) (hF2.ev 27 rfl) (decide_eq_true (by omega))) rfl (by decide) fun a3 hF3 => ?_
        refine sqEnd ?_
        clear hF0 hF1 hF2
        refine nx ?_
        refine wp_cond_true (hF3.ev 28 rfl) ?_
        refine wp_skip ?_
        refine nx ?_
        refine wp_seq ?_
        refine wp_block ?_
        refine wp_seq ?_
        obtain ⟨KL, hKL⟩ : ∃ KL, KL = [kval v, kval (.int .i64 (k : Int)), kval (slPtr v (k * 2)), kval (slPtr v (k * 2 + 0)), kval (.string ⟨y.1.toArray⟩), kval v, kval (.int .i64 (i : Int)), kval (slPtr v (i * 2)), kval (slPtr v (i * 2 + 0)), kval (.string ⟨x.1.toArray⟩), kval (.bool true)] := ⟨_, rfl⟩
        have K0 : KL.getD 0 kany = kval v := by rw [hKL]; rfl
        have K1 : KL.getD 1 kany = kval (.int .i64 (k : Int)) := by rw [hKL]; rfl
        have K2 : KL.getD 2 kany = kval (slPtr v (k * 2)) := by rw [hKL]; rfl
        have K3 : KL.getD 3 kany = kval (slPtr v (k * 2 + 0)) := by rw [hKL]; rfl
        have K4 : KL.getD 4 kany = kval (.string ⟨y.1.toArray⟩) := by rw [hKL]; rfl
        have K5 : KL.getD 5 kany = kval v := by rw [hKL]; rfl
        have K6 : KL.getD 6 kany = kval (.int .i64 (i : Int)) := by rw [hKL]; rfl
        have K7 : KL.getD 7 kany = kval (slPtr v (i * 2)) := by rw [hKL]; rfl
        have K8 : KL.getD 8 kany = kval (slPtr v (i * 2 + 0)) := by rw [hKL]; rfl
        have K9 : KL.getD 9 kany = kval (.string ⟨x.1.toArray⟩) := by rw [hKL]; rfl
        have K10 : KL.getD 10 kany = kval (.bool true) := by rw [hKL]; rfl
        clear hKL
        refine wp_region_kd 43 (by kernel_rfl) (by kernel_rfl) (by kernel_rfl) hF3.size KL ?_ ?_
        · refine ⟨?_, ?_, ?_, ?_, ?_, ?_, ?_, ?_, ?_, ?_, ?_, trivial⟩
          · refine asks_mk fun a W hS hh hd => ⟨wanted_yes rfl, ?_⟩
            exact giv_run (run_mv rfl (eval_tmp (hh 0 _ rfl (hF3.at 0 rfl)))) K0
          · refine asks_mk fun a W hS hh hd => ⟨wanted_yes rfl, ?_⟩
            exact giv_run (run_mv rfl (eval_tmp (hh 4 _ rfl (hF3.at 4 rfl)))) K1
          · refine asks_mk fun a W hS hh hd => ⟨wanted_yes rfl, ?_⟩
            exact giv_run (run_atP (i := k) rfl (eval_tmp (hd.val (j := 0) (s := 31) (by kernel_rfl) K0)) (eval_tmp (hd.val (j := 1) (s := 32) (by kernel_rfl) K1)) rfl (hV.below (hM0.grow hS).below) (by omega) elBox.un (by kernel_rfl)) K2
          · refine asks_mk fun a W hS hh hd => ⟨wanted_yes rfl, ?_⟩
            exact giv_run (run_fldP (m2 := 1) (s := 0) rfl (eval_tmp (hd.val (j := 2) (s := 33) (by kernel_rfl) K2)) (hV.below (hM0.grow hS).below) (by omega) Try.underlying29 rfl rfl (by kernel_rfl) (by decide)) K3
          · refine asks_mk fun a W hS hh hd => ⟨wanted_yes rfl, ?_⟩
            exact giv_run (run_ldP rfl (eval_tmp (hd.val (j := 3) (s := 34) (by kernel_rfl) K3)) (hV.below (hM0.grow hS).below) (flat_at boxC_len hy 0 rfl) (by kernel_rfl)) K4
          · refine asks_mk fun a W hS hh hd => ⟨wanted_yes rfl, ?_⟩
            exact giv_run (run_mv rfl (eval_tmp (hh 0 _ rfl (hF3.at 0 rfl)))) K5
          · refine asks_mk fun a W hS hh hd => ⟨wanted_yes rfl, ?_⟩
            exact giv_run (run_mv rfl (eval_tmp (hh 3 _ rfl (hF3.at 3 rfl)))) K6
          · refine asks_mk fun a W hS hh hd => ⟨wanted_yes rfl, ?_⟩
            exact giv_run (run_atP (i := i) rfl (eval_tmp (hd.val (j := 5) (s := 36) (by kernel_rfl) K5)) (eval_tmp (hd.val (j := 6) (s := 37) (by kernel_rfl) K6)) rfl (hV.below (hM0.grow hS).below) (by omega) elBox.un (by kernel_rfl)) K7
          · refine asks_mk fun a W hS hh hd => ⟨wanted_yes rfl, ?_⟩
            exact giv_run (run_fldP (m2 := 1) (s := 0) rfl (eval_tmp (hd.val (j := 7) (s := 38) (by kernel_rfl) K7)) (hV.below (hM0.grow hS).below) (by omega) Try.underlying29 rfl rfl (by kernel_rfl) (by decide)) K8
          · refine asks_mk fun a W hS hh hd => ⟨wanted_yes rfl, ?_⟩
            exact giv_run (run_ldP rfl (eval_tmp (hd.val (j := 8) (s := 39) (by kernel_rfl) K8)) (hV.below (hM0.grow hS).below) (flat_at boxC_len hx 0 rfl) (by kernel_rfl)) K9
          · refine asks_mk fun a W hS hh hd => ⟨wanted_yes rfl, ?_⟩
            exact giv_run (run_eqs rfl (eval_tmp (hd.val (j := 4) (s := 35) (by kernel_rfl) K4)) (eval_tmp (hd.val (j := 9) (s := 40) (by kernel_rfl) K9)) (beq_iff_eq.2 hyx)) K10
        · intro a4 w2 hb2 hK
          have e0 := hK.val (i := 0) (s := 31) (by kernel_rfl) K0
          have e1 := hK.val (i := 1) (s := 32) (by kernel_rfl) K1
          have e2 := hK.val (i := 2) (s := 33) (by kernel_rfl) K2
          have e3 := hK.val (i := 3) (s := 34) (by kernel_rfl) K3
          have e4 := hK.val (i := 4) (s := 35) (by kernel_rfl) K4
          have e5 := hK.val (i := 5) (s := 36) (by kernel_rfl) K5
          have e6 := hK.val (i := 6) (s := 37) (by kernel_rfl) K6
          have e7 := hK.val (i := 7) (s := 38) (by kernel_rfl) K7
          have e8 := hK.val (i := 8) (s := 39) (by kernel_rfl) K8
          have e9 := hK.val (i := 9) (s := 40) (by kernel_rfl) K9
          have e10 := hK.val (i := 10) (s := 41) (by kernel_rfl) K10
          have hF4 : Fr a4 43 [(0, v), (3, (.int .i64 (i : Int))), (4, (.int .i64 (k : Int))), (6, (.int .i64 (l.length : Int))), (7, (.int .i64 (i : Int))), (26, (.int .i64 (k : Int))), (27, (.int .i64 (i : Int))), (28, (.bool true)), (41, (.bool true))] := (hK.fr hF3 [v, (.int .i64 (k : Int)), (slPtr v (k * 2)), (slPtr v (k * 2 + 0)), (.string ⟨y.1.toArray⟩), v, (.int .i64 (i : Int)), (slPtr v (i * 2)), (slPtr v (i * 2 + 0)), (.string ⟨x.1.toArray⟩), (.bool true)] ⟨e0, e1, e2, e3, e4, e5, e6, e7, e8, e9, e10, trivial⟩).sub ⟨rfl, rfl, rfl, rfl, rfl, rfl, rfl, rfl, rfl, trivial⟩
          have hM1 := hM0.grow hb2
          clear hK K0 e0 K1 e1 K2 e2 K3 e3 K4 e4 K5 e5 K6 e6 K7 e7 K8 e8 K9 e9 K10 e10
          clear hF3 hM0
          refine nx ?_
          refine wp_cond_true (hF4.ev 41 rfl) ?_
          refine wp_seq ?_
          refine wp_region_lit ?_
          refine sq (v := (.int .i64 8)) hF4 (wantedS rfl) (run_as rfl rfl) rfl (by decide) fun a5 hF5 => ?_
          refine sqEnd ?_
          clear hF4
          refine nx ?_
          refine wp_ret ?_
          refine bkRet ?_
          refine nxRet ?_
          refine nxRet ?_
          refine bkRet ?_
          refine bkRet ?_
          refine nxRet ?_
          refine nxRet ?_
          refine bkRet ?_
          refine nxRet ?_
          exact ret1 hF5 rfl rfl ⟨by rw [hres], hM1.below⟩
      · skip
        refine wp_seq ?_
        refine wp_seq ?_
        refine wp_region_lit ?_
        refine sq (v := (.int .i64 (k : Int))) hF0 (wantedS rfl) (run_mv rfl (hF0.ev 4 rfl)) rfl (by decide) fun a1 hF1 => ?_
        refine sq (v := (.int .i64 (i : Int))) hF1 (wantedS rfl) (run_mv rfl (hF1.ev 3 rfl)) rfl (by decide) fun a2 hF2 => ?_
        refine sq (v := (.bool true)) hF2 (wantedS rfl) (run_lss rfl (hF2.ev 26 rfl) (hF2.ev 27 rfl) (decide_eq_true (by omega))) rfl (by decide) fun a3 hF3 => ?_
        refine sqEnd ?_
        clear hF0 hF1 hF2
        refine nx ?_
        refine wp_cond_true (hF3.ev 28 rfl) ?_
        refine wp_skip ?_
        refine nx ?_
        refine wp_seq ?_
        refine wp_block ?_
        refine wp_seq ?_
        obtain ⟨KL, hKL⟩ : ∃ KL, KL = [kval v, kval (.int .i64 (k : Int)), kval (slPtr v (k * 2)), kval (slPtr v (k * 2 + 0)), kval (.string ⟨y.1.toArray⟩), kval v, kval (.int .i64 (i : Int)), kval (slPtr v (i * 2)), kval (slPtr v (i * 2 + 0)), kval (.string ⟨x.1.toArray⟩), kval (.bool false)] := ⟨_, rfl⟩
        have K0 : KL.getD 0 kany = kval v := by rw [hKL]; rfl
        have K1 : KL.getD 1 kany = kval (.int .i64 (k : Int)) := by rw [hKL]; rfl
        have K2 : KL.getD 2 kany = kval (slPtr v (k * 2)) := by rw [hKL]; rfl
        have K3 : KL.getD 3 kany = kval (slPtr v (k * 2 + 0)) := by rw [hKL]; rfl
        have K4 : KL.getD 4 kany = kval (.string ⟨y.1.toArray⟩) := by rw [hKL]; rfl
        have K5 : KL.getD 5 kany = kval v := by rw [hKL]; rfl
        have K6 : KL.getD 6 kany = kval (.int .i64 (i : Int)) := by rw [hKL]; rfl
        have K7 : KL.getD 7 kany = kval (slPtr v (i * 2)) := by rw [hKL]; rfl
        have K8 : KL.getD 8 kany = kval (slPtr v (i * 2 + 0)) := by rw [hKL]; rfl
        have K9 : KL.getD 9 kany = kval (.string ⟨x.1.toArray⟩) := by rw [hKL]; rfl
        have K10 : KL.getD 10 kany = kval (.bool false) := by rw [hKL]; rfl
        clear hKL
        refine wp_region_kd 43 (by kernel_rfl) (by kernel_rfl) (by kernel_rfl) hF3.size KL ?_ ?_
        · refine ⟨?_, ?_, ?_, ?_, ?_, ?_, ?_, ?_, ?_, ?_, ?_, trivial⟩
          · refine asks_mk fun a W hS hh hd => ⟨wanted_yes rfl, ?_⟩
            exact giv_run (run_mv rfl (eval_tmp (hh 0 _ rfl (hF3.at 0 rfl)))) K0
          · refine asks_mk fun a W hS hh hd => ⟨wanted_yes rfl, ?_⟩
            exact giv_run (run_mv rfl (eval_tmp (hh 4 _ rfl (hF3.at 4 rfl)))) K1
          · refine asks_mk fun a W hS hh hd => ⟨wanted_yes rfl, ?_⟩
            exact giv_run (run_atP (i := k) rfl (eval_tmp (hd.val (j := 0) (s := 31) (by kernel_rfl) K0)) (eval_tmp (hd.val (j := 1) (s := 32) (by kernel_rfl) K1)) rfl (hV.below (hM0.grow hS).below) (by omega) elBox.un (by kernel_rfl)) K2
          · refine asks_mk fun a W hS hh hd => ⟨wanted_yes rfl, ?_⟩
            exact giv_run (run_fldP (m2 := 1) (s := 0) rfl (eval_tmp (hd.val (j := 2) (s := 33) (by kernel_rfl) K2)) (hV.below (hM0.grow hS).below) (by omega) Try.underlying29 rfl rfl (by kernel_rfl) (by decide)) K3
          · refine asks_mk fun a W hS hh hd => ⟨wanted_yes rfl, ?_⟩
            exact giv_run (run_ldP rfl (eval_tmp (hd.val (j := 3) (s := 34) (by kernel_rfl) K3)) (hV.below (hM0.grow hS).below) (flat_at boxC_len hy 0 rfl) (by kernel_rfl)) K4
          · refine asks_mk fun a W hS hh hd => ⟨wanted_yes rfl, ?_⟩
            exact giv_run (run_mv rfl (eval_tmp (hh 0 _ rfl (hF3.at 0 rfl)))) K5
          · refine asks_mk fun a W hS hh hd => ⟨wanted_yes rfl, ?_⟩
            exact giv_run (run_mv rfl (eval_tmp (hh 3 _ rfl (hF3.at 3 rfl)))) K6
          · refine asks_mk fun a W hS hh hd => ⟨wanted_yes rfl, ?_⟩
            exact giv_run (run_atP (i := i) rfl (eval_tmp (hd.val (j := 5) (s := 36) (by kernel_rfl) K5)) (eval_tmp (hd.val (j := 6) (s := 37) (by kernel_rfl) K6)) rfl (hV.below (hM0.grow hS).below) (by omega) elBox.un (by kernel_rfl)) K7
          · refine asks_mk fun a W hS hh hd => ⟨wanted_yes rfl, ?_⟩
            exact giv_run (run_fldP (m2 := 1) (s := 0) rfl (eval_tmp (hd.val (j := 7) (s := 38) (by kernel_rfl) K7)) (hV.below (hM0.grow hS).below) (by omega) Try.underlying29 rfl rfl (by kernel_rfl) (by decide)) K8
          · refine asks_mk fun a W hS hh hd => ⟨wanted_yes rfl, ?_⟩
            exact giv_run (run_ldP rfl (eval_tmp (hd.val (j := 8) (s := 39) (by kernel_rfl) K8)) (hV.below (hM0.grow hS).below) (flat_at boxC_len hx 0 rfl) (by kernel_rfl)) K9
          · refine asks_mk fun a W hS hh hd => ⟨wanted_yes rfl, ?_⟩
            exact giv_run (run_eqs rfl (eval_tmp (hd.val (j := 4) (s := 35) (by kernel_rfl) K4)) (eval_tmp (hd.val (j := 9) (s := 40) (by kernel_rfl) K9)) (beq_eq_false_iff_ne.2 hyx)) K10
        · intro a4 w2 hb2 hK
          have e0 := hK.val (i := 0) (s := 31) (by kernel_rfl) K0
          have e1 := hK.val (i := 1) (s := 32) (by kernel_rfl) K1
          have e2 := hK.val (i := 2) (s := 33) (by kernel_rfl) K2
          have e3 := hK.val (i := 3) (s := 34) (by kernel_rfl) K3
          have e4 := hK.val (i := 4) (s := 35) (by kernel_rfl) K4
          have e5 := hK.val (i := 5) (s := 36) (by kernel_rfl) K5
          have e6 := hK.val (i := 6) (s := 37) (by kernel_rfl) K6
          have e7 := hK.val (i := 7) (s := 38) (by kernel_rfl) K7
          have e8 := hK.val (i := 8) (s := 39) (by kernel_rfl) K8
          have e9 := hK.val (i := 9) (s := 40) (by kernel_rfl) K9
          have e10 := hK.val (i := 10) (s := 41) (by kernel_rfl) K10
          have hF4 : Fr a4 43 [(0, v), (3, (.int .i64 (i : Int))), (4, (.int .i64 (k : Int))), (6, (.int .i64 (l.length : Int))), (7, (.int .i64 (i : Int))), (26, (.int .i64 (k : Int))), (27, (.int .i64 (i : Int))), (28, (.bool true)), (41, (.bool false))] := (hK.fr hF3 [v, (.int .i64 (k : Int)), (slPtr v (k * 2)), (slPtr v (k * 2 + 0)), (.string ⟨y.1.toArray⟩), v, (.int .i64 (i : Int)), (slPtr v (i * 2)), (slPtr v (i * 2 + 0)), (.string ⟨x.1.toArray⟩), (.bool false)] ⟨e0, e1, e2, e3, e4, e5, e6, e7, e8, e9, e10, trivial⟩).sub ⟨rfl, rfl, rfl, rfl, rfl, rfl, rfl, rfl, rfl, trivial⟩
          have hM1 := hM0.grow hb2
          clear hK K0 e0 K1 e1 K2 e2 K3 e3 K4 e4 K5 e5 K6 e6 K7 e7 K8 e8 K9 e9 K10 e10
          clear hF3 hM0
          refine nx ?_
          refine wp_cond_false (hF4.ev 41 rfl) ?_
          refine wp_skip ?_
          refine bkEnd ?_
          refine nx ?_
          refine wp_region_lit ?_
          refine sq (v := (.int .i64 (k : Int))) hF4 (wantedS rfl) (run_mv rfl (hF4.ev 4 rfl)) rfl (by decide) fun a5 hF5 => ?_
          refine sq (v := (.int .i64 ((k + 1 : Nat) : Int))) hF5 (wantedS rfl) (run_add (r := ((k + 1 : Nat) : Int)) rfl (hF5.ev 29 rfl) rfl (by rw [IntKind.wrap_i64]; omega)) rfl (by decide) fun a6 hF6 => ?_
          refine sq (v := (.int .i64 ((k + 1 : Nat) : Int))) hF6 (wantedS rfl) (run_as rfl (hF6.ev 30 rfl)) rfl (by decide) fun a7 hF7 => ?_
          refine sqEnd ?_
          clear hF4 hF5 hF6
          refine nx ?_
          exact ⟨_, by omega, k + 1, by omega, rfl, by rw [map_snoc l k hy, contains_snoc, hct, beq_eq_false_iff_ne.2 hyx]; rfl, hF7.sub ⟨rfl, rfl, rfl, rfl, rfl, trivial⟩, hM1⟩
    · have hke : k = i := by omega
      have hm0 : mayS nms x.1 = 0 := by unfold mayS; rw [if_neg h3, ← hnms, ← hke, hct]; rfl
      refine wp_seq ?_
      refine wp_seq ?_
      refine wp_region_lit ?_
      refine sq (v := (.int .i64 (k : Int))) hF0 (wantedS rfl) (run_mv rfl (hF0.ev 4 rfl)) rfl (by decide) fun a1 hF1 => ?_
      refine sq (v := (.int .i64 (i : Int))) hF1 (wantedS rfl) (run_mv rfl (hF1.ev 3 rfl)) rfl (by decide) fun a2 hF2 => ?_
      refine sq (v := (.bool false)) hF2 (wantedS rfl) (run_lss rfl (hF2.ev 26 rfl) (hF2.ev 27 rfl) (decide_eq_false (by omega))) rfl (by decide) fun a3 hF3 => ?_
      refine sqEnd ?_
      clear hF0 hF1 hF2
      refine nx ?_
      refine wp_cond_false (hF3.ev 28 rfl) ?_
      refine wp_exit ?_
      refine nxExit ?_
      refine nxExit ?_
      refine bkHere ?_
      refine bkEnd ?_
      refine nx ?_
      refine wp_region_lit ?_
      refine sq (v := (.int .i64 ((i + 1 : Nat) : Int))) hF3 (wantedS rfl) (run_add (r := ((i + 1 : Nat) : Int)) rfl (hF3.ev 7 rfl) rfl (by rw [IntKind.wrap_i64]; omega)) rfl (by decide) fun a4 hF4 => ?_
      refine sq (v := (.int .i64 ((i + 1 : Nat) : Int))) hF4 (wantedS rfl) (run_mv rfl (hF4.ev 42 rfl)) rfl (by decide) fun a5 hF5 => ?_
      refine sqEnd ?_
      clear hF3 hF4
      refine nx ?_
      exact ⟨_, by omega, i + 1, by omega, rfl, by rw [map_snoc l i hx, hnms, hnm, hm0, if_pos rfl], hF5.sub ⟨rfl, rfl, rfl, trivial⟩, hM0⟩
  · have hie : i = l.length := by omega
    have hres : namesS l = 0 := by rw [hnm, hie, List.drop_length]; rfl
    refine wp_seq ?_
    refine wp_region_lit ?_
    refine sq (v := (.bool false)) hF0 (wantedS rfl) (run_lss rfl (hF0.ev 7 rfl) (hF0.ev 6 rfl) (decide_eq_false (by omega))) rfl (by decide) fun a1 hF1 => ?_
    refine sqEnd ?_
    clear hF0
    refine nx ?_
    refine wp_seq ?_
    refine wp_cond_false (hF1.ev 8 rfl) ?_
    refine wp_exit ?_
    refine nxExit ?_
    refine nxExit ?_
    refine bkHere ?_
    refine nx ?_
    refine wp_seq ?_
    refine wp_region_lit ?_
    refine sq (v := (.int .i64 0)) hF1 (wantedS rfl) (run_as rfl rfl) rfl (by decide) fun a2 hF2 => ?_
    refine sqEnd ?_
    clear hF1
    refine nx ?_
    refine wp_ret ?_
    exact ret1 hF2 rfl rfl ⟨by rw [hres], hM0.below⟩
set_option maxRecDepth 100000 in
set_option maxHeartbeats 1000000 in
theorem rbytes_any (l : List Bx) (v : Value) (w : World) (hV : Sl w v 2 l.length (l.flatMap boxC)) (hb : (textsB l).flatten.length < 2 ^ 42 - 4) (hn : l.length < 2 ^ 40) : Calls Try.prog 17 #[v] w fun e w' => e = .returned (.string ⟨(bytesS l).toArray⟩) ∧ Below w.heap.size w w' := by
  refine walk_enter Try.func17 rfl rfl rfl fun a0 hF0 => ?_
  have hM0 := Mem.new w
  refine wp_seq ?_
  refine wp_region_lit ?_
  refine sq (v := (.string ⟨List.toArray []⟩)) hF0 (wantedS rfl) (run_as rfl rfl) rfl (by decide) fun a1 hF1 => ?_
  refine sqEnd ?_
  clear hF0
  refine nx ?_
  refine wp_seq ?_
  refine wp_region_lit ?_
  refine sqOwnN (cs := [.string ⟨List.toArray [104, 105, 98, 112]⟩]) (size := 1) (e := 9) (m := 1) hF1 hM0 (wantedS rfl) (run_strs1 rfl rfl) rfl (by unfold maxLen; omega) rfl (by decide) fun v0 a2 w1 hO1 hb1 hM1 hF2 => ?_
  refine sq (v := v0) hF2 (wantedS rfl) (run_as rfl (hF2.ev 5 rfl)) rfl (by decide) fun a3 hF3 => ?_
  refine sqEnd ?_
  clear hF1 hF2 hM0
  refine nx ?_
  refine wp_seq ?_
  refine wp_seq ?_
  refine wp_region_lit ?_
  refine sq (v := v) hF3 (wantedS rfl) (run_mv rfl (hF3.ev 0 rfl)) rfl (by decide) fun a4 hF4 => ?_
  refine sq (v := (.int .i64 (l.length : Int))) hF4 (wantedS rfl) (run_lenS rfl (hF4.ev 6 rfl) (hV.below hM1.below) rfl Try.underlying22) rfl (by decide) fun a5 hF5 => ?_
  refine sq (v := (.int .i64 0)) hF5 (wantedS rfl) (run_mv rfl rfl) rfl (by decide) fun a6 hF6 => ?_
  refine sqEnd ?_
  clear hF3 hF4 hF5
  refine nx ?_
  refine wp_block ?_
  refine wkLoop (fun m a w2 => ∃ (i : Nat) (r : Value), i ≤ l.length ∧ m = l.length - i ∧ OwnR w [] w2 9 1 r (hibp :: textsB (l.take i)).length ((hibp :: textsB (l.take i)).map tx) ∧ Fr a 27 [(0, v), (3, r), (7, .int .i64 (l.length : Int)), (8, .int .i64 (i : Int))] ∧ Mem w [] w2) l.length ⟨0, v0, Nat.zero_le _, rfl, hO1, hF6.sub ⟨rfl, rfl, rfl, rfl, trivial⟩, hM1⟩ ?_
  rintro m a0 w1 ⟨i, r, hi, rfl, hO0, hF0, hM0⟩
  have htl : (hibp :: textsB (l.take i)).length = 1 + 2 * i := by rw [List.length_cons, textsB_len, List.length_take]; omega
  by_cases hlt : i < l.length
  · obtain ⟨x, hx⟩ : ∃ x, l[i]? = some x := ⟨l[i], by simp [hlt]⟩
    refine wp_seq ?_
    refine wp_region_lit ?_
    refine sq (v := (.bool true)) hF0 (wantedS rfl) (run_lss rfl (hF0.ev 8 rfl) (hF0.ev 7 rfl) (decide_eq_true (by omega))) rfl (by decide) fun a1 hF1 => ?_
    refine sqEnd ?_
    clear hF0
    refine nx ?_
    refine wp_seq ?_
    refine wp_cond_true (hF1.ev 9 rfl) ?_
    refine wp_skip ?_
    refine nx ?_
    refine wp_seq ?_
    refine wp_block ?_
    refine wp_seq ?_
    refine wp_region_lit ?_
    refine sq (v := (.int .i64 (i : Int))) hF1 (wantedS rfl) (run_mv rfl (hF1.ev 8 rfl)) rfl (by decide) fun a2 hF2 => ?_
    refine sq (v := (.int .i64 (i : Int))) hF2 (wantedS rfl) (run_as rfl (hF2.ev 10 rfl)) rfl (by decide) fun a3 hF3 => ?_
    refine sqEnd ?_
    clear hF1 hF2
    refine nx ?_
    obtain ⟨KL, hKL⟩ : ∃ KL, KL = [kval r, kval v, kval (.int .i64 (i : Int)), kval (slPtr v (i * 2)), kval (slPtr v (i * 2 + 0)), kval (.string ⟨x.1.toArray⟩), kval v, kval (.int .i64 (i : Int)), kval (slPtr v (i * 2)), kval (slPtr v (i * 2 + 1)), kval (.string ⟨x.2.toArray⟩), krow w1.heap.size 9 #[.string ⟨x.1.toArray⟩, .string ⟨x.2.toArray⟩] 2] := ⟨_, rfl⟩
    have K0 : KL.getD 0 kany = kval r := by rw [hKL]; rfl
    have K1 : KL.getD 1 kany = kval v := by rw [hKL]; rfl
    have K2 : KL.getD 2 kany = kval (.int .i64 (i : Int)) := by rw [hKL]; rfl
    have K3 : KL.getD 3 kany = kval (slPtr v (i * 2)) := by rw [hKL]; rfl
    have K4 : KL.getD 4 kany = kval (slPtr v (i * 2 + 0)) := by rw [hKL]; rfl
    have K5 : KL.getD 5 kany = kval (.string ⟨x.1.toArray⟩) := by rw [hKL]; rfl
    have K6 : KL.getD 6 kany = kval v := by rw [hKL]; rfl
    have K7 : KL.getD 7 kany = kval (.int .i64 (i : Int)) := by rw [hKL]; rfl
    have K8 : KL.getD 8 kany = kval (slPtr v (i * 2)) := by rw [hKL]; rfl
    have K9 : KL.getD 9 kany = kval (slPtr v (i * 2 + 1)) := by rw [hKL]; rfl
    have K10 : KL.getD 10 kany = kval (.string ⟨x.2.toArray⟩) := by rw [hKL]; rfl
    have K11 : KL.getD 11 kany = krow w1.heap.size 9 #[.string ⟨x.1.toArray⟩, .string ⟨x.2.toArray⟩] 2 := by rw [hKL]; rfl
    have HKL : KL.length ≤ 12 := by rw [hKL]; exact Nat.le_refl _
    clear hKL
    refine wp_region_kdTail2 27 12 (by kernel_rfl) (by kernel_rfl) (by kernel_rfl) (by kernel_rfl) hF3.size KL HKL ?_ ?_
    · refine ⟨?_, ?_, ?_, ?_, ?_, ?_, ?_, ?_, ?_, ?_, ?_, ?_, trivial⟩
      · refine asksH_mk fun a W hS hh hd => ⟨wanted_yes rfl, ?_⟩
        exact giv_run (run_mv rfl (eval_tmp (hh 3 _ rfl (hF3.at 3 rfl)))) K0
      · refine asksH_mk fun a W hS hh hd => ⟨wanted_yes rfl, ?_⟩
        exact giv_run (run_mv rfl (eval_tmp (hh 0 _ rfl (hF3.at 0 rfl)))) K1
      · refine asksH_mk fun a W hS hh hd => ⟨wanted_yes rfl, ?_⟩
        exact giv_run (run_mv rfl (eval_tmp (hh 4 _ rfl (hF3.at 4 rfl)))) K2
      · refine asksH_mk fun a W hS hh hd => ⟨wanted_yes rfl, ?_⟩
        exact giv_run (run_atP (i := i) rfl (eval_tmp (hd.val (j := 1) (s := 12) (by kernel_rfl) K1)) (eval_tmp (hd.val (j := 2) (s := 13) (by kernel_rfl) K2)) rfl (hV.below (hM0.grow hS).below) (by omega) elBox.un (by kernel_rfl)) K3
      · refine asksH_mk fun a W hS hh hd => ⟨wanted_yes rfl, ?_⟩
        exact giv_run (run_fldP (m2 := 1) (s := 0) rfl (eval_tmp (hd.val (j := 3) (s := 14) (by kernel_rfl) K3)) (hV.below (hM0.grow hS).below) (by omega) Try.underlying29 rfl rfl (by kernel_rfl) (by decide)) K4
      · refine asksH_mk fun a W hS hh hd => ⟨wanted_yes rfl, ?_⟩
        exact giv_run (run_ldP rfl (eval_tmp (hd.val (j := 4) (s := 15) (by kernel_rfl) K4)) (hV.below (hM0.grow hS).below) (flat_at boxC_len hx 0 rfl) (by kernel_rfl)) K5
      · refine asksH_mk fun a W hS hh hd => ⟨wanted_yes rfl, ?_⟩
        exact giv_run (run_mv rfl (eval_tmp (hh 0 _ rfl (hF3.at 0 rfl)))) K6
      · refine asksH_mk fun a W hS hh hd => ⟨wanted_yes rfl, ?_⟩
        exact giv_run (run_mv rfl (eval_tmp (hh 4 _ rfl (hF3.at 4 rfl)))) K7
      · refine asksH_mk fun a W hS hh hd => ⟨wanted_yes rfl, ?_⟩
        exact giv_run (run_atP (i := i) rfl (eval_tmp (hd.val (j := 6) (s := 17) (by kernel_rfl) K6)) (eval_tmp (hd.val (j := 7) (s := 18) (by kernel_rfl) K7)) rfl (hV.below (hM0.grow hS).below) (by omega) elBox.un (by kernel_rfl)) K8
      · refine asksH_mk fun a W hS hh hd => ⟨wanted_yes rfl, ?_⟩
        exact giv_run (run_fldP (m2 := 1) (s := 1) rfl (eval_tmp (hd.val (j := 8) (s := 19) (by kernel_rfl) K8)) (hV.below (hM0.grow hS).below) (by omega) Try.underlying29 rfl rfl (by kernel_rfl) (by decide)) K9
      · refine asksH_mk fun a W hS hh hd => ⟨wanted_yes rfl, ?_⟩
        exact giv_run (run_ldP rfl (eval_tmp (hd.val (j := 9) (s := 20) (by kernel_rfl) K9)) (hV.below (hM0.grow hS).below) (flat_at boxC_len hx 1 rfl) (by kernel_rfl)) K10
      · refine asksH_mk fun a W hS hh hd => ⟨wanted_yes rfl, ?_⟩
        exact giv_row hS.size 9 #[.string ⟨x.1.toArray⟩, .string ⟨x.2.toArray⟩] 2 (run_strs2 rfl (eval_tmp (hd.val (j := 5) (s := 16) (by kernel_rfl) K5)) (eval_tmp (hd.val (j := 10) (s := 21) (by kernel_rfl) K10))) K11
    · intro a4 w2 hb2 hK
      have e0 := hK.hval (i := 0) (s := 11) rfl (by kernel_rfl) K0
      have e1 := hK.hval (i := 1) (s := 12) rfl (by kernel_rfl) K1
      have e2 := hK.hval (i := 2) (s := 13) rfl (by kernel_rfl) K2
      have e3 := hK.hval (i := 3) (s := 14) rfl (by kernel_rfl) K3
      have e4 := hK.hval (i := 4) (s := 15) rfl (by kernel_rfl) K4
      have e5 := hK.hval (i := 5) (s := 16) rfl (by kernel_rfl) K5
      have e6 := hK.hval (i := 6) (s := 17) rfl (by kernel_rfl) K6
      have e7 := hK.hval (i := 7) (s := 18) rfl (by kernel_rfl) K7
      have e8 := hK.hval (i := 8) (s := 19) rfl (by kernel_rfl) K8
      have e9 := hK.hval (i := 9) (s := 20) rfl (by kernel_rfl) K9
      have e10 := hK.hval (i := 10) (s := 21) rfl (by kernel_rfl) K10
      obtain ⟨v1, e11, hpv1⟩ := hK.hget (i := 11) (s := 22) rfl (by kernel_rfl)
      rw [K11] at hpv1
      obtain ⟨g2, hgg2, rfl, hBg2⟩ := hpv1
      have hF4 : Fr a4 27 [(0, v), (3, r), (7, (.int .i64 (l.length : Int))), (8, (.int .i64 (i : Int))), (9, (.bool true)), (10, (.int .i64 (i : Int))), (11, r), (22, (.slice (some ⟨g2, 0, none⟩) 2 2))] := (hK.hfr hF3 [r, v, (.int .i64 (i : Int)), (slPtr v (i * 2)), (slPtr v (i * 2 + 0)), (.string ⟨x.1.toArray⟩), v, (.int .i64 (i : Int)), (slPtr v (i * 2)), (slPtr v (i * 2 + 1)), (.string ⟨x.2.toArray⟩), (.slice (some ⟨g2, 0, none⟩) 2 2)] ⟨e0, e1, e2, e3, e4, e5, e6, e7, e8, e9, e10, e11, trivial⟩).sub ⟨rfl, rfl, rfl, rfl, rfl, rfl, rfl, rfl, trivial⟩
      have hM1 := hM0.add hb2 hgg2 hBg2
      have hO1 := hO0.add (S := isB 9 #[.string ⟨x.1.toArray⟩, .string ⟨x.2.toArray⟩]) hb2 hgg2
      clear hK K0 e0 K1 e1 K2 e2 K3 e3 K4 e4 K5 e5 K6 e6 K7 e7 K8 e8 K9 e9 K10 e10 K11 e11 HKL
      simp only [List.drop_succ_cons, List.drop_zero]
      refine sqAppend (news := [.string ⟨x.1.toArray⟩, .string ⟨x.2.toArray⟩]) elStr hF4 hM1 hO1 rfl rfl (hF4.ev 11 rfl) (hF4.ev 22 rfl) rfl (blkNews (hM1.at 0 rfl)) (all_one rfl) (by unfold maxLen; omega) (by omega) rfl (by decide) fun v3 a5 w3 hO2 hM2 hnilv3 hF5 => ?_
      refine sq (v := v3) hF5 (wantedS rfl) (run_as rfl (hF5.ev 23 rfl)) rfl (by decide) fun a6 hF6 => ?_
      refine sqEnd ?_
      clear hF3 hF4 hF5 hM0 hM1
      refine bkEnd ?_
      refine nx ?_
      refine wp_region_lit ?_
      refine sq (v := (.int .i64 ((i + 1 : Nat) : Int))) hF6 (wantedS rfl) (run_add (r := ((i + 1 : Nat) : Int)) rfl (hF6.ev 8 rfl) rfl (by rw [IntKind.wrap_i64]; omega)) rfl (by decide) fun a7 hF7 => ?_
      refine sq (v := (.int .i64 ((i + 1 : Nat) : Int))) hF7 (wantedS rfl) (run_mv rfl (hF7.ev 24 rfl)) rfl (by decide) fun a8 hF8 => ?_
      refine sqEnd ?_
      clear hF6 hF7
      refine nx ?_
      exact ⟨_, by omega, i + 1, v3, by omega, rfl, by rw [textsB_snoc l i hx, ← List.cons_append, List.map_append, List.length_append]; exact hO2.sub (.cons _ .slnil), hF8.sub ⟨rfl, rfl, rfl, rfl, trivial⟩, hM2.sub (.cons _ .slnil)⟩
  · have hie : i = l.length := by omega
    obtain ⟨X, hX⟩ : ∃ X, hibp :: textsB l = X := ⟨_, rfl⟩
    rw [hie, List.take_length, hX] at hO0 htl
    have hfl : X.flatten.length < 2 ^ 42 := by rw [← hX, List.flatten_cons, List.length_append]; have : hibp.length = 4 := rfl; omega
    have hby : bytesS l = rowS X := by unfold bytesS; rw [hX]
    refine wp_seq ?_
    refine wp_region_lit ?_
    refine sq (v := (.bool false)) hF0 (wantedS rfl) (run_lss rfl (hF0.ev 8 rfl) (hF0.ev 7 rfl) (decide_eq_false (by omega))) rfl (by decide) fun a1 hF1 => ?_
    refine sqEnd ?_
    clear hF0
    refine nx ?_
    refine wp_seq ?_
    refine wp_cond_false (hF1.ev 9 rfl) ?_
    refine wp_exit ?_
    refine nxExit ?_
    refine nxExit ?_
    refine bkHere ?_
    refine nx ?_
    refine wp_seq ?_
    refine wp_region_lit ?_
    refine sq (v := r) hF1 (wantedS rfl) (run_mv rfl (hF1.ev 3 rfl)) rfl (by decide) fun a2 hF2 => ?_
    refine sqC (v := (.string ⟨(rowS X).toArray⟩)) hF2 hM0 (wantedS rfl) (run_call rfl Try.func25 (by kernel_rfl) rfl (mapE1 (hF2.ev 25 rfl))) rfl (by decide) (rrow_any X _ w1 (Sl.own hO0).strs (by omega) (by omega)) fun a3 w2 hb2 hF3 hM1 => ?_
    have hO1 := hO0.grow hb2
    refine sq (v := (.string ⟨(rowS X).toArray⟩)) hF3 (wantedS rfl) (run_as rfl (hF3.ev 26 rfl)) rfl (by decide) fun a4 hF4 => ?_
    refine sqEnd ?_
    clear hF1 hF2 hF3 hM0
    refine nx ?_
    refine wp_ret ?_
    exact ret1 hF4 rfl rfl ⟨by rw [hby], hM1.below⟩
set_option maxRecDepth 100000 in
set_option maxHeartbeats 1000000 in
theorem rmake_any (l : List Bx) (v : Value) (w : World) (hV : Sl w v 2 l.length (l.flatMap boxC)) (hb : (textsB l).flatten.length < 2 ^ 42 - 4) (hn : l.length < 2 ^ 40) : Calls Try.prog 24 #[v] w fun e w' => e = .returned (.tuple #[.string ⟨(makeS l).1.toArray⟩, .int .i64 (makeS l).2]) ∧ Below w.heap.size w w' := by
  by_cases hl : l = []
  · have hmk : makeS l = ([], 1) := by unfold makeS; rw [if_pos hl]
    have hll : l.length = 0 := by rw [hl]; rfl
    refine walk_enter Try.func24 rfl rfl rfl fun a0 hF0 => ?_
    have hM0 := Mem.new w
    refine wp_seq ?_
    refine wp_region_lit ?_
    refine sq (v := (.string ⟨List.toArray []⟩)) hF0 (wantedS rfl) (run_as rfl rfl) rfl (by decide) fun a1 hF1 => ?_
    refine sq (v := (.int .i64 0)) hF1 (wantedS rfl) (run_as rfl rfl) rfl (by decide) fun a2 hF2 => ?_
    refine sqEnd ?_
    clear hF0 hF1
    refine nx ?_
    refine wp_seq ?_
    refine wp_seq ?_
    refine wp_region_lit ?_
    refine sq (v := v) hF2 (wantedS rfl) (run_mv rfl (hF2.ev 0 rfl)) rfl (by decide) fun a3 hF3 => ?_
    refine sq (v := (.int .i64 (l.length : Int))) hF3 (wantedS rfl) (run_lenS rfl (hF3.ev 6 rfl) (hV.below hM0.below) rfl Try.underlying22) rfl (by decide) fun a4 hF4 => ?_
    refine sq (v := (.bool true)) hF4 (wantedS rfl) (run_eqi rfl (hF4.ev 7 rfl) rfl (beq_iff_eq.2 (by omega))) rfl (by decide) fun a5 hF5 => ?_
    refine sqEnd ?_
    clear hF2 hF3 hF4
    refine nx ?_
    refine wp_cond_true (hF5.ev 8 rfl) ?_
    refine wp_seq ?_
    refine wp_region_lit ?_
    refine sq (v := (.string ⟨List.toArray []⟩)) hF5 (wantedS rfl) (run_as rfl rfl) rfl (by decide) fun a6 hF6 => ?_
    refine sq (v := (.int .i64 1)) hF6 (wantedS rfl) (run_as rfl rfl) rfl (by decide) fun a7 hF7 => ?_
    refine sqEnd ?_
    clear hF5 hF6
    refine nx ?_
    refine wp_ret ?_
    refine nxRet ?_
    exact ret2 hF7 rfl rfl rfl ⟨by rw [hmk], hM0.below⟩
  have hll : 0 < l.length := List.length_pos_iff.2 hl
  by_cases hnm : namesS l = 0
  · by_cases hbig : 65536 < (bytesS l).length
    · have hmk : makeS l = ([], 6) := by unfold makeS; rw [if_neg hl, if_neg (fun h => h hnm), if_pos hbig]
      refine walk_enter Try.func24 rfl rfl rfl fun a0 hF0 => ?_
      have hM0 := Mem.new w
      refine wp_seq ?_
      refine wp_region_lit ?_
      refine sq (v := (.string ⟨List.toArray []⟩)) hF0 (wantedS rfl) (run_as rfl rfl) rfl (by decide) fun a1 hF1 => ?_
      refine sq (v := (.int .i64 0)) hF1 (wantedS rfl) (run_as rfl rfl) rfl (by decide) fun a2 hF2 => ?_
      refine sqEnd ?_
      clear hF0 hF1
      refine nx ?_
      refine wp_seq ?_
      refine wp_seq ?_
      refine wp_region_lit ?_
      refine sq (v := v) hF2 (wantedS rfl) (run_mv rfl (hF2.ev 0 rfl)) rfl (by decide) fun a3 hF3 => ?_
      refine sq (v := (.int .i64 (l.length : Int))) hF3 (wantedS rfl) (run_lenS rfl (hF3.ev 6 rfl) (hV.below hM0.below) rfl Try.underlying22) rfl (by decide) fun a4 hF4 => ?_
      refine sq (v := (.bool false)) hF4 (wantedS rfl) (run_eqi rfl (hF4.ev 7 rfl) rfl (beq_eq_false_iff_ne.2 (by omega))) rfl (by decide) fun a5 hF5 => ?_
      refine sqEnd ?_
      clear hF2 hF3 hF4
      refine nx ?_
      refine wp_cond_false (hF5.ev 8 rfl) ?_
      refine wp_skip ?_
      refine nx ?_
      refine wp_seq ?_
      refine wp_region_lit ?_
      refine sq (v := v) hF5 (wantedS rfl) (run_mv rfl (hF5.ev 0 rfl)) rfl (by decide) fun a6 hF6 => ?_
      refine sqC (v := (.int .i64 (namesS l))) hF6 hM0 (wantedS rfl) (run_call rfl Try.func28 (by kernel_rfl) rfl (mapE1 (hF6.ev 9 rfl))) rfl (by decide) (rnames_any l v w (hV.below hM0.below) hn) fun a7 w1 hb1 hF7 hM1 => ?_
      refine sq (v := (.int .i64 (namesS l))) hF7 (wantedS rfl) (run_as rfl (hF7.ev 10 rfl)) rfl (by decide) fun a8 hF8 => ?_
      refine sqEnd ?_
      clear hF5 hF6 hF7 hM0
      refine nx ?_
      refine wp_seq ?_
      refine wp_seq ?_
      refine wp_region_lit ?_
      refine sq (v := (.int .i64 (namesS l))) hF8 (wantedS rfl) (run_mv rfl (hF8.ev 4 rfl)) rfl (by decide) fun a9 hF9 => ?_
      refine sq (v := (.bool false)) hF9 (wantedS rfl) (run_nei rfl (hF9.ev 11 rfl) rfl (bne_eq_false_iff_eq.2 (by omega))) rfl (by decide) fun a10 hF10 => ?_
      refine sqEnd ?_
      clear hF8 hF9
      refine nx ?_
      refine wp_cond_false (hF10.ev 12 rfl) ?_
      refine wp_skip ?_
      refine nx ?_
      refine wp_seq ?_
      refine wp_region_lit ?_
      refine sq (v := v) hF10 (wantedS rfl) (run_mv rfl (hF10.ev 0 rfl)) rfl (by decide) fun a11 hF11 => ?_
      refine sqC (v := (.string ⟨(bytesS l).toArray⟩)) hF11 hM1 (wantedS rfl) (run_call rfl Try.func17 (by kernel_rfl) rfl (mapE1 (hF11.ev 14 rfl))) rfl (by decide) (rbytes_any l v w1 (hV.below hM1.below) hb hn) fun a12 w2 hb2 hF12 hM2 => ?_
      refine sq (v := (.string ⟨(bytesS l).toArray⟩)) hF12 (wantedS rfl) (run_as rfl (hF12.ev 15 rfl)) rfl (by decide) fun a13 hF13 => ?_
      refine sqEnd ?_
      clear hF10 hF11 hF12 hM1
      refine nx ?_
      refine wp_seq ?_
      refine wp_seq ?_
      refine wp_region_lit ?_
      refine sq (v := (.string ⟨(bytesS l).toArray⟩)) hF13 (wantedS rfl) (run_mv rfl (hF13.ev 5 rfl)) rfl (by decide) fun a14 hF14 => ?_
      refine sq (v := (.int .i64 ((bytesS l).length : Int))) hF14 (wantedS rfl) (run_len rfl (hF14.ev 16 rfl) rfl Try.underlying9) rfl (by decide) fun a15 hF15 => ?_
      refine sq (v := (.bool true)) hF15 (wantedS rfl) (run_gtr rfl (hF15.ev 17 rfl) rfl (decide_eq_true (by omega))) rfl (by decide) fun a16 hF16 => ?_
      refine sqEnd ?_
      clear hF13 hF14 hF15
      refine nx ?_
      refine wp_cond_true (hF16.ev 18 rfl) ?_
      refine wp_seq ?_
      refine wp_region_lit ?_
      refine sq (v := (.string ⟨List.toArray []⟩)) hF16 (wantedS rfl) (run_as rfl rfl) rfl (by decide) fun a17 hF17 => ?_
      refine sq (v := (.int .i64 6)) hF17 (wantedS rfl) (run_as rfl rfl) rfl (by decide) fun a18 hF18 => ?_
      refine sqEnd ?_
      clear hF16 hF17
      refine nx ?_
      refine wp_ret ?_
      refine nxRet ?_
      exact ret2 hF18 rfl rfl rfl ⟨by rw [hmk], hM2.below⟩
    · have hmk : makeS l = (bytesS l, 0) := by unfold makeS; rw [if_neg hl, if_neg (fun h => h hnm), if_neg hbig]
      refine walk_enter Try.func24 rfl rfl rfl fun a0 hF0 => ?_
      have hM0 := Mem.new w
      refine wp_seq ?_
      refine wp_region_lit ?_
      refine sq (v := (.string ⟨List.toArray []⟩)) hF0 (wantedS rfl) (run_as rfl rfl) rfl (by decide) fun a1 hF1 => ?_
      refine sq (v := (.int .i64 0)) hF1 (wantedS rfl) (run_as rfl rfl) rfl (by decide) fun a2 hF2 => ?_
      refine sqEnd ?_
      clear hF0 hF1
      refine nx ?_
      refine wp_seq ?_
      refine wp_seq ?_
      refine wp_region_lit ?_
      refine sq (v := v) hF2 (wantedS rfl) (run_mv rfl (hF2.ev 0 rfl)) rfl (by decide) fun a3 hF3 => ?_
      refine sq (v := (.int .i64 (l.length : Int))) hF3 (wantedS rfl) (run_lenS rfl (hF3.ev 6 rfl) (hV.below hM0.below) rfl Try.underlying22) rfl (by decide) fun a4 hF4 => ?_
      refine sq (v := (.bool false)) hF4 (wantedS rfl) (run_eqi rfl (hF4.ev 7 rfl) rfl (beq_eq_false_iff_ne.2 (by omega))) rfl (by decide) fun a5 hF5 => ?_
      refine sqEnd ?_
      clear hF2 hF3 hF4
      refine nx ?_
      refine wp_cond_false (hF5.ev 8 rfl) ?_
      refine wp_skip ?_
      refine nx ?_
      refine wp_seq ?_
      refine wp_region_lit ?_
      refine sq (v := v) hF5 (wantedS rfl) (run_mv rfl (hF5.ev 0 rfl)) rfl (by decide) fun a6 hF6 => ?_
      refine sqC (v := (.int .i64 (namesS l))) hF6 hM0 (wantedS rfl) (run_call rfl Try.func28 (by kernel_rfl) rfl (mapE1 (hF6.ev 9 rfl))) rfl (by decide) (rnames_any l v w (hV.below hM0.below) hn) fun a7 w1 hb1 hF7 hM1 => ?_
      refine sq (v := (.int .i64 (namesS l))) hF7 (wantedS rfl) (run_as rfl (hF7.ev 10 rfl)) rfl (by decide) fun a8 hF8 => ?_
      refine sqEnd ?_
      clear hF5 hF6 hF7 hM0
      refine nx ?_
      refine wp_seq ?_
      refine wp_seq ?_
      refine wp_region_lit ?_
      refine sq (v := (.int .i64 (namesS l))) hF8 (wantedS rfl) (run_mv rfl (hF8.ev 4 rfl)) rfl (by decide) fun a9 hF9 => ?_
      refine sq (v := (.bool false)) hF9 (wantedS rfl) (run_nei rfl (hF9.ev 11 rfl) rfl (bne_eq_false_iff_eq.2 (by omega))) rfl (by decide) fun a10 hF10 => ?_
      refine sqEnd ?_
      clear hF8 hF9
      refine nx ?_
      refine wp_cond_false (hF10.ev 12 rfl) ?_
      refine wp_skip ?_
      refine nx ?_
      refine wp_seq ?_
      refine wp_region_lit ?_
      refine sq (v := v) hF10 (wantedS rfl) (run_mv rfl (hF10.ev 0 rfl)) rfl (by decide) fun a11 hF11 => ?_
      refine sqC (v := (.string ⟨(bytesS l).toArray⟩)) hF11 hM1 (wantedS rfl) (run_call rfl Try.func17 (by kernel_rfl) rfl (mapE1 (hF11.ev 14 rfl))) rfl (by decide) (rbytes_any l v w1 (hV.below hM1.below) hb hn) fun a12 w2 hb2 hF12 hM2 => ?_
      refine sq (v := (.string ⟨(bytesS l).toArray⟩)) hF12 (wantedS rfl) (run_as rfl (hF12.ev 15 rfl)) rfl (by decide) fun a13 hF13 => ?_
      refine sqEnd ?_
      clear hF10 hF11 hF12 hM1
      refine nx ?_
      refine wp_seq ?_
      refine wp_seq ?_
      refine wp_region_lit ?_
      refine sq (v := (.string ⟨(bytesS l).toArray⟩)) hF13 (wantedS rfl) (run_mv rfl (hF13.ev 5 rfl)) rfl (by decide) fun a14 hF14 => ?_
      refine sq (v := (.int .i64 ((bytesS l).length : Int))) hF14 (wantedS rfl) (run_len rfl (hF14.ev 16 rfl) rfl Try.underlying9) rfl (by decide) fun a15 hF15 => ?_
      refine sq (v := (.bool false)) hF15 (wantedS rfl) (run_gtr rfl (hF15.ev 17 rfl) rfl (decide_eq_false (by omega))) rfl (by decide) fun a16 hF16 => ?_
      refine sqEnd ?_
      clear hF13 hF14 hF15
      refine nx ?_
      refine wp_cond_false (hF16.ev 18 rfl) ?_
      refine wp_skip ?_
      refine nx ?_
      refine wp_seq ?_
      refine wp_region_lit ?_
      refine sq (v := (.string ⟨(bytesS l).toArray⟩)) hF16 (wantedS rfl) (run_mv rfl (hF16.ev 5 rfl)) rfl (by decide) fun a17 hF17 => ?_
      refine sq (v := (.string ⟨(bytesS l).toArray⟩)) hF17 (wantedS rfl) (run_as rfl (hF17.ev 19 rfl)) rfl (by decide) fun a18 hF18 => ?_
      refine sq (v := (.int .i64 0)) hF18 (wantedS rfl) (run_as rfl rfl) rfl (by decide) fun a19 hF19 => ?_
      refine sqEnd ?_
      clear hF16 hF17 hF18
      refine nx ?_
      refine wp_ret ?_
      exact ret2 hF19 rfl rfl rfl ⟨by rw [hmk], hM2.below⟩
  · have hmk : makeS l = ([], namesS l) := by unfold makeS; rw [if_neg hl, if_pos hnm]
    refine walk_enter Try.func24 rfl rfl rfl fun a0 hF0 => ?_
    have hM0 := Mem.new w
    refine wp_seq ?_
    refine wp_region_lit ?_
    refine sq (v := (.string ⟨List.toArray []⟩)) hF0 (wantedS rfl) (run_as rfl rfl) rfl (by decide) fun a1 hF1 => ?_
    refine sq (v := (.int .i64 0)) hF1 (wantedS rfl) (run_as rfl rfl) rfl (by decide) fun a2 hF2 => ?_
    refine sqEnd ?_
    clear hF0 hF1
    refine nx ?_
    refine wp_seq ?_
    refine wp_seq ?_
    refine wp_region_lit ?_
    refine sq (v := v) hF2 (wantedS rfl) (run_mv rfl (hF2.ev 0 rfl)) rfl (by decide) fun a3 hF3 => ?_
    refine sq (v := (.int .i64 (l.length : Int))) hF3 (wantedS rfl) (run_lenS rfl (hF3.ev 6 rfl) (hV.below hM0.below) rfl Try.underlying22) rfl (by decide) fun a4 hF4 => ?_
    refine sq (v := (.bool false)) hF4 (wantedS rfl) (run_eqi rfl (hF4.ev 7 rfl) rfl (beq_eq_false_iff_ne.2 (by omega))) rfl (by decide) fun a5 hF5 => ?_
    refine sqEnd ?_
    clear hF2 hF3 hF4
    refine nx ?_
    refine wp_cond_false (hF5.ev 8 rfl) ?_
    refine wp_skip ?_
    refine nx ?_
    refine wp_seq ?_
    refine wp_region_lit ?_
    refine sq (v := v) hF5 (wantedS rfl) (run_mv rfl (hF5.ev 0 rfl)) rfl (by decide) fun a6 hF6 => ?_
    refine sqC (v := (.int .i64 (namesS l))) hF6 hM0 (wantedS rfl) (run_call rfl Try.func28 (by kernel_rfl) rfl (mapE1 (hF6.ev 9 rfl))) rfl (by decide) (rnames_any l v w (hV.below hM0.below) hn) fun a7 w1 hb1 hF7 hM1 => ?_
    refine sq (v := (.int .i64 (namesS l))) hF7 (wantedS rfl) (run_as rfl (hF7.ev 10 rfl)) rfl (by decide) fun a8 hF8 => ?_
    refine sqEnd ?_
    clear hF5 hF6 hF7 hM0
    refine nx ?_
    refine wp_seq ?_
    refine wp_seq ?_
    refine wp_region_lit ?_
    refine sq (v := (.int .i64 (namesS l))) hF8 (wantedS rfl) (run_mv rfl (hF8.ev 4 rfl)) rfl (by decide) fun a9 hF9 => ?_
    refine sq (v := (.bool true)) hF9 (wantedS rfl) (run_nei rfl (hF9.ev 11 rfl) rfl (bne_iff_ne.2 (by omega))) rfl (by decide) fun a10 hF10 => ?_
    refine sqEnd ?_
    clear hF8 hF9
    refine nx ?_
    refine wp_cond_true (hF10.ev 12 rfl) ?_
    refine wp_seq ?_
    refine wp_region_lit ?_
    refine sq (v := (.int .i64 (namesS l))) hF10 (wantedS rfl) (run_mv rfl (hF10.ev 4 rfl)) rfl (by decide) fun a11 hF11 => ?_
    refine sq (v := (.string ⟨List.toArray []⟩)) hF11 (wantedS rfl) (run_as rfl rfl) rfl (by decide) fun a12 hF12 => ?_
    refine sq (v := (.int .i64 (namesS l))) hF12 (wantedS rfl) (run_as rfl (hF12.ev 13 rfl)) rfl (by decide) fun a13 hF13 => ?_
    refine sqEnd ?_
    clear hF10 hF11 hF12
    refine nx ?_
    refine wp_ret ?_
    refine nxRet ?_
    exact ret2 hF13 rfl rfl rfl ⟨by rw [hmk], hM1.below⟩
/-- a box that isn't too great. -/
def okB (b : Bx) : Bool := decide (b.1.length ≤ 200 ∧ b.2.length ≤ 300)
def greatS (l : List Bx) : Int := if (l.all okB) = true then (if 12 < l.length then 1 else 0) else 1
theorem great_bad (l : List Bx) (i : Nat) {x : Bx} (hx : l[i]? = some x) (hb : okB x = false) : greatS l = 1 := by
  unfold greatS
  rw [if_neg ?_]
  intro h
  have := List.all_eq_true.1 h x (List.mem_of_getElem? hx)
  rw [hb] at this; cases this
theorem all_snoc (l : List Bx) (i : Nat) {x : Bx} (hx : l[i]? = some x) (hok : ((l.take i).all okB) = true) (hb : okB x = true) : ((l.take (i + 1)).all okB) = true := by
  obtain ⟨hl, rfl⟩ := List.getElem?_eq_some_iff.1 hx
  rw [List.take_succ_eq_append_getElem hl, List.all_append, hok]
  simp [hb]
theorem great_01 (l : List Bx) : greatS l = 1 ∨ greatS l = 0 := by unfold greatS; split; split; exact .inl rfl; exact .inr rfl; exact .inl rfl
theorem great_ok {l : List Bx} (h : greatS l = 0) : l.length ≤ 12 ∧ (textsB l).flatten.length ≤ 6000 := by
  unfold greatS at h
  by_cases ha : (l.all okB) = true
  · rw [if_pos ha] at h
    by_cases h12 : 12 < l.length
    · rw [if_pos h12] at h; cases h
    · have key : ∀ r : List Bx, (r.all okB) = true → (textsB r).flatten.length ≤ 500 * r.length := by
        intro r
        induction r with
        | nil => intro _; simp [textsB]
        | cons b r ih =>
          intro hr
          rw [List.all_cons, Bool.and_eq_true] at hr
          have h1 := ih hr.2
          have h2 := of_decide_eq_true hr.1
          have h3 : textsB (b :: r) = b.1 :: b.2 :: textsB r := rfl
          rw [h3, List.flatten_cons, List.flatten_cons, List.length_append, List.length_append, List.length_cons]
          omega
      have := key l ha
      exact ⟨by omega, by omega⟩
  · rw [if_neg ha] at h; cases h
set_option maxRecDepth 100000 in
set_option maxHeartbeats 1000000 in
theorem rgreat_any (l : List Bx) (v : Value) (w : World) (hV : Sl w v 2 l.length (l.flatMap boxC)) (hn : l.length ≤ maxLen) : Calls Try.prog 6 #[v] w fun e w' => e = .returned (.int .i64 (greatS l)) ∧ Below w.heap.size w w' := by
  unfold maxLen at hn
  refine walk_enter Try.func6 rfl rfl rfl fun a0 hF0 => ?_
  have hM0 := Mem.new w
  refine wp_seq ?_
  refine wp_region_lit ?_
  refine sq (v := (.int .i64 0)) hF0 (wantedS rfl) (run_as rfl rfl) rfl (by decide) fun a1 hF1 => ?_
  refine sqEnd ?_
  clear hF0
  refine nx ?_
  refine wp_seq ?_
  refine wp_seq ?_
  refine wp_region_lit ?_
  refine sq (v := v) hF1 (wantedS rfl) (run_mv rfl (hF1.ev 0 rfl)) rfl (by decide) fun a2 hF2 => ?_
  refine sq (v := (.int .i64 (l.length : Int))) hF2 (wantedS rfl) (run_lenS rfl (hF2.ev 4 rfl) (hV.below hM0.below) rfl Try.underlying22) rfl (by decide) fun a3 hF3 => ?_
  refine sq (v := (.int .i64 0)) hF3 (wantedS rfl) (run_mv rfl rfl) rfl (by decide) fun a4 hF4 => ?_
  refine sqEnd ?_
  clear hF1 hF2 hF3
  refine nx ?_
  refine wp_block ?_
  refine wkLoop (fun m a w2 => ∃ i : Nat, i ≤ l.length ∧ m = l.length - i ∧ ((l.take i).all okB) = true ∧ Fr a 29 [(0, v), (5, .int .i64 (l.length : Int)), (6, .int .i64 (i : Int))] ∧ Mem w [] w2) l.length ⟨0, Nat.zero_le _, rfl, rfl, hF4.sub ⟨rfl, rfl, rfl, trivial⟩, hM0⟩ ?_
  rintro m a0 w1 ⟨i, hi, rfl, hok, hF0, hM0⟩
  by_cases hlt : i < l.length
  · obtain ⟨x, hx⟩ : ∃ x, l[i]? = some x := ⟨l[i], by simp [hlt]⟩
    by_cases h1 : 200 < x.1.length
    · have hres : greatS l = 1 := great_bad l i hx (by unfold okB; rw [decide_eq_false (by omega)])
      refine wp_seq ?_
      refine wp_region_lit ?_
      refine sq (v := (.bool true)) hF0 (wantedS rfl) (run_lss rfl (hF0.ev 6 rfl) (hF0.ev 5 rfl) (decide_eq_true (by omega))) rfl (by decide) fun a1 hF1 => ?_
      refine sqEnd ?_
      clear hF0
      refine nx ?_
      refine wp_seq ?_
      refine wp_cond_true (hF1.ev 7 rfl) ?_
      refine wp_skip ?_
      refine nx ?_
      refine wp_seq ?_
      refine wp_block ?_
      refine wp_seq ?_
      refine wp_region_lit ?_
      refine sq (v := (.int .i64 (i : Int))) hF1 (wantedS rfl) (run_mv rfl (hF1.ev 6 rfl)) rfl (by decide) fun a2 hF2 => ?_
      refine sq (v := (.int .i64 (i : Int))) hF2 (wantedS rfl) (run_as rfl (hF2.ev 8 rfl)) rfl (by decide) fun a3 hF3 => ?_
      refine sqEnd ?_
      clear hF1 hF2
      refine nx ?_
      refine wp_seq ?_
      refine wp_region_lit ?_
      refine sq (v := v) hF3 (wantedS rfl) (run_mv rfl (hF3.ev 0 rfl)) rfl (by decide) fun a4 hF4 => ?_
      refine sq (v := (.int .i64 (i : Int))) hF4 (wantedS rfl) (run_mv rfl (hF4.ev 3 rfl)) rfl (by decide) fun a5 hF5 => ?_
      refine sq (v := (slPtr v (i * 2))) hF5 (wantedS rfl) (run_atP (i := i) rfl (hF5.ev 9 rfl) (hF5.ev 10 rfl) rfl (hV.below hM0.below) (by omega) elBox.un (by kernel_rfl)) rfl (by decide) fun a6 hF6 => ?_
      refine sq (v := (slPtr v (i * 2 + 0))) hF6 (wantedS rfl) (run_fldP (m2 := 1) (s := 0) rfl (hF6.ev 11 rfl) (hV.below hM0.below) (by omega) Try.underlying29 rfl rfl (by kernel_rfl) (by decide)) rfl (by decide) fun a7 hF7 => ?_
      refine sq (v := (.string ⟨x.1.toArray⟩)) hF7 (wantedS rfl) (run_ldP rfl (hF7.ev 12 rfl) (hV.below hM0.below) (flat_at boxC_len hx 0 rfl) (by kernel_rfl)) rfl (by decide) fun a8 hF8 => ?_
      refine sq (v := (.int .i64 (x.1.length : Int))) hF8 (wantedS rfl) (run_len rfl (hF8.ev 13 rfl) rfl Try.underlying9) rfl (by decide) fun a9 hF9 => ?_
      refine sq (v := (.bool true)) hF9 (wantedS rfl) (run_gtr rfl (hF9.ev 14 rfl) rfl (decide_eq_true (by omega))) rfl (by decide) fun a10 hF10 => ?_
      refine sq (v := (.bool true)) hF10 (wantedS rfl) (run_mv rfl (hF10.ev 15 rfl)) rfl (by decide) fun a11 hF11 => ?_
      refine sqSkip hF11 (unwantedG hF11 rfl rfl rfl rfl rfl) rfl (by decide) fun a12 hF12 => ?_
      refine sqSkip hF12 (unwantedG hF12 rfl rfl rfl rfl rfl) rfl (by decide) fun a13 hF13 => ?_
      refine sqSkip hF13 (unwantedG hF13 rfl rfl rfl rfl rfl) rfl (by decide) fun a14 hF14 => ?_
      refine sqSkip hF14 (unwantedG hF14 rfl rfl rfl rfl rfl) rfl (by decide) fun a15 hF15 => ?_
      refine sqSkip hF15 (unwantedG hF15 rfl rfl rfl rfl rfl) rfl (by decide) fun a16 hF16 => ?_
      refine sqSkip hF16 (unwantedG hF16 rfl rfl rfl rfl rfl) rfl (by decide) fun a17 hF17 => ?_
      refine sqSkip hF17 (unwantedG hF17 rfl rfl rfl rfl rfl) rfl (by decide) fun a18 hF18 => ?_
      refine sq (v := (.bool true)) hF18 (wantedS rfl) (run_pick rfl (hF18.ev 16 rfl) rfl (hF18.ev 23 rfl)) rfl (by decide) fun a19 hF19 => ?_
      refine sqEnd ?_
      clear hF3 hF4 hF5 hF6 hF7 hF8 hF9 hF10 hF11 hF12 hF13 hF14 hF15 hF16 hF17 hF18
      refine nx ?_
      refine wp_cond_true (hF19.ev 24 rfl) ?_
      refine wp_seq ?_
      refine wp_region_lit ?_
      refine sq (v := (.int .i64 1)) hF19 (wantedS rfl) (run_as rfl rfl) rfl (by decide) fun a20 hF20 => ?_
      refine sqEnd ?_
      clear hF19
      refine nx ?_
      refine wp_ret ?_
      refine bkRet ?_
      refine nxRet ?_
      refine nxRet ?_
      refine bkRet ?_
      refine nxRet ?_
      exact ret1 hF20 rfl rfl ⟨by rw [hres], hM0.below⟩
    by_cases h2 : 300 < x.2.length
    · have hres : greatS l = 1 := great_bad l i hx (by unfold okB; rw [decide_eq_false (by omega)])
      refine wp_seq ?_
      refine wp_region_lit ?_
      refine sq (v := (.bool true)) hF0 (wantedS rfl) (run_lss rfl (hF0.ev 6 rfl) (hF0.ev 5 rfl) (decide_eq_true (by omega))) rfl (by decide) fun a1 hF1 => ?_
      refine sqEnd ?_
      clear hF0
      refine nx ?_
      refine wp_seq ?_
      refine wp_cond_true (hF1.ev 7 rfl) ?_
      refine wp_skip ?_
      refine nx ?_
      refine wp_seq ?_
      refine wp_block ?_
      refine wp_seq ?_
      refine wp_region_lit ?_
      refine sq (v := (.int .i64 (i : Int))) hF1 (wantedS rfl) (run_mv rfl (hF1.ev 6 rfl)) rfl (by decide) fun a2 hF2 => ?_
      refine sq (v := (.int .i64 (i : Int))) hF2 (wantedS rfl) (run_as rfl (hF2.ev 8 rfl)) rfl (by decide) fun a3 hF3 => ?_
      refine sqEnd ?_
      clear hF1 hF2
      refine nx ?_
      refine wp_seq ?_
      refine wp_region_lit ?_
      refine sq (v := v) hF3 (wantedS rfl) (run_mv rfl (hF3.ev 0 rfl)) rfl (by decide) fun a4 hF4 => ?_
      refine sq (v := (.int .i64 (i : Int))) hF4 (wantedS rfl) (run_mv rfl (hF4.ev 3 rfl)) rfl (by decide) fun a5 hF5 => ?_
      refine sq (v := (slPtr v (i * 2))) hF5 (wantedS rfl) (run_atP (i := i) rfl (hF5.ev 9 rfl) (hF5.ev 10 rfl) rfl (hV.below hM0.below) (by omega) elBox.un (by kernel_rfl)) rfl (by decide) fun a6 hF6 => ?_
      refine sq (v := (slPtr v (i * 2 + 0))) hF6 (wantedS rfl) (run_fldP (m2 := 1) (s := 0) rfl (hF6.ev 11 rfl) (hV.below hM0.below) (by omega) Try.underlying29 rfl rfl (by kernel_rfl) (by decide)) rfl (by decide) fun a7 hF7 => ?_
      refine sq (v := (.string ⟨x.1.toArray⟩)) hF7 (wantedS rfl) (run_ldP rfl (hF7.ev 12 rfl) (hV.below hM0.below) (flat_at boxC_len hx 0 rfl) (by kernel_rfl)) rfl (by decide) fun a8 hF8 => ?_
      refine sq (v := (.int .i64 (x.1.length : Int))) hF8 (wantedS rfl) (run_len rfl (hF8.ev 13 rfl) rfl Try.underlying9) rfl (by decide) fun a9 hF9 => ?_
      refine sq (v := (.bool false)) hF9 (wantedS rfl) (run_gtr rfl (hF9.ev 14 rfl) rfl (decide_eq_false (by omega))) rfl (by decide) fun a10 hF10 => ?_
      refine sq (v := (.bool false)) hF10 (wantedS rfl) (run_mv rfl (hF10.ev 15 rfl)) rfl (by decide) fun a11 hF11 => ?_
      refine sq (v := v) hF11 (wantedG hF11 rfl rfl rfl rfl rfl) (run_mv rfl (hF11.ev 0 rfl)) rfl (by decide) fun a12 hF12 => ?_
      refine sq (v := (.int .i64 (i : Int))) hF12 (wantedG hF12 rfl rfl rfl rfl rfl) (run_mv rfl (hF12.ev 3 rfl)) rfl (by decide) fun a13 hF13 => ?_
      refine sq (v := (slPtr v (i * 2))) hF13 (wantedG hF13 rfl rfl rfl rfl rfl) (run_atP (i := i) rfl (hF13.ev 17 rfl) (hF13.ev 18 rfl) rfl (hV.below hM0.below) (by omega) elBox.un (by kernel_rfl)) rfl (by decide) fun a14 hF14 => ?_
      refine sq (v := (slPtr v (i * 2 + 1))) hF14 (wantedG hF14 rfl rfl rfl rfl rfl) (run_fldP (m2 := 1) (s := 1) rfl (hF14.ev 19 rfl) (hV.below hM0.below) (by omega) Try.underlying29 rfl rfl (by kernel_rfl) (by decide)) rfl (by decide) fun a15 hF15 => ?_
      refine sq (v := (.string ⟨x.2.toArray⟩)) hF15 (wantedG hF15 rfl rfl rfl rfl rfl) (run_ldP rfl (hF15.ev 20 rfl) (hV.below hM0.below) (flat_at boxC_len hx 1 rfl) (by kernel_rfl)) rfl (by decide) fun a16 hF16 => ?_
      refine sq (v := (.int .i64 (x.2.length : Int))) hF16 (wantedG hF16 rfl rfl rfl rfl rfl) (run_len rfl (hF16.ev 21 rfl) rfl Try.underlying9) rfl (by decide) fun a17 hF17 => ?_
      refine sq (v := (.bool true)) hF17 (wantedG hF17 rfl rfl rfl rfl rfl) (run_gtr rfl (hF17.ev 22 rfl) rfl (decide_eq_true (by omega))) rfl (by decide) fun a18 hF18 => ?_
      refine sq (v := (.bool true)) hF18 (wantedS rfl) (run_pick rfl (hF18.ev 16 rfl) rfl (hF18.ev 23 rfl)) rfl (by decide) fun a19 hF19 => ?_
      refine sqEnd ?_
      clear hF3 hF4 hF5 hF6 hF7 hF8 hF9 hF10 hF11 hF12 hF13 hF14 hF15 hF16 hF17 hF18
      refine nx ?_
      refine wp_cond_true (hF19.ev 24 rfl) ?_
      refine wp_seq ?_
      refine wp_region_lit ?_
      refine sq (v := (.int .i64 1)) hF19 (wantedS rfl) (run_as rfl rfl) rfl (by decide) fun a20 hF20 => ?_
      refine sqEnd ?_
      clear hF19
      refine nx ?_
      refine wp_ret ?_
      refine bkRet ?_
      refine nxRet ?_
      refine nxRet ?_
      refine bkRet ?_
      refine nxRet ?_
      exact ret1 hF20 rfl rfl ⟨by rw [hres], hM0.below⟩
    refine wp_seq ?_
    refine wp_region_lit ?_
    refine sq (v := (.bool true)) hF0 (wantedS rfl) (run_lss rfl (hF0.ev 6 rfl) (hF0.ev 5 rfl) (decide_eq_true (by omega))) rfl (by decide) fun a1 hF1 => ?_
    refine sqEnd ?_
    clear hF0
    refine nx ?_
    refine wp_seq ?_
    refine wp_cond_true (hF1.ev 7 rfl) ?_
    refine wp_skip ?_
    refine nx ?_
    refine wp_seq ?_
    refine wp_block ?_
    refine wp_seq ?_
    refine wp_region_lit ?_
    refine sq (v := (.int .i64 (i : Int))) hF1 (wantedS rfl) (run_mv rfl (hF1.ev 6 rfl)) rfl (by decide) fun a2 hF2 => ?_
    refine sq (v := (.int .i64 (i : Int))) hF2 (wantedS rfl) (run_as rfl (hF2.ev 8 rfl)) rfl (by decide) fun a3 hF3 => ?_
    refine sqEnd ?_
    clear hF1 hF2
    refine nx ?_
    refine wp_seq ?_
    refine wp_region_lit ?_
    refine sq (v := v) hF3 (wantedS rfl) (run_mv rfl (hF3.ev 0 rfl)) rfl (by decide) fun a4 hF4 => ?_
    refine sq (v := (.int .i64 (i : Int))) hF4 (wantedS rfl) (run_mv rfl (hF4.ev 3 rfl)) rfl (by decide) fun a5 hF5 => ?_
    refine sq (v := (slPtr v (i * 2))) hF5 (wantedS rfl) (run_atP (i := i) rfl (hF5.ev 9 rfl) (hF5.ev 10 rfl) rfl (hV.below hM0.below) (by omega) elBox.un (by kernel_rfl)) rfl (by decide) fun a6 hF6 => ?_
    refine sq (v := (slPtr v (i * 2 + 0))) hF6 (wantedS rfl) (run_fldP (m2 := 1) (s := 0) rfl (hF6.ev 11 rfl) (hV.below hM0.below) (by omega) Try.underlying29 rfl rfl (by kernel_rfl) (by decide)) rfl (by decide) fun a7 hF7 => ?_
    refine sq (v := (.string ⟨x.1.toArray⟩)) hF7 (wantedS rfl) (run_ldP rfl (hF7.ev 12 rfl) (hV.below hM0.below) (flat_at boxC_len hx 0 rfl) (by kernel_rfl)) rfl (by decide) fun a8 hF8 => ?_
    refine sq (v := (.int .i64 (x.1.length : Int))) hF8 (wantedS rfl) (run_len rfl (hF8.ev 13 rfl) rfl Try.underlying9) rfl (by decide) fun a9 hF9 => ?_
    refine sq (v := (.bool false)) hF9 (wantedS rfl) (run_gtr rfl (hF9.ev 14 rfl) rfl (decide_eq_false (by omega))) rfl (by decide) fun a10 hF10 => ?_
    refine sq (v := (.bool false)) hF10 (wantedS rfl) (run_mv rfl (hF10.ev 15 rfl)) rfl (by decide) fun a11 hF11 => ?_
    refine sq (v := v) hF11 (wantedG hF11 rfl rfl rfl rfl rfl) (run_mv rfl (hF11.ev 0 rfl)) rfl (by decide) fun a12 hF12 => ?_
    refine sq (v := (.int .i64 (i : Int))) hF12 (wantedG hF12 rfl rfl rfl rfl rfl) (run_mv rfl (hF12.ev 3 rfl)) rfl (by decide) fun a13 hF13 => ?_
    refine sq (v := (slPtr v (i * 2))) hF13 (wantedG hF13 rfl rfl rfl rfl rfl) (run_atP (i := i) rfl (hF13.ev 17 rfl) (hF13.ev 18 rfl) rfl (hV.below hM0.below) (by omega) elBox.un (by kernel_rfl)) rfl (by decide) fun a14 hF14 => ?_
    refine sq (v := (slPtr v (i * 2 + 1))) hF14 (wantedG hF14 rfl rfl rfl rfl rfl) (run_fldP (m2 := 1) (s := 1) rfl (hF14.ev 19 rfl) (hV.below hM0.below) (by omega) Try.underlying29 rfl rfl (by kernel_rfl) (by decide)) rfl (by decide) fun a15 hF15 => ?_
    refine sq (v := (.string ⟨x.2.toArray⟩)) hF15 (wantedG hF15 rfl rfl rfl rfl rfl) (run_ldP rfl (hF15.ev 20 rfl) (hV.below hM0.below) (flat_at boxC_len hx 1 rfl) (by kernel_rfl)) rfl (by decide) fun a16 hF16 => ?_
    refine sq (v := (.int .i64 (x.2.length : Int))) hF16 (wantedG hF16 rfl rfl rfl rfl rfl) (run_len rfl (hF16.ev 21 rfl) rfl Try.underlying9) rfl (by decide) fun a17 hF17 => ?_
    refine sq (v := (.bool false)) hF17 (wantedG hF17 rfl rfl rfl rfl rfl) (run_gtr rfl (hF17.ev 22 rfl) rfl (decide_eq_false (by omega))) rfl (by decide) fun a18 hF18 => ?_
    refine sq (v := (.bool false)) hF18 (wantedS rfl) (run_pick rfl (hF18.ev 16 rfl) rfl (hF18.ev 23 rfl)) rfl (by decide) fun a19 hF19 => ?_
    refine sqEnd ?_
    clear hF3 hF4 hF5 hF6 hF7 hF8 hF9 hF10 hF11 hF12 hF13 hF14 hF15 hF16 hF17 hF18
    refine nx ?_
    refine wp_cond_false (hF19.ev 24 rfl) ?_
    refine wp_skip ?_
    refine bkEnd ?_
    refine nx ?_
    refine wp_region_lit ?_
    refine sq (v := (.int .i64 ((i + 1 : Nat) : Int))) hF19 (wantedS rfl) (run_add (r := ((i + 1 : Nat) : Int)) rfl (hF19.ev 6 rfl) rfl (by rw [IntKind.wrap_i64]; omega)) rfl (by decide) fun a20 hF20 => ?_
    refine sq (v := (.int .i64 ((i + 1 : Nat) : Int))) hF20 (wantedS rfl) (run_mv rfl (hF20.ev 25 rfl)) rfl (by decide) fun a21 hF21 => ?_
    refine sqEnd ?_
    clear hF19 hF20
    refine nx ?_
    exact ⟨_, by omega, i + 1, by omega, rfl, all_snoc l i hx hok (by unfold okB; rw [decide_eq_true (by omega)]), hF21.sub ⟨rfl, rfl, rfl, trivial⟩, hM0⟩
  · have hie : i = l.length := by omega
    rw [hie, List.take_length] at hok
    by_cases h12 : 12 < l.length
    · have hres : greatS l = 1 := by unfold greatS; rw [if_pos hok, if_pos h12]
      refine wp_seq ?_
      refine wp_region_lit ?_
      refine sq (v := (.bool false)) hF0 (wantedS rfl) (run_lss rfl (hF0.ev 6 rfl) (hF0.ev 5 rfl) (decide_eq_false (by omega))) rfl (by decide) fun a1 hF1 => ?_
      refine sqEnd ?_
      clear hF0
      refine nx ?_
      refine wp_seq ?_
      refine wp_cond_false (hF1.ev 7 rfl) ?_
      refine wp_exit ?_
      refine nxExit ?_
      refine nxExit ?_
      refine bkHere ?_
      refine nx ?_
      refine wp_seq ?_
      refine wp_seq ?_
      refine wp_region_lit ?_
      refine sq (v := v) hF1 (wantedS rfl) (run_mv rfl (hF1.ev 0 rfl)) rfl (by decide) fun a2 hF2 => ?_
      refine sq (v := (.int .i64 (l.length : Int))) hF2 (wantedS rfl) (run_lenS rfl (hF2.ev 26 rfl) (hV.below hM0.below) rfl Try.underlying22) rfl (by decide) fun a3 hF3 => ?_
      refine sq (v := (.bool true)) hF3 (wantedS rfl) (run_gtr rfl (hF3.ev 27 rfl) rfl (decide_eq_true (by omega))) rfl (by decide) fun a4 hF4 => ?_
      refine sqEnd ?_
      clear hF1 hF2 hF3
      refine nx ?_
      refine wp_cond_true (hF4.ev 28 rfl) ?_
      refine wp_seq ?_
      refine wp_region_lit ?_
      refine sq (v := (.int .i64 1)) hF4 (wantedS rfl) (run_as rfl rfl) rfl (by decide) fun a5 hF5 => ?_
      refine sqEnd ?_
      clear hF4
      refine nx ?_
      refine wp_ret ?_
      refine nxRet ?_
      exact ret1 hF5 rfl rfl ⟨by rw [hres], hM0.below⟩
    · have hres : greatS l = 0 := by unfold greatS; rw [if_pos hok, if_neg h12]
      refine wp_seq ?_
      refine wp_region_lit ?_
      refine sq (v := (.bool false)) hF0 (wantedS rfl) (run_lss rfl (hF0.ev 6 rfl) (hF0.ev 5 rfl) (decide_eq_false (by omega))) rfl (by decide) fun a1 hF1 => ?_
      refine sqEnd ?_
      clear hF0
      refine nx ?_
      refine wp_seq ?_
      refine wp_cond_false (hF1.ev 7 rfl) ?_
      refine wp_exit ?_
      refine nxExit ?_
      refine nxExit ?_
      refine bkHere ?_
      refine nx ?_
      refine wp_seq ?_
      refine wp_seq ?_
      refine wp_region_lit ?_
      refine sq (v := v) hF1 (wantedS rfl) (run_mv rfl (hF1.ev 0 rfl)) rfl (by decide) fun a2 hF2 => ?_
      refine sq (v := (.int .i64 (l.length : Int))) hF2 (wantedS rfl) (run_lenS rfl (hF2.ev 26 rfl) (hV.below hM0.below) rfl Try.underlying22) rfl (by decide) fun a3 hF3 => ?_
      refine sq (v := (.bool false)) hF3 (wantedS rfl) (run_gtr rfl (hF3.ev 27 rfl) rfl (decide_eq_false (by omega))) rfl (by decide) fun a4 hF4 => ?_
      refine sqEnd ?_
      clear hF1 hF2 hF3
      refine nx ?_
      refine wp_cond_false (hF4.ev 28 rfl) ?_
      refine wp_skip ?_
      refine nx ?_
      refine wp_seq ?_
      refine wp_region_lit ?_
      refine sq (v := (.int .i64 0)) hF4 (wantedS rfl) (run_as rfl rfl) rfl (by decide) fun a5 hF5 => ?_
      refine sqEnd ?_
      clear hF4
      refine nx ?_
      refine wp_ret ?_
      exact ret1 hF5 rfl rfl ⟨by rw [hres], hM0.below⟩
end Go.Proofs.Ytnkklogkjnfjgaa
