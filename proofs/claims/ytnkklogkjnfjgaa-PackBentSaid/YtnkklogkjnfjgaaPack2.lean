/- The walk of pack.Make. Printed by gen_pack2.py. -/
import Derived.Test.YtnkklogkjnfjgaaPack1
namespace Go.Proofs.Ytnkklogkjnfjgaa
open Go.RowKit

theorem elBox : ElT Try.prog 22 29 2 32 := by
  obtain ⟨i, h1, h2, h3, h4⟩ := info_parts (show (Try.prog.info? 29).map (fun i => (i.zero, i.size, i.bytes)) = some (some (.agg #[.string ⟨#[]⟩, .string ⟨#[]⟩]), 2, 32) by kernel_rfl)
  exact ⟨Try.underlying22, ⟨i, _, h1, h2, h3, h4, rfl⟩, by decide⟩
theorem szBox : (Try.prog.info? 29).map (·.size) = some 2 := by kernel_rfl
theorem box_le (l : List Bx) (i : Nat) {x : Bx} (hx : l[i]? = some x) : x.1.length + x.2.length ≤ (textsB l).flatten.length := by
  induction l generalizing i with
  | nil => simp at hx
  | cons b l ih =>
    have h : textsB (b :: l) = b.1 :: b.2 :: textsB l := rfl
    rw [h, List.flatten_cons, List.flatten_cons, List.length_append, List.length_append]
    cases i with
    | zero => simp only [List.getElem?_cons_zero, Option.some.injEq] at hx; subst hx; omega
    | succ i => rw [List.getElem?_cons_succ] at hx; have := ih i hx; omega
theorem sum_take (l : List Nat) (j : Nat) : (l.take j).sum ≤ l.sum := by
  rw [← List.take_append_drop j l, List.sum_append, List.take_append_drop]; omega
theorem sum_snoc (l : List (List UInt8)) (j : Nat) {x : List UInt8} (hx : l[j]? = some x) : ((l.take (j + 1)).map rowedS).sum = ((l.take j).map rowedS).sum + rowedS x := by
  obtain ⟨hl, rfl⟩ := List.getElem?_eq_some_iff.1 hx
  rw [List.take_succ_eq_append_getElem hl, List.map_append, List.sum_append]
  simp
theorem elem_le (l : List (List UInt8)) (j : Nat) {x : List UInt8} (hx : l[j]? = some x) : x.length ≤ l.flatten.length := by
  induction l generalizing j with
  | nil => simp at hx
  | cons b l ih =>
    rw [List.flatten_cons, List.length_append]
    cases j with
    | zero => simp only [List.getElem?_cons_zero, Option.some.injEq] at hx; subst hx; omega
    | succ j => rw [List.getElem?_cons_succ] at hx; have := ih j hx; omega
set_option maxRecDepth 100000 in
set_option maxHeartbeats 1000000 in
theorem pmake_any (l : List Bx) (v : Value) (w : World) (hV : Sl w v 2 l.length (l.flatMap boxC)) (hb : (textsB l).flatten.length < 2 ^ 42 - 4) (hn : l.length < 2 ^ 40) : Calls Try.prog 8 #[v] w fun e w' => e = .returned (.tuple #[.string ⟨(makeS l).1.toArray⟩, .int .i64 (makeS l).2]) ∧ Below w.heap.size w w' := by
  by_cases hl : l = []
  · have hmk : makeS l = ([], 1) := by unfold makeS; rw [if_pos hl]
    have hll : l.length = 0 := by rw [hl]; rfl
    refine walk_enter Try.func8 rfl rfl rfl fun a0 hF0 => ?_
    have hM0 := Mem.new w
    refine wp_seq ?_
    refine wp_region_lit ?_
    refine sq (v := (.string ⟨List.toArray []⟩)) hF0 (wantedS rfl) (run_as rfl rfl) rfl (by decide) fun a1 hF1 => ?_
    refine sq (v := (.int .i64 0)) hF1 (wantedS rfl) (run_as rfl rfl) rfl (by decide) fun a2 hF2 => ?_
    refine sqEnd ?_
    clear hF0 hF1
    refine nx ?_
    refine wp_seq ?_
    refine wp_seq ?_
    refine wp_region_lit ?_
    refine sq (v := v) hF2 (wantedS rfl) (run_mv rfl (hF2.ev 0 rfl)) rfl (by decide) fun a3 hF3 => ?_
    refine sq (v := (.int .i64 (l.length : Int))) hF3 (wantedS rfl) (run_lenS rfl (hF3.ev 12 rfl) (hV.below hM0.below) rfl Try.underlying22) rfl (by decide) fun a4 hF4 => ?_
    refine sq (v := (.bool true)) hF4 (wantedS rfl) (run_eqi rfl (hF4.ev 13 rfl) rfl (beq_iff_eq.2 (by omega))) rfl (by decide) fun a5 hF5 => ?_
    refine sqEnd ?_
    clear hF2 hF3 hF4
    refine nx ?_
    refine wp_cond_true (hF5.ev 14 rfl) ?_
    refine wp_seq ?_
    refine wp_region_lit ?_
    refine sq (v := (.string ⟨List.toArray []⟩)) hF5 (wantedS rfl) (run_as rfl rfl) rfl (by decide) fun a6 hF6 => ?_
    refine sq (v := (.int .i64 1)) hF6 (wantedS rfl) (run_as rfl rfl) rfl (by decide) fun a7 hF7 => ?_
    refine sqEnd ?_
    clear hF5 hF6
    refine nx ?_
    refine wp_ret ?_
    refine nxRet ?_
    exact ret2 hF7 rfl rfl rfl ⟨by rw [hmk], hM0.below⟩
  have hll : 0 < l.length := List.length_pos_iff.2 hl
  refine walk_enter Try.func8 rfl rfl rfl fun a0 hF0 => ?_
  have hM0 := Mem.new w
  refine wp_seq ?_
  refine wp_region_lit ?_
  refine sq (v := (.string ⟨List.toArray []⟩)) hF0 (wantedS rfl) (run_as rfl rfl) rfl (by decide) fun a1 hF1 => ?_
  refine sq (v := (.int .i64 0)) hF1 (wantedS rfl) (run_as rfl rfl) rfl (by decide) fun a2 hF2 => ?_
  refine sqEnd ?_
  clear hF0 hF1
  refine nx ?_
  refine wp_seq ?_
  refine wp_seq ?_
  refine wp_region_lit ?_
  refine sq (v := v) hF2 (wantedS rfl) (run_mv rfl (hF2.ev 0 rfl)) rfl (by decide) fun a3 hF3 => ?_
  refine sq (v := (.int .i64 (l.length : Int))) hF3 (wantedS rfl) (run_lenS rfl (hF3.ev 12 rfl) (hV.below hM0.below) rfl Try.underlying22) rfl (by decide) fun a4 hF4 => ?_
  refine sq (v := (.bool false)) hF4 (wantedS rfl) (run_eqi rfl (hF4.ev 13 rfl) rfl (beq_eq_false_iff_ne.2 (by omega))) rfl (by decide) fun a5 hF5 => ?_
  refine sqEnd ?_
  clear hF2 hF3 hF4
  refine nx ?_
  refine wp_cond_false (hF5.ev 14 rfl) ?_
  refine wp_skip ?_
  refine nx ?_
  refine wp_seq ?_
  refine wp_region_lit ?_
  refine sq (v := v) hF5 (wantedS rfl) (run_mv rfl (hF5.ev 0 rfl)) rfl (by decide) fun a6 hF6 => ?_
  refine sq (v := (.int .i64 (l.length : Int))) hF6 (wantedS rfl) (run_lenS rfl (hF6.ev 15 rfl) (hV.below hM0.below) rfl Try.underlying22) rfl (by decide) fun a7 hF7 => ?_
  refine sq (v := (.int .i64 ((2 * l.length : Nat) : Int))) hF7 (wantedS rfl) (run_mul (r := ((2 * l.length : Nat) : Int)) rfl rfl (hF7.ev 16 rfl) (by rw [IntKind.wrap_i64]; omega)) rfl (by decide) fun a8 hF8 => ?_
  refine sq (v := (.int .i64 ((1 + 2 * l.length : Nat) : Int))) hF8 (wantedS rfl) (run_add (r := ((1 + 2 * l.length : Nat) : Int)) rfl rfl (hF8.ev 17 rfl) (by rw [IntKind.wrap_i64]; omega)) rfl (by decide) fun a9 hF9 => ?_
  refine sqMake (c := (1 + 2 * l.length)) elStr hF9 hM0 rfl rfl rfl (hF9.ev 18 rfl) rfl (by omega) (by unfold maxLen; omega) rfl (by decide) fun v0 a10 w1 hO1 hb1 hM1 hF10 => ?_
  refine sq (v := v0) hF10 (wantedS rfl) (run_as rfl (hF10.ev 19 rfl)) rfl (by decide) fun a11 hF11 => ?_
  refine sqEnd ?_
  clear hF5 hF6 hF7 hF8 hF9 hF10 hM0
  refine nx ?_
  refine wp_seq ?_
  refine wp_region_lit ?_
  refine sq (v := v0) hF11 (wantedS rfl) (run_mv rfl (hF11.ev 4 rfl)) rfl (by decide) fun a12 hF12 => ?_
  refine sqRow (cs := #[.string ⟨List.toArray [104, 105, 98, 112]⟩]) (t := 9) (m := 1) hF12 hM1 (wantedS rfl) (run_strs1 rfl rfl) rfl (by decide) fun g1 a13 w2 hgg1 hb2 hF13 hM2 => ?_
  have hO2 := hO1.add (S := isB 9 #[.string ⟨List.toArray [104, 105, 98, 112]⟩]) hb2 hgg1
  refine sqAppend (news := [.string ⟨List.toArray [104, 105, 98, 112]⟩]) elStr hF13 hM2 hO2 rfl rfl (hF13.ev 20 rfl) (hF13.ev 21 rfl) rfl (blkNews (hM2.at 0 rfl)) (all_one rfl) (by unfold maxLen; omega) (by omega) rfl (by decide) fun v2 a14 w3 hO3 hM3 hnilv2 hF14 => ?_
  refine sq (v := v2) hF14 (wantedS rfl) (run_as rfl (hF14.ev 22 rfl)) rfl (by decide) fun a15 hF15 => ?_
  refine sqEnd ?_
  clear hF11 hF12 hF13 hF14 hM1 hM2
  refine nx ?_
  refine wp_seq ?_
  refine wp_region_lit ?_
  refine sq (v := v) hF15 (wantedS rfl) (run_mv rfl (hF15.ev 0 rfl)) rfl (by decide) fun a16 hF16 => ?_
  refine sq (v := (.int .i64 (l.length : Int))) hF16 (wantedS rfl) (run_lenS rfl (hF16.ev 23 rfl) (hV.below hM3.below) rfl Try.underlying22) rfl (by decide) fun a17 hF17 => ?_
  refine sqMakeSet hF17 hM3 rfl rfl (fun q hq => by injection hq with hq; subst hq; exact ⟨_, _, (hF17.ev 24 rfl)⟩) rfl (by decide) fun g3 a18 w4 hgg3 hb4 hF18 hM4 => ?_
  have hO4 := hO3.add (S := isSet []) hb4 hgg3
  refine sq (v := (.map (some g3))) hF18 (wantedS rfl) (run_as rfl (hF18.ev 25 rfl)) rfl (by decide) fun a19 hF19 => ?_
  refine sqEnd ?_
  clear hF15 hF16 hF17 hF18 hM3
  refine nx ?_
  refine wp_seq ?_
  refine wp_seq ?_
  refine wp_region_lit ?_
  refine sq (v := v) hF19 (wantedS rfl) (run_mv rfl (hF19.ev 0 rfl)) rfl (by decide) fun a20 hF20 => ?_
  refine sq (v := (.int .i64 (l.length : Int))) hF20 (wantedS rfl) (run_lenS rfl (hF20.ev 26 rfl) (hV.below hM4.below) rfl Try.underlying22) rfl (by decide) fun a21 hF21 => ?_
  refine sq (v := (.int .i64 0)) hF21 (wantedS rfl) (run_mv rfl rfl) rfl (by decide) fun a22 hF22 => ?_
  refine sqEnd ?_
  clear hF19 hF20 hF21
  refine nx ?_
  refine wp_block ?_
  refine wkLoop (fun m a w2 => ∃ (i : Nat) (r : Value), i ≤ l.length ∧ m = l.length - i ∧ namesS l = namesF ((l.take i).map (·.1)) (l.drop i) ∧ OwnR w [(g3, isSet ((l.take i).map (·.1)))] w2 9 1 r (hibp :: textsB (l.take i)).length ((hibp :: textsB (l.take i)).map tx) ∧ Fr a 65 [(0, v), (4, r), (5, .map (some g3)), (26, v), (27, .int .i64 (l.length : Int)), (28, .int .i64 (i : Int))] ∧ Mem w [(g3, isSet ((l.take i).map (·.1)))] w2) l.length ⟨0, v2, Nat.zero_le _, rfl, rfl, hO4.sub (.cons_cons _ (.cons _ .slnil)), hF22.sub ⟨rfl, rfl, rfl, rfl, rfl, rfl, trivial⟩, hM4.sub (.cons_cons _ (.cons _ .slnil))⟩ ?_
  rintro m a0 w1 ⟨i, r, hi, rfl, hnm, hO0, hF0, hM0⟩
  have htl : (hibp :: textsB (l.take i)).length = 1 + 2 * i := by rw [List.length_cons, textsB_len, List.length_take]; omega
  have hml : ((l.take i).map (·.1)).length = i := by rw [List.length_map, List.length_take]; omega
  obtain ⟨nms, hnms⟩ : ∃ nms, (l.take i).map (·.1) = nms := ⟨_, rfl⟩
  rw [hnms] at hnm hO0 hM0 hml
  by_cases hlt : i < l.length
  · obtain ⟨x, hx⟩ : ∃ x, l[i]? = some x := ⟨l[i], by simp [hlt]⟩
    have hbx := box_le l i hx
    rw [namesF_step _ l i hx] at hnm
    by_cases hmay : mayS nms x.1 = 0
    · rw [if_pos hmay] at hnm
      refine wp_seq ?_
      refine wp_region_lit ?_
      refine sq (v := (.bool true)) hF0 (wantedS rfl) (run_lss rfl (hF0.ev 28 rfl) (hF0.ev 27 rfl) (decide_eq_true (by omega))) rfl (by decide) fun a1 hF1 => ?_
      refine sqEnd ?_
      clear hF0
      refine nx ?_
      refine wp_seq ?_
      refine wp_cond_true (hF1.ev 29 rfl) ?_
      refine wp_skip ?_
      refine nx ?_
      refine wp_seq ?_
      refine wp_block ?_
      refine wp_seq ?_
      refine wp_region_lit ?_
      refine sq (v := (slPtr v (i * 2))) hF1 (wantedS rfl) (run_atP (i := i) rfl (hF1.ev 26 rfl) (hF1.ev 28 rfl) rfl (hV.below hM0.below) (by omega) elBox.un (by kernel_rfl)) rfl (by decide) fun a2 hF2 => ?_
      refine sq (v := (.agg #[.string ⟨x.1.toArray⟩, .string ⟨x.2.toArray⟩])) hF2 (wantedS rfl) (run_ldPS (ys := boxC x) rfl (hF2.ev 30 rfl) (hV.below hM0.below) (by omega) (fun j u hj => flat_at boxC_len hx j hj) (by kernel_rfl) (by kernel_rfl)) rfl (by decide) fun a3 hF3 => ?_
      refine sqNew (cs := #[.string ⟨List.toArray []⟩, .string ⟨List.toArray []⟩]) (t := 29) hF3 hM0 (wantedS rfl) (run_alloc rfl (by kernel_rfl)) rfl (by decide) fun g4 a4 w2 hgg4 hb2 hF4 hM1 => ?_
      have hO1 := hO0.add (S := isB 29 (#[.string ⟨List.toArray []⟩, .string ⟨List.toArray []⟩])) hb2 hgg4
      refine sqStoreG (i := 0) hF4 hM1 rfl rfl rfl (hF4.ev 7 rfl) (hF4.ev 31 rfl) rfl szBox rfl rfl (arr_one rfl) fun a5 w3 hgr3 hF5 hM2 => ?_
      have hO2 := hO1.upd 0 (S2 := isB 29 (#[.string ⟨x.1.toArray⟩, .string ⟨x.2.toArray⟩])) rfl hgr3
      refine sqEnd ?_
      clear hF1 hF2 hF3 hF4 hM0 hM1
      refine nx ?_
      refine wp_seq ?_
      refine wp_seq ?_
      refine wp_region_lit ?_
      refine sq (v := (.map (some g3))) hF5 (wantedS rfl) (run_mv rfl (hF5.ev 5 rfl)) rfl (by decide) fun a6 hF6 => ?_
      refine sq (v := (.pointer (some ⟨g4, 0, none⟩))) hF6 (wantedS rfl) (run_fldA (m := 1) (s := 0) rfl (hF6.ev 7 rfl) Try.underlying29 rfl rfl (by kernel_rfl) (by decide)) rfl (by decide) fun a7 hF7 => ?_
      refine sq (v := (.string ⟨x.1.toArray⟩)) hF7 (wantedS rfl) (run_ldF rfl (hF7.ev 33 rfl) (hM2.at 0 rfl) rfl (by kernel_rfl)) rfl (by decide) fun a8 hF8 => ?_
      refine sqC (v := (.int .i64 (mayS nms x.1))) hF8 hM2 (wantedS rfl) (run_call rfl Try.func13 (by kernel_rfl) rfl (mapE2 (hF8.ev 32 rfl) (hF8.ev 34 rfl))) rfl (by decide) (may_any g3 nms x.1 w3 (hM2.ob 1 rfl) (by first | omega | decide | (simp; omega))) fun a9 w4 hb4 hF9 hM3 => ?_
      have hO3 := hO2.grow hb4
      refine sq (v := (.int .i64 (mayS nms x.1))) hF9 (wantedS rfl) (run_as rfl (hF9.ev 35 rfl)) rfl (by decide) fun a10 hF10 => ?_
      refine sqEnd ?_
      clear hF5 hF6 hF7 hF8 hF9 hM2
      refine nx ?_
      refine wp_seq ?_
      refine wp_region_lit ?_
      refine sq (v := (.int .i64 (mayS nms x.1))) hF10 (wantedS rfl) (run_mv rfl (hF10.ev 8 rfl)) rfl (by decide) fun a11 hF11 => ?_
      refine sq (v := (.bool false)) hF11 (wantedS rfl) (run_nei rfl (hF11.ev 36 rfl) rfl (bne_eq_false_iff_eq.2 (by omega))) rfl (by decide) fun a12 hF12 => ?_
      refine sqEnd ?_
      clear hF10 hF11
      refine nx ?_
      refine wp_cond_false (hF12.ev 37 rfl) ?_
      refine wp_skip ?_
      refine nx ?_
      refine wp_seq ?_
      refine wp_region_lit ?_
      refine sq (v := (.map (some g3))) hF12 (wantedS rfl) (run_mv rfl (hF12.ev 5 rfl)) rfl (by decide) fun a13 hF13 => ?_
      refine sq (v := (.pointer (some ⟨g4, 0, none⟩))) hF13 (wantedS rfl) (run_fldA (m := 1) (s := 0) rfl (hF13.ev 7 rfl) Try.underlying29 rfl rfl (by kernel_rfl) (by decide)) rfl (by decide) fun a14 hF14 => ?_
      refine sq (v := (.string ⟨x.1.toArray⟩)) hF14 (wantedS rfl) (run_ldF rfl (hF14.ev 40 rfl) (hM3.at 0 rfl) rfl (by kernel_rfl)) rfl (by decide) fun a15 hF15 => ?_
      refine sqSetAdd (i := 1) hF15 hM3 rfl rfl rfl (hF15.ev 39 rfl) (hF15.ev 41 rfl) rfl rfl (by unfold maxLen; omega) (by unfold maxLen; omega) fun a16 w5 hgr5 hF16 hM4 => ?_
      have hO4 := hO3.upd 1 (S2 := isSet (nms ++ [x.1])) rfl hgr5
      refine sqEnd ?_
      clear hF12 hF13 hF14 hF15 hM3
      refine nx ?_
      refine wp_region_lit ?_
      refine sq (v := r) hF16 (wantedS rfl) (run_mv rfl (hF16.ev 4 rfl)) rfl (by decide) fun a17 hF17 => ?_
      refine sq (v := (.pointer (some ⟨g4, 0, none⟩))) hF17 (wantedS rfl) (run_fldA (m := 1) (s := 0) rfl (hF17.ev 7 rfl) Try.underlying29 rfl rfl (by kernel_rfl) (by decide)) rfl (by decide) fun a18 hF18 => ?_
      refine sq (v := (.string ⟨x.1.toArray⟩)) hF18 (wantedS rfl) (run_ldF rfl (hF18.ev 43 rfl) (hM4.at 0 rfl) rfl (by kernel_rfl)) rfl (by decide) fun a19 hF19 => ?_
      refine sq (v := (.pointer (some ⟨g4, 1, none⟩))) hF19 (wantedS rfl) (run_fldA (m := 1) (s := 1) rfl (hF19.ev 7 rfl) Try.underlying29 rfl rfl (by kernel_rfl) (by decide)) rfl (by decide) fun a20 hF20 => ?_
      refine sq (v := (.string ⟨x.2.toArray⟩)) hF20 (wantedS rfl) (run_ldF rfl (hF20.ev 45 rfl) (hM4.at 0 rfl) rfl (by kernel_rfl)) rfl (by decide) fun a21 hF21 => ?_
      refine sqRow (cs := #[.string ⟨x.1.toArray⟩, .string ⟨x.2.toArray⟩]) (t := 9) (m := 2) hF21 hM4 (wantedS rfl) (run_strs2 rfl (hF21.ev 44 rfl) (hF21.ev 46 rfl)) rfl (by decide) fun g5 a22 w6 hgg5 hb6 hF22 hM5 => ?_
      have hO5 := hO4.add (S := isB 9 #[.string ⟨x.1.toArray⟩, .string ⟨x.2.toArray⟩]) hb6 hgg5
      refine sqAppend (news := [.string ⟨x.1.toArray⟩, .string ⟨x.2.toArray⟩]) elStr hF22 hM5 hO5 rfl rfl (hF22.ev 42 rfl) (hF22.ev 47 rfl) rfl (blkNews (hM5.at 0 rfl)) (all_one rfl) (by unfold maxLen; omega) (by omega) rfl (by decide) fun v6 a23 w7 hO6 hM6 hnilv6 hF23 => ?_
      refine sq (v := v6) hF23 (wantedS rfl) (run_as rfl (hF23.ev 48 rfl)) rfl (by decide) fun a24 hF24 => ?_
      refine sqEnd ?_
      clear hF16 hF17 hF18 hF19 hF20 hF21 hF22 hF23 hM4 hM5
      refine bkEnd ?_
      refine nx ?_
      refine wp_region_lit ?_
      refine sq (v := (.int .i64 ((i + 1 : Nat) : Int))) hF24 (wantedS rfl) (run_add (r := ((i + 1 : Nat) : Int)) rfl (hF24.ev 28 rfl) rfl (by rw [IntKind.wrap_i64]; omega)) rfl (by decide) fun a25 hF25 => ?_
      refine sq (v := (.int .i64 ((i + 1 : Nat) : Int))) hF25 (wantedS rfl) (run_mv rfl (hF25.ev 49 rfl)) rfl (by decide) fun a26 hF26 => ?_
      refine sqEnd ?_
      clear hF24 hF25
      refine nx ?_
      refine ⟨_, by omega, i + 1, v6, by omega, rfl, ?_, ?_, hF26.sub ⟨rfl, rfl, rfl, rfl, rfl, rfl, trivial⟩, ?_⟩
      · rw [map_snoc l i hx, hnms]; exact hnm
      · rw [map_snoc l i hx, hnms, textsB_snoc l i hx, ← List.cons_append, List.map_append, List.length_append]; exact hO6.sub (.cons _ (.cons _ (.cons_cons _ .slnil)))
      · rw [map_snoc l i hx, hnms]; exact hM6.sub (.cons _ (.cons _ (.cons_cons _ .slnil)))
    · rw [if_neg hmay] at hnm
      have hmk : makeS l = ([], mayS nms x.1) := by unfold makeS; rw [if_neg hl, if_pos (by rw [hnm]; exact hmay), hnm]
      refine wp_seq ?_
      refine wp_region_lit ?_
      refine sq (v := (.bool true)) hF0 (wantedS rfl) (run_lss rfl (hF0.ev 28 rfl) (hF0.ev 27 rfl) (decide_eq_true (by omega))) rfl (by decide) fun a1 hF1 => ?_
      refine sqEnd ?_
      clear hF0
      refine nx ?_
      refine wp_seq ?_
      refine wp_cond_true (hF1.ev 29 rfl) ?_
      refine wp_skip ?_
      refine nx ?_
      refine wp_seq ?_
      refine wp_block ?_
      refine wp_seq ?_
      refine wp_region_lit ?_
      refine sq (v := (slPtr v (i * 2))) hF1 (wantedS rfl) (run_atP (i := i) rfl (hF1.ev 26 rfl) (hF1.ev 28 rfl) rfl (hV.below hM0.below) (by omega) elBox.un (by kernel_rfl)) rfl (by decide) fun a2 hF2 => ?_
      refine sq (v := (.agg #[.string ⟨x.1.toArray⟩, .string ⟨x.2.toArray⟩])) hF2 (wantedS rfl) (run_ldPS (ys := boxC x) rfl (hF2.ev 30 rfl) (hV.below hM0.below) (by omega) (fun j u hj => flat_at boxC_len hx j hj) (by kernel_rfl) (by kernel_rfl)) rfl (by decide) fun a3 hF3 => ?_
      refine sqNew (cs := #[.string ⟨List.toArray []⟩, .string ⟨List.toArray []⟩]) (t := 29) hF3 hM0 (wantedS rfl) (run_alloc rfl (by kernel_rfl)) rfl (by decide) fun g7 a4 w2 hgg7 hb2 hF4 hM1 => ?_
      have hO1 := hO0.add (S := isB 29 (#[.string ⟨List.toArray []⟩, .string ⟨List.toArray []⟩])) hb2 hgg7
      refine sqStoreG (i := 0) hF4 hM1 rfl rfl rfl (hF4.ev 7 rfl) (hF4.ev 31 rfl) rfl szBox rfl rfl (arr_one rfl) fun a5 w3 hgr3 hF5 hM2 => ?_
      have hO2 := hO1.upd 0 (S2 := isB 29 (#[.string ⟨x.1.toArray⟩, .string ⟨x.2.toArray⟩])) rfl hgr3
      refine sqEnd ?_
      clear hF1 hF2 hF3 hF4 hM0 hM1
      refine nx ?_
      refine wp_seq ?_
      refine wp_seq ?_
      refine wp_region_lit ?_
      refine sq (v := (.map (some g3))) hF5 (wantedS rfl) (run_mv rfl (hF5.ev 5 rfl)) rfl (by decide) fun a6 hF6 => ?_
      refine sq (v := (.pointer (some ⟨g7, 0, none⟩))) hF6 (wantedS rfl) (run_fldA (m := 1) (s := 0) rfl (hF6.ev 7 rfl) Try.underlying29 rfl rfl (by kernel_rfl) (by decide)) rfl (by decide) fun a7 hF7 => ?_
      refine sq (v := (.string ⟨x.1.toArray⟩)) hF7 (wantedS rfl) (run_ldF rfl (hF7.ev 33 rfl) (hM2.at 0 rfl) rfl (by kernel_rfl)) rfl (by decide) fun a8 hF8 => ?_
      refine sqC (v := (.int .i64 (mayS nms x.1))) hF8 hM2 (wantedS rfl) (run_call rfl Try.func13 (by kernel_rfl) rfl (mapE2 (hF8.ev 32 rfl) (hF8.ev 34 rfl))) rfl (by decide) (may_any g3 nms x.1 w3 (hM2.ob 1 rfl) (by first | omega | decide | (simp; omega))) fun a9 w4 hb4 hF9 hM3 => ?_
      have hO3 := hO2.grow hb4
      refine sq (v := (.int .i64 (mayS nms x.1))) hF9 (wantedS rfl) (run_as rfl (hF9.ev 35 rfl)) rfl (by decide) fun a10 hF10 => ?_
      refine sqEnd ?_
      clear hF5 hF6 hF7 hF8 hF9 hM2
      refine nx ?_
      refine wp_seq ?_
      refine wp_region_lit ?_
      refine sq (v := (.int .i64 (mayS nms x.1))) hF10 (wantedS rfl) (run_mv rfl (hF10.ev 8 rfl)) rfl (by decide) fun a11 hF11 => ?_
      refine sq (v := (.bool true)) hF11 (wantedS rfl) (run_nei rfl (hF11.ev 36 rfl) rfl (bne_iff_ne.2 (by omega))) rfl (by decide) fun a12 hF12 => ?_
      refine sqEnd ?_
      clear hF10 hF11
      refine nx ?_
      refine wp_cond_true (hF12.ev 37 rfl) ?_
      refine wp_seq ?_
      refine wp_region_lit ?_
      refine sq (v := (.int .i64 (mayS nms x.1))) hF12 (wantedS rfl) (run_mv rfl (hF12.ev 8 rfl)) rfl (by decide) fun a13 hF13 => ?_
      refine sq (v := (.string ⟨List.toArray []⟩)) hF13 (wantedS rfl) (run_as rfl rfl) rfl (by decide) fun a14 hF14 => ?_
      refine sq (v := (.int .i64 (mayS nms x.1))) hF14 (wantedS rfl) (run_as rfl (hF14.ev 38 rfl)) rfl (by decide) fun a15 hF15 => ?_
      refine sqEnd ?_
      clear hF12 hF13 hF14
      refine nx ?_
      refine wp_ret ?_
      refine nxRet ?_
      refine bkRet ?_
      refine nxRet ?_
      refine nxRet ?_
      refine bkRet ?_
      refine nxRet ?_
      exact ret2 hF15 rfl rfl rfl ⟨by rw [hmk], hM3.below⟩
  · have hie : i = l.length := by omega
    have hn0 : namesS l = 0 := by rw [hnm, hie, List.drop_length]; rfl
    obtain ⟨X, hX⟩ : ∃ X, hibp :: textsB l = X := ⟨_, rfl⟩
    rw [hie, List.take_length, hX] at hO0 htl
    have hfl : X.flatten.length < 2 ^ 42 := by rw [← hX, List.flatten_cons, List.length_append]; have : hibp.length = 4 := rfl; omega
    have hby : bytesS l = rowS X := by unfold bytesS; rw [hX]
    refine wp_seq ?_
    refine wp_region_lit ?_
    refine sq (v := (.bool false)) hF0 (wantedS rfl) (run_lss rfl (hF0.ev 28 rfl) (hF0.ev 27 rfl) (decide_eq_false (by omega))) rfl (by decide) fun a1 hF1 => ?_
    refine sqEnd ?_
    clear hF0
    refine nx ?_
    refine wp_seq ?_
    refine wp_cond_false (hF1.ev 29 rfl) ?_
    refine wp_exit ?_
    refine nxExit ?_
    refine nxExit ?_
    refine bkHere ?_
    refine nx ?_
    refine wp_seq ?_
    refine wp_region_lit ?_
    refine sq (v := (.int .i64 0)) hF1 (wantedS rfl) (run_as rfl rfl) rfl (by decide) fun a2 hF2 => ?_
    refine sqEnd ?_
    clear hF1
    refine nx ?_
    refine wp_seq ?_
    refine wp_seq ?_
    refine wp_region_lit ?_
    refine sq (v := r) hF2 (wantedS rfl) (run_mv rfl (hF2.ev 4 rfl)) rfl (by decide) fun a3 hF3 => ?_
    refine sq (v := (.int .i64 (X.length : Int))) hF3 (wantedS rfl) (run_lenS rfl (hF3.ev 50 rfl) (Sl.own hO0) rfl Try.underlying42) rfl (by decide) fun a4 hF4 => ?_
    refine sq (v := (.int .i64 0)) hF4 (wantedS rfl) (run_mv rfl rfl) rfl (by decide) fun a5 hF5 => ?_
    refine sqEnd ?_
    clear hF2 hF3 hF4
    refine nx ?_
    refine wp_block ?_
    have hMs := hM0.sub (M2 := []) (List.nil_sublist _)
    have hOs := hO0.sub (M2 := []) (List.nil_sublist _)
    refine wkLoop (fun m a w2 => ∃ j z : Nat, j ≤ X.length ∧ m = X.length - j ∧ z = ((X.take j).map rowedS).sum ∧ z ≤ 65536 ∧ OwnR w [] w2 9 1 r X.length (X.map tx) ∧ Fr a 65 [(4, r), (9, .int .i64 (z : Int)), (50, r), (51, .int .i64 (X.length : Int)), (52, .int .i64 (j : Int))] ∧ Mem w [] w2) X.length ⟨0, 0, Nat.zero_le _, rfl, rfl, by omega, hOs, hF5.sub ⟨rfl, rfl, rfl, rfl, rfl, trivial⟩, hMs⟩ ?_
    rintro m a0 w1 ⟨j, z, hj, rfl, hz, hz6, hO0, hF0, hM0⟩
    by_cases hlt : j < X.length
    · obtain ⟨y, hy⟩ : ∃ y, X[j]? = some y := ⟨X[j], by simp [hlt]⟩
      have hyl := elem_le X j hy
      have hsn := sum_snoc X j hy
      have hyb : rowedS y ≤ y.length + 6 := by unfold rowedS; have := lenB_bound y.length (by omega); omega
      by_cases hbig : 65536 < z + rowedS y
      · have hmk : makeS l = ([], 6) := by
          unfold makeS
          rw [if_neg hl, if_neg (by rw [hn0]; decide), if_pos ?_]
          rw [hby, rowS_sum]
          have := sum_take (X.map rowedS) (j + 1)
          rw [← List.map_take, hsn] at this
          omega
        refine wp_seq ?_
        refine wp_region_lit ?_
        refine sq (v := (.bool true)) hF0 (wantedS rfl) (run_lss rfl (hF0.ev 52 rfl) (hF0.ev 51 rfl) (decide_eq_true (by omega))) rfl (by decide) fun a1 hF1 => ?_
        refine sqEnd ?_
        clear hF0
        refine nx ?_
        refine wp_seq ?_
        refine wp_cond_true (hF1.ev 53 rfl) ?_
        refine wp_skip ?_
        refine nx ?_
        refine wp_seq ?_
        refine wp_block ?_
        refine wp_seq ?_
        refine wp_region_lit ?_
        refine sq (v := (slPtr r (j * 1))) hF1 (wantedS rfl) (run_atP (i := j) rfl (hF1.ev 50 rfl) (hF1.ev 52 rfl) rfl (Sl.own hO0) (by omega) elStr.un (by kernel_rfl)) rfl (by decide) fun a2 hF2 => ?_
        refine sq (v := (.string ⟨y.toArray⟩)) hF2 (wantedS rfl) (run_ldP rfl (hF2.ev 54 rfl) (Sl.own hO0) (map_at hy) (by kernel_rfl)) rfl (by decide) fun a3 hF3 => ?_
        refine sq (v := (.string ⟨y.toArray⟩)) hF3 (wantedS rfl) (run_as rfl (hF3.ev 55 rfl)) rfl (by decide) fun a4 hF4 => ?_
        refine sqEnd ?_
        clear hF1 hF2 hF3
        refine nx ?_
        refine wp_seq ?_
        refine wp_region_lit ?_
        refine sq (v := (.int .i64 (z : Int))) hF4 (wantedS rfl) (run_mv rfl (hF4.ev 9 rfl)) rfl (by decide) fun a5 hF5 => ?_
        refine sq (v := (.string ⟨y.toArray⟩)) hF5 (wantedS rfl) (run_mv rfl (hF5.ev 11 rfl)) rfl (by decide) fun a6 hF6 => ?_
        refine sqC (v := (.int .i64 (rowedS y : Int))) hF6 hM0 (wantedS rfl) (run_call rfl Try.func14 (by kernel_rfl) rfl (mapE1 (hF6.ev 57 rfl))) rfl (by decide) (rowed_any y w1 (by first | omega | decide | (simp; omega))) fun a7 w2 hb2 hF7 hM1 => ?_
        have hO1 := hO0.grow hb2
        refine sq (v := (.int .i64 ((z + rowedS y : Nat) : Int))) hF7 (wantedS rfl) (run_add (r := ((z + rowedS y : Nat) : Int)) rfl (hF7.ev 56 rfl) (hF7.ev 58 rfl) (by rw [IntKind.wrap_i64]; omega)) rfl (by decide) fun a8 hF8 => ?_
        refine sq (v := (.int .i64 ((z + rowedS y : Nat) : Int))) hF8 (wantedS rfl) (run_as rfl (hF8.ev 59 rfl)) rfl (by decide) fun a9 hF9 => ?_
        refine sqEnd ?_
        clear hF4 hF5 hF6 hF7 hF8 hM0
        refine nx ?_
        refine wp_seq ?_
        refine wp_region_lit ?_
        refine sq (v := (.int .i64 ((z + rowedS y : Nat) : Int))) hF9 (wantedS rfl) (run_mv rfl (hF9.ev 9 rfl)) rfl (by decide) fun a10 hF10 => ?_
        refine sq (v := (.bool true)) hF10 (wantedS rfl) (run_gtr rfl (hF10.ev 60 rfl) rfl (decide_eq_true (by omega))) rfl (by decide) fun a11 hF11 => ?_
        refine sqEnd ?_
        clear hF9 hF10
        refine nx ?_
        refine wp_cond_true (hF11.ev 61 rfl) ?_
        refine wp_seq ?_
        refine wp_region_lit ?_
        refine sq (v := (.string ⟨List.toArray []⟩)) hF11 (wantedS rfl) (run_as rfl rfl) rfl (by decide) fun a12 hF12 => ?_
        refine sq (v := (.int .i64 6)) hF12 (wantedS rfl) (run_as rfl rfl) rfl (by decide) fun a13 hF13 => ?_
        refine sqEnd ?_
        clear hF11 hF12
        refine nx ?_
        refine wp_ret ?_
        refine bkRet ?_
        refine nxRet ?_
        refine nxRet ?_
        refine bkRet ?_
        refine nxRet ?_
        exact ret2 hF13 rfl rfl rfl ⟨by rw [hmk], hM1.below⟩
      · skip
        refine wp_seq ?_
        refine wp_region_lit ?_
        refine sq (v := (.bool true)) hF0 (wantedS rfl) (run_lss rfl (hF0.ev 52 rfl) (hF0.ev 51 rfl) (decide_eq_true (by omega))) rfl (by decide) fun a1 hF1 => ?_
        refine sqEnd ?_
        clear hF0
        refine nx ?_
        refine wp_seq ?_
        refine wp_cond_true (hF1.ev 53 rfl) ?_
        refine wp_skip ?_
        refine nx ?_
        refine wp_seq ?_
        refine wp_block ?_
        refine wp_seq ?_
        refine wp_region_lit ?_
        refine sq (v := (slPtr r (j * 1))) hF1 (wantedS rfl) (run_atP (i := j) rfl (hF1.ev 50 rfl) (hF1.ev 52 rfl) rfl (Sl.own hO0) (by omega) elStr.un (by kernel_rfl)) rfl (by decide) fun a2 hF2 => ?_
        refine sq (v := (.string ⟨y.toArray⟩)) hF2 (wantedS rfl) (run_ldP rfl (hF2.ev 54 rfl) (Sl.own hO0) (map_at hy) (by kernel_rfl)) rfl (by decide) fun a3 hF3 => ?_
        refine sq (v := (.string ⟨y.toArray⟩)) hF3 (wantedS rfl) (run_as rfl (hF3.ev 55 rfl)) rfl (by decide) fun a4 hF4 => ?_
        refine sqEnd ?_
        clear hF1 hF2 hF3
        refine nx ?_
        refine wp_seq ?_
        refine wp_region_lit ?_
        refine sq (v := (.int .i64 (z : Int))) hF4 (wantedS rfl) (run_mv rfl (hF4.ev 9 rfl)) rfl (by decide) fun a5 hF5 => ?_
        refine sq (v := (.string ⟨y.toArray⟩)) hF5 (wantedS rfl) (run_mv rfl (hF5.ev 11 rfl)) rfl (by decide) fun a6 hF6 => ?_
        refine sqC (v := (.int .i64 (rowedS y : Int))) hF6 hM0 (wantedS rfl) (run_call rfl Try.func14 (by kernel_rfl) rfl (mapE1 (hF6.ev 57 rfl))) rfl (by decide) (rowed_any y w1 (by first | omega | decide | (simp; omega))) fun a7 w2 hb2 hF7 hM1 => ?_
        have hO1 := hO0.grow hb2
        refine sq (v := (.int .i64 ((z + rowedS y : Nat) : Int))) hF7 (wantedS rfl) (run_add (r := ((z + rowedS y : Nat) : Int)) rfl (hF7.ev 56 rfl) (hF7.ev 58 rfl) (by rw [IntKind.wrap_i64]; omega)) rfl (by decide) fun a8 hF8 => ?_
        refine sq (v := (.int .i64 ((z + rowedS y : Nat) : Int))) hF8 (wantedS rfl) (run_as rfl (hF8.ev 59 rfl)) rfl (by decide) fun a9 hF9 => ?_
        refine sqEnd ?_
        clear hF4 hF5 hF6 hF7 hF8 hM0
        refine nx ?_
        refine wp_seq ?_
        refine wp_region_lit ?_
        refine sq (v := (.int .i64 ((z + rowedS y : Nat) : Int))) hF9 (wantedS rfl) (run_mv rfl (hF9.ev 9 rfl)) rfl (by decide) fun a10 hF10 => ?_
        refine sq (v := (.bool false)) hF10 (wantedS rfl) (run_gtr rfl (hF10.ev 60 rfl) rfl (decide_eq_false (by omega))) rfl (by decide) fun a11 hF11 => ?_
        refine sqEnd ?_
        clear hF9 hF10
        refine nx ?_
        refine wp_cond_false (hF11.ev 61 rfl) ?_
        refine wp_skip ?_
        refine bkEnd ?_
        refine nx ?_
        refine wp_region_lit ?_
        refine sq (v := (.int .i64 ((j + 1 : Nat) : Int))) hF11 (wantedS rfl) (run_add (r := ((j + 1 : Nat) : Int)) rfl (hF11.ev 52 rfl) rfl (by rw [IntKind.wrap_i64]; omega)) rfl (by decide) fun a12 hF12 => ?_
        refine sq (v := (.int .i64 ((j + 1 : Nat) : Int))) hF12 (wantedS rfl) (run_mv rfl (hF12.ev 62 rfl)) rfl (by decide) fun a13 hF13 => ?_
        refine sqEnd ?_
        clear hF11 hF12
        refine nx ?_
        exact ⟨_, by omega, j + 1, z + rowedS y, by omega, rfl, by rw [hsn, hz], by omega, hO1, hF13.sub ⟨rfl, rfl, rfl, rfl, rfl, trivial⟩, hM1⟩
    · have hje : j = X.length := by omega
      have hmk : makeS l = (rowS X, 0) := by
        unfold makeS
        rw [if_neg hl, if_neg (by rw [hn0]; decide), if_neg ?_, hby]
        rw [hby, rowS_sum]
        rw [hz, hje, List.take_length] at hz6
        omega
      refine wp_seq ?_
      refine wp_region_lit ?_
      refine sq (v := (.bool false)) hF0 (wantedS rfl) (run_lss rfl (hF0.ev 52 rfl) (hF0.ev 51 rfl) (decide_eq_false (by omega))) rfl (by decide) fun a1 hF1 => ?_
      refine sqEnd ?_
      clear hF0
      refine nx ?_
      refine wp_seq ?_
      refine wp_cond_false (hF1.ev 53 rfl) ?_
      refine wp_exit ?_
      refine nxExit ?_
      refine nxExit ?_
      refine bkHere ?_
      refine nx ?_
      refine wp_seq ?_
      refine wp_region_lit ?_
      refine sq (v := r) hF1 (wantedS rfl) (run_mv rfl (hF1.ev 4 rfl)) rfl (by decide) fun a2 hF2 => ?_
      refine sqC (v := (.string ⟨(rowS X).toArray⟩)) hF2 hM0 (wantedS rfl) (run_call rfl Try.func12 (by kernel_rfl) rfl (mapE1 (hF2.ev 63 rfl))) rfl (by decide) (nrow_any X _ w1 (Sl.own hO0).strs (by omega) (by omega)) fun a3 w2 hb2 hF3 hM1 => ?_
      have hO1 := hO0.grow hb2
      refine sq (v := (.string ⟨(rowS X).toArray⟩)) hF3 (wantedS rfl) (run_as rfl (hF3.ev 64 rfl)) rfl (by decide) fun a4 hF4 => ?_
      refine sq (v := (.int .i64 0)) hF4 (wantedS rfl) (run_as rfl rfl) rfl (by decide) fun a5 hF5 => ?_
      refine sqEnd ?_
      clear hF1 hF2 hF3 hF4 hM0
      refine nx ?_
      refine wp_ret ?_
      exact ret2 hF5 rfl rfl rfl ⟨by rw [hmk], hM1.below⟩
end Go.Proofs.Ytnkklogkjnfjgaa
