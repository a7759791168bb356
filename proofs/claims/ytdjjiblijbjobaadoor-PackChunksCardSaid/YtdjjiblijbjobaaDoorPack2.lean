/- The walk of pack.Make. Printed by gen_pack2.py. -/
import Derived.Test.YtdjjiblijbjobaaDoorPack1
import Derived.Test.YtdjjiblijbjobaaDoorEqBox
namespace Go.Proofs.YtdjjiblijbjobaaDoor
open Go.RowKit

theorem elBox : ElT Tryd.prog 58 36 2 32 := by
  obtain ⟨i, h1, h2, h3, h4⟩ := info_parts (show (Tryd.prog.info? 36).map (fun i => (i.zero, i.size, i.bytes)) = some (some (.agg #[.string ⟨#[]⟩, .string ⟨#[]⟩]), 2, 32) by kernel_rfl)
  exact ⟨Tryd.underlying58, ⟨i, _, h1, h2, h3, h4, rfl⟩, by decide⟩
theorem box_le (l : List Bx) (i : Nat) {x : Bx} (hx : l[i]? = some x) : x.1.length + x.2.length ≤ (textsB l).flatten.length := by
  induction l generalizing i with
  | nil => simp at hx
  | cons b l ih =>
    have h : textsB (b :: l) = b.1 :: b.2 :: textsB l := rfl
    rw [h, List.flatten_cons, List.flatten_cons, List.length_append, List.length_append]
    cases i with
    | zero => simp only [List.getElem?_cons_zero, Option.some.injEq] at hx; subst hx; omega
    | succ i => rw [List.getElem?_cons_succ] at hx; have := ih i hx; omega
theorem sum_take (l : List Nat) (j : Nat) : (l.take j).sum ≤ l.sum := by
  rw [← List.take_append_drop j l, List.sum_append, List.take_append_drop]; omega
theorem sum_snoc (l : List (List UInt8)) (j : Nat) {x : List UInt8} (hx : l[j]? = some x) : ((l.take (j + 1)).map rowedS).sum = ((l.take j).map rowedS).sum + rowedS x := by
  obtain ⟨hl, rfl⟩ := List.getElem?_eq_some_iff.1 hx
  rw [List.take_succ_eq_append_getElem hl, List.map_append, List.sum_append]
  simp
theorem elem_le (l : List (List UInt8)) (j : Nat) {x : List UInt8} (hx : l[j]? = some x) : x.length ≤ l.flatten.length := by
  induction l generalizing j with
  | nil => simp at hx
  | cons b l ih =>
    rw [List.flatten_cons, List.length_append]
    cases j with
    | zero => simp only [List.getElem?_cons_zero, Option.some.injEq] at hx; subst hx; omega
    | succ j => rw [List.getElem?_cons_succ] at hx; have := ih j hx; omega
set_option maxRecDepth 100000 in
set_option maxHeartbeats 1000000 in
theorem pmake_any (l : List Bx) (v : Value) (w : World) (hV : Sl w v 2 l.length (l.flatMap boxC)) (hb : (textsB l).flatten.length < 2 ^ 42 - 4) (hn : l.length < 2 ^ 40) : Calls Tryd.prog 29 #[v] w fun e w' => e = .returned (.tuple #[.string ⟨(makeS l).1.toArray⟩, .int .i64 (makeS l).2]) ∧ Below w.heap.size w w' := by
  by_cases hl : l = []
  · have hmk : makeS l = ([], 1) := by unfold makeS; rw [if_pos hl]
    have hll : l.length = 0 := by rw [hl]; rfl
    refine walk_enter Tryd.func29 rfl rfl rfl fun a0 F0 => ?_
    have M0 := Mem.new w
    refine wsl ?_
    refine sr (v := (.string ⟨List.toArray []⟩)) F0 (run_as rfl rfl) rfl rfl rfl fun a1 F1 => ?_
    refine sr (v := (.int .i64 0)) F1 (run_as rfl rfl) rfl rfl rfl fun a2 F2 => ?_
    refine sn ?_
    clear F0 F1
    refine wp_seq ?_
    refine wsl ?_
    refine mvS F2 rfl rfl rfl rfl rfl fun a3 F3 => ?_
    refine sr F3 (run_lenS rfl (F3.ev 12 rfl) (hV.below M0.below) rfl Tryd.underlying58) rfl rfl rfl fun a4 F4 => ?_
    refine sr (v := (.bool true)) F4 (run_eqi rfl (F4.ev 13 rfl) rfl (beq_iff_eq.2 (by omega))) rfl rfl rfl fun a5 F5 => ?_
    refine sn ?_
    clear F2 F3 F4
    refine wp_cond_true (F5.ev 14 rfl) ?_
    refine wsl ?_
    refine sr (v := (.string ⟨List.toArray []⟩)) F5 (run_as rfl rfl) rfl rfl rfl fun a6 F6 => ?_
    refine sr (v := (.int .i64 1)) F6 (run_as rfl rfl) rfl rfl rfl fun a7 F7 => ?_
    refine sn ?_
    clear F5 F6
    refine wp_ret ?_
    refine nxRet ?_
    exact ret2 F7 rfl rfl rfl ⟨by rw [hmk], M0.below⟩
  have hll : 0 < l.length := List.length_pos_iff.2 hl
  refine walk_enter Tryd.func29 rfl rfl rfl fun a0 F0 => ?_
  have M0 := Mem.new w
  refine wsl ?_
  refine sr (v := (.string ⟨List.toArray []⟩)) F0 (run_as rfl rfl) rfl rfl rfl fun a1 F1 => ?_
  refine sr (v := (.int .i64 0)) F1 (run_as rfl rfl) rfl rfl rfl fun a2 F2 => ?_
  refine sn ?_
  clear F0 F1
  refine wp_seq ?_
  refine wsl ?_
  refine mvS F2 rfl rfl rfl rfl rfl fun a3 F3 => ?_
  refine sr F3 (run_lenS rfl (F3.ev 12 rfl) (hV.below M0.below) rfl Tryd.underlying58) rfl rfl rfl fun a4 F4 => ?_
  refine sr (v := (.bool false)) F4 (run_eqi rfl (F4.ev 13 rfl) rfl (beq_eq_false_iff_ne.2 (by omega))) rfl rfl rfl fun a5 F5 => ?_
  refine sn ?_
  clear F2 F3 F4
  refine cfs (F5.ev 14 rfl) ?_
  refine wsl ?_
  refine mvS F5 rfl rfl rfl rfl rfl fun a6 F6 => ?_
  refine sr F6 (run_lenS rfl (F6.ev 15 rfl) (hV.below M0.below) rfl Tryd.underlying58) rfl rfl rfl fun a7 F7 => ?_
  refine sr (v := (.int .i64 ((2 * l.length : Nat) : Int))) F7 (run_mul (r := ((2 * l.length : Nat) : Int)) rfl rfl (F7.ev 16 rfl) (by rw [IntKind.wrap_i64]; omega)) rfl rfl rfl fun a8 F8 => ?_
  refine sr F8 (run_add (r := ((1 + 2 * l.length : Nat) : Int)) rfl rfl (F8.ev 17 rfl) (by rw [IntKind.wrap_i64]; omega)) rfl rfl rfl fun a9 F9 => ?_
  refine sqMake (c := (1 + 2 * l.length)) elStr F9 M0 rfl rfl rfl (F9.ev 18 rfl) rfl (by omega) (by unfold maxLen; omega) rfl (by decide) fun v0 a10 w1 hO1 hb1 M1 F10 => ?_
  refine asS F10 rfl rfl rfl rfl rfl fun a11 F11 => ?_
  refine sn ?_
  clear F5 F6 F7 F8 F9 F10 M0
  refine wsl ?_
  refine mvS F11 rfl rfl rfl rfl rfl fun a12 F12 => ?_
  refine sqRow (cs := #[.string ⟨List.toArray [104, 105, 98, 112]⟩]) (t := 9) (m := 1) F12 M1 (wantedS rfl) (run_strs1 rfl rfl) rfl (by decide) fun g1 a13 w2 hgg1 hb2 F13 M2 => ?_
  have hO2 := hO1.add (S := isB 9 #[.string ⟨List.toArray [104, 105, 98, 112]⟩]) hb2 hgg1
  refine sqAppend (news := [.string ⟨List.toArray [104, 105, 98, 112]⟩]) elStr F13 M2 hO2 rfl rfl (F13.ev 20 rfl) (F13.ev 21 rfl) rfl (blkNews (M2.at 0 rfl)) (all_one rfl) (by unfold maxLen; omega) (by omega) rfl (by decide) fun v2 a14 w3 hO3 M3 hnilv2 F14 => ?_
  refine asS F14 rfl rfl rfl rfl rfl fun a15 F15 => ?_
  refine sn ?_
  clear F11 F12 F13 F14 M1 M2
  refine wsl ?_
  refine mvS F15 rfl rfl rfl rfl rfl fun a16 F16 => ?_
  refine sr F16 (run_lenS rfl (F16.ev 23 rfl) (hV.below M3.below) rfl Tryd.underlying58) rfl rfl rfl fun a17 F17 => ?_
  refine sqMakeSet F17 M3 rfl rfl (fun q hq => by injection hq with hq; subst hq; exact ⟨_, _, (F17.ev 24 rfl)⟩) rfl (by decide) fun g3 a18 w4 hgg3 hb4 F18 M4 => ?_
  have hO4 := hO3.add (S := isSet []) hb4 hgg3
  refine asS F18 rfl rfl rfl rfl rfl fun a19 F19 => ?_
  refine sn ?_
  clear F15 F16 F17 F18 M3
  refine wp_seq ?_
  refine wsl ?_
  refine mvS F19 rfl rfl rfl rfl rfl fun a20 F20 => ?_
  refine sr F20 (run_lenS rfl (F20.ev 26 rfl) (hV.below M4.below) rfl Tryd.underlying58) rfl rfl rfl fun a21 F21 => ?_
  refine sr (v := (.int .i64 0)) F21 (run_mv rfl rfl) rfl rfl rfl fun a22 F22 => ?_
  refine sn ?_
  clear F19 F20 F21
  refine wp_block ?_
  refine wkLoop (fun m a w2 => ∃ (i : Nat) (r : Value), i ≤ l.length ∧ m = l.length - i ∧ namesS l = namesF ((l.take i).map (·.1)) (l.drop i) ∧ OwnR w [(g3, isSet ((l.take i).map (·.1)))] w2 9 1 r (hibp :: textsB (l.take i)).length ((hibp :: textsB (l.take i)).map tx) ∧ Fr a 65 [(0, v), (4, r), (5, .map (some g3)), (26, v), (27, .int .i64 (l.length : Int)), (28, .int .i64 (i : Int))] ∧ Mem w [(g3, isSet ((l.take i).map (·.1)))] w2) l.length ⟨0, v2, Nat.zero_le _, rfl, rfl, hO4.sub (.cons_cons _ (.cons _ .slnil)), F22.sub ⟨rfl, rfl, rfl, rfl, rfl, rfl, trivial⟩, M4.sub (.cons_cons _ (.cons _ .slnil))⟩ ?_
  rintro m a0 w1 ⟨i, r, hi, rfl, hnm, hO0, F0, M0⟩
  have htl : (hibp :: textsB (l.take i)).length = 1 + 2 * i := by rw [List.length_cons, textsB_len, List.length_take]; omega
  have hml : ((l.take i).map (·.1)).length = i := by rw [List.length_map, List.length_take]; omega
  obtain ⟨nms, hnms⟩ : ∃ nms, (l.take i).map (·.1) = nms := ⟨_, rfl⟩
  rw [hnms] at hnm hO0 M0 hml
  by_cases hlt : i < l.length
  · obtain ⟨x, hx⟩ : ∃ x, l[i]? = some x := ⟨l[i], by simp [hlt]⟩
    have hbx := box_le l i hx
    rw [namesF_step _ l i hx] at hnm
    by_cases hmay : mayS nms x.1 = 0
    · rw [if_pos hmay] at hnm
      refine wsl ?_
      refine sr (v := (.bool true)) F0 (run_lss rfl (F0.ev 28 rfl) (F0.ev 27 rfl) (decide_eq_true (by omega))) rfl rfl rfl fun a1 F1 => ?_
      refine sn ?_
      clear F0
      refine wp_seq ?_
      refine cts (F1.ev 29 rfl) ?_
      refine wp_seq ?_
      refine wp_block ?_
      refine wsl ?_
      refine sr (v := (slPtr v (i * 2))) F1 (run_atP (i := i) rfl (F1.ev 26 rfl) (F1.ev 28 rfl) rfl (hV.below M0.below) (by omega) elBox.un (by kernel_rfl)) rfl rfl rfl fun a2 F2 => ?_
      refine sr (v := (.agg #[.string ⟨x.1.toArray⟩, .string ⟨x.2.toArray⟩])) F2 (run_ldPS (ys := boxC x) rfl (F2.ev 30 rfl) (hV.below M0.below) (by omega) (fun j u hj => flat_at boxC_len hx j hj) (by kernel_rfl) (by kernel_rfl)) rfl rfl rfl fun a3 F3 => ?_
      refine sqNew (cs := #[.string ⟨List.toArray []⟩, .string ⟨List.toArray []⟩]) (t := 36) F3 M0 (wantedS rfl) (run_alloc rfl (by kernel_rfl)) rfl (by decide) fun g4 a4 w2 hgg4 hb2 F4 M1 => ?_
      have hO1 := hO0.add (S := isB 36 (#[.string ⟨List.toArray []⟩, .string ⟨List.toArray []⟩])) hb2 hgg4
      refine sqStoreG (i := 0) F4 M1 rfl rfl rfl (F4.ev 7 rfl) (F4.ev 31 rfl) rfl szBox rfl rfl (arr_one rfl) fun a5 w3 hgr3 F5 M2 => ?_
      have hO2 := hO1.upd 0 (S2 := isB 36 (#[.string ⟨x.1.toArray⟩, .string ⟨x.2.toArray⟩])) rfl hgr3
      refine sn ?_
      clear F1 F2 F3 F4 M0 M1
      refine wp_seq ?_
      refine wsl ?_
      refine mvS F5 rfl rfl rfl rfl rfl fun a6 F6 => ?_
      refine sr F6 (run_fldA (m := 1) (s := 0) rfl (F6.ev 7 rfl) Tryd.underlying36 rfl rfl (by kernel_rfl) (by decide)) rfl rfl rfl fun a7 F7 => ?_
      refine sr (v := (.string ⟨x.1.toArray⟩)) F7 (run_ldF rfl (F7.ev 33 rfl) (M2.at 0 rfl) rfl (by kernel_rfl)) rfl rfl rfl fun a8 F8 => ?_
      refine sqC (v := (.int .i64 (mayS nms x.1))) F8 M2 (wantedS rfl) (run_call rfl Tryd.func60 (by kernel_rfl) rfl (mapE2 (F8.ev 32 rfl) (F8.ev 34 rfl))) rfl (by decide) (may_any g3 nms x.1 w3 (M2.ob 1 rfl) (by first | omega | decide | (simp; omega))) fun a9 w4 hb4 F9 M3 => ?_
      have hO3 := hO2.grow hb4
      refine asS F9 rfl rfl rfl rfl rfl fun a10 F10 => ?_
      refine sn ?_
      clear F5 F6 F7 F8 F9 M2
      refine wsl ?_
      refine mvS F10 rfl rfl rfl rfl rfl fun a11 F11 => ?_
      refine sr (v := (.bool false)) F11 (run_nei rfl (F11.ev 36 rfl) rfl (bne_eq_false_iff_eq.2 (by omega))) rfl rfl rfl fun a12 F12 => ?_
      refine sn ?_
      clear F10 F11
      refine cfs (F12.ev 37 rfl) ?_
      refine wsl ?_
      refine mvS F12 rfl rfl rfl rfl rfl fun a13 F13 => ?_
      refine sr F13 (run_fldA (m := 1) (s := 0) rfl (F13.ev 7 rfl) Tryd.underlying36 rfl rfl (by kernel_rfl) (by decide)) rfl rfl rfl fun a14 F14 => ?_
      refine sr (v := (.string ⟨x.1.toArray⟩)) F14 (run_ldF rfl (F14.ev 40 rfl) (M3.at 0 rfl) rfl (by kernel_rfl)) rfl rfl rfl fun a15 F15 => ?_
      refine sqSetAdd (i := 1) F15 M3 rfl rfl rfl (F15.ev 39 rfl) (F15.ev 41 rfl) rfl rfl (by unfold maxLen; omega) (by unfold maxLen; omega) fun a16 w5 hgr5 F16 M4 => ?_
      have hO4 := hO3.upd 1 (S2 := isSet (nms ++ [x.1])) rfl hgr5
      refine sn ?_
      clear F12 F13 F14 F15 M3
      refine wp_region_lit ?_
      refine mvS F16 rfl rfl rfl rfl rfl fun a17 F17 => ?_
      refine sr F17 (run_fldA (m := 1) (s := 0) rfl (F17.ev 7 rfl) Tryd.underlying36 rfl rfl (by kernel_rfl) (by decide)) rfl rfl rfl fun a18 F18 => ?_
      refine sr (v := (.string ⟨x.1.toArray⟩)) F18 (run_ldF rfl (F18.ev 43 rfl) (M4.at 0 rfl) rfl (by kernel_rfl)) rfl rfl rfl fun a19 F19 => ?_
      refine sr F19 (run_fldA (m := 1) (s := 1) rfl (F19.ev 7 rfl) Tryd.underlying36 rfl rfl (by kernel_rfl) (by decide)) rfl rfl rfl fun a20 F20 => ?_
      refine sr (v := (.string ⟨x.2.toArray⟩)) F20 (run_ldF rfl (F20.ev 45 rfl) (M4.at 0 rfl) rfl (by kernel_rfl)) rfl rfl rfl fun a21 F21 => ?_
      refine sqRow (cs := #[.string ⟨x.1.toArray⟩, .string ⟨x.2.toArray⟩]) (t := 9) (m := 2) F21 M4 (wantedS rfl) (run_strs2 rfl (F21.ev 44 rfl) (F21.ev 46 rfl)) rfl (by decide) fun g5 a22 w6 hgg5 hb6 F22 M5 => ?_
      have hO5 := hO4.add (S := isB 9 #[.string ⟨x.1.toArray⟩, .string ⟨x.2.toArray⟩]) hb6 hgg5
      refine sqAppend (news := [.string ⟨x.1.toArray⟩, .string ⟨x.2.toArray⟩]) elStr F22 M5 hO5 rfl rfl (F22.ev 42 rfl) (F22.ev 47 rfl) rfl (blkNews (M5.at 0 rfl)) (all_one rfl) (by unfold maxLen; omega) (by omega) rfl (by decide) fun v6 a23 w7 hO6 M6 hnilv6 F23 => ?_
      refine asS F23 rfl rfl rfl rfl rfl fun a24 F24 => ?_
      refine sqEnd ?_
      clear F16 F17 F18 F19 F20 F21 F22 F23 M4 M5
      refine bkEnd ?_
      refine nx ?_
      refine wp_region_lit ?_
      refine sr F24 (run_add (r := ((i + 1 : Nat) : Int)) rfl (F24.ev 28 rfl) rfl (by rw [IntKind.wrap_i64]; omega)) rfl rfl rfl fun a25 F25 => ?_
      refine mvS F25 rfl rfl rfl rfl rfl fun a26 F26 => ?_
      refine sn ?_
      clear F24 F25
      refine ⟨_, by omega, i + 1, v6, by omega, rfl, ?_, ?_, F26.sub ⟨rfl, rfl, rfl, rfl, rfl, rfl, trivial⟩, ?_⟩
      · rw [map_snoc l i hx, hnms]; exact hnm
      · rw [map_snoc l i hx, hnms, textsB_snoc l i hx, ← List.cons_append, List.map_append, List.length_append]; exact hO6.sub (.cons _ (.cons _ (.cons_cons _ .slnil)))
      · rw [map_snoc l i hx, hnms]; exact M6.sub (.cons _ (.cons _ (.cons_cons _ .slnil)))
    · rw [if_neg hmay] at hnm
      have hmk : makeS l = ([], mayS nms x.1) := by unfold makeS; rw [if_neg hl, if_pos (by rw [hnm]; exact hmay), hnm]
      refine wsl ?_
      refine sr (v := (.bool true)) F0 (run_lss rfl (F0.ev 28 rfl) (F0.ev 27 rfl) (decide_eq_true (by omega))) rfl rfl rfl fun a1 F1 => ?_
      refine sn ?_
      clear F0
      refine wp_seq ?_
      refine cts (F1.ev 29 rfl) ?_
      refine wp_seq ?_
      refine wp_block ?_
      refine wsl ?_
      refine sr (v := (slPtr v (i * 2))) F1 (run_atP (i := i) rfl (F1.ev 26 rfl) (F1.ev 28 rfl) rfl (hV.below M0.below) (by omega) elBox.un (by kernel_rfl)) rfl rfl rfl fun a2 F2 => ?_
      refine sr (v := (.agg #[.string ⟨x.1.toArray⟩, .string ⟨x.2.toArray⟩])) F2 (run_ldPS (ys := boxC x) rfl (F2.ev 30 rfl) (hV.below M0.below) (by omega) (fun j u hj => flat_at boxC_len hx j hj) (by kernel_rfl) (by kernel_rfl)) rfl rfl rfl fun a3 F3 => ?_
      refine sqNew (cs := #[.string ⟨List.toArray []⟩, .string ⟨List.toArray []⟩]) (t := 36) F3 M0 (wantedS rfl) (run_alloc rfl (by kernel_rfl)) rfl (by decide) fun g7 a4 w2 hgg7 hb2 F4 M1 => ?_
      have hO1 := hO0.add (S := isB 36 (#[.string ⟨List.toArray []⟩, .string ⟨List.toArray []⟩])) hb2 hgg7
      refine sqStoreG (i := 0) F4 M1 rfl rfl rfl (F4.ev 7 rfl) (F4.ev 31 rfl) rfl szBox rfl rfl (arr_one rfl) fun a5 w3 hgr3 F5 M2 => ?_
      have hO2 := hO1.upd 0 (S2 := isB 36 (#[.string ⟨x.1.toArray⟩, .string ⟨x.2.toArray⟩])) rfl hgr3
      refine sn ?_
      clear F1 F2 F3 F4 M0 M1
      refine wp_seq ?_
      refine wsl ?_
      refine mvS F5 rfl rfl rfl rfl rfl fun a6 F6 => ?_
      refine sr F6 (run_fldA (m := 1) (s := 0) rfl (F6.ev 7 rfl) Tryd.underlying36 rfl rfl (by kernel_rfl) (by decide)) rfl rfl rfl fun a7 F7 => ?_
      refine sr (v := (.string ⟨x.1.toArray⟩)) F7 (run_ldF rfl (F7.ev 33 rfl) (M2.at 0 rfl) rfl (by kernel_rfl)) rfl rfl rfl fun a8 F8 => ?_
      refine sqC (v := (.int .i64 (mayS nms x.1))) F8 M2 (wantedS rfl) (run_call rfl Tryd.func60 (by kernel_rfl) rfl (mapE2 (F8.ev 32 rfl) (F8.ev 34 rfl))) rfl (by decide) (may_any g3 nms x.1 w3 (M2.ob 1 rfl) (by first | omega | decide | (simp; omega))) fun a9 w4 hb4 F9 M3 => ?_
      have hO3 := hO2.grow hb4
      refine asS F9 rfl rfl rfl rfl rfl fun a10 F10 => ?_
      refine sn ?_
      clear F5 F6 F7 F8 F9 M2
      refine wsl ?_
      refine mvS F10 rfl rfl rfl rfl rfl fun a11 F11 => ?_
      refine sr (v := (.bool true)) F11 (run_nei rfl (F11.ev 36 rfl) rfl (bne_iff_ne.2 (by omega))) rfl rfl rfl fun a12 F12 => ?_
      refine sn ?_
      clear F10 F11
      refine wp_cond_true (F12.ev 37 rfl) ?_
      refine wsl ?_
      refine mvS F12 rfl rfl rfl rfl rfl fun a13 F13 => ?_
      refine sr (v := (.string ⟨List.toArray []⟩)) F13 (run_as rfl rfl) rfl rfl rfl fun a14 F14 => ?_
      refine asS F14 rfl rfl rfl rfl rfl fun a15 F15 => ?_
      refine sn ?_
      clear F12 F13 F14
      refine wp_ret ?_
      refine nxRet ?_
      refine bkRet ?_
      refine nxRet ?_
      refine nxRet ?_
      refine bkRet ?_
      refine nxRet ?_
      exact ret2 F15 rfl rfl rfl ⟨by rw [hmk], M3.below⟩
  · have hie : i = l.length := by omega
    have hn0 : namesS l = 0 := by rw [hnm, hie, List.drop_length]; rfl
    obtain ⟨X, hX⟩ : ∃ X, hibp :: textsB l = X := ⟨_, rfl⟩
    rw [hie, List.take_length, hX] at hO0 htl
    have hfl : X.flatten.length < 2 ^ 42 := by rw [← hX, List.flatten_cons, List.length_append]; have : hibp.length = 4 := rfl; omega
    have hby : bytesS l = rowS X := by unfold bytesS; rw [hX]
    refine wsl ?_
    refine sr (v := (.bool false)) F0 (run_lss rfl (F0.ev 28 rfl) (F0.ev 27 rfl) (decide_eq_false (by omega))) rfl rfl rfl fun a1 F1 => ?_
    refine sn ?_
    clear F0
    refine wp_seq ?_
    refine wp_cond_false (F1.ev 29 rfl) ?_
    refine wp_exit ?_
    refine nxExit ?_
    refine nxExit ?_
    refine bkHere ?_
    refine nx ?_
    refine wsl ?_
    refine sr (v := (.int .i64 0)) F1 (run_as rfl rfl) rfl rfl rfl fun a2 F2 => ?_
    refine sn ?_
    clear F1
    refine wp_seq ?_
    refine wsl ?_
    refine mvS F2 rfl rfl rfl rfl rfl fun a3 F3 => ?_
    refine sr F3 (run_lenS rfl (F3.ev 50 rfl) (Sl.own hO0) rfl Tryd.underlying23) rfl rfl rfl fun a4 F4 => ?_
    refine sr (v := (.int .i64 0)) F4 (run_mv rfl rfl) rfl rfl rfl fun a5 F5 => ?_
    refine sn ?_
    clear F2 F3 F4
    refine wp_block ?_
    have hMs := M0.sub (M2 := []) (List.nil_sublist _)
    have hOs := hO0.sub (M2 := []) (List.nil_sublist _)
    refine wkLoop (fun m a w2 => ∃ j z : Nat, j ≤ X.length ∧ m = X.length - j ∧ z = ((X.take j).map rowedS).sum ∧ z ≤ 65536 ∧ OwnR w [] w2 9 1 r X.length (X.map tx) ∧ Fr a 65 [(4, r), (9, .int .i64 (z : Int)), (50, r), (51, .int .i64 (X.length : Int)), (52, .int .i64 (j : Int))] ∧ Mem w [] w2) X.length ⟨0, 0, Nat.zero_le _, rfl, rfl, by omega, hOs, F5.sub ⟨rfl, rfl, rfl, rfl, rfl, trivial⟩, hMs⟩ ?_
    rintro m a0 w1 ⟨j, z, hj, rfl, hz, hz6, hO0, F0, M0⟩
    by_cases hlt : j < X.length
    · obtain ⟨y, hy⟩ : ∃ y, X[j]? = some y := ⟨X[j], by simp [hlt]⟩
      have hyl := elem_le X j hy
      have hsn := sum_snoc X j hy
      have hyb : rowedS y ≤ y.length + 6 := by unfold rowedS; have := lenB_bound y.length (by omega); omega
      by_cases hbig : 65536 < z + rowedS y
      · have hmk : makeS l = ([], 6) := by
          unfold makeS
          rw [if_neg hl, if_neg (by rw [hn0]; decide), if_pos ?_]
          rw [hby, rowS_sum]
          have := sum_take (X.map rowedS) (j + 1)
          rw [← List.map_take, hsn] at this
          omega
        refine wsl ?_
        refine sr (v := (.bool true)) F0 (run_lss rfl (F0.ev 52 rfl) (F0.ev 51 rfl) (decide_eq_true (by omega))) rfl rfl rfl fun a1 F1 => ?_
        refine sn ?_
        clear F0
        refine wp_seq ?_
        refine cts (F1.ev 53 rfl) ?_
        refine wp_seq ?_
        refine wp_block ?_
        refine wsl ?_
        refine sr (v := (slPtr r (j * 1))) F1 (run_atP (i := j) rfl (F1.ev 50 rfl) (F1.ev 52 rfl) rfl (Sl.own hO0) (by omega) elStr.un (by kernel_rfl)) rfl rfl rfl fun a2 F2 => ?_
        refine sr (v := (.string ⟨y.toArray⟩)) F2 (run_ldP rfl (F2.ev 54 rfl) (Sl.own hO0) (map_at hy) (by kernel_rfl)) rfl rfl rfl fun a3 F3 => ?_
        refine asS F3 rfl rfl rfl rfl rfl fun a4 F4 => ?_
        refine sn ?_
        clear F1 F2 F3
        refine wsl ?_
        refine mvS F4 rfl rfl rfl rfl rfl fun a5 F5 => ?_
        refine mvS F5 rfl rfl rfl rfl rfl fun a6 F6 => ?_
        refine sqC (v := (.int .i64 (rowedS y : Int))) F6 M0 (wantedS rfl) (run_call rfl Tryd.func61 (by kernel_rfl) rfl (mapE1 (F6.ev 57 rfl))) rfl (by decide) (rowed_any y w1 (by first | omega | decide | (simp; omega))) fun a7 w2 hb2 F7 M1 => ?_
        have hO1 := hO0.grow hb2
        refine sr F7 (run_add (r := ((z + rowedS y : Nat) : Int)) rfl (F7.ev 56 rfl) (F7.ev 58 rfl) (by rw [IntKind.wrap_i64]; omega)) rfl rfl rfl fun a8 F8 => ?_
        refine asS F8 rfl rfl rfl rfl rfl fun a9 F9 => ?_
        refine sn ?_
        clear F4 F5 F6 F7 F8 M0
        refine wsl ?_
        refine mvS F9 rfl rfl rfl rfl rfl fun a10 F10 => ?_
        refine sr (v := (.bool true)) F10 (run_gtr rfl (F10.ev 60 rfl) rfl (decide_eq_true (by omega))) rfl rfl rfl fun a11 F11 => ?_
        refine sn ?_
        clear F9 F10
        refine wp_cond_true (F11.ev 61 rfl) ?_
        refine wsl ?_
        refine sr (v := (.string ⟨List.toArray []⟩)) F11 (run_as rfl rfl) rfl rfl rfl fun a12 F12 => ?_
        refine sr (v := (.int .i64 6)) F12 (run_as rfl rfl) rfl rfl rfl fun a13 F13 => ?_
        refine sn ?_
        clear F11 F12
        refine wp_ret ?_
        refine bkRet ?_
        refine nxRet ?_
        refine nxRet ?_
        refine bkRet ?_
        refine nxRet ?_
        exact ret2 F13 rfl rfl rfl ⟨by rw [hmk], M1.below⟩
      · skip
        refine wsl ?_
        refine sr (v := (.bool true)) F0 (run_lss rfl (F0.ev 52 rfl) (F0.ev 51 rfl) (decide_eq_true (by omega))) rfl rfl rfl fun a1 F1 => ?_
        refine sn ?_
        clear F0
        refine wp_seq ?_
        refine cts (F1.ev 53 rfl) ?_
        refine wp_seq ?_
        refine wp_block ?_
        refine wsl ?_
        refine sr (v := (slPtr r (j * 1))) F1 (run_atP (i := j) rfl (F1.ev 50 rfl) (F1.ev 52 rfl) rfl (Sl.own hO0) (by omega) elStr.un (by kernel_rfl)) rfl rfl rfl fun a2 F2 => ?_
        refine sr (v := (.string ⟨y.toArray⟩)) F2 (run_ldP rfl (F2.ev 54 rfl) (Sl.own hO0) (map_at hy) (by kernel_rfl)) rfl rfl rfl fun a3 F3 => ?_
        refine asS F3 rfl rfl rfl rfl rfl fun a4 F4 => ?_
        refine sn ?_
        clear F1 F2 F3
        refine wsl ?_
        refine mvS F4 rfl rfl rfl rfl rfl fun a5 F5 => ?_
        refine mvS F5 rfl rfl rfl rfl rfl fun a6 F6 => ?_
        refine sqC (v := (.int .i64 (rowedS y : Int))) F6 M0 (wantedS rfl) (run_call rfl Tryd.func61 (by kernel_rfl) rfl (mapE1 (F6.ev 57 rfl))) rfl (by decide) (rowed_any y w1 (by first | omega | decide | (simp; omega))) fun a7 w2 hb2 F7 M1 => ?_
        have hO1 := hO0.grow hb2
        refine sr F7 (run_add (r := ((z + rowedS y : Nat) : Int)) rfl (F7.ev 56 rfl) (F7.ev 58 rfl) (by rw [IntKind.wrap_i64]; omega)) rfl rfl rfl fun a8 F8 => ?_
        refine asS F8 rfl rfl rfl rfl rfl fun a9 F9 => ?_
        refine sn ?_
        clear F4 F5 F6 F7 F8 M0
        refine wsl ?_
        refine mvS F9 rfl rfl rfl rfl rfl fun a10 F10 => ?_
        refine sr (v := (.bool false)) F10 (run_gtr rfl (F10.ev 60 rfl) rfl (decide_eq_false (by omega))) rfl rfl rfl fun a11 F11 => ?_
        refine sn ?_
        clear F9 F10
        refine wp_cond_false (F11.ev 61 rfl) ?_
        refine wp_skip ?_
        refine bkEnd ?_
        refine nx ?_
        refine wp_region_lit ?_
        refine sr F11 (run_add (r := ((j + 1 : Nat) : Int)) rfl (F11.ev 52 rfl) rfl (by rw [IntKind.wrap_i64]; omega)) rfl rfl rfl fun a12 F12 => ?_
        refine mvS F12 rfl rfl rfl rfl rfl fun a13 F13 => ?_
        refine sn ?_
        clear F11 F12
        exact ⟨_, by omega, j + 1, z + rowedS y, by omega, rfl, by rw [hsn, hz], by omega, hO1, F13.sub ⟨rfl, rfl, rfl, rfl, rfl, trivial⟩, M1⟩
    · have hje : j = X.length := by omega
      have hmk : makeS l = (rowS X, 0) := by
        unfold makeS
        rw [if_neg hl, if_neg (by rw [hn0]; decide), if_neg ?_, hby]
        rw [hby, rowS_sum]
        rw [hz, hje, List.take_length] at hz6
        omega
      refine wsl ?_
      refine sr (v := (.bool false)) F0 (run_lss rfl (F0.ev 52 rfl) (F0.ev 51 rfl) (decide_eq_false (by omega))) rfl rfl rfl fun a1 F1 => ?_
      refine sn ?_
      clear F0
      refine wp_seq ?_
      refine wp_cond_false (F1.ev 53 rfl) ?_
      refine wp_exit ?_
      refine nxExit ?_
      refine nxExit ?_
      refine bkHere ?_
      refine nx ?_
      refine wsl ?_
      refine mvS F1 rfl rfl rfl rfl rfl fun a2 F2 => ?_
      refine sqC (v := (.string ⟨(rowS X).toArray⟩)) F2 M0 (wantedS rfl) (run_call rfl Tryd.func59 (by kernel_rfl) rfl (mapE1 (F2.ev 63 rfl))) rfl (by decide) (nrow_any X _ w1 (Sl.own hO0).strs (by omega) (by omega)) fun a3 w2 hb2 F3 M1 => ?_
      have hO1 := hO0.grow hb2
      refine asS F3 rfl rfl rfl rfl rfl fun a4 F4 => ?_
      refine sr (v := (.int .i64 0)) F4 (run_as rfl rfl) rfl rfl rfl fun a5 F5 => ?_
      refine sn ?_
      clear F1 F2 F3 F4 M0
      refine wp_ret ?_
      exact ret2 F5 rfl rfl rfl ⟨by rw [hmk], M1.below⟩
end Go.Proofs.YtdjjiblijbjobaaDoor
