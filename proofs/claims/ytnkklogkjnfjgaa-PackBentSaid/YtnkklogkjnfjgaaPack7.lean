/- The walk of layer 40's awake. Printed by gen_pack7.py. -/
import Derived.Test.YtnkklogkjnfjgaaPack6
namespace Go.Proofs.Ytnkklogkjnfjgaa
open Go.RowKit

theorem slOfBlk {w : World} {g m size : Nat} {t : TypeId} {cs : List Value} (h : Blk w g t cs.toArray) (hl : cs.length = m * size) : Sl w (.slice (some ⟨g, 0, none⟩) m m) size m cs :=
  ⟨hl, .inr ⟨g, 0, m, rfl, h.lt, fun j u hj => by rw [Nat.zero_add, h.cell]; simpa using hj⟩⟩
/-- what was packed is read back. -/
theorem ofS_make {l : List Bx} (h : (makeS l).2 = 0) : makeS l = (bytesS l, 0) ∧ ofS (bytesS l) = some l ∧ l ≠ [] ∧ namesS l = 0 ∧ (bytesS l).length ≤ 65536 := by
  unfold makeS at h ⊢
  by_cases e1 : l = []
  · rw [if_pos e1] at h; cases h
  · rw [if_neg e1] at h ⊢
    by_cases e2 : namesS l ≠ 0
    · rw [if_pos e2] at h; exact absurd h e2
    · rw [if_neg e2] at h ⊢
      by_cases e3 : 65536 < (bytesS l).length
      · rw [if_pos e3] at h; cases h
      · rw [if_neg e3]
        have hn : namesS l = 0 := Classical.byContradiction e2
        have hsz : ∀ s ∈ hibp :: textsB l, s.length < 2 ^ 28 := by
          intro s hs
          obtain ⟨j, hj⟩ := List.mem_iff_getElem?.1 hs
          have h1 := elem_le _ j hj
          have h2 := flatten_row (hibp :: textsB l)
          rw [show rowS (hibp :: textsB l) = bytesS l from rfl] at h2
          omega
        have ht : textsS (bytesS l) = .ok (hibp :: textsB l) := textsS_row _ hsz
        have hl2 : (hibp :: textsB l).length = 1 + 2 * l.length := by rw [List.length_cons, textsB_len]; omega
        have hl0 : 0 < l.length := List.length_pos_iff.2 e1
        refine ⟨rfl, ?_, e1, hn, by omega⟩
        rw [ofS_ok ht ?_, List.tail_cons, boxesOf_texts]
        rw [List.tail_cons, boxesOf_texts, hn, hl2]
        simp only [List.head?_cons, ne_eq, not_true_eq_false, false_or, or_false]
        omega
theorem awake_row : (rowS [[104, 105, 98, 112], [120], []]).length = 8 := by
  rw [rowS_sum]
  simp only [List.map_cons, List.map_nil, rowedS, List.length_cons, List.length_nil]
  rw [lenB_lt _ (by decide), lenB_lt _ (by decide), lenB_lt _ (by decide)]
  rfl
theorem awake_make : makeS [([120], [])] = (rowS [[104, 105, 98, 112], [120], []], 0) := by
  have hb : bytesS [([120], [])] = rowS [[104, 105, 98, 112], [120], []] := rfl
  unfold makeS
  rw [if_neg (by simp), if_neg (by decide), if_neg (by rw [hb, awake_row]; decide), hb]
set_option maxRecDepth 100000 in
set_option maxHeartbeats 1000000 in
theorem awake40_any (w : World) : Calls Try.prog 7 #[] w fun e w' => e = .returned (.bool true) ∧ Below w.heap.size w w' := by
  have hmk := awake_make
  obtain ⟨hm1, hyes, _, _, _⟩ := ofS_make (l := [([120], [])]) (by rw [awake_make])
  rw [show bytesS [([120], [])] = rowS [[104, 105, 98, 112], [120], []] from rfl] at hyes
  obtain ⟨Z, hZ⟩ : ∃ Z, placesS [([120], [])] = Z := ⟨_, rfl⟩
  have hZl : Z.length = 1 := by rw [← hZ]; rfl
  obtain ⟨p, hpe⟩ : ∃ p, placeOf [([120], [])] 0 ([120], []) = p := ⟨_, rfl⟩
  have hp : Z[0]? = some p := by rw [← hZ, ← hpe]; rfl
  have hp2 : p.2.1 = (rowS [[104, 105, 98, 112], [120], []]).length := by rw [← hpe]; rfl
  have hp3 : p.2.2 = 0 := by rw [← hpe]; rfl
  refine walk_enter Try.func7 rfl rfl rfl fun a0 hF0 => ?_
  have hM0 := Mem.new w
  refine wp_seq ?_
  refine wp_region_lit ?_
  refine sq (v := (.bool false)) hF0 (wantedS rfl) (run_as rfl rfl) rfl (by decide) fun a1 hF1 => ?_
  refine sqEnd ?_
  clear hF0
  refine nx ?_
  refine wp_seq ?_
  refine wp_region_lit ?_
  refine sq (v := (.agg #[.string ⟨List.toArray [120]⟩, .string ⟨List.toArray []⟩])) hF1 (wantedS rfl) (run_blt (vs := #[(0, .string ⟨List.toArray [120]⟩)]) (cs := #[.string ⟨List.toArray [120]⟩, .string ⟨List.toArray []⟩]) rfl (bltE1 rfl) (by kernel_rfl)) rfl (by decide) fun a2 hF2 => ?_
  refine sqRow (cs := #[.string ⟨List.toArray [120]⟩, .string ⟨List.toArray []⟩]) (t := 29) (m := 1) hF2 hM0 (wantedS rfl) (run_boxes1 rfl (hF2.ev 6 rfl)) rfl (by decide) fun g0 a3 w1 hgg0 hb1 hF3 hM1 => ?_
  refine sqC (v := (.tuple #[(.string ⟨(rowS [[104, 105, 98, 112], [120], []]).toArray⟩), (.int .i64 0)])) hF3 hM1 (wantedS rfl) (run_call rfl Try.func8 (by kernel_rfl) rfl (mapE1 (hF3.ev 7 rfl))) rfl (by decide) (by have h := pmake_any [([120], [])] _ w1 (slOfBlk (cs := [.string ⟨List.toArray [120]⟩, .string ⟨List.toArray []⟩]) (hM1.at 0 rfl) rfl) (by decide) (by decide); rw [awake_make] at h; exact h) fun a4 w2 hb2 hF4 hM2 => ?_
  refine sq (v := (.tuple #[(.string ⟨(rowS [[104, 105, 98, 112], [120], []]).toArray⟩), (.int .i64 0)])) hF4 (wantedS rfl) (run_mv rfl (hF4.ev 8 rfl)) rfl (by decide) fun a5 hF5 => ?_
  refine sq (v := (.string ⟨(rowS [[104, 105, 98, 112], [120], []]).toArray⟩)) hF5 (wantedS rfl) (run_ext rfl (hF5.ev 5 rfl) rfl) rfl (by decide) fun a6 hF6 => ?_
  refine sq (v := (.int .i64 0)) hF6 (wantedS rfl) (run_ext rfl (hF6.ev 5 rfl) rfl) rfl (by decide) fun a7 hF7 => ?_
  refine sq (v := (.string ⟨(rowS [[104, 105, 98, 112], [120], []]).toArray⟩)) hF7 (wantedS rfl) (run_as rfl (hF7.ev 9 rfl)) rfl (by decide) fun a8 hF8 => ?_
  refine sq (v := (.int .i64 0)) hF8 (wantedS rfl) (run_as rfl (hF8.ev 10 rfl)) rfl (by decide) fun a9 hF9 => ?_
  refine sqEnd ?_
  clear hF1 hF2 hF3 hF4 hF5 hF6 hF7 hF8 hM0 hM1
  refine nx ?_
  refine wp_seq ?_
  refine wp_region_lit ?_
  refine sq (v := (.string ⟨(rowS [[104, 105, 98, 112], [120], []]).toArray⟩)) hF9 (wantedS rfl) (run_mv rfl (hF9.ev 1 rfl)) rfl (by decide) fun a10 hF10 => ?_
  refine sqT (T := fun u wx => (∃ v, u = .tuple #[v, .int .i64 0] ∧ wx.ownsRow w2.heap.size 39 3 v Z.length (Z.flatMap placeC)) ∧ Below w2.heap.size w2 wx) hF10 (wantedS rfl) (run_call rfl Try.func9 (by kernel_rfl) rfl (mapE1 (hF10.ev 12 rfl))) rfl (by decide) (by rw [← hZ]; exact pof_some hyes w2 (by rw [awake_row]; decide)) fun u1 a11 w3 hT3 hF11 => ?_
  obtain ⟨⟨v2, rfl, hr3⟩, hb3⟩ := hT3
  have hO1 := OwnR.ofCall hM2 hr3
  have hM3 := hM2.grow hb3
  refine sq (v := (.tuple #[v2, (.int .i64 0)])) hF11 (wantedS rfl) (run_mv rfl (hF11.ev 13 rfl)) rfl (by decide) fun a12 hF12 => ?_
  refine sq (v := v2) hF12 (wantedS rfl) (run_ext rfl (hF12.ev 11 rfl) rfl) rfl (by decide) fun a13 hF13 => ?_
  refine sq (v := (.int .i64 0)) hF13 (wantedS rfl) (run_ext rfl (hF13.ev 11 rfl) rfl) rfl (by decide) fun a14 hF14 => ?_
  refine sq (v := v2) hF14 (wantedS rfl) (run_as rfl (hF14.ev 14 rfl)) rfl (by decide) fun a15 hF15 => ?_
  refine sq (v := (.int .i64 0)) hF15 (wantedS rfl) (run_as rfl (hF15.ev 15 rfl)) rfl (by decide) fun a16 hF16 => ?_
  refine sqEnd ?_
  clear hF9 hF10 hF11 hF12 hF13 hF14 hF15 hM2
  refine nx ?_
  refine wp_seq ?_
  refine wp_region_lit ?_
  refine sq (v := (.int .i64 0)) hF16 (wantedS rfl) (run_mv rfl (hF16.ev 2 rfl)) rfl (by decide) fun a17 hF17 => ?_
  refine sq (v := (.bool true)) hF17 (wantedS rfl) (run_eqi rfl (hF17.ev 16 rfl) rfl (beq_self_eq_true _)) rfl (by decide) fun a18 hF18 => ?_
  refine sq (v := (.bool true)) hF18 (wantedS rfl) (run_mv rfl (hF18.ev 17 rfl)) rfl (by decide) fun a19 hF19 => ?_
  refine sq (v := (.int .i64 0)) hF19 (wantedG hF19 rfl rfl rfl rfl rfl) (run_mv rfl (hF19.ev 4 rfl)) rfl (by decide) fun a20 hF20 => ?_
  refine sq (v := (.bool true)) hF20 (wantedG hF20 rfl rfl rfl rfl rfl) (run_eqi rfl (hF20.ev 19 rfl) rfl (beq_self_eq_true _)) rfl (by decide) fun a21 hF21 => ?_
  refine sq (v := (.bool true)) hF21 (wantedS rfl) (run_pick rfl (hF21.ev 18 rfl) (hF21.ev 20 rfl) rfl) rfl (by decide) fun a22 hF22 => ?_
  refine sq (v := (.bool true)) hF22 (wantedS rfl) (run_mv rfl (hF22.ev 21 rfl)) rfl (by decide) fun a23 hF23 => ?_
  refine sq (v := (.string ⟨(rowS [[104, 105, 98, 112], [120], []]).toArray⟩)) hF23 (wantedG hF23 rfl rfl rfl rfl rfl) (run_mv rfl (hF23.ev 1 rfl)) rfl (by decide) fun a24 hF24 => ?_
  refine sqStrs [[104, 105, 98, 112], [120], []] hF24 hM3 (wantedG hF24 rfl rfl rfl rfl rfl) (run_strs3 rfl rfl rfl rfl) rfl (by decide) fun v3 a25 w4 hsv3 hb4 hF25 hM4 => ?_
  have hO2 := hO1.grow hb4
  refine sqC (v := (.string ⟨(rowS [[104, 105, 98, 112], [120], []]).toArray⟩)) hF25 hM4 (wantedG hF25 rfl rfl rfl rfl rfl) (run_call rfl Try.func12 (by kernel_rfl) rfl (mapE1 (hF25.ev 24 rfl))) rfl (by decide) (nrow_any [[104, 105, 98, 112], [120], []] _ w4 hsv3 (by decide) (by decide)) fun a26 w5 hb5 hF26 hM5 => ?_
  have hO3 := hO2.grow hb5
  have hS4 := hsv3.below hb5
  refine sq (v := (.bool true)) hF26 (wantedG hF26 rfl rfl rfl rfl rfl) (run_eqs rfl (hF26.ev 23 rfl) (hF26.ev 25 rfl) (beq_self_eq_true _)) rfl (by decide) fun a27 hF27 => ?_
  refine sq (v := (.bool true)) hF27 (wantedS rfl) (run_pick rfl (hF27.ev 22 rfl) (hF27.ev 26 rfl) rfl) rfl (by decide) fun a28 hF28 => ?_
  refine sq (v := (.bool true)) hF28 (wantedS rfl) (run_mv rfl (hF28.ev 27 rfl)) rfl (by decide) fun a29 hF29 => ?_
  refine sq (v := v2) hF29 (wantedG hF29 rfl rfl rfl rfl rfl) (run_mv rfl (hF29.ev 3 rfl)) rfl (by decide) fun a30 hF30 => ?_
  refine sq (v := (.int .i64 (Z.length : Int))) hF30 (wantedG hF30 rfl rfl rfl rfl rfl) (run_lenS rfl (hF30.ev 29 rfl) (Sl.own hO3) rfl Try.underlying32) rfl (by decide) fun a31 hF31 => ?_
  refine sq (v := (.bool true)) hF31 (wantedG hF31 rfl rfl rfl rfl rfl) (run_eqi rfl (hF31.ev 30 rfl) rfl (beq_iff_eq.2 (by omega))) rfl (by decide) fun a32 hF32 => ?_
  refine sq (v := (.bool true)) hF32 (wantedS rfl) (run_pick rfl (hF32.ev 28 rfl) (hF32.ev 31 rfl) rfl) rfl (by decide) fun a33 hF33 => ?_
  refine sq (v := (.bool true)) hF33 (wantedS rfl) (run_mv rfl (hF33.ev 32 rfl)) rfl (by decide) fun a34 hF34 => ?_
  refine sq (v := v2) hF34 (wantedG hF34 rfl rfl rfl rfl rfl) (run_mv rfl (hF34.ev 3 rfl)) rfl (by decide) fun a35 hF35 => ?_
  refine sq (v := (slPtr v2 (0 * 3))) hF35 (wantedG hF35 rfl rfl rfl rfl rfl) (run_atP (i := 0) rfl (hF35.ev 34 rfl) rfl rfl (Sl.own hO3) (by omega) elPlace.un (by kernel_rfl)) rfl (by decide) fun a36 hF36 => ?_
  refine sq (v := (slPtr v2 (0 * 3 + 1))) hF36 (wantedG hF36 rfl rfl rfl rfl rfl) (run_fldP (m2 := 1) (s := 1) rfl (hF36.ev 35 rfl) (Sl.own hO3) (by omega) Try.underlying39 rfl rfl (by kernel_rfl) (by decide)) rfl (by decide) fun a37 hF37 => ?_
  refine sq (v := (.int .i64 (p.2.1 : Int))) hF37 (wantedG hF37 rfl rfl rfl rfl rfl) (run_ldP rfl (hF37.ev 36 rfl) (Sl.own hO3) (flat_at placeC_len hp 1 rfl) (by kernel_rfl)) rfl (by decide) fun a38 hF38 => ?_
  refine sq (v := (.string ⟨(rowS [[104, 105, 98, 112], [120], []]).toArray⟩)) hF38 (wantedG hF38 rfl rfl rfl rfl rfl) (run_mv rfl (hF38.ev 1 rfl)) rfl (by decide) fun a39 hF39 => ?_
  refine sq (v := (.int .i64 ((rowS [[104, 105, 98, 112], [120], []]).length : Int))) hF39 (wantedG hF39 rfl rfl rfl rfl rfl) (run_len rfl (hF39.ev 38 rfl) rfl Try.underlying9) rfl (by decide) fun a40 hF40 => ?_
  refine sq (v := (.bool true)) hF40 (wantedG hF40 rfl rfl rfl rfl rfl) (run_eqi rfl (hF40.ev 37 rfl) (hF40.ev 39 rfl) (beq_iff_eq.2 (by omega))) rfl (by decide) fun a41 hF41 => ?_
  refine sq (v := (.bool true)) hF41 (wantedS rfl) (run_pick rfl (hF41.ev 33 rfl) (hF41.ev 40 rfl) rfl) rfl (by decide) fun a42 hF42 => ?_
  refine sq (v := (.bool true)) hF42 (wantedS rfl) (run_mv rfl (hF42.ev 41 rfl)) rfl (by decide) fun a43 hF43 => ?_
  refine sq (v := v2) hF43 (wantedG hF43 rfl rfl rfl rfl rfl) (run_mv rfl (hF43.ev 3 rfl)) rfl (by decide) fun a44 hF44 => ?_
  refine sq (v := (slPtr v2 (0 * 3))) hF44 (wantedG hF44 rfl rfl rfl rfl rfl) (run_atP (i := 0) rfl (hF44.ev 43 rfl) rfl rfl (Sl.own hO3) (by omega) elPlace.un (by kernel_rfl)) rfl (by decide) fun a45 hF45 => ?_
  refine sq (v := (slPtr v2 (0 * 3 + 2))) hF45 (wantedG hF45 rfl rfl rfl rfl rfl) (run_fldP (m2 := 1) (s := 2) rfl (hF45.ev 44 rfl) (Sl.own hO3) (by omega) Try.underlying39 rfl rfl (by kernel_rfl) (by decide)) rfl (by decide) fun a46 hF46 => ?_
  refine sq (v := (.int .i64 (p.2.2 : Int))) hF46 (wantedG hF46 rfl rfl rfl rfl rfl) (run_ldP rfl (hF46.ev 45 rfl) (Sl.own hO3) (flat_at placeC_len hp 2 rfl) (by kernel_rfl)) rfl (by decide) fun a47 hF47 => ?_
  refine sq (v := (.bool true)) hF47 (wantedG hF47 rfl rfl rfl rfl rfl) (run_eqi rfl (hF47.ev 46 rfl) rfl (beq_iff_eq.2 (by omega))) rfl (by decide) fun a48 hF48 => ?_
  refine sq (v := (.bool true)) hF48 (wantedS rfl) (run_pick rfl (hF48.ev 42 rfl) (hF48.ev 47 rfl) rfl) rfl (by decide) fun a49 hF49 => ?_
  refine sq (v := (.bool true)) hF49 (wantedS rfl) (run_as rfl (hF49.ev 48 rfl)) rfl (by decide) fun a50 hF50 => ?_
  refine sqEnd ?_
  clear hF16 hF17 hF18 hF19 hF20 hF21 hF22 hF23 hF24 hF25 hF26 hF27 hF28 hF29 hF30 hF31 hF32 hF33 hF34 hF35 hF36 hF37 hF38 hF39 hF40 hF41 hF42 hF43 hF44 hF45 hF46 hF47 hF48 hF49 hM3 hM4
  refine nx ?_
  refine wp_ret ?_
  exact ret1 hF50 rfl rfl ⟨rfl, hM5.below⟩
end Go.Proofs.Ytnkklogkjnfjgaa
