/- The walk of layer 40's awake. Printed by gen_pack7.py. -/
import Derived.Test.YtdjjiblijbjobaaDoorPack5
namespace Go.Proofs.YtdjjiblijbjobaaDoor
open Go.RowKit

theorem run_boxes1 {a : Act} {op : Oper} {w : World} {x : Operand} {s r : ByteArray} (ho : op.op = .buildSlice 58 1 #[(0, x)]) (hx : a.eval x = .agg #[.string s, .string r]) :
    (execOp a.eval op).run Tryd.prog w = .ok (.value (.slice (some ⟨w.heap.size, 0, none⟩) 1 1)) (w.alloc (.cells #[.string s, .string r] 36)) := by
  unfold execOp
  simp only [ho, List.map_toArray, List.map_cons, List.map_nil, hx]
  go_simp
theorem flatten_row : ∀ l : List (List UInt8), l.flatten.length ≤ (rowS l).length
  | [] => Nat.le_refl _
  | s :: l => by have := flatten_row l; rw [rowS_cons, List.flatten_cons, List.length_append, List.length_append, List.length_append]; omega
theorem slOfBlk {w : World} {g m size : Nat} {t : TypeId} {cs : List Value} (h : Blk w g t cs.toArray) (hl : cs.length = m * size) : Sl w (.slice (some ⟨g, 0, none⟩) m m) size m cs :=
  ⟨hl, .inr ⟨g, 0, m, rfl, h.lt, fun j u hj => by rw [Nat.zero_add, h.cell]; simpa using hj⟩⟩
/-- what was packed is read back. -/
theorem ofS_make {l : List Bx} (h : (makeS l).2 = 0) : makeS l = (bytesS l, 0) ∧ ofS (bytesS l) = some l ∧ l ≠ [] ∧ namesS l = 0 ∧ (bytesS l).length ≤ 65536 := by
  unfold makeS at h ⊢
  by_cases e1 : l = []
  · rw [if_pos e1] at h; cases h
  · rw [if_neg e1] at h ⊢
    by_cases e2 : namesS l ≠ 0
    · rw [if_pos e2] at h; exact absurd h e2
    · rw [if_neg e2] at h ⊢
      by_cases e3 : 65536 < (bytesS l).length
      · rw [if_pos e3] at h; cases h
      · rw [if_neg e3]
        have hn : namesS l = 0 := Classical.byContradiction e2
        have hsz : ∀ s ∈ hibp :: textsB l, s.length < 2 ^ 28 := by
          intro s hs
          obtain ⟨j, hj⟩ := List.mem_iff_getElem?.1 hs
          have h1 := elem_le _ j hj
          have h2 := flatten_row (hibp :: textsB l)
          rw [show rowS (hibp :: textsB l) = bytesS l from rfl] at h2
          omega
        have ht : textsS (bytesS l) = .ok (hibp :: textsB l) := textsS_row _ hsz
        have hl2 : (hibp :: textsB l).length = 1 + 2 * l.length := by rw [List.length_cons, textsB_len]; omega
        have hl0 : 0 < l.length := List.length_pos_iff.2 e1
        refine ⟨rfl, ?_, e1, hn, by omega⟩
        rw [ofS_ok ht ?_, List.tail_cons, boxesOf_texts]
        rw [List.tail_cons, boxesOf_texts, hn, hl2]
        simp only [List.head?_cons, ne_eq, not_true_eq_false, false_or, or_false]
        omega
theorem awake_row : (rowS [[104, 105, 98, 112], [120], []]).length = 8 := by
  rw [rowS_sum]
  simp only [List.map_cons, List.map_nil, rowedS, List.length_cons, List.length_nil]
  rw [lenB_lt _ (by decide), lenB_lt _ (by decide), lenB_lt _ (by decide)]
  rfl
theorem awake_make : makeS [([120], [])] = (rowS [[104, 105, 98, 112], [120], []], 0) := by
  have hb : bytesS [([120], [])] = rowS [[104, 105, 98, 112], [120], []] := rfl
  unfold makeS
  rw [if_neg (by simp), if_neg (by decide), if_neg (by rw [hb, awake_row]; decide), hb]
set_option maxRecDepth 100000 in
set_option maxHeartbeats 1000000 in
theorem awake40_any (w : World) : Calls Tryd.prog 28 #[] w fun e w' => e = .returned (.bool true) ∧ Below w.heap.size w w' := by
  have hmk := awake_make
  obtain ⟨hm1, hyes, _, _, _⟩ := ofS_make (l := [([120], [])]) (by rw [awake_make])
  rw [show bytesS [([120], [])] = rowS [[104, 105, 98, 112], [120], []] from rfl] at hyes
  obtain ⟨Z, hZ⟩ : ∃ Z, placesS [([120], [])] = Z := ⟨_, rfl⟩
  have hZl : Z.length = 1 := by rw [← hZ]; rfl
  obtain ⟨p, hpe⟩ : ∃ p, placeOf [([120], [])] 0 ([120], []) = p := ⟨_, rfl⟩
  have hp : Z[0]? = some p := by rw [← hZ, ← hpe]; rfl
  have hp2 : p.2.1 = (rowS [[104, 105, 98, 112], [120], []]).length := by rw [← hpe]; rfl
  have hp3 : p.2.2 = 0 := by rw [← hpe]; rfl
  refine walk_enter Tryd.func28 rfl rfl rfl fun a0 F0 => ?_
  have M0 := Mem.new w
  refine wsl ?_
  refine sr (v := (.bool false)) F0 (run_as rfl rfl) rfl rfl rfl fun a1 F1 => ?_
  refine sn ?_
  clear F0
  refine wsl ?_
  refine sr (v := (.agg #[.string ⟨List.toArray [120]⟩, .string ⟨List.toArray []⟩])) F1 (run_blt (vs := #[(0, .string ⟨List.toArray [120]⟩)]) (cs := #[.string ⟨List.toArray [120]⟩, .string ⟨List.toArray []⟩]) rfl (bltE1 rfl) (by kernel_rfl)) rfl rfl rfl fun a2 F2 => ?_
  refine sqRow (cs := #[.string ⟨List.toArray [120]⟩, .string ⟨List.toArray []⟩]) (t := 36) (m := 1) F2 M0 (wantedS rfl) (run_boxes1 rfl (F2.ev 6 rfl)) rfl (by decide) fun g0 a3 w1 hgg0 hb1 F3 M1 => ?_
  refine sqC (v := (.tuple #[(.string ⟨(rowS [[104, 105, 98, 112], [120], []]).toArray⟩), (.int .i64 0)])) F3 M1 (wantedS rfl) (run_call rfl Tryd.func29 (by kernel_rfl) rfl (mapE1 (F3.ev 7 rfl))) rfl (by decide) (by have h := pmake_any [([120], [])] _ w1 (slOfBlk (cs := [.string ⟨List.toArray [120]⟩, .string ⟨List.toArray []⟩]) (M1.at 0 rfl) rfl) (by decide) (by decide); rw [awake_make] at h; exact h) fun a4 w2 hb2 F4 M2 => ?_
  refine mvS F4 rfl rfl rfl rfl rfl fun a5 F5 => ?_
  refine sr (v := (.string ⟨(rowS [[104, 105, 98, 112], [120], []]).toArray⟩)) F5 (run_ext rfl (F5.ev 5 rfl) rfl) rfl rfl rfl fun a6 F6 => ?_
  refine sr (v := (.int .i64 0)) F6 (run_ext rfl (F6.ev 5 rfl) rfl) rfl rfl rfl fun a7 F7 => ?_
  refine asS F7 rfl rfl rfl rfl rfl fun a8 F8 => ?_
  refine asS F8 rfl rfl rfl rfl rfl fun a9 F9 => ?_
  refine sn ?_
  clear F1 F2 F3 F4 F5 F6 F7 F8 M0 M1
  refine wsl ?_
  refine mvS F9 rfl rfl rfl rfl rfl fun a10 F10 => ?_
  refine sqT (T := fun u wx => (∃ v, u = .tuple #[v, .int .i64 0] ∧ wx.ownsRow w2.heap.size 91 3 v Z.length (Z.flatMap placeC)) ∧ Below w2.heap.size w2 wx) F10 (wantedS rfl) (run_call rfl Tryd.func58 (by kernel_rfl) rfl (mapE1 (F10.ev 12 rfl))) rfl (by decide) (by rw [← hZ]; exact pof_some hyes w2 (by rw [awake_row]; decide)) fun u1 a11 w3 hT3 F11 => ?_
  obtain ⟨⟨v2, rfl, hr3⟩, hb3⟩ := hT3
  have hO1 := OwnR.ofCall M2 hr3
  have M3 := M2.grow hb3
  refine mvS F11 rfl rfl rfl rfl rfl fun a12 F12 => ?_
  refine sr (v := v2) F12 (run_ext rfl (F12.ev 11 rfl) rfl) rfl rfl rfl fun a13 F13 => ?_
  refine sr (v := (.int .i64 0)) F13 (run_ext rfl (F13.ev 11 rfl) rfl) rfl rfl rfl fun a14 F14 => ?_
  refine asS F14 rfl rfl rfl rfl rfl fun a15 F15 => ?_
  refine asS F15 rfl rfl rfl rfl rfl fun a16 F16 => ?_
  refine sn ?_
  clear F9 F10 F11 F12 F13 F14 F15 M2
  refine wsl ?_
  refine mvS F16 rfl rfl rfl rfl rfl fun a17 F17 => ?_
  refine sr (v := (.bool true)) F17 (run_eqi rfl (F17.ev 16 rfl) rfl (beq_self_eq_true _)) rfl rfl rfl fun a18 F18 => ?_
  refine mvS F18 rfl rfl rfl rfl rfl fun a19 F19 => ?_
  refine sq (v := (.int .i64 0)) F19 (wantedG F19 rfl rfl rfl rfl rfl) (run_mv rfl (F19.ev 4 rfl)) rfl (by decide) fun a20 F20 => ?_
  refine sq (v := (.bool true)) F20 (wantedG F20 rfl rfl rfl rfl rfl) (run_eqi rfl (F20.ev 19 rfl) rfl (beq_self_eq_true _)) rfl (by decide) fun a21 F21 => ?_
  refine sr (v := (.bool true)) F21 (run_pick rfl (F21.ev 18 rfl) (F21.ev 20 rfl) rfl) rfl rfl rfl fun a22 F22 => ?_
  refine mvS F22 rfl rfl rfl rfl rfl fun a23 F23 => ?_
  refine sq (v := (.string ⟨(rowS [[104, 105, 98, 112], [120], []]).toArray⟩)) F23 (wantedG F23 rfl rfl rfl rfl rfl) (run_mv rfl (F23.ev 1 rfl)) rfl (by decide) fun a24 F24 => ?_
  refine sqStrs [[104, 105, 98, 112], [120], []] F24 M3 (wantedG F24 rfl rfl rfl rfl rfl) (run_strs3 rfl rfl rfl rfl) rfl (by decide) fun v3 a25 w4 hsv3 hb4 F25 M4 => ?_
  have hO2 := hO1.grow hb4
  refine sqC (v := (.string ⟨(rowS [[104, 105, 98, 112], [120], []]).toArray⟩)) F25 M4 (wantedG F25 rfl rfl rfl rfl rfl) (run_call rfl Tryd.func59 (by kernel_rfl) rfl (mapE1 (F25.ev 24 rfl))) rfl (by decide) (nrow_any [[104, 105, 98, 112], [120], []] _ w4 hsv3 (by decide) (by decide)) fun a26 w5 hb5 F26 M5 => ?_
  have hO3 := hO2.grow hb5
  have hS4 := hsv3.below hb5
  refine sq (v := (.bool true)) F26 (wantedG F26 rfl rfl rfl rfl rfl) (run_eqs rfl (F26.ev 23 rfl) (F26.ev 25 rfl) (beq_self_eq_true _)) rfl (by decide) fun a27 F27 => ?_
  refine sr (v := (.bool true)) F27 (run_pick rfl (F27.ev 22 rfl) (F27.ev 26 rfl) rfl) rfl rfl rfl fun a28 F28 => ?_
  refine mvS F28 rfl rfl rfl rfl rfl fun a29 F29 => ?_
  refine sq (v := v2) F29 (wantedG F29 rfl rfl rfl rfl rfl) (run_mv rfl (F29.ev 3 rfl)) rfl (by decide) fun a30 F30 => ?_
  refine sq (v := (.int .i64 (Z.length : Int))) F30 (wantedG F30 rfl rfl rfl rfl rfl) (run_lenS rfl (F30.ev 29 rfl) (Sl.own hO3) rfl Tryd.underlying86) rfl (by decide) fun a31 F31 => ?_
  refine sq (v := (.bool true)) F31 (wantedG F31 rfl rfl rfl rfl rfl) (run_eqi rfl (F31.ev 30 rfl) rfl (beq_iff_eq.2 (by omega))) rfl (by decide) fun a32 F32 => ?_
  refine sr (v := (.bool true)) F32 (run_pick rfl (F32.ev 28 rfl) (F32.ev 31 rfl) rfl) rfl rfl rfl fun a33 F33 => ?_
  refine mvS F33 rfl rfl rfl rfl rfl fun a34 F34 => ?_
  refine sq (v := v2) F34 (wantedG F34 rfl rfl rfl rfl rfl) (run_mv rfl (F34.ev 3 rfl)) rfl (by decide) fun a35 F35 => ?_
  refine sq (v := (slPtr v2 (0 * 3))) F35 (wantedG F35 rfl rfl rfl rfl rfl) (run_atP (i := 0) rfl (F35.ev 34 rfl) rfl rfl (Sl.own hO3) (by omega) elPlace.un (by kernel_rfl)) rfl (by decide) fun a36 F36 => ?_
  refine sq (v := (slPtr v2 (0 * 3 + 1))) F36 (wantedG F36 rfl rfl rfl rfl rfl) (run_fldP (m2 := 1) (s := 1) rfl (F36.ev 35 rfl) (Sl.own hO3) (by omega) Tryd.underlying91 rfl rfl (by kernel_rfl) (by decide)) rfl (by decide) fun a37 F37 => ?_
  refine sq (v := (.int .i64 (p.2.1 : Int))) F37 (wantedG F37 rfl rfl rfl rfl rfl) (run_ldP rfl (F37.ev 36 rfl) (Sl.own hO3) (flat_at placeC_len hp 1 rfl) (by kernel_rfl)) rfl (by decide) fun a38 F38 => ?_
  refine sq (v := (.string ⟨(rowS [[104, 105, 98, 112], [120], []]).toArray⟩)) F38 (wantedG F38 rfl rfl rfl rfl rfl) (run_mv rfl (F38.ev 1 rfl)) rfl (by decide) fun a39 F39 => ?_
  refine sq (v := (.int .i64 ((rowS [[104, 105, 98, 112], [120], []]).length : Int))) F39 (wantedG F39 rfl rfl rfl rfl rfl) (run_len rfl (F39.ev 38 rfl) rfl Tryd.underlying9) rfl (by decide) fun a40 F40 => ?_
  refine sq (v := (.bool true)) F40 (wantedG F40 rfl rfl rfl rfl rfl) (run_eqi rfl (F40.ev 37 rfl) (F40.ev 39 rfl) (beq_iff_eq.2 (by omega))) rfl (by decide) fun a41 F41 => ?_
  refine sr (v := (.bool true)) F41 (run_pick rfl (F41.ev 33 rfl) (F41.ev 40 rfl) rfl) rfl rfl rfl fun a42 F42 => ?_
  refine mvS F42 rfl rfl rfl rfl rfl fun a43 F43 => ?_
  refine sq (v := v2) F43 (wantedG F43 rfl rfl rfl rfl rfl) (run_mv rfl (F43.ev 3 rfl)) rfl (by decide) fun a44 F44 => ?_
  refine sq (v := (slPtr v2 (0 * 3))) F44 (wantedG F44 rfl rfl rfl rfl rfl) (run_atP (i := 0) rfl (F44.ev 43 rfl) rfl rfl (Sl.own hO3) (by omega) elPlace.un (by kernel_rfl)) rfl (by decide) fun a45 F45 => ?_
  refine sq (v := (slPtr v2 (0 * 3 + 2))) F45 (wantedG F45 rfl rfl rfl rfl rfl) (run_fldP (m2 := 1) (s := 2) rfl (F45.ev 44 rfl) (Sl.own hO3) (by omega) Tryd.underlying91 rfl rfl (by kernel_rfl) (by decide)) rfl (by decide) fun a46 F46 => ?_
  refine sq (v := (.int .i64 (p.2.2 : Int))) F46 (wantedG F46 rfl rfl rfl rfl rfl) (run_ldP rfl (F46.ev 45 rfl) (Sl.own hO3) (flat_at placeC_len hp 2 rfl) (by kernel_rfl)) rfl (by decide) fun a47 F47 => ?_
  refine sq (v := (.bool true)) F47 (wantedG F47 rfl rfl rfl rfl rfl) (run_eqi rfl (F47.ev 46 rfl) rfl (beq_iff_eq.2 (by omega))) rfl (by decide) fun a48 F48 => ?_
  refine sr (v := (.bool true)) F48 (run_pick rfl (F48.ev 42 rfl) (F48.ev 47 rfl) rfl) rfl rfl rfl fun a49 F49 => ?_
  refine asS F49 rfl rfl rfl rfl rfl fun a50 F50 => ?_
  refine sn ?_
  clear F16 F17 F18 F19 F20 F21 F22 F23 F24 F25 F26 F27 F28 F29 F30 F31 F32 F33 F34 F35 F36 F37 F38 F39 F40 F41 F42 F43 F44 F45 F46 F47 F48 F49 M3 M4
  refine wp_ret ?_
  exact ret1 F50 rfl rfl ⟨rfl, M5.below⟩
end Go.Proofs.YtdjjiblijbjobaaDoor
