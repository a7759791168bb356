/- The walk of the law LzRepeats. Printed by gen_lz9.py. -/
import Derived.Test.YtpobmaklgnioeaaLz8
namespace Go.Proofs.Ytpobmaklgnioeaa
open Go.RowKit

theorem made_bytes (m j : Nat) (hj : j < m) : (madeCells #[Value.int .u8 0] m)[j]? = some (.int .u8 0) := by
  unfold madeCells
  simp [hj, Nat.mod_one]
theorem sqMakeY {a : Act} {op : Oper} {w w0 : World} {n s m : Nat} {L : List (Nat × Value)} {ops : Array Oper} {rest : List Oper} {Q : Exit → Act → World → Prop} {M : List (Nat × (Obj → Prop))} {x y : Operand} {k k2 : IntKind} {p p2 : Int} (hF : Fr a n L) (hM : Mem w0 M w) (hgd : op.guard = none) (ho : op.op = .makeSlice 32 x y) (hx : a.eval x = .int k p) (hy : a.eval y = .int k2 p2) (hp : p = (m : Int)) (hp2 : p2 = (m : Int)) (hm : m ≤ 35184372088832) (hd : op.dst = some s) (hs : s < n)
    (h : ∀ g a2 w2, w.heap.size ≤ g → Below w.heap.size w w2 → Fr a2 n ((s, .slice (some ⟨g, 0, none⟩) m m) :: L) → Mem w0 ((g, isY (List.replicate m 0)) :: M) w2 → wpList Try.prog ops Q rest a2 w2) : wpList Try.prog ops Q (op :: rest) a w := by
  subst hp hp2
  have hr := run_make_row' (P := Try.prog) 32 5 (.int .u8 0) 1 Try.underlying32 (by kernel_rfl) rfl k k2 m (by omega) (by omega) w
  have hb : Below w.heap.size w (w.alloc (.cells (madeCells #[Value.int .u8 0] m) 5)) := (Below.refl _ _).alloc (Nat.le_refl _) _
  refine sq hF (wantedS hgd) (v := .slice (some ⟨w.heap.size, 0, none⟩) m m) (w2 := w.alloc (.cells (madeCells #[Value.int .u8 0] m) 5)) ?_ hd hs fun a2 hF2 => h _ a2 _ (Nat.le_refl _) hb hF2 (hM.addS hb (Nat.le_refl _) ⟨_, heap_alloc_new w _, _, 0, 0, rfl, ?_, fun j hj => ?_, fun j _ => by omega⟩)
  · unfold execOp
    simp only [ho, hx, hy, Sem.run_bind, hr, Result.andThen_ok, Sem.run_pure]
  · rw [size_madeCells, List.length_replicate]; exact Nat.le_refl _
  · rw [List.length_replicate] at hj
    rw [made_bytes m j hj]
    simp [bt, hj]
set_option maxRecDepth 100000 in
set_option maxHeartbeats 1000000 in
theorem lawZRepeats_any (c : UInt8) (n : Nat) (w : World) (hn : n < 65536) : Calls Try.prog 8 #[.int .u8 (c.toNat : Int), .int .u16 (n : Int)] w fun e w' => e = .returned (.bool true) ∧ Below w.heap.size w w' := by
  by_cases h : 5000 < n
  · skip
    refine walk_enter Try.func8 rfl rfl rfl fun a0 hF0 => ?_
    have hM0 := Mem.new w
    refine wp_seq ?_
    refine wp_region_lit ?_
    refine sq (v := (.bool false)) hF0 (wantedS rfl) (run_as rfl rfl) rfl (by decide) fun a1 hF1 => ?_
    refine sqEnd ?_
    clear hF0
    refine nx ?_
    refine wp_seq ?_
    refine wp_seq ?_
    refine wp_region_lit ?_
    refine sq (v := (.int .u16 (n : Int))) hF1 (wantedS rfl) (run_mv rfl (hF1.ev 1 rfl)) rfl (by decide) fun a2 hF2 => ?_
    refine sq (v := (.bool true)) hF2 (wantedS rfl) (run_gtr rfl (hF2.ev 8 rfl) rfl (decide_eq_true (by omega))) rfl (by decide) fun a3 hF3 => ?_
    refine sq (v := (.bool true)) hF3 (wantedS rfl) (run_mv rfl (hF3.ev 9 rfl)) rfl (by decide) fun a4 hF4 => ?_
    refine sqSkip hF4 (unwantedG hF4 rfl rfl rfl rfl rfl) rfl (by decide) fun a5 hF5 => ?_
    refine sqSkip hF5 (unwantedG hF5 rfl rfl rfl rfl rfl) rfl (by decide) fun a6 hF6 => ?_
    refine sq (v := (.bool true)) hF6 (wantedS rfl) (run_pick rfl (hF6.ev 10 rfl) rfl (hF6.ev 12 rfl)) rfl (by decide) fun a7 hF7 => ?_
    refine sqEnd ?_
    clear hF1 hF2 hF3 hF4 hF5 hF6
    refine nx ?_
    refine wp_cond_true (hF7.ev 13 rfl) ?_
    refine wp_seq ?_
    refine wp_region_lit ?_
    refine sqC (v := (.bool true)) hF7 hM0 (wantedS rfl) (run_call rfl Try.func9 (by kernel_rfl) rfl (mapE0 )) rfl (by decide) (zawake_any w) fun a8 w1 hb1 hF8 hM1 => ?_
    refine sq (v := (.bool true)) hF8 (wantedS rfl) (run_as rfl (hF8.ev 14 rfl)) rfl (by decide) fun a9 hF9 => ?_
    refine sqEnd ?_
    clear hF7 hF8 hM0
    refine nx ?_
    refine wp_ret ?_
    refine nxRet ?_
    exact ret1 hF9 rfl rfl ⟨rfl, hM1.below⟩
  by_cases h2 : n = 0
  · skip
    refine walk_enter Try.func8 rfl rfl rfl fun a0 hF0 => ?_
    have hM0 := Mem.new w
    refine wp_seq ?_
    refine wp_region_lit ?_
    refine sq (v := (.bool false)) hF0 (wantedS rfl) (run_as rfl rfl) rfl (by decide) fun a1 hF1 => ?_
    refine sqEnd ?_
    clear hF0
    refine nx ?_
    refine wp_seq ?_
    refine wp_seq ?_
    refine wp_region_lit ?_
    refine sq (v := (.int .u16 (n : Int))) hF1 (wantedS rfl) (run_mv rfl (hF1.ev 1 rfl)) rfl (by decide) fun a2 hF2 => ?_
    refine sq (v := (.bool false)) hF2 (wantedS rfl) (run_gtr rfl (hF2.ev 8 rfl) rfl (decide_eq_false (by omega))) rfl (by decide) fun a3 hF3 => ?_
    refine sq (v := (.bool false)) hF3 (wantedS rfl) (run_mv rfl (hF3.ev 9 rfl)) rfl (by decide) fun a4 hF4 => ?_
    refine sq (v := (.int .u16 (n : Int))) hF4 (wantedG hF4 rfl rfl rfl rfl rfl) (run_mv rfl (hF4.ev 1 rfl)) rfl (by decide) fun a5 hF5 => ?_
    refine sq (v := (.bool true)) hF5 (wantedG hF5 rfl rfl rfl rfl rfl) (run_eqi rfl (hF5.ev 11 rfl) rfl (beq_iff_eq.2 (by omega))) rfl (by decide) fun a6 hF6 => ?_
    refine sq (v := (.bool true)) hF6 (wantedS rfl) (run_pick rfl (hF6.ev 10 rfl) rfl (hF6.ev 12 rfl)) rfl (by decide) fun a7 hF7 => ?_
    refine sqEnd ?_
    clear hF1 hF2 hF3 hF4 hF5 hF6
    refine nx ?_
    refine wp_cond_true (hF7.ev 13 rfl) ?_
    refine wp_seq ?_
    refine wp_region_lit ?_
    refine sqC (v := (.bool true)) hF7 hM0 (wantedS rfl) (run_call rfl Try.func9 (by kernel_rfl) rfl (mapE0 )) rfl (by decide) (zawake_any w) fun a8 w1 hb1 hF8 hM1 => ?_
    refine sq (v := (.bool true)) hF8 (wantedS rfl) (run_as rfl (hF8.ev 14 rfl)) rfl (by decide) fun a9 hF9 => ?_
    refine sqEnd ?_
    clear hF7 hF8 hM0
    refine nx ?_
    refine wp_ret ?_
    refine nxRet ?_
    exact ret1 hF9 rfl rfl ⟨rfl, hM1.below⟩
  · skip
    refine walk_enter Try.func8 rfl rfl rfl fun a0 hF0 => ?_
    have hM0 := Mem.new w
    refine wp_seq ?_
    refine wp_region_lit ?_
    refine sq (v := (.bool false)) hF0 (wantedS rfl) (run_as rfl rfl) rfl (by decide) fun a1 hF1 => ?_
    refine sqEnd ?_
    clear hF0
    refine nx ?_
    refine wp_seq ?_
    refine wp_seq ?_
    refine wp_region_lit ?_
    refine sq (v := (.int .u16 (n : Int))) hF1 (wantedS rfl) (run_mv rfl (hF1.ev 1 rfl)) rfl (by decide) fun a2 hF2 => ?_
    refine sq (v := (.bool false)) hF2 (wantedS rfl) (run_gtr rfl (hF2.ev 8 rfl) rfl (decide_eq_false (by omega))) rfl (by decide) fun a3 hF3 => ?_
    refine sq (v := (.bool false)) hF3 (wantedS rfl) (run_mv rfl (hF3.ev 9 rfl)) rfl (by decide) fun a4 hF4 => ?_
    refine sq (v := (.int .u16 (n : Int))) hF4 (wantedG hF4 rfl rfl rfl rfl rfl) (run_mv rfl (hF4.ev 1 rfl)) rfl (by decide) fun a5 hF5 => ?_
    refine sq (v := (.bool false)) hF5 (wantedG hF5 rfl rfl rfl rfl rfl) (run_eqi rfl (hF5.ev 11 rfl) rfl (beq_eq_false_iff_ne.2 (by omega))) rfl (by decide) fun a6 hF6 => ?_
    refine sq (v := (.bool false)) hF6 (wantedS rfl) (run_pick rfl (hF6.ev 10 rfl) rfl (hF6.ev 12 rfl)) rfl (by decide) fun a7 hF7 => ?_
    refine sqEnd ?_
    clear hF1 hF2 hF3 hF4 hF5 hF6
    refine nx ?_
    refine wp_cond_false (hF7.ev 13 rfl) ?_
    refine wp_skip ?_
    refine nx ?_
    refine wp_seq ?_
    refine wp_region_lit ?_
    refine sq (v := (.int .u16 (n : Int))) hF7 (wantedS rfl) (run_mv rfl (hF7.ev 1 rfl)) rfl (by decide) fun a8 hF8 => ?_
    refine sq (v := (.int .i64 (n : Int))) hF8 (wantedS rfl) (run_cvI (r := (n : Int)) rfl (hF8.ev 15 rfl) Try.underlying30 Try.underlying3 (by rw [IntKind.wrap_i64]; omega)) rfl (by decide) fun a9 hF9 => ?_
    refine sqMakeY (m := n) hF9 hM0 rfl rfl (hF9.ev 16 rfl) (hF9.ev 16 rfl) rfl rfl (by omega) rfl (by decide) fun g0 a10 w1 hgg0 hb1 hF10 hM1 => ?_
    refine sq (v := (.slice (some ⟨g0, 0, none⟩) n n)) hF10 (wantedS rfl) (run_as rfl (hF10.ev 17 rfl)) rfl (by decide) fun a11 hF11 => ?_
    refine sqEnd ?_
    clear hF7 hF8 hF9 hF10 hM0
    refine nx ?_
    refine wp_seq ?_
    refine wp_seq ?_
    refine wp_region_lit ?_
    refine sq (v := (.int .i64 0)) hF11 (wantedS rfl) (run_as rfl rfl) rfl (by decide) fun a12 hF12 => ?_
    refine sqEnd ?_
    clear hF11
    refine nx ?_
    refine wp_block ?_
    refine wkLoop (fun m a w2 => ∃ i : Nat, i ≤ n ∧ m = n - i ∧ Fr a 43 [(0, .int .u8 (c.toNat : Int)), (1, .int .u16 (n : Int)), (5, .slice (some ⟨g0, 0, none⟩) n n), (6, .int .i64 (i : Int))] ∧ Mem w [(g0, isY (List.replicate i c ++ List.replicate (n - i) 0))] w2) n ⟨0, Nat.zero_le _, rfl, hF12.sub ⟨rfl, rfl, rfl, rfl, trivial⟩, hM1⟩ ?_
    rintro m a0 w1 ⟨i, hi, rfl, hF0, hM0⟩
    obtain ⟨l2, hl2⟩ : ∃ l2, (List.replicate i c ++ List.replicate (n - i) 0) = l2 := ⟨_, rfl⟩
    have hl2l : l2.length = n := by rw [← hl2, List.length_append, List.length_replicate, List.length_replicate]; omega
    rw [hl2] at hM0
    by_cases h1 : i < n
    · have hst : List.replicate (i + 1) c ++ List.replicate (n - (i + 1)) 0 = l2.set i c := by
        have e0 : List.replicate (n - i) (0 : UInt8) = 0 :: List.replicate (n - (i + 1)) 0 := by rw [show n - i = n - (i + 1) + 1 by omega]; rfl
        rw [← hl2, e0, List.set_append_right _ _ (by simp), List.length_replicate, Nat.sub_self, List.set_cons_zero, List.replicate_succ', List.append_assoc]
        rfl
      refine wp_seq ?_
      refine wp_seq ?_
      refine wp_region_lit ?_
      refine sq (v := (.int .i64 (i : Int))) hF0 (wantedS rfl) (run_mv rfl (hF0.ev 6 rfl)) rfl (by decide) fun a1 hF1 => ?_
      refine sq (v := (.slice (some ⟨g0, 0, none⟩) n n)) hF1 (wantedS rfl) (run_mv rfl (hF1.ev 5 rfl)) rfl (by decide) fun a2 hF2 => ?_
      refine sq (v := (.int .i64 (n : Int))) hF2 (wantedS rfl) (run_lenSl rfl (hF2.ev 19 rfl) rfl Try.underlying32) rfl (by decide) fun a3 hF3 => ?_
      refine sq (v := (.bool true)) hF3 (wantedS rfl) (run_lss rfl (hF3.ev 18 rfl) (hF3.ev 20 rfl) (decide_eq_true (by omega))) rfl (by decide) fun a4 hF4 => ?_
      refine sqEnd ?_
      clear hF0 hF1 hF2 hF3
      refine nx ?_
      refine wp_cond_true (hF4.ev 21 rfl) ?_
      refine wp_skip ?_
      refine nx ?_
      refine wp_seq ?_
      refine wp_block ?_
      refine wp_region_lit ?_
      refine sq (v := (.slice (some ⟨g0, 0, none⟩) n n)) hF4 (wantedS rfl) (run_mv rfl (hF4.ev 5 rfl)) rfl (by decide) fun a5 hF5 => ?_
      refine sq (v := (.int .i64 (i : Int))) hF5 (wantedS rfl) (run_mv rfl (hF5.ev 6 rfl)) rfl (by decide) fun a6 hF6 => ?_
      refine sq (v := (.int .u8 (c.toNat : Int))) hF6 (wantedS rfl) (run_mv rfl (hF6.ev 0 rfl)) rfl (by decide) fun a7 hF7 => ?_
      refine sq (v := (.pointer (some ⟨g0, i, none⟩))) hF7 (wantedS rfl) (run_idxY (i := i) rfl (hF7.ev 24 rfl) (hF7.ev 25 rfl) rfl (by omega)) rfl (by decide) fun a8 hF8 => ?_
      refine sqSetY (j := 0) hF8 hM0 rfl rfl rfl (hF8.ev 27 rfl) (hF8.ev 26 rfl) rfl (by omega) fun a9 w2 hF9 hM1 => ?_
      refine sqEnd ?_
      clear hF4 hF5 hF6 hF7 hF8 hM0
      refine bkEnd ?_
      refine nx ?_
      refine wp_region_lit ?_
      refine sq (v := (.int .i64 (i : Int))) hF9 (wantedS rfl) (run_mv rfl (hF9.ev 6 rfl)) rfl (by decide) fun a10 hF10 => ?_
      refine sq (v := (.int .i64 ((i + 1 : Nat) : Int))) hF10 (wantedS rfl) (run_add (r := ((i + 1 : Nat) : Int)) rfl (hF10.ev 22 rfl) rfl (by rw [IntKind.wrap_i64]; omega)) rfl (by decide) fun a11 hF11 => ?_
      refine sq (v := (.int .i64 ((i + 1 : Nat) : Int))) hF11 (wantedS rfl) (run_as rfl (hF11.ev 23 rfl)) rfl (by decide) fun a12 hF12 => ?_
      refine sqEnd ?_
      clear hF9 hF10 hF11
      refine nx ?_
      exact ⟨_, by omega, i + 1, by omega, rfl, hF12.sub ⟨rfl, rfl, rfl, rfl, trivial⟩, by rw [hst]; exact hM1⟩
    · have hie : i = n := by omega
      have hfin : l2.take n = List.replicate n c := by rw [← hl2, hie, Nat.sub_self, List.replicate_zero, List.append_nil, List.take_of_length_le (by simp)]
      have hpr := pack_rep c n (by omega)
      refine wp_seq ?_
      refine wp_seq ?_
      refine wp_region_lit ?_
      refine sq (v := (.int .i64 (i : Int))) hF0 (wantedS rfl) (run_mv rfl (hF0.ev 6 rfl)) rfl (by decide) fun a1 hF1 => ?_
      refine sq (v := (.slice (some ⟨g0, 0, none⟩) n n)) hF1 (wantedS rfl) (run_mv rfl (hF1.ev 5 rfl)) rfl (by decide) fun a2 hF2 => ?_
      refine sq (v := (.int .i64 (n : Int))) hF2 (wantedS rfl) (run_lenSl rfl (hF2.ev 19 rfl) rfl Try.underlying32) rfl (by decide) fun a3 hF3 => ?_
      refine sq (v := (.bool false)) hF3 (wantedS rfl) (run_lss rfl (hF3.ev 18 rfl) (hF3.ev 20 rfl) (decide_eq_false (by omega))) rfl (by decide) fun a4 hF4 => ?_
      refine sqEnd ?_
      clear hF0 hF1 hF2 hF3
      refine nx ?_
      refine wp_cond_false (hF4.ev 21 rfl) ?_
      refine wp_exit ?_
      refine nxExit ?_
      refine nxExit ?_
      refine bkHere ?_
      refine nx ?_
      refine wp_seq ?_
      refine wp_region_lit ?_
      refine sq (v := (.slice (some ⟨g0, 0, none⟩) n n)) hF4 (wantedS rfl) (run_mv rfl (hF4.ev 5 rfl)) rfl (by decide) fun a5 hF5 => ?_
      refine sq (v := (.string ⟨(l2.take n).toArray⟩)) hF5 (wantedS rfl) (run_cv rfl (hF5.ev 28 rfl) (run_strY (hM0.ob 0 rfl) (by omega))) rfl (by decide) fun a6 hF6 => ?_
      refine sqC (v := (.string ⟨(packS (List.replicate n c)).toArray⟩)) hF6 hM0 (wantedS rfl) (run_call rfl Try.func10 (by kernel_rfl) rfl (mapE1 (hF6.ev 29 rfl))) rfl (by decide) ((by rw [hfin]; exact zpack_any (List.replicate n c) w1 (by rw [List.length_replicate]; omega))) fun a7 w2 hb2 hF7 hM1 => ?_
      refine sq (v := (.string ⟨(packS (List.replicate n c)).toArray⟩)) hF7 (wantedS rfl) (run_as rfl (hF7.ev 30 rfl)) rfl (by decide) fun a8 hF8 => ?_
      refine sqEnd ?_
      clear hF4 hF5 hF6 hF7 hM0
      refine nx ?_
      refine wp_seq ?_
      refine wp_region_lit ?_
      refine sq (v := (.string ⟨(packS (List.replicate n c)).toArray⟩)) hF8 (wantedS rfl) (run_mv rfl (hF8.ev 7 rfl)) rfl (by decide) fun a9 hF9 => ?_
      refine sq (v := (.int .i64 ((packS (List.replicate n c)).length : Int))) hF9 (wantedS rfl) (run_len rfl (hF9.ev 31 rfl) rfl Try.underlying9) rfl (by decide) fun a10 hF10 => ?_
      refine sq (v := (.int .u16 (n : Int))) hF10 (wantedS rfl) (run_mv rfl (hF10.ev 1 rfl)) rfl (by decide) fun a11 hF11 => ?_
      refine sq (v := (.int .i64 (n : Int))) hF11 (wantedS rfl) (run_cvI (r := (n : Int)) rfl (hF11.ev 33 rfl) Try.underlying30 Try.underlying3 (by rw [IntKind.wrap_i64]; omega)) rfl (by decide) fun a12 hF12 => ?_
      refine sq (v := (.int .i64 ((n : Int) + 129))) hF12 (wantedS rfl) (run_add (r := (n : Int) + 129) rfl (hF12.ev 34 rfl) rfl (by rw [IntKind.wrap_i64]; omega)) rfl (by decide) fun a13 hF13 => ?_
      refine sq (v := (.int .i64 (((n + 129) / 131 : Nat) : Int))) hF13 (wantedS rfl) (run_quo (r := (((n + 129) / 131 : Nat) : Int)) rfl (hF13.ev 35 rfl) rfl (by omega) (by rw [Int.tdiv_eq_ediv_of_nonneg (by omega), IntKind.wrap_i64]; try omega)) rfl (by decide) fun a14 hF14 => ?_
      refine sq (v := (.int .i64 ((3 * ((n + 129) / 131) : Nat) : Int))) hF14 (wantedS rfl) (run_mul (r := ((3 * ((n + 129) / 131) : Nat) : Int)) rfl rfl (hF14.ev 36 rfl) (by rw [IntKind.wrap_i64]; omega)) rfl (by decide) fun a15 hF15 => ?_
      refine sq (v := (.int .i64 ((8 + 3 * ((n + 129) / 131) : Nat) : Int))) hF15 (wantedS rfl) (run_add (r := ((8 + 3 * ((n + 129) / 131) : Nat) : Int)) rfl rfl (hF15.ev 37 rfl) (by rw [IntKind.wrap_i64]; omega)) rfl (by decide) fun a16 hF16 => ?_
      refine sq (v := (.bool true)) hF16 (wantedS rfl) (run_leq rfl (hF16.ev 32 rfl) (hF16.ev 38 rfl) (decide_eq_true (by omega))) rfl (by decide) fun a17 hF17 => ?_
      refine sq (v := (.bool true)) hF17 (wantedS rfl) (run_mv rfl (hF17.ev 39 rfl)) rfl (by decide) fun a18 hF18 => ?_
      refine sqC (v := (.bool true)) hF18 hM1 (wantedG hF18 rfl rfl rfl rfl rfl) (run_call rfl Try.func9 (by kernel_rfl) rfl (mapE0 )) rfl (by decide) (zawake_any w2) fun a19 w3 hb3 hF19 hM2 => ?_
      refine sq (v := (.bool true)) hF19 (wantedS rfl) (run_pick rfl (hF19.ev 40 rfl) (hF19.ev 41 rfl) rfl) rfl (by decide) fun a20 hF20 => ?_
      refine sq (v := (.bool true)) hF20 (wantedS rfl) (run_as rfl (hF20.ev 42 rfl)) rfl (by decide) fun a21 hF21 => ?_
      refine sqEnd ?_
      clear hF8 hF9 hF10 hF11 hF12 hF13 hF14 hF15 hF16 hF17 hF18 hF19 hF20 hM1
      refine nx ?_
      refine wp_ret ?_
      exact ret1 hF21 rfl rfl ⟨rfl, hM2.below⟩
end Go.Proofs.Ytpobmaklgnioeaa
