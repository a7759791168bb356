/- The law ChunkTails. Printed by gen_chk2.py. -/
import Derived.Test.YtdjjiblijbjobaaDoorChk0
namespace Go.Proofs.YtdjjiblijbjobaaDoor
open Go.RowKit

theorem elInt : ElT Tryd.prog 26 3 1 8 := by
  obtain ⟨i, h1, h2, h3, h4⟩ := info_parts (show (Tryd.prog.info? 3).map (fun i => (i.zero, i.size, i.bytes)) = some (some (.int .i64 0), 1, 8) by kernel_rfl)
  exact ⟨Tryd.underlying26, ⟨i, _, h1, h2, h3, h4, rfl⟩, by decide⟩
def ci (n : Nat) : Value := .int .i64 (n : Int)
theorem map_atI {l : List Nat} {i : Nat} {x : Nat} (h : l[i]? = some x) : (l.map ci)[i * 1]? = some (ci x) := by rw [Nat.mul_one, List.getElem?_map, h]; rfl
theorem run_ints1 {a : Act} {op : Oper} {w : World} {x : Operand} {i : Int} (ho : op.op = .buildSlice 26 1 #[(0, x)]) (hx : a.eval x = .int .i64 i) :
    (execOp a.eval op).run Tryd.prog w = .ok (.value (.slice (some ⟨w.heap.size, 0, none⟩) 1 1)) (w.alloc (.cells #[.int .i64 i] 3)) := by
  unfold execOp
  simp only [ho, List.map_toArray, List.map_cons, List.map_nil, hx]
  go_simp
theorem leftS_len : ∀ (n : Nat) (b : List UInt8), b.length ≤ n → (leftS b).length ≤ b.length
  | 0, b, hn => by
    have : b = [] := List.eq_nil_of_length_eq_zero (by omega)
    subst this
    rw [leftS_nil]; exact Nat.le_refl _
  | n + 1, b, hn => by
    by_cases hb : b = []
    · subst hb; rw [leftS_nil]; exact Nat.le_refl _
    · have hp := endS_pos hb
      have h0 : 0 < b.length := List.length_pos_iff.2 hb
      have := leftS_len n (b.drop (endS b)) (by rw [List.length_drop]; omega)
      rw [List.length_drop] at this
      rw [leftS_cons hb, List.length_cons]
      omega
theorem endsS_len (b : List UInt8) (q : Nat) : (endsS b q).length ≤ b.length := Nat.le_trans (List.length_filter_le _ _) (leftS_len _ b (Nat.le_refl _))
theorem cutS_none {r : List UInt8} (h : cutS r = []) : r = [] := by
  refine Classical.byContradiction fun hc => ?_
  rw [cutS_cons hc] at h
  cases h
theorem ccut_nil (w : World) : Calls Tryd.prog 12 #[.string ⟨List.toArray []⟩] w fun e w' => ∃ u, e = .returned u ∧ (∃ pz cz, u = .slice pz 0 cz) ∧ Below w.heap.size w w' := by
  refine (ccut_any [] w (by simp)).mono fun e w' ⟨u, h1, h2, h3⟩ => ⟨u, h1, ?_, h3⟩
  rw [cutS_nil] at h2
  rcases h2.2 with ⟨h4, _⟩ | ⟨g, cap, cur, rfl, _⟩
  · exact ⟨_, _, h4⟩
  · exact ⟨_, _, rfl⟩
set_option maxRecDepth 100000 in
set_option maxHeartbeats 1000000 in
theorem ends_any (b : List UInt8) (q : Nat) (w : World) (hb : b.length < 2 ^ 30) (hq : q < 2 ^ 30) : Calls Tryd.prog 13 #[.string ⟨b.toArray⟩, .int .i64 (q : Int)] w fun e w' => ∃ u, e = .returned u ∧ w'.ownsRow w.heap.size 3 1 u (endsS b q).length ((endsS b q).map ci) ∧ Below w.heap.size w w' := by
  have hcl := cutS_len _ b (Nat.le_refl _)
  by_cases hb0 : b = []
  · subst hb0
    rw [endsS_nil]
    refine walk_enter Tryd.func13 rfl rfl rfl fun a0 hF0 => ?_
    have hM0 := Mem.new w
    refine wp_seq ?_
    refine wp_region_lit ?_
    refine sq (v := (.slice none 0 0)) hF0 (wantedS rfl) (run_as rfl rfl) rfl (by decide) fun a1 hF1 => ?_
    refine sqEnd ?_
    clear hF0
    refine nx ?_
    refine wp_seq ?_
    refine wp_region_lit ?_
    refine sq (v := (.slice none 0 0)) hF1 (wantedS rfl) (run_as rfl rfl) rfl (by decide) fun a2 hF2 => ?_
    refine sqEnd ?_
    clear hF1
    refine nx ?_
    refine wp_seq ?_
    refine wp_region_lit ?_
    refine sq (v := (.string ⟨List.toArray []⟩)) hF2 (wantedS rfl) (run_mv rfl (hF2.ev 0 rfl)) rfl (by decide) fun a3 hF3 => ?_
    refine sq (v := (.int .i64 0)) hF3 (wantedS rfl) (run_len rfl (hF3.ev 9 rfl) rfl Tryd.underlying9) rfl (by decide) fun a4 hF4 => ?_
    refine sq (v := (.int .i64 0)) hF4 (wantedS rfl) (run_as rfl (hF4.ev 10 rfl)) rfl (by decide) fun a5 hF5 => ?_
    refine sqEnd ?_
    clear hF2 hF3 hF4
    refine nx ?_
    refine wp_seq ?_
    refine wp_seq ?_
    refine wp_region_lit ?_
    refine sq (v := (.string ⟨List.toArray []⟩)) hF5 (wantedS rfl) (run_mv rfl (hF5.ev 0 rfl)) rfl (by decide) fun a6 hF6 => ?_
    refine sqT (T := fun u wx => (∃ pz cz, u = .slice pz 0 cz) ∧ Below w.heap.size w wx) hF6 (wantedS rfl) (run_call rfl Tryd.func12 (by kernel_rfl) rfl (mapE1 (hF6.ev 11 rfl))) rfl (by decide) (ccut_nil w) fun u0 a7 w1 hT1 hF7 => ?_
    obtain ⟨⟨pz, cz, rfl⟩, hb1⟩ := hT1
    have hM1 := hM0.grow hb1
    refine sq (v := (.int .i64 0)) hF7 (wantedS rfl) (run_lenSl rfl (hF7.ev 12 rfl) rfl Tryd.underlying23) rfl (by decide) fun a8 hF8 => ?_
    refine sq (v := (.int .i64 0)) hF8 (wantedS rfl) (run_mv rfl rfl) rfl (by decide) fun a9 hF9 => ?_
    refine sqEnd ?_
    clear hF5 hF6 hF7 hF8 hM0
    refine nx ?_
    refine wp_block ?_
    refine wkLoop (fun m a w2 => m = 0 ∧ Fr a 31 [(5, .slice none 0 0), (13, .int .i64 0), (14, .int .i64 0)] ∧ Mem w [] w2) 0 ⟨rfl, hF9.sub ⟨rfl, rfl, rfl, trivial⟩, hM1⟩ ?_
    rintro m a0 w1 ⟨_, hF0, hM0⟩
    refine wp_seq ?_
    refine wp_region_lit ?_
    refine sq (v := (.bool false)) hF0 (wantedS rfl) (run_lss rfl (hF0.ev 14 rfl) (hF0.ev 13 rfl) (by decide)) rfl (by decide) fun a1 hF1 => ?_
    refine sqEnd ?_
    clear hF0
    refine nx ?_
    refine wp_seq ?_
    refine wp_cond_false (hF1.ev 15 rfl) ?_
    refine wp_exit ?_
    refine nxExit ?_
    refine nxExit ?_
    refine bkHere ?_
    refine nx ?_
    refine wp_seq ?_
    refine wp_region_lit ?_
    refine sq (v := (.slice none 0 0)) hF1 (wantedS rfl) (run_mv rfl (hF1.ev 5 rfl)) rfl (by decide) fun a2 hF2 => ?_
    refine sq (v := (.slice none 0 0)) hF2 (wantedS rfl) (run_as rfl (hF2.ev 30 rfl)) rfl (by decide) fun a3 hF3 => ?_
    refine sqEnd ?_
    clear hF1 hF2
    refine nx ?_
    refine wp_ret ?_
    exact ret1 hF3 rfl rfl ⟨_, rfl, ⟨by simp, .inl ⟨rfl, rfl⟩⟩, hM0.below⟩
  · have hpos : 0 < (cutS b).length := by rw [cutS_cons hb0]; exact Nat.succ_pos _
    refine walk_enter Tryd.func13 rfl rfl rfl fun a0 hF0 => ?_
    have hM0 := Mem.new w
    refine wp_seq ?_
    refine wp_region_lit ?_
    refine sq (v := (.slice none 0 0)) hF0 (wantedS rfl) (run_as rfl rfl) rfl (by decide) fun a1 hF1 => ?_
    refine sqEnd ?_
    clear hF0
    refine nx ?_
    refine wp_seq ?_
    refine wp_region_lit ?_
    refine sq (v := (.slice none 0 0)) hF1 (wantedS rfl) (run_as rfl rfl) rfl (by decide) fun a2 hF2 => ?_
    refine sqEnd ?_
    clear hF1
    refine nx ?_
    refine wp_seq ?_
    refine wp_region_lit ?_
    refine sq (v := (.string ⟨b.toArray⟩)) hF2 (wantedS rfl) (run_mv rfl (hF2.ev 0 rfl)) rfl (by decide) fun a3 hF3 => ?_
    refine sq (v := (.int .i64 (b.length : Int))) hF3 (wantedS rfl) (run_len rfl (hF3.ev 9 rfl) rfl Tryd.underlying9) rfl (by decide) fun a4 hF4 => ?_
    refine sq (v := (.int .i64 (b.length : Int))) hF4 (wantedS rfl) (run_as rfl (hF4.ev 10 rfl)) rfl (by decide) fun a5 hF5 => ?_
    refine sqEnd ?_
    clear hF2 hF3 hF4
    refine nx ?_
    refine wp_seq ?_
    refine wp_seq ?_
    refine wp_region_lit ?_
    refine sq (v := (.string ⟨b.toArray⟩)) hF5 (wantedS rfl) (run_mv rfl (hF5.ev 0 rfl)) rfl (by decide) fun a6 hF6 => ?_
    refine sqT (T := fun u wx => wx.ownsRow w.heap.size 9 1 u (cutS b).length ((cutS b).map tx) ∧ Below w.heap.size w wx) hF6 (wantedS rfl) (run_call rfl Tryd.func12 (by kernel_rfl) rfl (mapE1 (hF6.ev 11 rfl))) rfl (by decide) (ccut_any b w (by omega)) fun u0 a7 w1 hT1 hF7 => ?_
    obtain ⟨hr1, hb1⟩ := hT1
    obtain ⟨gt, ct, rfl, hcap, hggt, hM1⟩ := OwnR.ofCallMem hM0 hb1 hr1 (by omega)
    refine sq (v := (.int .i64 ((cutS b).length : Int))) hF7 (wantedS rfl) (run_lenS rfl (hF7.ev 12 rfl) (slOfRow (c := ct) (hM1.ob 0 rfl)) rfl Tryd.underlying23) rfl (by decide) fun a8 hF8 => ?_
    refine sq (v := (.int .i64 0)) hF8 (wantedS rfl) (run_mv rfl rfl) rfl (by decide) fun a9 hF9 => ?_
    refine sqEnd ?_
    clear hF5 hF6 hF7 hF8 hM0
    refine nx ?_
    refine wp_block ?_
    refine wkLoop (fun m a w2 => ∃ (d : List (List UInt8)) (e : List Nat) (r : List UInt8) (v : Value), m = (cutS b).length - d.length ∧ d.length ≤ (cutS b).length ∧ e.length = d.length ∧ r.length ≤ b.length ∧ cutS b = d ++ cutS r ∧ leftS b = e ++ leftS r ∧ OwnR w [(gt, isRow 9 1 (cutS b).length ((cutS b).map tx))] w2 3 1 v (e.filter (fun x => decide (x ≤ q))).length ((e.filter (fun x => decide (x ≤ q))).map ci) ∧ Fr a 31 [(1, .int .i64 (q : Int)), (5, v), (6, .int .i64 (r.length : Int)), (12, .slice (some ⟨gt, 0, none⟩) (cutS b).length ct), (13, .int .i64 ((cutS b).length : Int)), (14, .int .i64 (d.length : Int))] ∧ Mem w [(gt, isRow 9 1 (cutS b).length ((cutS b).map tx))] w2) (cutS b).length ⟨[], [], b, .slice none 0 0, rfl, Nat.zero_le _, rfl, Nat.le_refl _, rfl, rfl, OwnR.nil _ _ _ _ _, hF9.sub ⟨rfl, rfl, rfl, rfl, rfl, rfl, trivial⟩, hM1⟩ ?_
    rintro m a0 w1 ⟨d, e, r, v, rfl, hd, hed, hrl, hc, hl, hO0, hF0, hM0⟩
    by_cases h1 : d.length < (cutS b).length
    · have hr : r ≠ [] := by intro h; rw [h, cutS_nil, List.append_nil] at hc; rw [hc] at h1; exact Nat.lt_irrefl _ h1
      have hp := endS_pos hr
      have hle := endS_le r
      have hX : (cutS b)[d.length]? = some (r.take (endS r)) := by rw [hc, cutS_cons hr, List.getElem?_append_right (Nat.le_refl _), Nat.sub_self]; rfl
      have htl : (r.take (endS r)).length = endS r := by rw [List.length_take]; omega
      have hdl : (r.drop (endS r)).length = r.length - endS r := List.length_drop ..
      rw [cutS_cons hr] at hc
      rw [leftS_cons hr] at hl
      have hfl : (e.filter (fun x => decide (x ≤ q))).length ≤ e.length := List.length_filter_le _ _
      by_cases h2 : r.length - endS r ≤ q
      · have hfp : [r.length - endS r].filter (fun x => decide (x ≤ q)) = [r.length - endS r] := by simp [h2]
        refine wp_seq ?_
        refine wp_region_lit ?_
        refine sq (v := (.bool true)) hF0 (wantedS rfl) (run_lss rfl (hF0.ev 14 rfl) (hF0.ev 13 rfl) (decide_eq_true (by omega))) rfl (by decide) fun a1 hF1 => ?_
        refine sqEnd ?_
        clear hF0
        refine nx ?_
        refine wp_seq ?_
        refine wp_cond_true (hF1.ev 15 rfl) ?_
        refine wp_skip ?_
        refine nx ?_
        refine wp_seq ?_
        refine wp_block ?_
        refine wp_seq ?_
        refine wp_region_lit ?_
        refine sq (v := (slPtr (.slice (some ⟨gt, 0, none⟩) ((cutS b).length) ct) (d.length * 1))) hF1 (wantedS rfl) (run_atP (i := d.length) rfl (hF1.ev 12 rfl) (hF1.ev 14 rfl) rfl (slOfRow (c := ct) (hM0.ob 0 rfl)) (by omega) elStr.un (by kernel_rfl)) rfl (by decide) fun a2 hF2 => ?_
        refine sq (v := (.string ⟨(r.take (endS r)).toArray⟩)) hF2 (wantedS rfl) (run_ldP rfl (hF2.ev 16 rfl) (slOfRow (c := ct) (hM0.ob 0 rfl)) (map_at hX) (by kernel_rfl)) rfl (by decide) fun a3 hF3 => ?_
        refine sq (v := (.string ⟨(r.take (endS r)).toArray⟩)) hF3 (wantedS rfl) (run_as rfl (hF3.ev 17 rfl)) rfl (by decide) fun a4 hF4 => ?_
        refine sqEnd ?_
        clear hF1 hF2 hF3
        refine nx ?_
        refine wp_seq ?_
        refine wp_region_lit ?_
        refine sq (v := (.int .i64 (r.length : Int))) hF4 (wantedS rfl) (run_mv rfl (hF4.ev 6 rfl)) rfl (by decide) fun a5 hF5 => ?_
        refine sq (v := (.string ⟨(r.take (endS r)).toArray⟩)) hF5 (wantedS rfl) (run_mv rfl (hF5.ev 8 rfl)) rfl (by decide) fun a6 hF6 => ?_
        refine sq (v := (.int .i64 ((r.take (endS r)).length : Int))) hF6 (wantedS rfl) (run_len rfl (hF6.ev 19 rfl) rfl Tryd.underlying9) rfl (by decide) fun a7 hF7 => ?_
        refine sq (v := (.int .i64 ((r.length - endS r : Nat) : Int))) hF7 (wantedS rfl) (run_sub (r := ((r.length - endS r : Nat) : Int)) rfl (hF7.ev 18 rfl) (hF7.ev 20 rfl) (by rw [IntKind.wrap_i64]; omega)) rfl (by decide) fun a8 hF8 => ?_
        refine sq (v := (.int .i64 ((r.length - endS r : Nat) : Int))) hF8 (wantedS rfl) (run_as rfl (hF8.ev 21 rfl)) rfl (by decide) fun a9 hF9 => ?_
        refine sqEnd ?_
        clear hF4 hF5 hF6 hF7 hF8
        refine nx ?_
        refine wp_seq ?_
        refine wp_region_lit ?_
        refine sq (v := (.int .i64 ((r.length - endS r : Nat) : Int))) hF9 (wantedS rfl) (run_mv rfl (hF9.ev 6 rfl)) rfl (by decide) fun a10 hF10 => ?_
        refine sq (v := (.int .i64 (q : Int))) hF10 (wantedS rfl) (run_mv rfl (hF10.ev 1 rfl)) rfl (by decide) fun a11 hF11 => ?_
        refine sq (v := (.bool true)) hF11 (wantedS rfl) (run_leq rfl (hF11.ev 22 rfl) (hF11.ev 23 rfl) (decide_eq_true (by omega))) rfl (by decide) fun a12 hF12 => ?_
        refine sqEnd ?_
        clear hF9 hF10 hF11
        refine nx ?_
        refine wp_cond_true (hF12.ev 24 rfl) ?_
        refine wp_region_lit ?_
        refine sq (v := v) hF12 (wantedS rfl) (run_mv rfl (hF12.ev 5 rfl)) rfl (by decide) fun a13 hF13 => ?_
        refine sq (v := (.int .i64 ((r.length - endS r : Nat) : Int))) hF13 (wantedS rfl) (run_mv rfl (hF13.ev 6 rfl)) rfl (by decide) fun a14 hF14 => ?_
        refine sqRow (cs := #[.int .i64 ((r.length - endS r : Nat) : Int)]) (t := 3) (m := 1) hF14 hM0 (wantedS rfl) (run_ints1 rfl (hF14.ev 26 rfl)) rfl (by decide) fun g1 a15 w2 hgg1 hb2 hF15 hM1 => ?_
        have hO1 := hO0.add (S := isB 3 #[.int .i64 ((r.length - endS r : Nat) : Int)]) hb2 hgg1
        refine sqAppend (news := [.int .i64 ((r.length - endS r : Nat) : Int)]) elInt hF15 hM1 hO1 rfl rfl (hF15.ev 25 rfl) (hF15.ev 27 rfl) rfl (blkNews (hM1.at 0 rfl)) (all_one rfl) (by unfold maxLen; omega) (by omega) rfl (by decide) fun v2 a16 w3 hO2 hM2 hnilv2 hF16 => ?_
        refine sq (v := v2) hF16 (wantedS rfl) (run_as rfl (hF16.ev 28 rfl)) rfl (by decide) fun a17 hF17 => ?_
        refine sqEnd ?_
        clear hF12 hF13 hF14 hF15 hF16 hM0 hM1
        refine bkEnd ?_
        refine nx ?_
        refine wp_region_lit ?_
        refine sq (v := (.int .i64 ((d.length + 1 : Nat) : Int))) hF17 (wantedS rfl) (run_add (r := ((d.length + 1 : Nat) : Int)) rfl (hF17.ev 14 rfl) rfl (by rw [IntKind.wrap_i64]; omega)) rfl (by decide) fun a18 hF18 => ?_
        refine sq (v := (.int .i64 ((d.length + 1 : Nat) : Int))) hF18 (wantedS rfl) (run_mv rfl (hF18.ev 29 rfl)) rfl (by decide) fun a19 hF19 => ?_
        refine sqEnd ?_
        clear hF17 hF18
        refine nx ?_
        exact ⟨(cutS b).length - (d.length + 1), by omega, d ++ [r.take (endS r)], e ++ [r.length - endS r], r.drop (endS r), v2, by rw [List.length_append, List.length_singleton], by rw [List.length_append, List.length_singleton]; omega, by simp [hed], by omega, by rw [hc, List.append_assoc]; rfl, by rw [hl, List.append_assoc]; rfl, by rw [List.filter_append, hfp, List.map_append, List.length_append]; exact hO2.sub (.cons _ (.refl _)), by rw [List.length_append, List.length_singleton, hdl]; exact hF19.sub ⟨rfl, rfl, rfl, rfl, rfl, rfl, trivial⟩, hM2.sub (.cons _ (.refl _))⟩
      · have hfp : [r.length - endS r].filter (fun x => decide (x ≤ q)) = [] := by simp; omega
        refine wp_seq ?_
        refine wp_region_lit ?_
        refine sq (v := (.bool true)) hF0 (wantedS rfl) (run_lss rfl (hF0.ev 14 rfl) (hF0.ev 13 rfl) (decide_eq_true (by omega))) rfl (by decide) fun a1 hF1 => ?_
        refine sqEnd ?_
        clear hF0
        refine nx ?_
        refine wp_seq ?_
        refine wp_cond_true (hF1.ev 15 rfl) ?_
        refine wp_skip ?_
        refine nx ?_
        refine wp_seq ?_
        refine wp_block ?_
        refine wp_seq ?_
        refine wp_region_lit ?_
        refine sq (v := (slPtr (.slice (some ⟨gt, 0, none⟩) ((cutS b).length) ct) (d.length * 1))) hF1 (wantedS rfl) (run_atP (i := d.length) rfl (hF1.ev 12 rfl) (hF1.ev 14 rfl) rfl (slOfRow (c := ct) (hM0.ob 0 rfl)) (by omega) elStr.un (by kernel_rfl)) rfl (by decide) fun a2 hF2 => ?_
        refine sq (v := (.string ⟨(r.take (endS r)).toArray⟩)) hF2 (wantedS rfl) (run_ldP rfl (hF2.ev 16 rfl) (slOfRow (c := ct) (hM0.ob 0 rfl)) (map_at hX) (by kernel_rfl)) rfl (by decide) fun a3 hF3 => ?_
        refine sq (v := (.string ⟨(r.take (endS r)).toArray⟩)) hF3 (wantedS rfl) (run_as rfl (hF3.ev 17 rfl)) rfl (by decide) fun a4 hF4 => ?_
        refine sqEnd ?_
        clear hF1 hF2 hF3
        refine nx ?_
        refine wp_seq ?_
        refine wp_region_lit ?_
        refine sq (v := (.int .i64 (r.length : Int))) hF4 (wantedS rfl) (run_mv rfl (hF4.ev 6 rfl)) rfl (by decide) fun a5 hF5 => ?_
        refine sq (v := (.string ⟨(r.take (endS r)).toArray⟩)) hF5 (wantedS rfl) (run_mv rfl (hF5.ev 8 rfl)) rfl (by decide) fun a6 hF6 => ?_
        refine sq (v := (.int .i64 ((r.take (endS r)).length : Int))) hF6 (wantedS rfl) (run_len rfl (hF6.ev 19 rfl) rfl Tryd.underlying9) rfl (by decide) fun a7 hF7 => ?_
        refine sq (v := (.int .i64 ((r.length - endS r : Nat) : Int))) hF7 (wantedS rfl) (run_sub (r := ((r.length - endS r : Nat) : Int)) rfl (hF7.ev 18 rfl) (hF7.ev 20 rfl) (by rw [IntKind.wrap_i64]; omega)) rfl (by decide) fun a8 hF8 => ?_
        refine sq (v := (.int .i64 ((r.length - endS r : Nat) : Int))) hF8 (wantedS rfl) (run_as rfl (hF8.ev 21 rfl)) rfl (by decide) fun a9 hF9 => ?_
        refine sqEnd ?_
        clear hF4 hF5 hF6 hF7 hF8
        refine nx ?_
        refine wp_seq ?_
        refine wp_region_lit ?_
        refine sq (v := (.int .i64 ((r.length - endS r : Nat) : Int))) hF9 (wantedS rfl) (run_mv rfl (hF9.ev 6 rfl)) rfl (by decide) fun a10 hF10 => ?_
        refine sq (v := (.int .i64 (q : Int))) hF10 (wantedS rfl) (run_mv rfl (hF10.ev 1 rfl)) rfl (by decide) fun a11 hF11 => ?_
        refine sq (v := (.bool false)) hF11 (wantedS rfl) (run_leq rfl (hF11.ev 22 rfl) (hF11.ev 23 rfl) (decide_eq_false (by omega))) rfl (by decide) fun a12 hF12 => ?_
        refine sqEnd ?_
        clear hF9 hF10 hF11
        refine nx ?_
        refine wp_cond_false (hF12.ev 24 rfl) ?_
        refine wp_skip ?_
        refine bkEnd ?_
        refine nx ?_
        refine wp_region_lit ?_
        refine sq (v := (.int .i64 ((d.length + 1 : Nat) : Int))) hF12 (wantedS rfl) (run_add (r := ((d.length + 1 : Nat) : Int)) rfl (hF12.ev 14 rfl) rfl (by rw [IntKind.wrap_i64]; omega)) rfl (by decide) fun a13 hF13 => ?_
        refine sq (v := (.int .i64 ((d.length + 1 : Nat) : Int))) hF13 (wantedS rfl) (run_mv rfl (hF13.ev 29 rfl)) rfl (by decide) fun a14 hF14 => ?_
        refine sqEnd ?_
        clear hF12 hF13
        refine nx ?_
        exact ⟨(cutS b).length - (d.length + 1), by omega, d ++ [r.take (endS r)], e ++ [r.length - endS r], r.drop (endS r), v, by rw [List.length_append, List.length_singleton], by rw [List.length_append, List.length_singleton]; omega, by simp [hed], by omega, by rw [hc, List.append_assoc]; rfl, by rw [hl, List.append_assoc]; rfl, by rw [List.filter_append, hfp, List.append_nil]; exact hO0.sub (.refl _), by rw [List.length_append, List.length_singleton, hdl]; exact hF14.sub ⟨rfl, rfl, rfl, rfl, rfl, rfl, trivial⟩, hM0.sub (.refl _)⟩
    · have hcr : cutS r = [] := List.eq_nil_of_length_eq_zero (by have := congrArg List.length hc; rw [List.length_append] at this; omega)
      have hr := cutS_none hcr
      have hel : endsS b q = e.filter (fun x => decide (x ≤ q)) := by unfold endsS; rw [hl, hr, leftS_nil, List.append_nil]
      refine wp_seq ?_
      refine wp_region_lit ?_
      refine sq (v := (.bool false)) hF0 (wantedS rfl) (run_lss rfl (hF0.ev 14 rfl) (hF0.ev 13 rfl) (decide_eq_false (by omega))) rfl (by decide) fun a1 hF1 => ?_
      refine sqEnd ?_
      clear hF0
      refine nx ?_
      refine wp_seq ?_
      refine wp_cond_false (hF1.ev 15 rfl) ?_
      refine wp_exit ?_
      refine nxExit ?_
      refine nxExit ?_
      refine bkHere ?_
      refine nx ?_
      refine wp_seq ?_
      refine wp_region_lit ?_
      refine sq (v := v) hF1 (wantedS rfl) (run_mv rfl (hF1.ev 5 rfl)) rfl (by decide) fun a2 hF2 => ?_
      refine sq (v := v) hF2 (wantedS rfl) (run_as rfl (hF2.ev 30 rfl)) rfl (by decide) fun a3 hF3 => ?_
      refine sqEnd ?_
      clear hF1 hF2
      refine nx ?_
      refine wp_ret ?_
      exact ret1 hF3 rfl rfl ⟨_, rfl, by rw [hel]; exact hO0.owns, hM0.below⟩
set_option maxRecDepth 100000 in
set_option maxHeartbeats 1000000 in
theorem lawTails_any (a b t : List UInt8) (w : World) (_ha : a.length ≤ maxLen) (_hb : b.length ≤ maxLen) (_ht : t.length ≤ maxLen) : Calls Tryd.prog 4 #[.string ⟨a.toArray⟩, .string ⟨b.toArray⟩, .string ⟨t.toArray⟩] w fun e w' => e = .returned (.bool true) ∧ Below w.heap.size w w' := by
  by_cases h1 : 3000 < a.length
  · skip
    refine walk_enter Tryd.func4 rfl rfl rfl fun a0 hF0 => ?_
    have hM0 := Mem.new w
    refine wp_seq ?_
    refine wp_region_lit ?_
    refine sq (v := (.bool false)) hF0 (wantedS rfl) (run_as rfl rfl) rfl (by decide) fun a1 hF1 => ?_
    refine sqEnd ?_
    clear hF0
    refine nx ?_
    refine wp_seq ?_
    refine wp_seq ?_
    refine wp_region_lit ?_
    refine sq (v := (.string ⟨a.toArray⟩)) hF1 (wantedS rfl) (run_mv rfl (hF1.ev 0 rfl)) rfl (by decide) fun a2 hF2 => ?_
    refine sq (v := (.int .i64 (a.length : Int))) hF2 (wantedS rfl) (run_len rfl (hF2.ev 14 rfl) rfl Tryd.underlying9) rfl (by decide) fun a3 hF3 => ?_
    refine sq (v := (.bool true)) hF3 (wantedS rfl) (run_gtr rfl (hF3.ev 15 rfl) rfl (decide_eq_true (by omega))) rfl (by decide) fun a4 hF4 => ?_
    refine sq (v := (.bool true)) hF4 (wantedS rfl) (run_mv rfl (hF4.ev 16 rfl)) rfl (by decide) fun a5 hF5 => ?_
    refine sqSkip hF5 (unwantedG hF5 rfl rfl rfl rfl rfl) rfl (by decide) fun a6 hF6 => ?_
    refine sqSkip hF6 (unwantedG hF6 rfl rfl rfl rfl rfl) rfl (by decide) fun a7 hF7 => ?_
    refine sqSkip hF7 (unwantedG hF7 rfl rfl rfl rfl rfl) rfl (by decide) fun a8 hF8 => ?_
    refine sq (v := (.bool true)) hF8 (wantedS rfl) (run_pick rfl (hF8.ev 17 rfl) rfl (hF8.ev 20 rfl)) rfl (by decide) fun a9 hF9 => ?_
    refine sq (v := (.bool true)) hF9 (wantedS rfl) (run_mv rfl (hF9.ev 21 rfl)) rfl (by decide) fun a10 hF10 => ?_
    refine sqSkip hF10 (unwantedG hF10 rfl rfl rfl rfl rfl) rfl (by decide) fun a11 hF11 => ?_
    refine sqSkip hF11 (unwantedG hF11 rfl rfl rfl rfl rfl) rfl (by decide) fun a12 hF12 => ?_
    refine sqSkip hF12 (unwantedG hF12 rfl rfl rfl rfl rfl) rfl (by decide) fun a13 hF13 => ?_
    refine sq (v := (.bool true)) hF13 (wantedS rfl) (run_pick rfl (hF13.ev 22 rfl) rfl (hF13.ev 25 rfl)) rfl (by decide) fun a14 hF14 => ?_
    refine sqEnd ?_
    clear hF1 hF2 hF3 hF4 hF5 hF6 hF7 hF8 hF9 hF10 hF11 hF12 hF13
    refine nx ?_
    refine wp_cond_true (hF14.ev 26 rfl) ?_
    refine wp_seq ?_
    refine wp_region_lit ?_
    refine sqC (v := (.bool true)) hF14 hM0 (wantedS rfl) (run_call rfl Tryd.func11 (by kernel_rfl) rfl (mapE0 )) rfl (by decide) (fixed39_any w) fun a15 w1 hb1 hF15 hM1 => ?_
    refine sq (v := (.bool true)) hF15 (wantedS rfl) (run_as rfl (hF15.ev 27 rfl)) rfl (by decide) fun a16 hF16 => ?_
    refine sqEnd ?_
    clear hF14 hF15 hM0
    refine nx ?_
    refine wp_ret ?_
    refine nxRet ?_
    exact ret1 hF16 rfl rfl ⟨rfl, hM1.below⟩
  by_cases h2 : 3000 < b.length
  · skip
    refine walk_enter Tryd.func4 rfl rfl rfl fun a0 hF0 => ?_
    have hM0 := Mem.new w
    refine wp_seq ?_
    refine wp_region_lit ?_
    refine sq (v := (.bool false)) hF0 (wantedS rfl) (run_as rfl rfl) rfl (by decide) fun a1 hF1 => ?_
    refine sqEnd ?_
    clear hF0
    refine nx ?_
    refine wp_seq ?_
    refine wp_seq ?_
    refine wp_region_lit ?_
    refine sq (v := (.string ⟨a.toArray⟩)) hF1 (wantedS rfl) (run_mv rfl (hF1.ev 0 rfl)) rfl (by decide) fun a2 hF2 => ?_
    refine sq (v := (.int .i64 (a.length : Int))) hF2 (wantedS rfl) (run_len rfl (hF2.ev 14 rfl) rfl Tryd.underlying9) rfl (by decide) fun a3 hF3 => ?_
    refine sq (v := (.bool false)) hF3 (wantedS rfl) (run_gtr rfl (hF3.ev 15 rfl) rfl (decide_eq_false (by omega))) rfl (by decide) fun a4 hF4 => ?_
    refine sq (v := (.bool false)) hF4 (wantedS rfl) (run_mv rfl (hF4.ev 16 rfl)) rfl (by decide) fun a5 hF5 => ?_
    refine sq (v := (.string ⟨b.toArray⟩)) hF5 (wantedG hF5 rfl rfl rfl rfl rfl) (run_mv rfl (hF5.ev 1 rfl)) rfl (by decide) fun a6 hF6 => ?_
    refine sq (v := (.int .i64 (b.length : Int))) hF6 (wantedG hF6 rfl rfl rfl rfl rfl) (run_len rfl (hF6.ev 18 rfl) rfl Tryd.underlying9) rfl (by decide) fun a7 hF7 => ?_
    refine sq (v := (.bool true)) hF7 (wantedG hF7 rfl rfl rfl rfl rfl) (run_gtr rfl (hF7.ev 19 rfl) rfl (decide_eq_true (by omega))) rfl (by decide) fun a8 hF8 => ?_
    refine sq (v := (.bool true)) hF8 (wantedS rfl) (run_pick rfl (hF8.ev 17 rfl) rfl (hF8.ev 20 rfl)) rfl (by decide) fun a9 hF9 => ?_
    refine sq (v := (.bool true)) hF9 (wantedS rfl) (run_mv rfl (hF9.ev 21 rfl)) rfl (by decide) fun a10 hF10 => ?_
    refine sqSkip hF10 (unwantedG hF10 rfl rfl rfl rfl rfl) rfl (by decide) fun a11 hF11 => ?_
    refine sqSkip hF11 (unwantedG hF11 rfl rfl rfl rfl rfl) rfl (by decide) fun a12 hF12 => ?_
    refine sqSkip hF12 (unwantedG hF12 rfl rfl rfl rfl rfl) rfl (by decide) fun a13 hF13 => ?_
    refine sq (v := (.bool true)) hF13 (wantedS rfl) (run_pick rfl (hF13.ev 22 rfl) rfl (hF13.ev 25 rfl)) rfl (by decide) fun a14 hF14 => ?_
    refine sqEnd ?_
    clear hF1 hF2 hF3 hF4 hF5 hF6 hF7 hF8 hF9 hF10 hF11 hF12 hF13
    refine nx ?_
    refine wp_cond_true (hF14.ev 26 rfl) ?_
    refine wp_seq ?_
    refine wp_region_lit ?_
    refine sqC (v := (.bool true)) hF14 hM0 (wantedS rfl) (run_call rfl Tryd.func11 (by kernel_rfl) rfl (mapE0 )) rfl (by decide) (fixed39_any w) fun a15 w1 hb1 hF15 hM1 => ?_
    refine sq (v := (.bool true)) hF15 (wantedS rfl) (run_as rfl (hF15.ev 27 rfl)) rfl (by decide) fun a16 hF16 => ?_
    refine sqEnd ?_
    clear hF14 hF15 hM0
    refine nx ?_
    refine wp_ret ?_
    refine nxRet ?_
    exact ret1 hF16 rfl rfl ⟨rfl, hM1.below⟩
  by_cases h3 : 3000 < t.length
  · skip
    refine walk_enter Tryd.func4 rfl rfl rfl fun a0 hF0 => ?_
    have hM0 := Mem.new w
    refine wp_seq ?_
    refine wp_region_lit ?_
    refine sq (v := (.bool false)) hF0 (wantedS rfl) (run_as rfl rfl) rfl (by decide) fun a1 hF1 => ?_
    refine sqEnd ?_
    clear hF0
    refine nx ?_
    refine wp_seq ?_
    refine wp_seq ?_
    refine wp_region_lit ?_
    refine sq (v := (.string ⟨a.toArray⟩)) hF1 (wantedS rfl) (run_mv rfl (hF1.ev 0 rfl)) rfl (by decide) fun a2 hF2 => ?_
    refine sq (v := (.int .i64 (a.length : Int))) hF2 (wantedS rfl) (run_len rfl (hF2.ev 14 rfl) rfl Tryd.underlying9) rfl (by decide) fun a3 hF3 => ?_
    refine sq (v := (.bool false)) hF3 (wantedS rfl) (run_gtr rfl (hF3.ev 15 rfl) rfl (decide_eq_false (by omega))) rfl (by decide) fun a4 hF4 => ?_
    refine sq (v := (.bool false)) hF4 (wantedS rfl) (run_mv rfl (hF4.ev 16 rfl)) rfl (by decide) fun a5 hF5 => ?_
    refine sq (v := (.string ⟨b.toArray⟩)) hF5 (wantedG hF5 rfl rfl rfl rfl rfl) (run_mv rfl (hF5.ev 1 rfl)) rfl (by decide) fun a6 hF6 => ?_
    refine sq (v := (.int .i64 (b.length : Int))) hF6 (wantedG hF6 rfl rfl rfl rfl rfl) (run_len rfl (hF6.ev 18 rfl) rfl Tryd.underlying9) rfl (by decide) fun a7 hF7 => ?_
    refine sq (v := (.bool false)) hF7 (wantedG hF7 rfl rfl rfl rfl rfl) (run_gtr rfl (hF7.ev 19 rfl) rfl (decide_eq_false (by omega))) rfl (by decide) fun a8 hF8 => ?_
    refine sq (v := (.bool false)) hF8 (wantedS rfl) (run_pick rfl (hF8.ev 17 rfl) rfl (hF8.ev 20 rfl)) rfl (by decide) fun a9 hF9 => ?_
    refine sq (v := (.bool false)) hF9 (wantedS rfl) (run_mv rfl (hF9.ev 21 rfl)) rfl (by decide) fun a10 hF10 => ?_
    refine sq (v := (.string ⟨t.toArray⟩)) hF10 (wantedG hF10 rfl rfl rfl rfl rfl) (run_mv rfl (hF10.ev 2 rfl)) rfl (by decide) fun a11 hF11 => ?_
    refine sq (v := (.int .i64 (t.length : Int))) hF11 (wantedG hF11 rfl rfl rfl rfl rfl) (run_len rfl (hF11.ev 23 rfl) rfl Tryd.underlying9) rfl (by decide) fun a12 hF12 => ?_
    refine sq (v := (.bool true)) hF12 (wantedG hF12 rfl rfl rfl rfl rfl) (run_gtr rfl (hF12.ev 24 rfl) rfl (decide_eq_true (by omega))) rfl (by decide) fun a13 hF13 => ?_
    refine sq (v := (.bool true)) hF13 (wantedS rfl) (run_pick rfl (hF13.ev 22 rfl) rfl (hF13.ev 25 rfl)) rfl (by decide) fun a14 hF14 => ?_
    refine sqEnd ?_
    clear hF1 hF2 hF3 hF4 hF5 hF6 hF7 hF8 hF9 hF10 hF11 hF12 hF13
    refine nx ?_
    refine wp_cond_true (hF14.ev 26 rfl) ?_
    refine wp_seq ?_
    refine wp_region_lit ?_
    refine sqC (v := (.bool true)) hF14 hM0 (wantedS rfl) (run_call rfl Tryd.func11 (by kernel_rfl) rfl (mapE0 )) rfl (by decide) (fixed39_any w) fun a15 w1 hb1 hF15 hM1 => ?_
    refine sq (v := (.bool true)) hF15 (wantedS rfl) (run_as rfl (hF15.ev 27 rfl)) rfl (by decide) fun a16 hF16 => ?_
    refine sqEnd ?_
    clear hF14 hF15 hM0
    refine nx ?_
    refine wp_ret ?_
    refine nxRet ?_
    exact ret1 hF16 rfl rfl ⟨rfl, hM1.below⟩
  obtain ⟨xs, hxs⟩ : ∃ xs, endsS (a ++ t) t.length = xs := ⟨_, rfl⟩
  obtain ⟨ys, hys⟩ : ∃ ys, endsS (b ++ t) t.length = ys := ⟨_, rfl⟩
  have hxl := endsS_len (a ++ t) t.length
  have hyl := endsS_len (b ++ t) t.length
  rw [hxs, List.length_append] at hxl
  rw [hys, List.length_append] at hyl
  refine walk_enter Tryd.func4 rfl rfl rfl fun a0 hF0 => ?_
  have hM0 := Mem.new w
  refine wp_seq ?_
  refine wp_region_lit ?_
  refine sq (v := (.bool false)) hF0 (wantedS rfl) (run_as rfl rfl) rfl (by decide) fun a1 hF1 => ?_
  refine sqEnd ?_
  clear hF0
  refine nx ?_
  refine wp_seq ?_
  refine wp_seq ?_
  refine wp_region_lit ?_
  refine sq (v := (.string ⟨a.toArray⟩)) hF1 (wantedS rfl) (run_mv rfl (hF1.ev 0 rfl)) rfl (by decide) fun a2 hF2 => ?_
  refine sq (v := (.int .i64 (a.length : Int))) hF2 (wantedS rfl) (run_len rfl (hF2.ev 14 rfl) rfl Tryd.underlying9) rfl (by decide) fun a3 hF3 => ?_
  refine sq (v := (.bool false)) hF3 (wantedS rfl) (run_gtr rfl (hF3.ev 15 rfl) rfl (decide_eq_false (by omega))) rfl (by decide) fun a4 hF4 => ?_
  refine sq (v := (.bool false)) hF4 (wantedS rfl) (run_mv rfl (hF4.ev 16 rfl)) rfl (by decide) fun a5 hF5 => ?_
  refine sq (v := (.string ⟨b.toArray⟩)) hF5 (wantedG hF5 rfl rfl rfl rfl rfl) (run_mv rfl (hF5.ev 1 rfl)) rfl (by decide) fun a6 hF6 => ?_
  refine sq (v := (.int .i64 (b.length : Int))) hF6 (wantedG hF6 rfl rfl rfl rfl rfl) (run_len rfl (hF6.ev 18 rfl) rfl Tryd.underlying9) rfl (by decide) fun a7 hF7 => ?_
  refine sq (v := (.bool false)) hF7 (wantedG hF7 rfl rfl rfl rfl rfl) (run_gtr rfl (hF7.ev 19 rfl) rfl (decide_eq_false (by omega))) rfl (by decide) fun a8 hF8 => ?_
  refine sq (v := (.bool false)) hF8 (wantedS rfl) (run_pick rfl (hF8.ev 17 rfl) rfl (hF8.ev 20 rfl)) rfl (by decide) fun a9 hF9 => ?_
  refine sq (v := (.bool false)) hF9 (wantedS rfl) (run_mv rfl (hF9.ev 21 rfl)) rfl (by decide) fun a10 hF10 => ?_
  refine sq (v := (.string ⟨t.toArray⟩)) hF10 (wantedG hF10 rfl rfl rfl rfl rfl) (run_mv rfl (hF10.ev 2 rfl)) rfl (by decide) fun a11 hF11 => ?_
  refine sq (v := (.int .i64 (t.length : Int))) hF11 (wantedG hF11 rfl rfl rfl rfl rfl) (run_len rfl (hF11.ev 23 rfl) rfl Tryd.underlying9) rfl (by decide) fun a12 hF12 => ?_
  refine sq (v := (.bool false)) hF12 (wantedG hF12 rfl rfl rfl rfl rfl) (run_gtr rfl (hF12.ev 24 rfl) rfl (decide_eq_false (by omega))) rfl (by decide) fun a13 hF13 => ?_
  refine sq (v := (.bool false)) hF13 (wantedS rfl) (run_pick rfl (hF13.ev 22 rfl) rfl (hF13.ev 25 rfl)) rfl (by decide) fun a14 hF14 => ?_
  refine sqEnd ?_
  clear hF1 hF2 hF3 hF4 hF5 hF6 hF7 hF8 hF9 hF10 hF11 hF12 hF13
  refine nx ?_
  refine wp_cond_false (hF14.ev 26 rfl) ?_
  refine wp_skip ?_
  refine nx ?_
  refine wp_seq ?_
  refine wp_region_lit ?_
  refine sq (v := (.string ⟨a.toArray⟩)) hF14 (wantedS rfl) (run_mv rfl (hF14.ev 0 rfl)) rfl (by decide) fun a15 hF15 => ?_
  refine sq (v := (.string ⟨t.toArray⟩)) hF15 (wantedS rfl) (run_mv rfl (hF15.ev 2 rfl)) rfl (by decide) fun a16 hF16 => ?_
  refine sq (v := (.string ⟨(a ++ t).toArray⟩)) hF16 (wantedS rfl) (run_cat rfl (hF16.ev 28 rfl) (hF16.ev 29 rfl) (by first | omega | decide | (simp; done) | (simp; omega))) rfl (by decide) fun a17 hF17 => ?_
  refine sq (v := (.string ⟨t.toArray⟩)) hF17 (wantedS rfl) (run_mv rfl (hF17.ev 2 rfl)) rfl (by decide) fun a18 hF18 => ?_
  refine sq (v := (.int .i64 (t.length : Int))) hF18 (wantedS rfl) (run_len rfl (hF18.ev 31 rfl) rfl Tryd.underlying9) rfl (by decide) fun a19 hF19 => ?_
  refine sqT (T := fun u wx => wx.ownsRow w.heap.size 3 1 u xs.length (xs.map ci) ∧ Below w.heap.size w wx) hF19 (wantedS rfl) (run_call rfl Tryd.func13 (by kernel_rfl) rfl (mapE2 (hF19.ev 30 rfl) (hF19.ev 32 rfl))) rfl (by decide) (by have h := ends_any (a ++ t) t.length w (by rw [List.length_append]; omega) (by omega); rwa [hxs] at h) fun u0 a20 w1 hT1 hF20 => ?_
  obtain ⟨hr1, hb1⟩ := hT1
  have hO1 := OwnR.ofCall hM0 hr1
  have hM1 := hM0.grow hb1
  refine sq (v := (.string ⟨b.toArray⟩)) hF20 (wantedS rfl) (run_mv rfl (hF20.ev 1 rfl)) rfl (by decide) fun a21 hF21 => ?_
  refine sq (v := (.string ⟨t.toArray⟩)) hF21 (wantedS rfl) (run_mv rfl (hF21.ev 2 rfl)) rfl (by decide) fun a22 hF22 => ?_
  refine sq (v := (.string ⟨(b ++ t).toArray⟩)) hF22 (wantedS rfl) (run_cat rfl (hF22.ev 34 rfl) (hF22.ev 35 rfl) (by first | omega | decide | (simp; done) | (simp; omega))) rfl (by decide) fun a23 hF23 => ?_
  refine sq (v := (.string ⟨t.toArray⟩)) hF23 (wantedS rfl) (run_mv rfl (hF23.ev 2 rfl)) rfl (by decide) fun a24 hF24 => ?_
  refine sq (v := (.int .i64 (t.length : Int))) hF24 (wantedS rfl) (run_len rfl (hF24.ev 37 rfl) rfl Tryd.underlying9) rfl (by decide) fun a25 hF25 => ?_
  refine sqT (T := fun u wx => wx.ownsRow w1.heap.size 3 1 u ys.length (ys.map ci) ∧ Below w1.heap.size w1 wx) hF25 (wantedS rfl) (run_call rfl Tryd.func13 (by kernel_rfl) rfl (mapE2 (hF25.ev 36 rfl) (hF25.ev 38 rfl))) rfl (by decide) (by have h := ends_any (b ++ t) t.length w1 (by rw [List.length_append]; omega) (by omega); rwa [hys] at h) fun u1 a26 w2 hT2 hF26 => ?_
  obtain ⟨hr2, hb2⟩ := hT2
  have hO2 := OwnR.ofCall hM1 hr2
  have hM2 := hM1.grow hb2
  have hO3 := hO1.grow hb2
  refine sq (v := u0) hF26 (wantedS rfl) (run_as rfl (hF26.ev 33 rfl)) rfl (by decide) fun a27 hF27 => ?_
  refine sq (v := u1) hF27 (wantedS rfl) (run_as rfl (hF27.ev 39 rfl)) rfl (by decide) fun a28 hF28 => ?_
  refine sqEnd ?_
  clear hF14 hF15 hF16 hF17 hF18 hF19 hF20 hF21 hF22 hF23 hF24 hF25 hF26 hF27 hM0 hM1
  refine nx ?_
  refine wp_seq ?_
  refine wp_seq ?_
  refine wp_region_lit ?_
  refine sq (v := u0) hF28 (wantedS rfl) (run_mv rfl (hF28.ev 7 rfl)) rfl (by decide) fun a29 hF29 => ?_
  refine sq (v := (.int .i64 (xs.length : Int))) hF29 (wantedS rfl) (run_lenS rfl (hF29.ev 40 rfl) (Sl.own hO3) rfl Tryd.underlying26) rfl (by decide) fun a30 hF30 => ?_
  refine sq (v := (.int .i64 0)) hF30 (wantedS rfl) (run_mv rfl rfl) rfl (by decide) fun a31 hF31 => ?_
  refine sqEnd ?_
  clear hF28 hF29 hF30
  refine nx ?_
  refine wp_block ?_
  refine wkLoop (fun m a w2 => ∃ i : Nat, i ≤ xs.length ∧ m = xs.length - i ∧ OwnR w [] w2 3 1 u0 xs.length (xs.map ci) ∧ OwnR w [] w2 3 1 u1 ys.length (ys.map ci) ∧ Fr a 91 [(7, u0), (8, u1), (40, u0), (41, .int .i64 (xs.length : Int)), (42, .int .i64 (i : Int))] ∧ Mem w [] w2) xs.length ⟨0, Nat.zero_le _, rfl, hO3, hO2, hF31.sub ⟨rfl, rfl, rfl, rfl, rfl, trivial⟩, hM2⟩ ?_
  rintro m a0 w1 ⟨i, hi, rfl, hOx, hOy, hF0, hM0⟩
  by_cases h1 : i < xs.length
  · obtain ⟨p, hp⟩ : ∃ p, xs[i]? = some p := ⟨_, List.getElem?_eq_getElem h1⟩
    refine wp_seq ?_
    refine wp_region_lit ?_
    refine sq (v := (.bool true)) hF0 (wantedS rfl) (run_lss rfl (hF0.ev 42 rfl) (hF0.ev 41 rfl) (decide_eq_true (by omega))) rfl (by decide) fun a1 hF1 => ?_
    refine sqEnd ?_
    clear hF0
    refine nx ?_
    refine wp_seq ?_
    refine wp_cond_true (hF1.ev 43 rfl) ?_
    refine wp_skip ?_
    refine nx ?_
    refine wp_seq ?_
    refine wp_block ?_
    refine wp_seq ?_
    refine wp_region_lit ?_
    refine sq (v := (.int .i64 (i : Int))) hF1 (wantedS rfl) (run_mv rfl (hF1.ev 42 rfl)) rfl (by decide) fun a2 hF2 => ?_
    refine sq (v := (slPtr u0 (i * 1))) hF2 (wantedS rfl) (run_atP (i := i) rfl (hF2.ev 40 rfl) (hF2.ev 42 rfl) rfl (Sl.own hOx) (by omega) elInt.un (by kernel_rfl)) rfl (by decide) fun a3 hF3 => ?_
    refine sq (v := (.int .i64 (p : Int))) hF3 (wantedS rfl) (run_ldP (u := ci p) rfl (hF3.ev 45 rfl) (Sl.own hOx) (map_atI hp) (by kernel_rfl)) rfl (by decide) fun a4 hF4 => ?_
    refine sq (v := (.int .i64 (i : Int))) hF4 (wantedS rfl) (run_as rfl (hF4.ev 44 rfl)) rfl (by decide) fun a5 hF5 => ?_
    refine sq (v := (.int .i64 (p : Int))) hF5 (wantedS rfl) (run_as rfl (hF5.ev 46 rfl)) rfl (by decide) fun a6 hF6 => ?_
    refine sqEnd ?_
    clear hF1 hF2 hF3 hF4 hF5
    refine nx ?_
    refine wp_seq ?_
    refine wp_region_lit ?_
    refine sq (v := u1) hF6 (wantedS rfl) (run_mv rfl (hF6.ev 8 rfl)) rfl (by decide) fun a7 hF7 => ?_
    refine sq (v := (.int .i64 (ys.length : Int))) hF7 (wantedS rfl) (run_lenS rfl (hF7.ev 47 rfl) (Sl.own hOy) rfl Tryd.underlying26) rfl (by decide) fun a8 hF8 => ?_
    refine sq (v := (.int .i64 0)) hF8 (wantedS rfl) (run_mv rfl rfl) rfl (by decide) fun a9 hF9 => ?_
    refine sqEnd ?_
    clear hF6 hF7 hF8
    refine nx ?_
    refine wp_block ?_
    refine wkLoop (fun m a w2 => ∃ k : Nat, k ≤ ys.length ∧ m = ys.length - k ∧ OwnR w [] w2 3 1 u0 xs.length (xs.map ci) ∧ OwnR w [] w2 3 1 u1 ys.length (ys.map ci) ∧ Fr a 91 [(7, u0), (8, u1), (9, .int .i64 (i : Int)), (10, .int .i64 (p : Int)), (40, u0), (41, .int .i64 (xs.length : Int)), (42, .int .i64 (i : Int)), (47, u1), (48, .int .i64 (ys.length : Int)), (49, .int .i64 (k : Int))] ∧ Mem w [] w2) ys.length ⟨0, Nat.zero_le _, rfl, hOx, hOy, hF9.sub ⟨rfl, rfl, rfl, rfl, rfl, rfl, rfl, rfl, rfl, rfl, trivial⟩, hM0⟩ ?_
    rintro m a0 w1 ⟨k, hk, rfl, hOx, hOy, hF0, hM0⟩
    by_cases h2 : k < ys.length
    · obtain ⟨q, hq⟩ : ∃ q, ys[k]? = some q := ⟨_, List.getElem?_eq_getElem h2⟩
      by_cases hpq : p = q
      · subst hpq
        have hdr : xs.drop i = ys.drop k := by rw [← hxs, ← hys]; exact ends_tail (by rw [hxs]; exact hp) (by rw [hys]; exact hq)
        have hlen : xs.length - i = ys.length - k := by have := congrArg List.length hdr; rwa [List.length_drop, List.length_drop] at this
        refine wp_seq ?_
        refine wp_region_lit ?_
        refine sq (v := (.bool true)) hF0 (wantedS rfl) (run_lss rfl (hF0.ev 49 rfl) (hF0.ev 48 rfl) (decide_eq_true (by omega))) rfl (by decide) fun a1 hF1 => ?_
        refine sqEnd ?_
        clear hF0
        refine nx ?_
        refine wp_seq ?_
        refine wp_cond_true (hF1.ev 50 rfl) ?_
        refine wp_skip ?_
        refine nx ?_
        refine wp_seq ?_
        refine wp_block ?_
        refine wp_seq ?_
        refine wp_region_lit ?_
        refine sq (v := (.int .i64 (k : Int))) hF1 (wantedS rfl) (run_mv rfl (hF1.ev 49 rfl)) rfl (by decide) fun a2 hF2 => ?_
        refine sq (v := (slPtr u1 (k * 1))) hF2 (wantedS rfl) (run_atP (i := k) rfl (hF2.ev 47 rfl) (hF2.ev 49 rfl) rfl (Sl.own hOy) (by omega) elInt.un (by kernel_rfl)) rfl (by decide) fun a3 hF3 => ?_
        refine sq (v := (.int .i64 (p : Int))) hF3 (wantedS rfl) (run_ldP (u := ci p) rfl (hF3.ev 52 rfl) (Sl.own hOy) (map_atI hq) (by kernel_rfl)) rfl (by decide) fun a4 hF4 => ?_
        refine sq (v := (.int .i64 (k : Int))) hF4 (wantedS rfl) (run_as rfl (hF4.ev 51 rfl)) rfl (by decide) fun a5 hF5 => ?_
        refine sq (v := (.int .i64 (p : Int))) hF5 (wantedS rfl) (run_as rfl (hF5.ev 53 rfl)) rfl (by decide) fun a6 hF6 => ?_
        refine sqEnd ?_
        clear hF1 hF2 hF3 hF4 hF5
        refine nx ?_
        refine wp_seq ?_
        refine wp_seq ?_
        refine wp_region_lit ?_
        refine sq (v := (.int .i64 (p : Int))) hF6 (wantedS rfl) (run_mv rfl (hF6.ev 10 rfl)) rfl (by decide) fun a7 hF7 => ?_
        refine sq (v := (.int .i64 (p : Int))) hF7 (wantedS rfl) (run_mv rfl (hF7.ev 12 rfl)) rfl (by decide) fun a8 hF8 => ?_
        refine sq (v := (.bool false)) hF8 (wantedS rfl) (run_nei rfl (hF8.ev 54 rfl) (hF8.ev 55 rfl) (bne_eq_false_iff_eq.2 (by omega))) rfl (by decide) fun a9 hF9 => ?_
        refine sqEnd ?_
        clear hF6 hF7 hF8
        refine nx ?_
        refine wp_cond_false (hF9.ev 56 rfl) ?_
        refine wp_skip ?_
        refine nx ?_
        refine wp_seq ?_
        refine wp_seq ?_
        refine wp_region_lit ?_
        refine sq (v := u0) hF9 (wantedS rfl) (run_mv rfl (hF9.ev 7 rfl)) rfl (by decide) fun a10 hF10 => ?_
        refine sq (v := (.int .i64 (xs.length : Int))) hF10 (wantedS rfl) (run_lenS rfl (hF10.ev 57 rfl) (Sl.own hOx) rfl Tryd.underlying26) rfl (by decide) fun a11 hF11 => ?_
        refine sq (v := (.int .i64 (i : Int))) hF11 (wantedS rfl) (run_mv rfl (hF11.ev 9 rfl)) rfl (by decide) fun a12 hF12 => ?_
        refine sq (v := (.int .i64 ((xs.length - i : Nat) : Int))) hF12 (wantedS rfl) (run_sub (r := ((xs.length - i : Nat) : Int)) rfl (hF12.ev 58 rfl) (hF12.ev 59 rfl) (by rw [IntKind.wrap_i64]; omega)) rfl (by decide) fun a13 hF13 => ?_
        refine sq (v := u1) hF13 (wantedS rfl) (run_mv rfl (hF13.ev 8 rfl)) rfl (by decide) fun a14 hF14 => ?_
        refine sq (v := (.int .i64 (ys.length : Int))) hF14 (wantedS rfl) (run_lenS rfl (hF14.ev 61 rfl) (Sl.own hOy) rfl Tryd.underlying26) rfl (by decide) fun a15 hF15 => ?_
        refine sq (v := (.int .i64 (k : Int))) hF15 (wantedS rfl) (run_mv rfl (hF15.ev 11 rfl)) rfl (by decide) fun a16 hF16 => ?_
        refine sq (v := (.int .i64 ((ys.length - k : Nat) : Int))) hF16 (wantedS rfl) (run_sub (r := ((ys.length - k : Nat) : Int)) rfl (hF16.ev 62 rfl) (hF16.ev 63 rfl) (by rw [IntKind.wrap_i64]; omega)) rfl (by decide) fun a17 hF17 => ?_
        refine sq (v := (.bool false)) hF17 (wantedS rfl) (run_nei rfl (hF17.ev 60 rfl) (hF17.ev 64 rfl) (bne_eq_false_iff_eq.2 (by omega))) rfl (by decide) fun a18 hF18 => ?_
        refine sqEnd ?_
        clear hF9 hF10 hF11 hF12 hF13 hF14 hF15 hF16 hF17
        refine nx ?_
        refine wp_cond_false (hF18.ev 65 rfl) ?_
        refine wp_skip ?_
        refine nx ?_
        refine wp_seq ?_
        refine wp_seq ?_
        refine wp_region_lit ?_
        refine sq (v := u0) hF18 (wantedS rfl) (run_mv rfl (hF18.ev 7 rfl)) rfl (by decide) fun a19 hF19 => ?_
        refine sq (v := (.int .i64 (xs.length : Int))) hF19 (wantedS rfl) (run_lenS rfl (hF19.ev 66 rfl) (Sl.own hOx) rfl Tryd.underlying26) rfl (by decide) fun a20 hF20 => ?_
        refine sq (v := (.int .i64 (i : Int))) hF20 (wantedS rfl) (run_mv rfl (hF20.ev 9 rfl)) rfl (by decide) fun a21 hF21 => ?_
        refine sq (v := (.int .i64 ((xs.length - i : Nat) : Int))) hF21 (wantedS rfl) (run_sub (r := ((xs.length - i : Nat) : Int)) rfl (hF21.ev 67 rfl) (hF21.ev 68 rfl) (by rw [IntKind.wrap_i64]; omega)) rfl (by decide) fun a22 hF22 => ?_
        refine sq (v := (.int .i64 0)) hF22 (wantedS rfl) (run_mv rfl rfl) rfl (by decide) fun a23 hF23 => ?_
        refine sqEnd ?_
        clear hF18 hF19 hF20 hF21 hF22
        refine nx ?_
        refine wp_block ?_
        refine wkLoop (fun m a w2 => ∃ j : Nat, j ≤ xs.length - i ∧ m = xs.length - i - j ∧ OwnR w [] w2 3 1 u0 xs.length (xs.map ci) ∧ OwnR w [] w2 3 1 u1 ys.length (ys.map ci) ∧ Fr a 91 [(7, u0), (8, u1), (9, .int .i64 (i : Int)), (11, .int .i64 (k : Int)), (69, .int .i64 ((xs.length - i : Nat) : Int)), (70, .int .i64 (j : Int))] ∧ Mem w [] w2) (xs.length - i) ⟨0, Nat.zero_le _, rfl, hOx, hOy, hF23.sub ⟨rfl, rfl, rfl, rfl, rfl, rfl, trivial⟩, hM0⟩ ?_
        rintro m a0 w1 ⟨j, hj, rfl, hOx, hOy, hF0, hM0⟩
        by_cases h3 : j < xs.length - i
        · obtain ⟨z, hz⟩ : ∃ z, xs[i + j]? = some z := ⟨_, List.getElem?_eq_getElem (by omega)⟩
          have hz2 : ys[k + j]? = some z := by
            have := congrArg (fun l : List Nat => l[j]?) hdr
            simp only [List.getElem?_drop] at this
            rw [← this, hz]
          refine wp_seq ?_
          refine wp_region_lit ?_
          refine sq (v := (.bool true)) hF0 (wantedS rfl) (run_lss rfl (hF0.ev 70 rfl) (hF0.ev 69 rfl) (decide_eq_true (by omega))) rfl (by decide) fun a1 hF1 => ?_
          refine sqEnd ?_
          clear hF0
          refine nx ?_
          refine wp_seq ?_
          refine wp_cond_true (hF1.ev 71 rfl) ?_
          refine wp_skip ?_
          refine nx ?_
          refine wp_seq ?_
          refine wp_block ?_
          refine wp_seq ?_
          refine wp_region_lit ?_
          refine sq (v := (.int .i64 (j : Int))) hF1 (wantedS rfl) (run_mv rfl (hF1.ev 70 rfl)) rfl (by decide) fun a2 hF2 => ?_
          refine sq (v := (.int .i64 (j : Int))) hF2 (wantedS rfl) (run_as rfl (hF2.ev 72 rfl)) rfl (by decide) fun a3 hF3 => ?_
          refine sqEnd ?_
          clear hF1 hF2
          refine nx ?_
          refine wp_seq ?_
          obtain ⟨KL, hKL⟩ : ∃ KL, KL = [kval u0, kval (.int .i64 (i : Int)), kval (.int .i64 (j : Int)), kval (.int .i64 ((i + j : Nat) : Int)), kval (slPtr u0 ((i + j) * 1)), kval (.int .i64 (z : Int)), kval u1, kval (.int .i64 (k : Int)), kval (.int .i64 (j : Int)), kval (.int .i64 ((k + j : Nat) : Int)), kval (slPtr u1 ((k + j) * 1)), kval (.int .i64 (z : Int)), kval (.bool false)] := ⟨_, rfl⟩
          have K0 : KL.getD 0 kany = kval u0 := by rw [hKL]; rfl
          have K1 : KL.getD 1 kany = kval (.int .i64 (i : Int)) := by rw [hKL]; rfl
          have K2 : KL.getD 2 kany = kval (.int .i64 (j : Int)) := by rw [hKL]; rfl
          have K3 : KL.getD 3 kany = kval (.int .i64 ((i + j : Nat) : Int)) := by rw [hKL]; rfl
          have K4 : KL.getD 4 kany = kval (slPtr u0 ((i + j) * 1)) := by rw [hKL]; rfl
          have K5 : KL.getD 5 kany = kval (.int .i64 (z : Int)) := by rw [hKL]; rfl
          have K6 : KL.getD 6 kany = kval u1 := by rw [hKL]; rfl
          have K7 : KL.getD 7 kany = kval (.int .i64 (k : Int)) := by rw [hKL]; rfl
          have K8 : KL.getD 8 kany = kval (.int .i64 (j : Int)) := by rw [hKL]; rfl
          have K9 : KL.getD 9 kany = kval (.int .i64 ((k + j : Nat) : Int)) := by rw [hKL]; rfl
          have K10 : KL.getD 10 kany = kval (slPtr u1 ((k + j) * 1)) := by rw [hKL]; rfl
          have K11 : KL.getD 11 kany = kval (.int .i64 (z : Int)) := by rw [hKL]; rfl
          have K12 : KL.getD 12 kany = kval (.bool false) := by rw [hKL]; rfl
          clear hKL
          refine wp_region_kd 91 (by kernel_rfl) (by kernel_rfl) (by kernel_rfl) hF3.size KL ?_ ?_
          · refine ⟨?_, ?_, ?_, ?_, ?_, ?_, ?_, ?_, ?_, ?_, ?_, ?_, ?_, trivial⟩
            · refine asks_mk fun a W hS hh hd => ⟨wanted_yes rfl, ?_⟩
              exact giv_run (run_mv rfl (eval_tmp (hh 7 _ rfl (hF3.at 7 rfl)))) K0
            · refine asks_mk fun a W hS hh hd => ⟨wanted_yes rfl, ?_⟩
              exact giv_run (run_mv rfl (eval_tmp (hh 9 _ rfl (hF3.at 9 rfl)))) K1
            · refine asks_mk fun a W hS hh hd => ⟨wanted_yes rfl, ?_⟩
              exact giv_run (run_mv rfl (eval_tmp (hh 13 _ rfl (hF3.at 13 rfl)))) K2
            · refine asks_mk fun a W hS hh hd => ⟨wanted_yes rfl, ?_⟩
              exact giv_run (run_add (r := ((i + j : Nat) : Int)) rfl (eval_tmp (hd.val (j := 1) (s := 74) (by kernel_rfl) K1)) (eval_tmp (hd.val (j := 2) (s := 75) (by kernel_rfl) K2)) (by rw [IntKind.wrap_i64]; omega)) K3
            · refine asks_mk fun a W hS hh hd => ⟨wanted_yes rfl, ?_⟩
              exact giv_run (run_atP (i := (i + j)) rfl (eval_tmp (hd.val (j := 0) (s := 73) (by kernel_rfl) K0)) (eval_tmp (hd.val (j := 3) (s := 76) (by kernel_rfl) K3)) rfl (Sl.own (hOx.grow hS)) (by omega) elInt.un (by kernel_rfl)) K4
            · refine asks_mk fun a W hS hh hd => ⟨wanted_yes rfl, ?_⟩
              exact giv_run (run_ldP (u := ci z) rfl (eval_tmp (hd.val (j := 4) (s := 77) (by kernel_rfl) K4)) (Sl.own (hOx.grow hS)) (map_atI hz) (by kernel_rfl)) K5
            · refine asks_mk fun a W hS hh hd => ⟨wanted_yes rfl, ?_⟩
              exact giv_run (run_mv rfl (eval_tmp (hh 8 _ rfl (hF3.at 8 rfl)))) K6
            · refine asks_mk fun a W hS hh hd => ⟨wanted_yes rfl, ?_⟩
              exact giv_run (run_mv rfl (eval_tmp (hh 11 _ rfl (hF3.at 11 rfl)))) K7
            · refine asks_mk fun a W hS hh hd => ⟨wanted_yes rfl, ?_⟩
              exact giv_run (run_mv rfl (eval_tmp (hh 13 _ rfl (hF3.at 13 rfl)))) K8
            · refine asks_mk fun a W hS hh hd => ⟨wanted_yes rfl, ?_⟩
              exact giv_run (run_add (r := ((k + j : Nat) : Int)) rfl (eval_tmp (hd.val (j := 7) (s := 80) (by kernel_rfl) K7)) (eval_tmp (hd.val (j := 8) (s := 81) (by kernel_rfl) K8)) (by rw [IntKind.wrap_i64]; omega)) K9
            · refine asks_mk fun a W hS hh hd => ⟨wanted_yes rfl, ?_⟩
              exact giv_run (run_atP (i := (k + j)) rfl (eval_tmp (hd.val (j := 6) (s := 79) (by kernel_rfl) K6)) (eval_tmp (hd.val (j := 9) (s := 82) (by kernel_rfl) K9)) rfl (Sl.own (hOy.grow hS)) (by omega) elInt.un (by kernel_rfl)) K10
            · refine asks_mk fun a W hS hh hd => ⟨wanted_yes rfl, ?_⟩
              exact giv_run (run_ldP (u := ci z) rfl (eval_tmp (hd.val (j := 10) (s := 83) (by kernel_rfl) K10)) (Sl.own (hOy.grow hS)) (map_atI hz2) (by kernel_rfl)) K11
            · refine asks_mk fun a W hS hh hd => ⟨wanted_yes rfl, ?_⟩
              exact giv_run (run_nei rfl (eval_tmp (hd.val (j := 5) (s := 78) (by kernel_rfl) K5)) (eval_tmp (hd.val (j := 11) (s := 84) (by kernel_rfl) K11)) (bne_self_eq_false _)) K12
          · intro a4 w2 hb2 hK
            have e0 := hK.val (i := 0) (s := 73) (by kernel_rfl) K0
            have e1 := hK.val (i := 1) (s := 74) (by kernel_rfl) K1
            have e2 := hK.val (i := 2) (s := 75) (by kernel_rfl) K2
            have e3 := hK.val (i := 3) (s := 76) (by kernel_rfl) K3
            have e4 := hK.val (i := 4) (s := 77) (by kernel_rfl) K4
            have e5 := hK.val (i := 5) (s := 78) (by kernel_rfl) K5
            have e6 := hK.val (i := 6) (s := 79) (by kernel_rfl) K6
            have e7 := hK.val (i := 7) (s := 80) (by kernel_rfl) K7
            have e8 := hK.val (i := 8) (s := 81) (by kernel_rfl) K8
            have e9 := hK.val (i := 9) (s := 82) (by kernel_rfl) K9
            have e10 := hK.val (i := 10) (s := 83) (by kernel_rfl) K10
            have e11 := hK.val (i := 11) (s := 84) (by kernel_rfl) K11
            have e12 := hK.val (i := 12) (s := 85) (by kernel_rfl) K12
            have hF4 : Fr a4 91 [(7, u0), (8, u1), (9, (.int .i64 (i : Int))), (11, (.int .i64 (k : Int))), (13, (.int .i64 (j : Int))), (69, (.int .i64 ((xs.length - i : Nat) : Int))), (70, (.int .i64 (j : Int))), (71, (.bool true)), (72, (.int .i64 (j : Int))), (85, (.bool false))] := (hK.fr hF3 [u0, (.int .i64 (i : Int)), (.int .i64 (j : Int)), (.int .i64 ((i + j : Nat) : Int)), (slPtr u0 ((i + j) * 1)), (.int .i64 (z : Int)), u1, (.int .i64 (k : Int)), (.int .i64 (j : Int)), (.int .i64 ((k + j : Nat) : Int)), (slPtr u1 ((k + j) * 1)), (.int .i64 (z : Int)), (.bool false)] ⟨e0, e1, e2, e3, e4, e5, e6, e7, e8, e9, e10, e11, e12, trivial⟩).sub ⟨rfl, rfl, rfl, rfl, rfl, rfl, rfl, rfl, rfl, rfl, trivial⟩
            have hM1 := hM0.grow hb2
            have hO1 := hOx.grow hb2
            have hO2 := hOy.grow hb2
            clear hK K0 e0 K1 e1 K2 e2 K3 e3 K4 e4 K5 e5 K6 e6 K7 e7 K8 e8 K9 e9 K10 e10 K11 e11 K12 e12
            clear hF3 hM0
            refine nx ?_
            refine wp_cond_false (hF4.ev 85 rfl) ?_
            refine wp_skip ?_
            refine bkEnd ?_
            refine nx ?_
            refine wp_region_lit ?_
            refine sq (v := (.int .i64 ((j + 1 : Nat) : Int))) hF4 (wantedS rfl) (run_add (r := ((j + 1 : Nat) : Int)) rfl (hF4.ev 70 rfl) rfl (by rw [IntKind.wrap_i64]; omega)) rfl (by decide) fun a5 hF5 => ?_
            refine sq (v := (.int .i64 ((j + 1 : Nat) : Int))) hF5 (wantedS rfl) (run_mv rfl (hF5.ev 86 rfl)) rfl (by decide) fun a6 hF6 => ?_
            refine sqEnd ?_
            clear hF4 hF5
            refine nx ?_
            exact ⟨_, by omega, j + 1, by omega, rfl, hO1, hO2, hF6.sub ⟨rfl, rfl, rfl, rfl, rfl, rfl, trivial⟩, hM1⟩
        · skip
          refine wp_seq ?_
          refine wp_region_lit ?_
          refine sq (v := (.bool false)) hF0 (wantedS rfl) (run_lss rfl (hF0.ev 70 rfl) (hF0.ev 69 rfl) (decide_eq_false (by omega))) rfl (by decide) fun a1 hF1 => ?_
          refine sqEnd ?_
          clear hF0
          refine nx ?_
          refine wp_seq ?_
          refine wp_cond_false (hF1.ev 71 rfl) ?_
          refine wp_exit ?_
          refine nxExit ?_
          refine nxExit ?_
          refine bkHere ?_
          refine nx ?_
          refine wp_seq ?_
          refine wp_region_lit ?_
          refine sqC (v := (.bool true)) hF1 hM0 (wantedS rfl) (run_call rfl Tryd.func11 (by kernel_rfl) rfl (mapE0 )) rfl (by decide) (fixed39_any w1) fun a2 w2 hb2 hF2 hM1 => ?_
          have hO1 := hOx.grow hb2
          have hO2 := hOy.grow hb2
          refine sq (v := (.bool true)) hF2 (wantedS rfl) (run_as rfl (hF2.ev 87 rfl)) rfl (by decide) fun a3 hF3 => ?_
          refine sqEnd ?_
          clear hF1 hF2 hM0
          refine nx ?_
          refine wp_ret ?_
          refine bkRet ?_
          refine nxRet ?_
          refine nxRet ?_
          refine bkRet ?_
          refine bkRet ?_
          refine nxRet ?_
          refine nxRet ?_
          refine bkRet ?_
          refine nxRet ?_
          exact ret1 hF3 rfl rfl ⟨rfl, hM1.below⟩
      · skip
        refine wp_seq ?_
        refine wp_region_lit ?_
        refine sq (v := (.bool true)) hF0 (wantedS rfl) (run_lss rfl (hF0.ev 49 rfl) (hF0.ev 48 rfl) (decide_eq_true (by omega))) rfl (by decide) fun a1 hF1 => ?_
        refine sqEnd ?_
        clear hF0
        refine nx ?_
        refine wp_seq ?_
        refine wp_cond_true (hF1.ev 50 rfl) ?_
        refine wp_skip ?_
        refine nx ?_
        refine wp_seq ?_
        refine wp_block ?_
        refine wp_seq ?_
        refine wp_region_lit ?_
        refine sq (v := (.int .i64 (k : Int))) hF1 (wantedS rfl) (run_mv rfl (hF1.ev 49 rfl)) rfl (by decide) fun a2 hF2 => ?_
        refine sq (v := (slPtr u1 (k * 1))) hF2 (wantedS rfl) (run_atP (i := k) rfl (hF2.ev 47 rfl) (hF2.ev 49 rfl) rfl (Sl.own hOy) (by omega) elInt.un (by kernel_rfl)) rfl (by decide) fun a3 hF3 => ?_
        refine sq (v := (.int .i64 (q : Int))) hF3 (wantedS rfl) (run_ldP (u := ci q) rfl (hF3.ev 52 rfl) (Sl.own hOy) (map_atI hq) (by kernel_rfl)) rfl (by decide) fun a4 hF4 => ?_
        refine sq (v := (.int .i64 (k : Int))) hF4 (wantedS rfl) (run_as rfl (hF4.ev 51 rfl)) rfl (by decide) fun a5 hF5 => ?_
        refine sq (v := (.int .i64 (q : Int))) hF5 (wantedS rfl) (run_as rfl (hF5.ev 53 rfl)) rfl (by decide) fun a6 hF6 => ?_
        refine sqEnd ?_
        clear hF1 hF2 hF3 hF4 hF5
        refine nx ?_
        refine wp_seq ?_
        refine wp_seq ?_
        refine wp_region_lit ?_
        refine sq (v := (.int .i64 (p : Int))) hF6 (wantedS rfl) (run_mv rfl (hF6.ev 10 rfl)) rfl (by decide) fun a7 hF7 => ?_
        refine sq (v := (.int .i64 (q : Int))) hF7 (wantedS rfl) (run_mv rfl (hF7.ev 12 rfl)) rfl (by decide) fun a8 hF8 => ?_
        refine sq (v := (.bool true)) hF8 (wantedS rfl) (run_nei rfl (hF8.ev 54 rfl) (hF8.ev 55 rfl) (bne_iff_ne.2 (by omega))) rfl (by decide) fun a9 hF9 => ?_
        refine sqEnd ?_
        clear hF6 hF7 hF8
        refine nx ?_
        refine wp_cond_true (hF9.ev 56 rfl) ?_
        refine wp_exit ?_
        refine nxExit ?_
        refine bkHere ?_
        refine nx ?_
        refine wp_region_lit ?_
        refine sq (v := (.int .i64 ((k + 1 : Nat) : Int))) hF9 (wantedS rfl) (run_add (r := ((k + 1 : Nat) : Int)) rfl (hF9.ev 49 rfl) rfl (by rw [IntKind.wrap_i64]; omega)) rfl (by decide) fun a10 hF10 => ?_
        refine sq (v := (.int .i64 ((k + 1 : Nat) : Int))) hF10 (wantedS rfl) (run_mv rfl (hF10.ev 88 rfl)) rfl (by decide) fun a11 hF11 => ?_
        refine sqEnd ?_
        clear hF9 hF10
        refine nx ?_
        exact ⟨_, by omega, k + 1, by omega, rfl, hOx, hOy, hF11.sub ⟨rfl, rfl, rfl, rfl, rfl, rfl, rfl, rfl, rfl, rfl, trivial⟩, hM0⟩
    · skip
      refine wp_seq ?_
      refine wp_region_lit ?_
      refine sq (v := (.bool false)) hF0 (wantedS rfl) (run_lss rfl (hF0.ev 49 rfl) (hF0.ev 48 rfl) (decide_eq_false (by omega))) rfl (by decide) fun a1 hF1 => ?_
      refine sqEnd ?_
      clear hF0
      refine nx ?_
      refine wp_seq ?_
      refine wp_cond_false (hF1.ev 50 rfl) ?_
      refine wp_exit ?_
      refine nxExit ?_
      refine nxExit ?_
      refine bkHere ?_
      refine bkEnd ?_
      refine nx ?_
      refine wp_region_lit ?_
      refine sq (v := (.int .i64 ((i + 1 : Nat) : Int))) hF1 (wantedS rfl) (run_add (r := ((i + 1 : Nat) : Int)) rfl (hF1.ev 42 rfl) rfl (by rw [IntKind.wrap_i64]; omega)) rfl (by decide) fun a2 hF2 => ?_
      refine sq (v := (.int .i64 ((i + 1 : Nat) : Int))) hF2 (wantedS rfl) (run_mv rfl (hF2.ev 89 rfl)) rfl (by decide) fun a3 hF3 => ?_
      refine sqEnd ?_
      clear hF1 hF2
      refine nx ?_
      exact ⟨_, by omega, i + 1, by omega, rfl, hOx, hOy, hF3.sub ⟨rfl, rfl, rfl, rfl, rfl, trivial⟩, hM0⟩
  · skip
    refine wp_seq ?_
    refine wp_region_lit ?_
    refine sq (v := (.bool false)) hF0 (wantedS rfl) (run_lss rfl (hF0.ev 42 rfl) (hF0.ev 41 rfl) (decide_eq_false (by omega))) rfl (by decide) fun a1 hF1 => ?_
    refine sqEnd ?_
    clear hF0
    refine nx ?_
    refine wp_seq ?_
    refine wp_cond_false (hF1.ev 43 rfl) ?_
    refine wp_exit ?_
    refine nxExit ?_
    refine nxExit ?_
    refine bkHere ?_
    refine nx ?_
    refine wp_seq ?_
    refine wp_region_lit ?_
    refine sqC (v := (.bool true)) hF1 hM0 (wantedS rfl) (run_call rfl Tryd.func11 (by kernel_rfl) rfl (mapE0 )) rfl (by decide) (fixed39_any w1) fun a2 w2 hb2 hF2 hM1 => ?_
    have hO1 := hOx.grow hb2
    have hO2 := hOy.grow hb2
    refine sq (v := (.bool true)) hF2 (wantedS rfl) (run_as rfl (hF2.ev 90 rfl)) rfl (by decide) fun a3 hF3 => ?_
    refine sqEnd ?_
    clear hF1 hF2 hM0
    refine nx ?_
    refine wp_ret ?_
    exact ret1 hF3 rfl rfl ⟨rfl, hM1.below⟩
end Go.Proofs.YtdjjiblijbjobaaDoor
