/- The walks of the reference's Boxes, Of and Take. Printed by gen_pack6.py. -/
import Derived.Test.YtnkklogkjnfjgaaPack3
import Derived.Test.YtnkklogkjnfjgaaPack5
import Derived.Test.YtnkklogkjnfjgaaRtexts
namespace Go.Proofs.Ytnkklogkjnfjgaa
open Go.RowKit

theorem run_boxes1 {a : Act} {op : Oper} {w : World} {x : Operand} {s r : ByteArray} (ho : op.op = .buildSlice 22 1 #[(0, x)]) (hx : a.eval x = .agg #[.string s, .string r]) :
    (execOp a.eval op).run Try.prog w = .ok (.value (.slice (some ⟨w.heap.size, 0, none⟩) 1 1)) (w.alloc (.cells #[.string s, .string r] 29)) := by
  unfold execOp
  simp only [ho, List.map_toArray, List.map_cons, List.map_nil, hx]
  go_simp
theorem rtexts_err {b : List UInt8} {e : Int} (h : textsS b = .error e) (w : World) (hb : b.length < 2 ^ 42) : Calls Try.prog 23 #[.string ⟨b.toArray⟩] w fun x w' => x = .returned (.tuple #[.slice none 0 0, .int .i64 e]) ∧ Below w.heap.size w w' :=
  (rtexts_any b w hb).mono fun x w' ⟨u, h1, h2, h3⟩ => by unfold TxR at h2; rw [h] at h2; subst h2; exact ⟨h1, h3⟩
theorem rtexts_ok {b : List UInt8} {X : List (List UInt8)} (h : textsS b = .ok X) (w : World) (hb : b.length < 2 ^ 42) : Calls Try.prog 23 #[.string ⟨b.toArray⟩] w fun x w' => ∃ u, x = .returned u ∧ (∃ v, u = .tuple #[v, .int .i64 0] ∧ w'.ownsRow w.heap.size 9 1 v X.length (X.map tx)) ∧ Below w.heap.size w w' :=
  (rtexts_any b w hb).mono fun x w' ⟨u, h1, h2, h3⟩ => by unfold TxR at h2; rw [h] at h2; exact ⟨u, h1, h2, h3⟩
/-- what Boxes hands back. -/
def BxR (b : List UInt8) (base : Nat) (u : Value) (w : World) : Prop := match ofS b with
  | some l => ∃ v, u = .tuple #[v, .bool true] ∧ w.ownsRow base 29 2 v l.length (l.flatMap boxC)
  | none => ∃ v, u = .tuple #[v, .bool false]
theorem flatten_row : ∀ l : List (List UInt8), l.flatten.length ≤ (rowS l).length
  | [] => Nat.le_refl _
  | s :: l => by have := flatten_row l; rw [rowS_cons, List.flatten_cons, List.length_append, List.length_append, List.length_append]; omega
theorem take_flat (l : List Bx) (k : Nat) {x : Bx} (hx : l[k]? = some x) : (l.take (k + 1)).length = (l.take k).length + 1 ∧ (l.take (k + 1)).flatMap boxC = (l.take k).flatMap boxC ++ boxC x := by
  obtain ⟨hl, rfl⟩ := List.getElem?_eq_some_iff.1 hx
  rw [List.take_succ_eq_append_getElem hl, List.length_append, List.flatMap_append]
  simp
set_option maxRecDepth 100000 in
set_option maxHeartbeats 1000000 in
theorem rboxes_any (b : List UInt8) (w : World) (hb : b.length < 2 ^ 41) : Calls Try.prog 16 #[.string ⟨b.toArray⟩] w fun e w' => ∃ u, e = .returned u ∧ BxR b w.heap.size u w' ∧ Below w.heap.size w w' := by
  cases hT : textsS b with
  | error e =>
    have hno := ofS_err hT
    have he := textsS_err b.length b e (Nat.le_refl _) hT
    refine walk_enter Try.func16 rfl rfl rfl fun a0 hF0 => ?_
    have hM0 := Mem.new w
    refine wp_seq ?_
    refine wp_region_lit ?_
    refine sq (v := (.slice none 0 0)) hF0 (wantedS rfl) (run_as rfl rfl) rfl (by decide) fun a1 hF1 => ?_
    refine sq (v := (.bool false)) hF1 (wantedS rfl) (run_as rfl rfl) rfl (by decide) fun a2 hF2 => ?_
    refine sqEnd ?_
    clear hF0 hF1
    refine nx ?_
    refine wp_seq ?_
    refine wp_region_lit ?_
    refine sqOwn0 (size := 2) (e := 29) hF2 hM0 (wantedS rfl) (run_none (m := 2) rfl elBox.un (by kernel_rfl)) rfl (by decide) fun v0 a3 w1 hO1 hb1 hM1 hF3 => ?_
    refine sq (v := v0) hF3 (wantedS rfl) (run_as rfl (hF3.ev 10 rfl)) rfl (by decide) fun a4 hF4 => ?_
    refine sqEnd ?_
    clear hF2 hF3 hM0
    refine nx ?_
    refine wp_seq ?_
    refine wp_region_lit ?_
    refine sq (v := (.string ⟨b.toArray⟩)) hF4 (wantedS rfl) (run_mv rfl (hF4.ev 0 rfl)) rfl (by decide) fun a5 hF5 => ?_
    refine sqC (v := (.tuple #[(.slice none 0 0), (.int .i64 e)])) hF5 hM1 (wantedS rfl) (run_call rfl Try.func23 (by kernel_rfl) rfl (mapE1 (hF5.ev 12 rfl))) rfl (by decide) (rtexts_err hT w1 (by omega)) fun a6 w2 hb2 hF6 hM2 => ?_
    have hO2 := hO1.grow hb2
    refine sq (v := (.tuple #[(.slice none 0 0), (.int .i64 e)])) hF6 (wantedS rfl) (run_mv rfl (hF6.ev 13 rfl)) rfl (by decide) fun a7 hF7 => ?_
    refine sq (v := (.slice none 0 0)) hF7 (wantedS rfl) (run_ext rfl (hF7.ev 11 rfl) rfl) rfl (by decide) fun a8 hF8 => ?_
    refine sq (v := (.int .i64 e)) hF8 (wantedS rfl) (run_ext rfl (hF8.ev 11 rfl) rfl) rfl (by decide) fun a9 hF9 => ?_
    refine sq (v := (.slice none 0 0)) hF9 (wantedS rfl) (run_as rfl (hF9.ev 14 rfl)) rfl (by decide) fun a10 hF10 => ?_
    refine sq (v := (.int .i64 e)) hF10 (wantedS rfl) (run_as rfl (hF10.ev 15 rfl)) rfl (by decide) fun a11 hF11 => ?_
    refine sqEnd ?_
    clear hF4 hF5 hF6 hF7 hF8 hF9 hF10 hM1
    refine nx ?_
    refine wp_seq ?_
    refine wp_seq ?_
    refine wp_region_lit ?_
    refine sq (v := (.int .i64 e)) hF11 (wantedS rfl) (run_mv rfl (hF11.ev 6 rfl)) rfl (by decide) fun a12 hF12 => ?_
    refine sq (v := (.bool true)) hF12 (wantedS rfl) (run_nei rfl (hF12.ev 16 rfl) rfl (bne_iff_ne.2 (by omega))) rfl (by decide) fun a13 hF13 => ?_
    refine sq (v := (.bool true)) hF13 (wantedS rfl) (run_mv rfl (hF13.ev 17 rfl)) rfl (by decide) fun a14 hF14 => ?_
    refine sqSkip hF14 (unwantedG hF14 rfl rfl rfl rfl rfl) rfl (by decide) fun a15 hF15 => ?_
    refine sqSkip hF15 (unwantedG hF15 rfl rfl rfl rfl rfl) rfl (by decide) fun a16 hF16 => ?_
    refine sqSkip hF16 (unwantedG hF16 rfl rfl rfl rfl rfl) rfl (by decide) fun a17 hF17 => ?_
    refine sqSkip hF17 (unwantedG hF17 rfl rfl rfl rfl rfl) rfl (by decide) fun a18 hF18 => ?_
    refine sq (v := (.bool true)) hF18 (wantedS rfl) (run_pick rfl (hF18.ev 18 rfl) rfl (hF18.ev 22 rfl)) rfl (by decide) fun a19 hF19 => ?_
    refine sq (v := (.bool true)) hF19 (wantedS rfl) (run_mv rfl (hF19.ev 23 rfl)) rfl (by decide) fun a20 hF20 => ?_
    refine sqSkip hF20 (unwantedG hF20 rfl rfl rfl rfl rfl) rfl (by decide) fun a21 hF21 => ?_
    refine sqSkip hF21 (unwantedG hF21 rfl rfl rfl rfl rfl) rfl (by decide) fun a22 hF22 => ?_
    refine sqSkip hF22 (unwantedG hF22 rfl rfl rfl rfl rfl) rfl (by decide) fun a23 hF23 => ?_
    refine sqSkip hF23 (unwantedG hF23 rfl rfl rfl rfl rfl) rfl (by decide) fun a24 hF24 => ?_
    refine sq (v := (.bool true)) hF24 (wantedS rfl) (run_pick rfl (hF24.ev 24 rfl) rfl (hF24.ev 28 rfl)) rfl (by decide) fun a25 hF25 => ?_
    refine sqEnd ?_
    clear hF11 hF12 hF13 hF14 hF15 hF16 hF17 hF18 hF19 hF20 hF21 hF22 hF23 hF24
    refine nx ?_
    refine wp_cond_true (hF25.ev 29 rfl) ?_
    refine wp_seq ?_
    refine wp_region_lit ?_
    refine sq (v := v0) hF25 (wantedS rfl) (run_mv rfl (hF25.ev 4 rfl)) rfl (by decide) fun a26 hF26 => ?_
    refine sq (v := v0) hF26 (wantedS rfl) (run_as rfl (hF26.ev 30 rfl)) rfl (by decide) fun a27 hF27 => ?_
    refine sq (v := (.bool false)) hF27 (wantedS rfl) (run_as rfl rfl) rfl (by decide) fun a28 hF28 => ?_
    refine sqEnd ?_
    clear hF25 hF26 hF27
    refine nx ?_
    refine wp_ret ?_
    refine nxRet ?_
    exact ret2 hF28 rfl rfl rfl ⟨_, rfl, by unfold BxR; rw [hno]; exact ⟨_, rfl⟩, hM2.below⟩
  | ok X =>
  by_cases h2 : X.length % 2 = 0
  · have hno := ofS_no hT (.inr (.inl h2))
    refine walk_enter Try.func16 rfl rfl rfl fun a0 hF0 => ?_
    have hM0 := Mem.new w
    refine wp_seq ?_
    refine wp_region_lit ?_
    refine sq (v := (.slice none 0 0)) hF0 (wantedS rfl) (run_as rfl rfl) rfl (by decide) fun a1 hF1 => ?_
    refine sq (v := (.bool false)) hF1 (wantedS rfl) (run_as rfl rfl) rfl (by decide) fun a2 hF2 => ?_
    refine sqEnd ?_
    clear hF0 hF1
    refine nx ?_
    refine wp_seq ?_
    refine wp_region_lit ?_
    refine sqOwn0 (size := 2) (e := 29) hF2 hM0 (wantedS rfl) (run_none (m := 2) rfl elBox.un (by kernel_rfl)) rfl (by decide) fun v0 a3 w1 hO1 hb1 hM1 hF3 => ?_
    refine sq (v := v0) hF3 (wantedS rfl) (run_as rfl (hF3.ev 10 rfl)) rfl (by decide) fun a4 hF4 => ?_
    refine sqEnd ?_
    clear hF2 hF3 hM0
    refine nx ?_
    refine wp_seq ?_
    refine wp_region_lit ?_
    refine sq (v := (.string ⟨b.toArray⟩)) hF4 (wantedS rfl) (run_mv rfl (hF4.ev 0 rfl)) rfl (by decide) fun a5 hF5 => ?_
    refine sqT (T := fun u wx => (∃ v, u = .tuple #[v, .int .i64 0] ∧ wx.ownsRow w1.heap.size 9 1 v X.length (X.map tx)) ∧ Below w1.heap.size w1 wx) hF5 (wantedS rfl) (run_call rfl Try.func23 (by kernel_rfl) rfl (mapE1 (hF5.ev 12 rfl))) rfl (by decide) (rtexts_ok hT w1 (by omega)) fun u1 a6 w2 hT2 hF6 => ?_
    obtain ⟨⟨v2, rfl, hr2⟩, hb2⟩ := hT2
    have hO2 := OwnR.ofCall hM1 hr2
    have hM2 := hM1.grow hb2
    have hO3 := hO1.grow hb2
    refine sq (v := (.tuple #[v2, (.int .i64 0)])) hF6 (wantedS rfl) (run_mv rfl (hF6.ev 13 rfl)) rfl (by decide) fun a7 hF7 => ?_
    refine sq (v := v2) hF7 (wantedS rfl) (run_ext rfl (hF7.ev 11 rfl) rfl) rfl (by decide) fun a8 hF8 => ?_
    refine sq (v := (.int .i64 0)) hF8 (wantedS rfl) (run_ext rfl (hF8.ev 11 rfl) rfl) rfl (by decide) fun a9 hF9 => ?_
    refine sq (v := v2) hF9 (wantedS rfl) (run_as rfl (hF9.ev 14 rfl)) rfl (by decide) fun a10 hF10 => ?_
    refine sq (v := (.int .i64 0)) hF10 (wantedS rfl) (run_as rfl (hF10.ev 15 rfl)) rfl (by decide) fun a11 hF11 => ?_
    refine sqEnd ?_
    clear hF4 hF5 hF6 hF7 hF8 hF9 hF10 hM1
    refine nx ?_
    refine wp_seq ?_
    refine wp_seq ?_
    refine wp_region_lit ?_
    refine sq (v := (.int .i64 0)) hF11 (wantedS rfl) (run_mv rfl (hF11.ev 6 rfl)) rfl (by decide) fun a12 hF12 => ?_
    refine sq (v := (.bool false)) hF12 (wantedS rfl) (run_nei rfl (hF12.ev 16 rfl) rfl (bne_eq_false_iff_eq.2 (by omega))) rfl (by decide) fun a13 hF13 => ?_
    refine sq (v := (.bool false)) hF13 (wantedS rfl) (run_mv rfl (hF13.ev 17 rfl)) rfl (by decide) fun a14 hF14 => ?_
    refine sq (v := v2) hF14 (wantedG hF14 rfl rfl rfl rfl rfl) (run_mv rfl (hF14.ev 5 rfl)) rfl (by decide) fun a15 hF15 => ?_
    refine sq (v := (.int .i64 (X.length : Int))) hF15 (wantedG hF15 rfl rfl rfl rfl rfl) (run_lenS rfl (hF15.ev 19 rfl) (Sl.own hO2) rfl Try.underlying42) rfl (by decide) fun a16 hF16 => ?_
    refine sq (v := (.int .i64 ((X.length % 2 : Nat) : Int))) hF16 (wantedG hF16 rfl rfl rfl rfl rfl) (run_rem (r := ((X.length % 2 : Nat) : Int)) rfl (hF16.ev 20 rfl) rfl (by omega) (by rw [Int.tmod_eq_emod_of_nonneg (by omega)]; try omega)) rfl (by decide) fun a17 hF17 => ?_
    refine sq (v := (.bool true)) hF17 (wantedG hF17 rfl rfl rfl rfl rfl) (run_eqi rfl (hF17.ev 21 rfl) rfl (beq_iff_eq.2 (by omega))) rfl (by decide) fun a18 hF18 => ?_
    refine sq (v := (.bool true)) hF18 (wantedS rfl) (run_pick rfl (hF18.ev 18 rfl) rfl (hF18.ev 22 rfl)) rfl (by decide) fun a19 hF19 => ?_
    refine sq (v := (.bool true)) hF19 (wantedS rfl) (run_mv rfl (hF19.ev 23 rfl)) rfl (by decide) fun a20 hF20 => ?_
    refine sqSkip hF20 (unwantedG hF20 rfl rfl rfl rfl rfl) rfl (by decide) fun a21 hF21 => ?_
    refine sqSkip hF21 (unwantedG hF21 rfl rfl rfl rfl rfl) rfl (by decide) fun a22 hF22 => ?_
    refine sqSkip hF22 (unwantedG hF22 rfl rfl rfl rfl rfl) rfl (by decide) fun a23 hF23 => ?_
    refine sqSkip hF23 (unwantedG hF23 rfl rfl rfl rfl rfl) rfl (by decide) fun a24 hF24 => ?_
    refine sq (v := (.bool true)) hF24 (wantedS rfl) (run_pick rfl (hF24.ev 24 rfl) rfl (hF24.ev 28 rfl)) rfl (by decide) fun a25 hF25 => ?_
    refine sqEnd ?_
    clear hF11 hF12 hF13 hF14 hF15 hF16 hF17 hF18 hF19 hF20 hF21 hF22 hF23 hF24
    refine nx ?_
    refine wp_cond_true (hF25.ev 29 rfl) ?_
    refine wp_seq ?_
    refine wp_region_lit ?_
    refine sq (v := v0) hF25 (wantedS rfl) (run_mv rfl (hF25.ev 4 rfl)) rfl (by decide) fun a26 hF26 => ?_
    refine sq (v := v0) hF26 (wantedS rfl) (run_as rfl (hF26.ev 30 rfl)) rfl (by decide) fun a27 hF27 => ?_
    refine sq (v := (.bool false)) hF27 (wantedS rfl) (run_as rfl rfl) rfl (by decide) fun a28 hF28 => ?_
    refine sqEnd ?_
    clear hF25 hF26 hF27
    refine nx ?_
    refine wp_ret ?_
    refine nxRet ?_
    exact ret2 hF28 rfl rfl rfl ⟨_, rfl, by unfold BxR; rw [hno]; exact ⟨_, rfl⟩, hM2.below⟩
  obtain ⟨y, hy⟩ : ∃ y, X[0]? = some y := ⟨X[0], by simp [show 0 < X.length by omega]⟩
  by_cases hh : y ≠ hibp
  · have hno := ofS_no hT (.inr (.inr (.inl (by rw [List.head?_eq_getElem?, hy]; intro e; injection e with e; exact hh e))))
    refine walk_enter Try.func16 rfl rfl rfl fun a0 hF0 => ?_
    have hM0 := Mem.new w
    refine wp_seq ?_
    refine wp_region_lit ?_
    refine sq (v := (.slice none 0 0)) hF0 (wantedS rfl) (run_as rfl rfl) rfl (by decide) fun a1 hF1 => ?_
    refine sq (v := (.bool false)) hF1 (wantedS rfl) (run_as rfl rfl) rfl (by decide) fun a2 hF2 => ?_
    refine sqEnd ?_
    clear hF0 hF1
    refine nx ?_
    refine wp_seq ?_
    refine wp_region_lit ?_
    refine sqOwn0 (size := 2) (e := 29) hF2 hM0 (wantedS rfl) (run_none (m := 2) rfl elBox.un (by kernel_rfl)) rfl (by decide) fun v0 a3 w1 hO1 hb1 hM1 hF3 => ?_
    refine sq (v := v0) hF3 (wantedS rfl) (run_as rfl (hF3.ev 10 rfl)) rfl (by decide) fun a4 hF4 => ?_
    refine sqEnd ?_
    clear hF2 hF3 hM0
    refine nx ?_
    refine wp_seq ?_
    refine wp_region_lit ?_
    refine sq (v := (.string ⟨b.toArray⟩)) hF4 (wantedS rfl) (run_mv rfl (hF4.ev 0 rfl)) rfl (by decide) fun a5 hF5 => ?_
    refine sqT (T := fun u wx => (∃ v, u = .tuple #[v, .int .i64 0] ∧ wx.ownsRow w1.heap.size 9 1 v X.length (X.map tx)) ∧ Below w1.heap.size w1 wx) hF5 (wantedS rfl) (run_call rfl Try.func23 (by kernel_rfl) rfl (mapE1 (hF5.ev 12 rfl))) rfl (by decide) (rtexts_ok hT w1 (by omega)) fun u1 a6 w2 hT2 hF6 => ?_
    obtain ⟨⟨v2, rfl, hr2⟩, hb2⟩ := hT2
    obtain ⟨gt, ct, rfl, hcapgt, hggt, hM2⟩ := OwnR.ofCallMem hM1 hb2 hr2 (by omega)
    have hO2 := hO1.add (S := isRow 9 1 X.length (X.map tx)) hb2 hggt
    refine sq (v := (.tuple #[(.slice (some ⟨gt, 0, none⟩) X.length ct), (.int .i64 0)])) hF6 (wantedS rfl) (run_mv rfl (hF6.ev 13 rfl)) rfl (by decide) fun a7 hF7 => ?_
    refine sq (v := (.slice (some ⟨gt, 0, none⟩) X.length ct)) hF7 (wantedS rfl) (run_ext rfl (hF7.ev 11 rfl) rfl) rfl (by decide) fun a8 hF8 => ?_
    refine sq (v := (.int .i64 0)) hF8 (wantedS rfl) (run_ext rfl (hF8.ev 11 rfl) rfl) rfl (by decide) fun a9 hF9 => ?_
    refine sq (v := (.slice (some ⟨gt, 0, none⟩) X.length ct)) hF9 (wantedS rfl) (run_as rfl (hF9.ev 14 rfl)) rfl (by decide) fun a10 hF10 => ?_
    refine sq (v := (.int .i64 0)) hF10 (wantedS rfl) (run_as rfl (hF10.ev 15 rfl)) rfl (by decide) fun a11 hF11 => ?_
    refine sqEnd ?_
    clear hF4 hF5 hF6 hF7 hF8 hF9 hF10 hM1
    refine nx ?_
    refine wp_seq ?_
    refine wp_seq ?_
    refine wp_region_lit ?_
    refine sq (v := (.int .i64 0)) hF11 (wantedS rfl) (run_mv rfl (hF11.ev 6 rfl)) rfl (by decide) fun a12 hF12 => ?_
    refine sq (v := (.bool false)) hF12 (wantedS rfl) (run_nei rfl (hF12.ev 16 rfl) rfl (bne_eq_false_iff_eq.2 (by omega))) rfl (by decide) fun a13 hF13 => ?_
    refine sq (v := (.bool false)) hF13 (wantedS rfl) (run_mv rfl (hF13.ev 17 rfl)) rfl (by decide) fun a14 hF14 => ?_
    refine sq (v := (.slice (some ⟨gt, 0, none⟩) X.length ct)) hF14 (wantedG hF14 rfl rfl rfl rfl rfl) (run_mv rfl (hF14.ev 5 rfl)) rfl (by decide) fun a15 hF15 => ?_
    refine sq (v := (.int .i64 (X.length : Int))) hF15 (wantedG hF15 rfl rfl rfl rfl rfl) (run_lenS rfl (hF15.ev 19 rfl) (slOfRow (c := ct) (hM2.ob 0 rfl)) rfl Try.underlying42) rfl (by decide) fun a16 hF16 => ?_
    refine sq (v := (.int .i64 ((X.length % 2 : Nat) : Int))) hF16 (wantedG hF16 rfl rfl rfl rfl rfl) (run_rem (r := ((X.length % 2 : Nat) : Int)) rfl (hF16.ev 20 rfl) rfl (by omega) (by rw [Int.tmod_eq_emod_of_nonneg (by omega)]; try omega)) rfl (by decide) fun a17 hF17 => ?_
    refine sq (v := (.bool false)) hF17 (wantedG hF17 rfl rfl rfl rfl rfl) (run_eqi rfl (hF17.ev 21 rfl) rfl (beq_eq_false_iff_ne.2 (by omega))) rfl (by decide) fun a18 hF18 => ?_
    refine sq (v := (.bool false)) hF18 (wantedS rfl) (run_pick rfl (hF18.ev 18 rfl) rfl (hF18.ev 22 rfl)) rfl (by decide) fun a19 hF19 => ?_
    refine sq (v := (.bool false)) hF19 (wantedS rfl) (run_mv rfl (hF19.ev 23 rfl)) rfl (by decide) fun a20 hF20 => ?_
    refine sq (v := (.slice (some ⟨gt, 0, none⟩) X.length ct)) hF20 (wantedG hF20 rfl rfl rfl rfl rfl) (run_mv rfl (hF20.ev 5 rfl)) rfl (by decide) fun a21 hF21 => ?_
    refine sq (v := (slPtr (.slice (some ⟨gt, 0, none⟩) X.length ct) (0 * 1))) hF21 (wantedG hF21 rfl rfl rfl rfl rfl) (run_atP (i := 0) rfl (hF21.ev 25 rfl) rfl rfl (slOfRow (c := ct) (hM2.ob 0 rfl)) (by omega) elStr.un (by kernel_rfl)) rfl (by decide) fun a22 hF22 => ?_
    refine sq (v := (.string ⟨y.toArray⟩)) hF22 (wantedG hF22 rfl rfl rfl rfl rfl) (run_ldP rfl (hF22.ev 26 rfl) (slOfRow (c := ct) (hM2.ob 0 rfl)) (map_at hy) (by kernel_rfl)) rfl (by decide) fun a23 hF23 => ?_
    refine sq (v := (.bool true)) hF23 (wantedG hF23 rfl rfl rfl rfl rfl) (run_nes rfl (hF23.ev 27 rfl) rfl (by rw [show (y == [104, 105, 98, 112]) = false from beq_eq_false_iff_ne.2 hh]; rfl)) rfl (by decide) fun a24 hF24 => ?_
    refine sq (v := (.bool true)) hF24 (wantedS rfl) (run_pick rfl (hF24.ev 24 rfl) rfl (hF24.ev 28 rfl)) rfl (by decide) fun a25 hF25 => ?_
    refine sqEnd ?_
    clear hF11 hF12 hF13 hF14 hF15 hF16 hF17 hF18 hF19 hF20 hF21 hF22 hF23 hF24
    refine nx ?_
    refine wp_cond_true (hF25.ev 29 rfl) ?_
    refine wp_seq ?_
    refine wp_region_lit ?_
    refine sq (v := v0) hF25 (wantedS rfl) (run_mv rfl (hF25.ev 4 rfl)) rfl (by decide) fun a26 hF26 => ?_
    refine sq (v := v0) hF26 (wantedS rfl) (run_as rfl (hF26.ev 30 rfl)) rfl (by decide) fun a27 hF27 => ?_
    refine sq (v := (.bool false)) hF27 (wantedS rfl) (run_as rfl rfl) rfl (by decide) fun a28 hF28 => ?_
    refine sqEnd ?_
    clear hF25 hF26 hF27
    refine nx ?_
    refine wp_ret ?_
    refine nxRet ?_
    exact ret2 hF28 rfl rfl rfl ⟨_, rfl, by unfold BxR; rw [hno]; exact ⟨_, rfl⟩, hM2.below⟩
  replace hh : y = hibp := Classical.byContradiction hh
  have hsh := shape (X := X) (by omega) (by rw [List.head?_eq_getElem?, hy, hh])
  obtain ⟨l, hl⟩ : ∃ l, boxesOf X.tail = l := ⟨_, rfl⟩
  rw [hl] at hsh
  have hlen : X.length = 1 + 2 * l.length := by rw [hsh, List.length_cons, textsB_len]; omega
  have hbk := (textsS_back b.length b X (Nat.le_refl _) hT).1
  have hby : bytesS l = b := by unfold bytesS; rw [← hsh]; exact hbk
  have hXb : X.length ≤ b.length := by rw [← hbk]; exact rowS_ge X
  have hfb : (textsB l).flatten.length ≤ b.length := by
    have := flatten_row X
    rw [hbk] at this
    rw [hsh, List.flatten_cons, List.length_append] at this
    omega
  refine walk_enter Try.func16 rfl rfl rfl fun a0 hF0 => ?_
  have hM0 := Mem.new w
  refine wp_seq ?_
  refine wp_region_lit ?_
  refine sq (v := (.slice none 0 0)) hF0 (wantedS rfl) (run_as rfl rfl) rfl (by decide) fun a1 hF1 => ?_
  refine sq (v := (.bool false)) hF1 (wantedS rfl) (run_as rfl rfl) rfl (by decide) fun a2 hF2 => ?_
  refine sqEnd ?_
  clear hF0 hF1
  refine nx ?_
  refine wp_seq ?_
  refine wp_region_lit ?_
  refine sqOwn0 (size := 2) (e := 29) hF2 hM0 (wantedS rfl) (run_none (m := 2) rfl elBox.un (by kernel_rfl)) rfl (by decide) fun v0 a3 w1 hO1 hb1 hM1 hF3 => ?_
  refine sq (v := v0) hF3 (wantedS rfl) (run_as rfl (hF3.ev 10 rfl)) rfl (by decide) fun a4 hF4 => ?_
  refine sqEnd ?_
  clear hF2 hF3 hM0
  refine nx ?_
  refine wp_seq ?_
  refine wp_region_lit ?_
  refine sq (v := (.string ⟨b.toArray⟩)) hF4 (wantedS rfl) (run_mv rfl (hF4.ev 0 rfl)) rfl (by decide) fun a5 hF5 => ?_
  refine sqT (T := fun u wx => (∃ v, u = .tuple #[v, .int .i64 0] ∧ wx.ownsRow w1.heap.size 9 1 v X.length (X.map tx)) ∧ Below w1.heap.size w1 wx) hF5 (wantedS rfl) (run_call rfl Try.func23 (by kernel_rfl) rfl (mapE1 (hF5.ev 12 rfl))) rfl (by decide) (rtexts_ok hT w1 (by omega)) fun u1 a6 w2 hT2 hF6 => ?_
  obtain ⟨⟨v2, rfl, hr2⟩, hb2⟩ := hT2
  obtain ⟨gt, ct, rfl, hcapgt, hggt, hM2⟩ := OwnR.ofCallMem hM1 hb2 hr2 (by omega)
  have hO2 := hO1.add (S := isRow 9 1 X.length (X.map tx)) hb2 hggt
  refine sq (v := (.tuple #[(.slice (some ⟨gt, 0, none⟩) X.length ct), (.int .i64 0)])) hF6 (wantedS rfl) (run_mv rfl (hF6.ev 13 rfl)) rfl (by decide) fun a7 hF7 => ?_
  refine sq (v := (.slice (some ⟨gt, 0, none⟩) X.length ct)) hF7 (wantedS rfl) (run_ext rfl (hF7.ev 11 rfl) rfl) rfl (by decide) fun a8 hF8 => ?_
  refine sq (v := (.int .i64 0)) hF8 (wantedS rfl) (run_ext rfl (hF8.ev 11 rfl) rfl) rfl (by decide) fun a9 hF9 => ?_
  refine sq (v := (.slice (some ⟨gt, 0, none⟩) X.length ct)) hF9 (wantedS rfl) (run_as rfl (hF9.ev 14 rfl)) rfl (by decide) fun a10 hF10 => ?_
  refine sq (v := (.int .i64 0)) hF10 (wantedS rfl) (run_as rfl (hF10.ev 15 rfl)) rfl (by decide) fun a11 hF11 => ?_
  refine sqEnd ?_
  clear hF4 hF5 hF6 hF7 hF8 hF9 hF10 hM1
  refine nx ?_
  refine wp_seq ?_
  refine wp_seq ?_
  refine wp_region_lit ?_
  refine sq (v := (.int .i64 0)) hF11 (wantedS rfl) (run_mv rfl (hF11.ev 6 rfl)) rfl (by decide) fun a12 hF12 => ?_
  refine sq (v := (.bool false)) hF12 (wantedS rfl) (run_nei rfl (hF12.ev 16 rfl) rfl (bne_eq_false_iff_eq.2 (by omega))) rfl (by decide) fun a13 hF13 => ?_
  refine sq (v := (.bool false)) hF13 (wantedS rfl) (run_mv rfl (hF13.ev 17 rfl)) rfl (by decide) fun a14 hF14 => ?_
  refine sq (v := (.slice (some ⟨gt, 0, none⟩) X.length ct)) hF14 (wantedG hF14 rfl rfl rfl rfl rfl) (run_mv rfl (hF14.ev 5 rfl)) rfl (by decide) fun a15 hF15 => ?_
  refine sq (v := (.int .i64 (X.length : Int))) hF15 (wantedG hF15 rfl rfl rfl rfl rfl) (run_lenS rfl (hF15.ev 19 rfl) (slOfRow (c := ct) (hM2.ob 0 rfl)) rfl Try.underlying42) rfl (by decide) fun a16 hF16 => ?_
  refine sq (v := (.int .i64 ((X.length % 2 : Nat) : Int))) hF16 (wantedG hF16 rfl rfl rfl rfl rfl) (run_rem (r := ((X.length % 2 : Nat) : Int)) rfl (hF16.ev 20 rfl) rfl (by omega) (by rw [Int.tmod_eq_emod_of_nonneg (by omega)]; try omega)) rfl (by decide) fun a17 hF17 => ?_
  refine sq (v := (.bool false)) hF17 (wantedG hF17 rfl rfl rfl rfl rfl) (run_eqi rfl (hF17.ev 21 rfl) rfl (beq_eq_false_iff_ne.2 (by omega))) rfl (by decide) fun a18 hF18 => ?_
  refine sq (v := (.bool false)) hF18 (wantedS rfl) (run_pick rfl (hF18.ev 18 rfl) rfl (hF18.ev 22 rfl)) rfl (by decide) fun a19 hF19 => ?_
  refine sq (v := (.bool false)) hF19 (wantedS rfl) (run_mv rfl (hF19.ev 23 rfl)) rfl (by decide) fun a20 hF20 => ?_
  refine sq (v := (.slice (some ⟨gt, 0, none⟩) X.length ct)) hF20 (wantedG hF20 rfl rfl rfl rfl rfl) (run_mv rfl (hF20.ev 5 rfl)) rfl (by decide) fun a21 hF21 => ?_
  refine sq (v := (slPtr (.slice (some ⟨gt, 0, none⟩) X.length ct) (0 * 1))) hF21 (wantedG hF21 rfl rfl rfl rfl rfl) (run_atP (i := 0) rfl (hF21.ev 25 rfl) rfl rfl (slOfRow (c := ct) (hM2.ob 0 rfl)) (by omega) elStr.un (by kernel_rfl)) rfl (by decide) fun a22 hF22 => ?_
  refine sq (v := (.string ⟨y.toArray⟩)) hF22 (wantedG hF22 rfl rfl rfl rfl rfl) (run_ldP rfl (hF22.ev 26 rfl) (slOfRow (c := ct) (hM2.ob 0 rfl)) (map_at hy) (by kernel_rfl)) rfl (by decide) fun a23 hF23 => ?_
  refine sq (v := (.bool false)) hF23 (wantedG hF23 rfl rfl rfl rfl rfl) (run_nes rfl (hF23.ev 27 rfl) rfl (by rw [hh]; rfl)) rfl (by decide) fun a24 hF24 => ?_
  refine sq (v := (.bool false)) hF24 (wantedS rfl) (run_pick rfl (hF24.ev 24 rfl) rfl (hF24.ev 28 rfl)) rfl (by decide) fun a25 hF25 => ?_
  refine sqEnd ?_
  clear hF11 hF12 hF13 hF14 hF15 hF16 hF17 hF18 hF19 hF20 hF21 hF22 hF23 hF24
  refine nx ?_
  refine wp_cond_false (hF25.ev 29 rfl) ?_
  refine wp_skip ?_
  refine nx ?_
  refine wp_seq ?_
  refine wp_seq ?_
  refine wp_region_lit ?_
  refine sq (v := (.int .i64 1)) hF25 (wantedS rfl) (run_as rfl rfl) rfl (by decide) fun a26 hF26 => ?_
  refine sqEnd ?_
  clear hF25
  refine nx ?_
  refine wp_block ?_
  refine wkLoop (fun m a w2 => ∃ (k : Nat) (r : Value), k ≤ l.length ∧ m = l.length - k ∧ OwnR w [(gt, isRow 9 1 X.length (X.map tx))] w2 29 2 r (l.take k).length ((l.take k).flatMap boxC) ∧ Fr a 63 [(0, .string ⟨b.toArray⟩), (4, r), (5, .slice (some ⟨gt, 0, none⟩) X.length ct), (7, .int .i64 ((1 + 2 * k : Nat) : Int))] ∧ Mem w [(gt, isRow 9 1 X.length (X.map tx))] w2) l.length ⟨0, v0, Nat.zero_le _, rfl, hO2, hF26.sub ⟨rfl, rfl, rfl, rfl, trivial⟩, hM2⟩ ?_
  rintro m a0 w1 ⟨k, r, hk, rfl, hO0, hF0, hM0⟩
  have hkl : (l.take k).length = k := by rw [List.length_take]; omega
  by_cases hlt : k < l.length
  · obtain ⟨x, hx⟩ : ∃ x, l[k]? = some x := ⟨l[k], by simp [hlt]⟩
    obtain ⟨hx1, hx2⟩ := texts_at hx
    rw [← hsh] at hx1 hx2
    obtain ⟨hf1, hf2⟩ := take_flat l k hx
    refine wp_seq ?_
    refine wp_seq ?_
    refine wp_region_lit ?_
    refine sq (v := (.int .i64 ((1 + 2 * k : Nat) : Int))) hF0 (wantedS rfl) (run_mv rfl (hF0.ev 7 rfl)) rfl (by decide) fun a1 hF1 => ?_
    refine sq (v := (.slice (some ⟨gt, 0, none⟩) X.length ct)) hF1 (wantedS rfl) (run_mv rfl (hF1.ev 5 rfl)) rfl (by decide) fun a2 hF2 => ?_
    refine sq (v := (.int .i64 (X.length : Int))) hF2 (wantedS rfl) (run_lenS rfl (hF2.ev 32 rfl) (slOfRow (c := ct) (hM0.ob 0 rfl)) rfl Try.underlying42) rfl (by decide) fun a3 hF3 => ?_
    refine sq (v := (.bool true)) hF3 (wantedS rfl) (run_lss rfl (hF3.ev 31 rfl) (hF3.ev 33 rfl) (decide_eq_true (by omega))) rfl (by decide) fun a4 hF4 => ?_
    refine sqEnd ?_
    clear hF0 hF1 hF2 hF3
    refine nx ?_
    refine wp_cond_true (hF4.ev 34 rfl) ?_
    refine wp_skip ?_
    refine nx ?_
    refine wp_seq ?_
    refine wp_block ?_
    obtain ⟨KL, hKL⟩ : ∃ KL, KL = [kval r, kval (.slice (some ⟨gt, 0, none⟩) X.length ct), kval (.int .i64 ((1 + 2 * k : Nat) : Int)), kval (slPtr (.slice (some ⟨gt, 0, none⟩) X.length ct) ((1 + 2 * k) * 1)), kval (.string ⟨x.1.toArray⟩), kval (.slice (some ⟨gt, 0, none⟩) X.length ct), kval (.int .i64 ((1 + 2 * k : Nat) : Int)), kval (.int .i64 ((1 + 2 * k + 1 : Nat) : Int)), kval (slPtr (.slice (some ⟨gt, 0, none⟩) X.length ct) ((1 + 2 * k + 1) * 1)), kval (.string ⟨x.2.toArray⟩), kval (.agg #[.string ⟨x.1.toArray⟩, .string ⟨x.2.toArray⟩]), krow w1.heap.size 29 #[.string ⟨x.1.toArray⟩, .string ⟨x.2.toArray⟩] 1] := ⟨_, rfl⟩
    have K0 : KL.getD 0 kany = kval r := by rw [hKL]; rfl
    have K1 : KL.getD 1 kany = kval (.slice (some ⟨gt, 0, none⟩) X.length ct) := by rw [hKL]; rfl
    have K2 : KL.getD 2 kany = kval (.int .i64 ((1 + 2 * k : Nat) : Int)) := by rw [hKL]; rfl
    have K3 : KL.getD 3 kany = kval (slPtr (.slice (some ⟨gt, 0, none⟩) X.length ct) ((1 + 2 * k) * 1)) := by rw [hKL]; rfl
    have K4 : KL.getD 4 kany = kval (.string ⟨x.1.toArray⟩) := by rw [hKL]; rfl
    have K5 : KL.getD 5 kany = kval (.slice (some ⟨gt, 0, none⟩) X.length ct) := by rw [hKL]; rfl
    have K6 : KL.getD 6 kany = kval (.int .i64 ((1 + 2 * k : Nat) : Int)) := by rw [hKL]; rfl
    have K7 : KL.getD 7 kany = kval (.int .i64 ((1 + 2 * k + 1 : Nat) : Int)) := by rw [hKL]; rfl
    have K8 : KL.getD 8 kany = kval (slPtr (.slice (some ⟨gt, 0, none⟩) X.length ct) ((1 + 2 * k + 1) * 1)) := by rw [hKL]; rfl
    have K9 : KL.getD 9 kany = kval (.string ⟨x.2.toArray⟩) := by rw [hKL]; rfl
    have K10 : KL.getD 10 kany = kval (.agg #[.string ⟨x.1.toArray⟩, .string ⟨x.2.toArray⟩]) := by rw [hKL]; rfl
    have K11 : KL.getD 11 kany = krow w1.heap.size 29 #[.string ⟨x.1.toArray⟩, .string ⟨x.2.toArray⟩] 1 := by rw [hKL]; rfl
    have HKL : KL.length ≤ 12 := by rw [hKL]; exact Nat.le_refl _
    clear hKL
    refine wp_region_kdTail2 63 12 (by kernel_rfl) (by kernel_rfl) (by kernel_rfl) (by kernel_rfl) hF4.size KL HKL ?_ ?_
    · refine ⟨?_, ?_, ?_, ?_, ?_, ?_, ?_, ?_, ?_, ?_, ?_, ?_, trivial⟩
      · refine asksH_mk fun a W hS hh hd => ⟨wanted_yes rfl, ?_⟩
        exact giv_run (run_mv rfl (eval_tmp (hh 4 _ rfl (hF4.at 4 rfl)))) K0
      · refine asksH_mk fun a W hS hh hd => ⟨wanted_yes rfl, ?_⟩
        exact giv_run (run_mv rfl (eval_tmp (hh 5 _ rfl (hF4.at 5 rfl)))) K1
      · refine asksH_mk fun a W hS hh hd => ⟨wanted_yes rfl, ?_⟩
        exact giv_run (run_mv rfl (eval_tmp (hh 7 _ rfl (hF4.at 7 rfl)))) K2
      · refine asksH_mk fun a W hS hh hd => ⟨wanted_yes rfl, ?_⟩
        exact giv_run (run_atP (i := (1 + 2 * k)) rfl (eval_tmp (hd.val (j := 1) (s := 38) (by kernel_rfl) K1)) (eval_tmp (hd.val (j := 2) (s := 39) (by kernel_rfl) K2)) rfl (slOfRow (c := ct) ((hM0.grow hS).ob 0 rfl)) (by omega) elStr.un (by kernel_rfl)) K3
      · refine asksH_mk fun a W hS hh hd => ⟨wanted_yes rfl, ?_⟩
        exact giv_run (run_ldP rfl (eval_tmp (hd.val (j := 3) (s := 40) (by kernel_rfl) K3)) (slOfRow (c := ct) ((hM0.grow hS).ob 0 rfl)) (map_at hx1) (by kernel_rfl)) K4
      · refine asksH_mk fun a W hS hh hd => ⟨wanted_yes rfl, ?_⟩
        exact giv_run (run_mv rfl (eval_tmp (hh 5 _ rfl (hF4.at 5 rfl)))) K5
      · refine asksH_mk fun a W hS hh hd => ⟨wanted_yes rfl, ?_⟩
        exact giv_run (run_mv rfl (eval_tmp (hh 7 _ rfl (hF4.at 7 rfl)))) K6
      · refine asksH_mk fun a W hS hh hd => ⟨wanted_yes rfl, ?_⟩
        exact giv_run (run_add (r := ((1 + 2 * k + 1 : Nat) : Int)) rfl (eval_tmp (hd.val (j := 6) (s := 43) (by kernel_rfl) K6)) rfl (by rw [IntKind.wrap_i64]; omega)) K7
      · refine asksH_mk fun a W hS hh hd => ⟨wanted_yes rfl, ?_⟩
        exact giv_run (run_atP (i := (1 + 2 * k + 1)) rfl (eval_tmp (hd.val (j := 5) (s := 42) (by kernel_rfl) K5)) (eval_tmp (hd.val (j := 7) (s := 44) (by kernel_rfl) K7)) rfl (slOfRow (c := ct) ((hM0.grow hS).ob 0 rfl)) (by omega) elStr.un (by kernel_rfl)) K8
      · refine asksH_mk fun a W hS hh hd => ⟨wanted_yes rfl, ?_⟩
        exact giv_run (run_ldP rfl (eval_tmp (hd.val (j := 8) (s := 45) (by kernel_rfl) K8)) (slOfRow (c := ct) ((hM0.grow hS).ob 0 rfl)) (map_at hx2) (by kernel_rfl)) K9
      · refine asksH_mk fun a W hS hh hd => ⟨wanted_yes rfl, ?_⟩
        exact giv_run (run_blt (vs := #[(0, .string ⟨x.1.toArray⟩), (1, .string ⟨x.2.toArray⟩)]) (cs := #[.string ⟨x.1.toArray⟩, .string ⟨x.2.toArray⟩]) rfl (bltE2 (eval_tmp (hd.val (j := 4) (s := 41) (by kernel_rfl) K4)) (eval_tmp (hd.val (j := 9) (s := 46) (by kernel_rfl) K9))) (by kernel_rfl)) K10
      · refine asksH_mk fun a W hS hh hd => ⟨wanted_yes rfl, ?_⟩
        exact giv_row hS.size 29 #[.string ⟨x.1.toArray⟩, .string ⟨x.2.toArray⟩] 1 (run_boxes1 rfl (eval_tmp (hd.val (j := 10) (s := 47) (by kernel_rfl) K10))) K11
    · intro a5 w2 hb2 hK
      have e0 := hK.hval (i := 0) (s := 37) rfl (by kernel_rfl) K0
      have e1 := hK.hval (i := 1) (s := 38) rfl (by kernel_rfl) K1
      have e2 := hK.hval (i := 2) (s := 39) rfl (by kernel_rfl) K2
      have e3 := hK.hval (i := 3) (s := 40) rfl (by kernel_rfl) K3
      have e4 := hK.hval (i := 4) (s := 41) rfl (by kernel_rfl) K4
      have e5 := hK.hval (i := 5) (s := 42) rfl (by kernel_rfl) K5
      have e6 := hK.hval (i := 6) (s := 43) rfl (by kernel_rfl) K6
      have e7 := hK.hval (i := 7) (s := 44) rfl (by kernel_rfl) K7
      have e8 := hK.hval (i := 8) (s := 45) rfl (by kernel_rfl) K8
      have e9 := hK.hval (i := 9) (s := 46) rfl (by kernel_rfl) K9
      have e10 := hK.hval (i := 10) (s := 47) rfl (by kernel_rfl) K10
      obtain ⟨v3, e11, hpv3⟩ := hK.hget (i := 11) (s := 48) rfl (by kernel_rfl)
      rw [K11] at hpv3
      obtain ⟨g4, hgg4, rfl, hBg4⟩ := hpv3
      have hF5 : Fr a5 63 [(0, (.string ⟨b.toArray⟩)), (4, r), (5, (.slice (some ⟨gt, 0, none⟩) X.length ct)), (7, (.int .i64 ((1 + 2 * k : Nat) : Int))), (31, (.int .i64 ((1 + 2 * k : Nat) : Int))), (32, (.slice (some ⟨gt, 0, none⟩) X.length ct)), (33, (.int .i64 (X.length : Int))), (34, (.bool true)), (37, r), (48, (.slice (some ⟨g4, 0, none⟩) 1 1))] := (hK.hfr hF4 [r, (.slice (some ⟨gt, 0, none⟩) X.length ct), (.int .i64 ((1 + 2 * k : Nat) : Int)), (slPtr (.slice (some ⟨gt, 0, none⟩) X.length ct) ((1 + 2 * k) * 1)), (.string ⟨x.1.toArray⟩), (.slice (some ⟨gt, 0, none⟩) X.length ct), (.int .i64 ((1 + 2 * k : Nat) : Int)), (.int .i64 ((1 + 2 * k + 1 : Nat) : Int)), (slPtr (.slice (some ⟨gt, 0, none⟩) X.length ct) ((1 + 2 * k + 1) * 1)), (.string ⟨x.2.toArray⟩), (.agg #[.string ⟨x.1.toArray⟩, .string ⟨x.2.toArray⟩]), (.slice (some ⟨g4, 0, none⟩) 1 1)] ⟨e0, e1, e2, e3, e4, e5, e6, e7, e8, e9, e10, e11, trivial⟩).sub ⟨rfl, rfl, rfl, rfl, rfl, rfl, rfl, rfl, rfl, rfl, trivial⟩
      have hM1 := hM0.add hb2 hgg4 hBg4
      have hO1 := hO0.add (S := isB 29 #[.string ⟨x.1.toArray⟩, .string ⟨x.2.toArray⟩]) hb2 hgg4
      clear hK K0 e0 K1 e1 K2 e2 K3 e3 K4 e4 K5 e5 K6 e6 K7 e7 K8 e8 K9 e9 K10 e10 K11 e11 HKL
      simp only [List.drop_succ_cons, List.drop_zero]
      refine sqAppend (news := [.string ⟨x.1.toArray⟩, .string ⟨x.2.toArray⟩]) elBox hF5 hM1 hO1 rfl rfl (hF5.ev 37 rfl) (hF5.ev 48 rfl) rfl (blkNews (hM1.at 0 rfl)) (all_one rfl) (by unfold maxLen; omega) (by omega) rfl (by decide) fun v5 a6 w3 hO2 hM2 hnilv5 hF6 => ?_
      refine sq (v := v5) hF6 (wantedS rfl) (run_as rfl (hF6.ev 49 rfl)) rfl (by decide) fun a7 hF7 => ?_
      refine sqEnd ?_
      clear hF4 hF5 hF6 hM0 hM1
      refine bkEnd ?_
      refine nx ?_
      refine wp_region_lit ?_
      refine sq (v := (.int .i64 ((1 + 2 * k : Nat) : Int))) hF7 (wantedS rfl) (run_mv rfl (hF7.ev 7 rfl)) rfl (by decide) fun a8 hF8 => ?_
      refine sq (v := (.int .i64 ((1 + 2 * (k + 1) : Nat) : Int))) hF8 (wantedS rfl) (run_add (r := ((1 + 2 * (k + 1) : Nat) : Int)) rfl (hF8.ev 35 rfl) rfl (by rw [IntKind.wrap_i64]; omega)) rfl (by decide) fun a9 hF9 => ?_
      refine sq (v := (.int .i64 ((1 + 2 * (k + 1) : Nat) : Int))) hF9 (wantedS rfl) (run_as rfl (hF9.ev 36 rfl)) rfl (by decide) fun a10 hF10 => ?_
      refine sqEnd ?_
      clear hF7 hF8 hF9
      refine nx ?_
      exact ⟨_, by omega, k + 1, v5, by omega, rfl, by rw [hf1, hf2]; exact hO2.sub (.cons _ (.cons_cons _ .slnil)), hF10.sub ⟨rfl, rfl, rfl, rfl, trivial⟩, hM2.sub (.cons _ (.cons_cons _ .slnil))⟩
  · have hke : k = l.length := by omega
    rw [hke, List.take_length] at hO0
    by_cases hok : (makeS l).2 = 0
    · have hm1 : (makeS l).1 = b ∧ namesS l = 0 ∧ b.length ≤ 65536 ∧ l ≠ [] := by
        unfold makeS at hok ⊢
        by_cases e1 : l = []
        · rw [if_pos e1] at hok; cases hok
        · rw [if_neg e1] at hok ⊢
          by_cases e2 : namesS l ≠ 0
          · rw [if_pos e2] at hok; exact absurd hok e2
          · rw [if_neg e2] at hok ⊢
            by_cases e3 : 65536 < (bytesS l).length
            · rw [if_pos e3] at hok; cases hok
            · rw [if_neg e3]
              rw [hby] at e3 ⊢
              exact ⟨rfl, Classical.byContradiction e2, by omega, e1⟩
      have hll : 0 < l.length := List.length_pos_iff.2 hm1.2.2.2
      have hyes : ofS b = some l := by rw [ofS_ok hT ?_, hl]; rw [hl, hm1.2.1, List.head?_eq_getElem?, hy, hh]; simp; omega
      refine wp_seq ?_
      refine wp_seq ?_
      refine wp_region_lit ?_
      refine sq (v := (.int .i64 ((1 + 2 * k : Nat) : Int))) hF0 (wantedS rfl) (run_mv rfl (hF0.ev 7 rfl)) rfl (by decide) fun a1 hF1 => ?_
      refine sq (v := (.slice (some ⟨gt, 0, none⟩) X.length ct)) hF1 (wantedS rfl) (run_mv rfl (hF1.ev 5 rfl)) rfl (by decide) fun a2 hF2 => ?_
      refine sq (v := (.int .i64 (X.length : Int))) hF2 (wantedS rfl) (run_lenS rfl (hF2.ev 32 rfl) (slOfRow (c := ct) (hM0.ob 0 rfl)) rfl Try.underlying42) rfl (by decide) fun a3 hF3 => ?_
      refine sq (v := (.bool false)) hF3 (wantedS rfl) (run_lss rfl (hF3.ev 31 rfl) (hF3.ev 33 rfl) (decide_eq_false (by omega))) rfl (by decide) fun a4 hF4 => ?_
      refine sqEnd ?_
      clear hF0 hF1 hF2 hF3
      refine nx ?_
      refine wp_cond_false (hF4.ev 34 rfl) ?_
      refine wp_exit ?_
      refine nxExit ?_
      refine nxExit ?_
      refine bkHere ?_
      refine nx ?_
      refine wp_seq ?_
      refine wp_region_lit ?_
      refine sq (v := r) hF4 (wantedS rfl) (run_mv rfl (hF4.ev 4 rfl)) rfl (by decide) fun a5 hF5 => ?_
      refine sqC (v := (.tuple #[(.string ⟨((makeS l).1).toArray⟩), (.int .i64 ((makeS l).2))])) hF5 hM0 (wantedS rfl) (run_call rfl Try.func24 (by kernel_rfl) rfl (mapE1 (hF5.ev 51 rfl))) rfl (by decide) (rmake_any l r w1 (Sl.own hO0) (by omega) (by omega)) fun a6 w2 hb2 hF6 hM1 => ?_
      have hO1 := hO0.grow hb2
      refine sq (v := (.tuple #[(.string ⟨((makeS l).1).toArray⟩), (.int .i64 ((makeS l).2))])) hF6 (wantedS rfl) (run_mv rfl (hF6.ev 52 rfl)) rfl (by decide) fun a7 hF7 => ?_
      refine sq (v := (.string ⟨((makeS l).1).toArray⟩)) hF7 (wantedS rfl) (run_ext rfl (hF7.ev 50 rfl) rfl) rfl (by decide) fun a8 hF8 => ?_
      refine sq (v := (.int .i64 ((makeS l).2))) hF8 (wantedS rfl) (run_ext rfl (hF8.ev 50 rfl) rfl) rfl (by decide) fun a9 hF9 => ?_
      refine sq (v := (.string ⟨((makeS l).1).toArray⟩)) hF9 (wantedS rfl) (run_as rfl (hF9.ev 53 rfl)) rfl (by decide) fun a10 hF10 => ?_
      refine sq (v := (.int .i64 ((makeS l).2))) hF10 (wantedS rfl) (run_as rfl (hF10.ev 54 rfl)) rfl (by decide) fun a11 hF11 => ?_
      refine sqEnd ?_
      clear hF4 hF5 hF6 hF7 hF8 hF9 hF10 hM0
      refine nx ?_
      refine wp_seq ?_
      refine wp_region_lit ?_
      refine sq (v := r) hF11 (wantedS rfl) (run_mv rfl (hF11.ev 4 rfl)) rfl (by decide) fun a12 hF12 => ?_
      refine sq (v := (.int .i64 ((makeS l).2))) hF12 (wantedS rfl) (run_mv rfl (hF12.ev 9 rfl)) rfl (by decide) fun a13 hF13 => ?_
      refine sq (v := (.bool true)) hF13 (wantedS rfl) (run_eqi rfl (hF13.ev 56 rfl) rfl (beq_iff_eq.2 (by omega))) rfl (by decide) fun a14 hF14 => ?_
      refine sq (v := (.bool true)) hF14 (wantedS rfl) (run_mv rfl (hF14.ev 57 rfl)) rfl (by decide) fun a15 hF15 => ?_
      refine sq (v := (.string ⟨((makeS l).1).toArray⟩)) hF15 (wantedG hF15 rfl rfl rfl rfl rfl) (run_mv rfl (hF15.ev 8 rfl)) rfl (by decide) fun a16 hF16 => ?_
      refine sq (v := (.string ⟨b.toArray⟩)) hF16 (wantedG hF16 rfl rfl rfl rfl rfl) (run_mv rfl (hF16.ev 0 rfl)) rfl (by decide) fun a17 hF17 => ?_
      refine sq (v := (.bool true)) hF17 (wantedG hF17 rfl rfl rfl rfl rfl) (run_eqs rfl (hF17.ev 59 rfl) (hF17.ev 60 rfl) (by rw [hm1.1]; simp)) rfl (by decide) fun a18 hF18 => ?_
      refine sq (v := (.bool true)) hF18 (wantedS rfl) (run_pick rfl (hF18.ev 58 rfl) (hF18.ev 61 rfl) rfl) rfl (by decide) fun a19 hF19 => ?_
      refine sq (v := r) hF19 (wantedS rfl) (run_as rfl (hF19.ev 55 rfl)) rfl (by decide) fun a20 hF20 => ?_
      refine sq (v := (.bool true)) hF20 (wantedS rfl) (run_as rfl (hF20.ev 62 rfl)) rfl (by decide) fun a21 hF21 => ?_
      refine sqEnd ?_
      clear hF11 hF12 hF13 hF14 hF15 hF16 hF17 hF18 hF19 hF20
      refine nx ?_
      refine wp_ret ?_
      exact ret2 hF21 rfl rfl rfl ⟨_, rfl, by unfold BxR; rw [hyes]; exact ⟨_, rfl, hO1.owns⟩, hM1.below⟩
    · have hno : ofS b = none := by
        refine ofS_no hT (Classical.byContradiction fun hc => hok ?_)
        have hc2 : ¬ X.length < 3 ∧ ¬ 65536 < b.length ∧ namesS l = 0 := by
          refine ⟨fun h => hc (.inl h), fun h => hc (.inr (.inr (.inr (.inl h)))), Classical.byContradiction fun h => hc (.inr (.inr (.inr (.inr (by rw [hl]; exact h)))))⟩
        have hne : l ≠ [] := by rintro rfl; simp at hlen; omega
        unfold makeS
        rw [if_neg hne, if_neg (fun h => h hc2.2.2), if_neg (by rw [hby]; exact hc2.2.1)]
      refine wp_seq ?_
      refine wp_seq ?_
      refine wp_region_lit ?_
      refine sq (v := (.int .i64 ((1 + 2 * k : Nat) : Int))) hF0 (wantedS rfl) (run_mv rfl (hF0.ev 7 rfl)) rfl (by decide) fun a1 hF1 => ?_
      refine sq (v := (.slice (some ⟨gt, 0, none⟩) X.length ct)) hF1 (wantedS rfl) (run_mv rfl (hF1.ev 5 rfl)) rfl (by decide) fun a2 hF2 => ?_
      refine sq (v := (.int .i64 (X.length : Int))) hF2 (wantedS rfl) (run_lenS rfl (hF2.ev 32 rfl) (slOfRow (c := ct) (hM0.ob 0 rfl)) rfl Try.underlying42) rfl (by decide) fun a3 hF3 => ?_
      refine sq (v := (.bool false)) hF3 (wantedS rfl) (run_lss rfl (hF3.ev 31 rfl) (hF3.ev 33 rfl) (decide_eq_false (by omega))) rfl (by decide) fun a4 hF4 => ?_
      refine sqEnd ?_
      clear hF0 hF1 hF2 hF3
      refine nx ?_
      refine wp_cond_false (hF4.ev 34 rfl) ?_
      refine wp_exit ?_
      refine nxExit ?_
      refine nxExit ?_
      refine bkHere ?_
      refine nx ?_
      refine wp_seq ?_
      refine wp_region_lit ?_
      refine sq (v := r) hF4 (wantedS rfl) (run_mv rfl (hF4.ev 4 rfl)) rfl (by decide) fun a5 hF5 => ?_
      refine sqC (v := (.tuple #[(.string ⟨((makeS l).1).toArray⟩), (.int .i64 ((makeS l).2))])) hF5 hM0 (wantedS rfl) (run_call rfl Try.func24 (by kernel_rfl) rfl (mapE1 (hF5.ev 51 rfl))) rfl (by decide) (rmake_any l r w1 (Sl.own hO0) (by omega) (by omega)) fun a6 w2 hb2 hF6 hM1 => ?_
      have hO1 := hO0.grow hb2
      refine sq (v := (.tuple #[(.string ⟨((makeS l).1).toArray⟩), (.int .i64 ((makeS l).2))])) hF6 (wantedS rfl) (run_mv rfl (hF6.ev 52 rfl)) rfl (by decide) fun a7 hF7 => ?_
      refine sq (v := (.string ⟨((makeS l).1).toArray⟩)) hF7 (wantedS rfl) (run_ext rfl (hF7.ev 50 rfl) rfl) rfl (by decide) fun a8 hF8 => ?_
      refine sq (v := (.int .i64 ((makeS l).2))) hF8 (wantedS rfl) (run_ext rfl (hF8.ev 50 rfl) rfl) rfl (by decide) fun a9 hF9 => ?_
      refine sq (v := (.string ⟨((makeS l).1).toArray⟩)) hF9 (wantedS rfl) (run_as rfl (hF9.ev 53 rfl)) rfl (by decide) fun a10 hF10 => ?_
      refine sq (v := (.int .i64 ((makeS l).2))) hF10 (wantedS rfl) (run_as rfl (hF10.ev 54 rfl)) rfl (by decide) fun a11 hF11 => ?_
      refine sqEnd ?_
      clear hF4 hF5 hF6 hF7 hF8 hF9 hF10 hM0
      refine nx ?_
      refine wp_seq ?_
      refine wp_region_lit ?_
      refine sq (v := r) hF11 (wantedS rfl) (run_mv rfl (hF11.ev 4 rfl)) rfl (by decide) fun a12 hF12 => ?_
      refine sq (v := (.int .i64 ((makeS l).2))) hF12 (wantedS rfl) (run_mv rfl (hF12.ev 9 rfl)) rfl (by decide) fun a13 hF13 => ?_
      refine sq (v := (.bool false)) hF13 (wantedS rfl) (run_eqi rfl (hF13.ev 56 rfl) rfl (beq_eq_false_iff_ne.2 (by omega))) rfl (by decide) fun a14 hF14 => ?_
      refine sq (v := (.bool false)) hF14 (wantedS rfl) (run_mv rfl (hF14.ev 57 rfl)) rfl (by decide) fun a15 hF15 => ?_
      refine sqSkip hF15 (unwantedG hF15 rfl rfl rfl rfl rfl) rfl (by decide) fun a16 hF16 => ?_
      refine sqSkip hF16 (unwantedG hF16 rfl rfl rfl rfl rfl) rfl (by decide) fun a17 hF17 => ?_
      refine sqSkip hF17 (unwantedG hF17 rfl rfl rfl rfl rfl) rfl (by decide) fun a18 hF18 => ?_
      refine sq (v := (.bool false)) hF18 (wantedS rfl) (run_pick rfl (hF18.ev 58 rfl) (hF18.ev 61 rfl) rfl) rfl (by decide) fun a19 hF19 => ?_
      refine sq (v := r) hF19 (wantedS rfl) (run_as rfl (hF19.ev 55 rfl)) rfl (by decide) fun a20 hF20 => ?_
      refine sq (v := (.bool false)) hF20 (wantedS rfl) (run_as rfl (hF20.ev 62 rfl)) rfl (by decide) fun a21 hF21 => ?_
      refine sqEnd ?_
      clear hF11 hF12 hF13 hF14 hF15 hF16 hF17 hF18 hF19 hF20
      refine nx ?_
      refine wp_ret ?_
      exact ret2 hF21 rfl rfl rfl ⟨_, rfl, by unfold BxR; rw [hno]; exact ⟨_, rfl⟩, hM1.below⟩
theorem rboxes_none {b : List UInt8} (h : ofS b = none) (w : World) (hb : b.length < 2 ^ 41) : Calls Try.prog 16 #[.string ⟨b.toArray⟩] w fun x w' => ∃ u, x = .returned u ∧ (∃ v, u = .tuple #[v, .bool false]) ∧ Below w.heap.size w w' :=
  (rboxes_any b w hb).mono fun x w' ⟨u, h1, h2, h3⟩ => by unfold BxR at h2; rw [h] at h2; exact ⟨u, h1, h2, h3⟩
theorem rboxes_some {b : List UInt8} {l : List Bx} (h : ofS b = some l) (w : World) (hb : b.length < 2 ^ 41) : Calls Try.prog 16 #[.string ⟨b.toArray⟩] w fun x w' => ∃ u, x = .returned u ∧ (∃ v, u = .tuple #[v, .bool true] ∧ w'.ownsRow w.heap.size 29 2 v l.length (l.flatMap boxC)) ∧ Below w.heap.size w w' :=
  (rboxes_any b w hb).mono fun x w' ⟨u, h1, h2, h3⟩ => by unfold BxR at h2; rw [h] at h2; exact ⟨u, h1, h2, h3⟩
set_option maxRecDepth 100000 in
set_option maxHeartbeats 1000000 in
theorem rof40_any (b : List UInt8) (w : World) (hb : b.length < 2 ^ 41) : Calls Try.prog 10 #[.string ⟨b.toArray⟩] w fun e w' => ∃ u, e = .returned u ∧ OfR b w.heap.size u w' ∧ Below w.heap.size w w' := by
  cases hno : ofS b with
  | none =>
    refine walk_enter Try.func10 rfl rfl rfl fun a0 hF0 => ?_
    have hM0 := Mem.new w
    refine wp_seq ?_
    refine wp_region_lit ?_
    refine sq (v := (.slice none 0 0)) hF0 (wantedS rfl) (run_as rfl rfl) rfl (by decide) fun a1 hF1 => ?_
    refine sq (v := (.int .i64 0)) hF1 (wantedS rfl) (run_as rfl rfl) rfl (by decide) fun a2 hF2 => ?_
    refine sqEnd ?_
    clear hF0 hF1
    refine nx ?_
    refine wp_seq ?_
    refine wp_region_lit ?_
    refine sqOwn0 (size := 3) (e := 39) hF2 hM0 (wantedS rfl) (run_none (m := 3) rfl elPlace.un (by kernel_rfl)) rfl (by decide) fun v0 a3 w1 hO1 hb1 hM1 hF3 => ?_
    refine sq (v := v0) hF3 (wantedS rfl) (run_as rfl (hF3.ev 9 rfl)) rfl (by decide) fun a4 hF4 => ?_
    refine sqEnd ?_
    clear hF2 hF3 hM0
    refine nx ?_
    refine wp_seq ?_
    refine wp_region_lit ?_
    refine sq (v := (.string ⟨b.toArray⟩)) hF4 (wantedS rfl) (run_mv rfl (hF4.ev 0 rfl)) rfl (by decide) fun a5 hF5 => ?_
    refine sqT (T := fun u wx => (∃ v, u = .tuple #[v, .bool false]) ∧ Below w1.heap.size w1 wx) hF5 (wantedS rfl) (run_call rfl Try.func16 (by kernel_rfl) rfl (mapE1 (hF5.ev 11 rfl))) rfl (by decide) (rboxes_none hno w1 hb) fun u1 a6 w2 hT2 hF6 => ?_
    obtain ⟨⟨v2, rfl⟩, hb2⟩ := hT2
    have hM2 := hM1.grow hb2
    have hO2 := hO1.grow hb2
    refine sq (v := (.tuple #[v2, (.bool false)])) hF6 (wantedS rfl) (run_mv rfl (hF6.ev 12 rfl)) rfl (by decide) fun a7 hF7 => ?_
    refine sq (v := v2) hF7 (wantedS rfl) (run_ext rfl (hF7.ev 10 rfl) rfl) rfl (by decide) fun a8 hF8 => ?_
    refine sq (v := (.bool false)) hF8 (wantedS rfl) (run_ext rfl (hF8.ev 10 rfl) rfl) rfl (by decide) fun a9 hF9 => ?_
    refine sq (v := v2) hF9 (wantedS rfl) (run_as rfl (hF9.ev 13 rfl)) rfl (by decide) fun a10 hF10 => ?_
    refine sq (v := (.bool false)) hF10 (wantedS rfl) (run_as rfl (hF10.ev 14 rfl)) rfl (by decide) fun a11 hF11 => ?_
    refine sqEnd ?_
    clear hF4 hF5 hF6 hF7 hF8 hF9 hF10 hM1
    refine nx ?_
    refine wp_seq ?_
    refine wp_seq ?_
    refine wp_region_lit ?_
    refine sq (v := (.bool false)) hF11 (wantedS rfl) (run_mv rfl (hF11.ev 6 rfl)) rfl (by decide) fun a12 hF12 => ?_
    refine sq (v := (.bool true)) hF12 (wantedS rfl) (run_not rfl (hF12.ev 15 rfl)) rfl (by decide) fun a13 hF13 => ?_
    refine sqEnd ?_
    clear hF11 hF12
    refine nx ?_
    refine wp_cond_true (hF13.ev 16 rfl) ?_
    refine wp_seq ?_
    refine wp_region_lit ?_
    refine sq (v := v0) hF13 (wantedS rfl) (run_mv rfl (hF13.ev 4 rfl)) rfl (by decide) fun a14 hF14 => ?_
    refine sq (v := v0) hF14 (wantedS rfl) (run_as rfl (hF14.ev 17 rfl)) rfl (by decide) fun a15 hF15 => ?_
    refine sq (v := (.int .i64 3)) hF15 (wantedS rfl) (run_as rfl rfl) rfl (by decide) fun a16 hF16 => ?_
    refine sqEnd ?_
    clear hF13 hF14 hF15
    refine nx ?_
    refine wp_ret ?_
    refine nxRet ?_
    exact ret2 hF16 rfl rfl rfl ⟨_, rfl, by unfold OfR; rw [hno]; exact ⟨_, rfl, hO2.owns⟩, hM2.below⟩
  | some l =>
    have hyes := hno
    obtain ⟨hT0, hby, hb6, hnm0, hne⟩ := ofS_some hno
    have hll : 0 < l.length := List.length_pos_iff.2 hne
    have hlb : l.length ≤ b.length := by
      have := rowS_ge (hibp :: textsB l)
      rw [List.length_cons, textsB_len] at this
      rw [← hby]; unfold bytesS; omega
    have hfb : (textsB l).flatten.length ≤ b.length := by
      have := flatten_row (hibp :: textsB l)
      rw [show rowS (hibp :: textsB l) = b from hby, List.flatten_cons, List.length_append] at this
      omega
    refine walk_enter Try.func10 rfl rfl rfl fun a0 hF0 => ?_
    have hM0 := Mem.new w
    refine wp_seq ?_
    refine wp_region_lit ?_
    refine sq (v := (.slice none 0 0)) hF0 (wantedS rfl) (run_as rfl rfl) rfl (by decide) fun a1 hF1 => ?_
    refine sq (v := (.int .i64 0)) hF1 (wantedS rfl) (run_as rfl rfl) rfl (by decide) fun a2 hF2 => ?_
    refine sqEnd ?_
    clear hF0 hF1
    refine nx ?_
    refine wp_seq ?_
    refine wp_region_lit ?_
    refine sqOwn0 (size := 3) (e := 39) hF2 hM0 (wantedS rfl) (run_none (m := 3) rfl elPlace.un (by kernel_rfl)) rfl (by decide) fun v0 a3 w1 hO1 hb1 hM1 hF3 => ?_
    refine sq (v := v0) hF3 (wantedS rfl) (run_as rfl (hF3.ev 9 rfl)) rfl (by decide) fun a4 hF4 => ?_
    refine sqEnd ?_
    clear hF2 hF3 hM0
    refine nx ?_
    refine wp_seq ?_
    refine wp_region_lit ?_
    refine sq (v := (.string ⟨b.toArray⟩)) hF4 (wantedS rfl) (run_mv rfl (hF4.ev 0 rfl)) rfl (by decide) fun a5 hF5 => ?_
    refine sqT (T := fun u wx => (∃ v, u = .tuple #[v, .bool true] ∧ wx.ownsRow w1.heap.size 29 2 v l.length (l.flatMap boxC)) ∧ Below w1.heap.size w1 wx) hF5 (wantedS rfl) (run_call rfl Try.func16 (by kernel_rfl) rfl (mapE1 (hF5.ev 11 rfl))) rfl (by decide) (rboxes_some hyes w1 hb) fun u1 a6 w2 hT2 hF6 => ?_
    obtain ⟨⟨v2, rfl, hr2⟩, hb2⟩ := hT2
    obtain ⟨gb, cb, rfl, hcapgb, hggb, hM2⟩ := OwnR.ofCallMem hM1 hb2 hr2 (by omega)
    have hO2 := hO1.add (S := isRow 29 2 l.length (l.flatMap boxC)) hb2 hggb
    refine sq (v := (.tuple #[(.slice (some ⟨gb, 0, none⟩) l.length cb), (.bool true)])) hF6 (wantedS rfl) (run_mv rfl (hF6.ev 12 rfl)) rfl (by decide) fun a7 hF7 => ?_
    refine sq (v := (.slice (some ⟨gb, 0, none⟩) l.length cb)) hF7 (wantedS rfl) (run_ext rfl (hF7.ev 10 rfl) rfl) rfl (by decide) fun a8 hF8 => ?_
    refine sq (v := (.bool true)) hF8 (wantedS rfl) (run_ext rfl (hF8.ev 10 rfl) rfl) rfl (by decide) fun a9 hF9 => ?_
    refine sq (v := (.slice (some ⟨gb, 0, none⟩) l.length cb)) hF9 (wantedS rfl) (run_as rfl (hF9.ev 13 rfl)) rfl (by decide) fun a10 hF10 => ?_
    refine sq (v := (.bool true)) hF10 (wantedS rfl) (run_as rfl (hF10.ev 14 rfl)) rfl (by decide) fun a11 hF11 => ?_
    refine sqEnd ?_
    clear hF4 hF5 hF6 hF7 hF8 hF9 hF10 hM1
    refine nx ?_
    refine wp_seq ?_
    refine wp_seq ?_
    refine wp_region_lit ?_
    refine sq (v := (.bool true)) hF11 (wantedS rfl) (run_mv rfl (hF11.ev 6 rfl)) rfl (by decide) fun a12 hF12 => ?_
    refine sq (v := (.bool false)) hF12 (wantedS rfl) (run_not rfl (hF12.ev 15 rfl)) rfl (by decide) fun a13 hF13 => ?_
    refine sqEnd ?_
    clear hF11 hF12
    refine nx ?_
    refine wp_cond_false (hF13.ev 16 rfl) ?_
    refine wp_skip ?_
    refine nx ?_
    refine wp_seq ?_
    refine wp_seq ?_
    refine wp_region_lit ?_
    refine sq (v := (.slice (some ⟨gb, 0, none⟩) l.length cb)) hF13 (wantedS rfl) (run_mv rfl (hF13.ev 5 rfl)) rfl (by decide) fun a14 hF14 => ?_
    refine sq (v := (.int .i64 (l.length : Int))) hF14 (wantedS rfl) (run_lenS rfl (hF14.ev 18 rfl) (slOfRow (c := cb) (hM2.ob 0 rfl)) rfl Try.underlying22) rfl (by decide) fun a15 hF15 => ?_
    refine sq (v := (.int .i64 0)) hF15 (wantedS rfl) (run_mv rfl rfl) rfl (by decide) fun a16 hF16 => ?_
    refine sqEnd ?_
    clear hF13 hF14 hF15
    refine nx ?_
    refine wp_block ?_
    refine wkLoop (fun m a w2 => ∃ (i : Nat) (r : Value), i ≤ l.length ∧ m = l.length - i ∧ OwnR w [(gb, isRow 29 2 l.length (l.flatMap boxC))] w2 39 3 r (placesTo l i).length ((placesTo l i).flatMap placeC) ∧ Fr a 49 [(4, r), (5, .slice (some ⟨gb, 0, none⟩) l.length cb), (19, .int .i64 (l.length : Int)), (20, .int .i64 (i : Int))] ∧ Mem w [(gb, isRow 29 2 l.length (l.flatMap boxC))] w2) l.length ⟨0, v0, Nat.zero_le _, rfl, hO2, hF16.sub ⟨rfl, rfl, rfl, rfl, trivial⟩, hM2⟩ ?_
    rintro m a0 w1 ⟨i, r, hi, rfl, hO0, hF0, hM0⟩
    have hpl := placesTo_len l i hi
    by_cases hlt : i < l.length
    · obtain ⟨x, hx⟩ : ∃ x, l[i]? = some x := ⟨l[i], by simp [hlt]⟩
      obtain ⟨hc1, hc2, _⟩ := place_cut l i hx
      rw [hby] at hc2
      have hft : (textsB (l.take (i + 1))).flatten.length ≤ b.length := by
        have := flatten_row (hibp :: textsB (l.take (i + 1)))
        rw [show rowS (hibp :: textsB (l.take (i + 1))) = bytesS (l.take (i + 1)) from rfl, List.flatten_cons, List.length_append] at this
        omega
      refine wp_seq ?_
      refine wp_region_lit ?_
      refine sq (v := (.bool true)) hF0 (wantedS rfl) (run_lss rfl (hF0.ev 20 rfl) (hF0.ev 19 rfl) (decide_eq_true (by omega))) rfl (by decide) fun a1 hF1 => ?_
      refine sqEnd ?_
      clear hF0
      refine nx ?_
      refine wp_seq ?_
      refine wp_cond_true (hF1.ev 21 rfl) ?_
      refine wp_skip ?_
      refine nx ?_
      refine wp_seq ?_
      refine wp_block ?_
      refine wp_seq ?_
      refine wp_region_lit ?_
      refine sq (v := (.int .i64 (i : Int))) hF1 (wantedS rfl) (run_mv rfl (hF1.ev 20 rfl)) rfl (by decide) fun a2 hF2 => ?_
      refine sq (v := (.int .i64 (i : Int))) hF2 (wantedS rfl) (run_as rfl (hF2.ev 22 rfl)) rfl (by decide) fun a3 hF3 => ?_
      refine sqEnd ?_
      clear hF1 hF2
      refine nx ?_
      refine wp_seq ?_
      refine wp_region_lit ?_
      refine sq (v := (.slice (some ⟨gb, 0, none⟩) l.length cb)) hF3 (wantedS rfl) (run_mv rfl (hF3.ev 5 rfl)) rfl (by decide) fun a4 hF4 => ?_
      refine sq (v := (.int .i64 (i : Int))) hF4 (wantedS rfl) (run_mv rfl (hF4.ev 7 rfl)) rfl (by decide) fun a5 hF5 => ?_
      refine sq (v := (slPtr (.slice (some ⟨gb, 0, none⟩) l.length cb) (i * 2))) hF5 (wantedS rfl) (run_atP (i := i) rfl (hF5.ev 23 rfl) (hF5.ev 24 rfl) rfl (slOfRow (c := cb) (hM0.ob 0 rfl)) (by omega) elBox.un (by kernel_rfl)) rfl (by decide) fun a6 hF6 => ?_
      refine sq (v := (slPtr (.slice (some ⟨gb, 0, none⟩) l.length cb) (i * 2 + 1))) hF6 (wantedS rfl) (run_fldP (m2 := 1) (s := 1) rfl (hF6.ev 25 rfl) (slOfRow (c := cb) (hM0.ob 0 rfl)) (by omega) Try.underlying29 rfl rfl (by kernel_rfl) (by decide)) rfl (by decide) fun a7 hF7 => ?_
      refine sq (v := (.string ⟨x.2.toArray⟩)) hF7 (wantedS rfl) (run_ldP rfl (hF7.ev 26 rfl) (slOfRow (c := cb) (hM0.ob 0 rfl)) (flat_at boxC_len hx 1 rfl) (by kernel_rfl)) rfl (by decide) fun a8 hF8 => ?_
      refine sq (v := (.int .i64 (x.2.length : Int))) hF8 (wantedS rfl) (run_len rfl (hF8.ev 27 rfl) rfl Try.underlying9) rfl (by decide) fun a9 hF9 => ?_
      refine sq (v := (.int .i64 (x.2.length : Int))) hF9 (wantedS rfl) (run_as rfl (hF9.ev 28 rfl)) rfl (by decide) fun a10 hF10 => ?_
      refine sqEnd ?_
      clear hF3 hF4 hF5 hF6 hF7 hF8 hF9
      refine nx ?_
      obtain ⟨KL, hKL⟩ : ∃ KL, KL = [kval r, kval (.slice (some ⟨gb, 0, none⟩) l.length cb), kval (.int .i64 (i : Int)), kval (slPtr (.slice (some ⟨gb, 0, none⟩) l.length cb) (i * 2)), kval (slPtr (.slice (some ⟨gb, 0, none⟩) l.length cb) (i * 2 + 0)), kval (.string ⟨x.1.toArray⟩), kval (.slice (some ⟨gb, 0, none⟩) l.length cb), kval (.int .i64 (i : Int)), kval (.int .i64 ((i + 1 : Nat) : Int)), kval (.slice (some ⟨gb, 0, none⟩) (i + 1) cb), kval (.string ⟨(bytesS (l.take (i + 1))).toArray⟩), kval (.int .i64 ((bytesS (l.take (i + 1))).length : Int)), kval (.int .i64 (x.2.length : Int)), kval (.int .i64 (((bytesS (l.take (i + 1))).length - x.2.length : Nat) : Int)), kval (.int .i64 (x.2.length : Int)), kval (.agg #[.string ⟨x.1.toArray⟩, .int .i64 (((bytesS (l.take (i + 1))).length - x.2.length : Nat) : Int), .int .i64 (x.2.length : Int)]), krow w1.heap.size 39 #[.string ⟨x.1.toArray⟩, .int .i64 (((bytesS (l.take (i + 1))).length - x.2.length : Nat) : Int), .int .i64 (x.2.length : Int)] 1] := ⟨_, rfl⟩
      have K0 : KL.getD 0 kany = kval r := by rw [hKL]; rfl
      have K1 : KL.getD 1 kany = kval (.slice (some ⟨gb, 0, none⟩) l.length cb) := by rw [hKL]; rfl
      have K2 : KL.getD 2 kany = kval (.int .i64 (i : Int)) := by rw [hKL]; rfl
      have K3 : KL.getD 3 kany = kval (slPtr (.slice (some ⟨gb, 0, none⟩) l.length cb) (i * 2)) := by rw [hKL]; rfl
      have K4 : KL.getD 4 kany = kval (slPtr (.slice (some ⟨gb, 0, none⟩) l.length cb) (i * 2 + 0)) := by rw [hKL]; rfl
      have K5 : KL.getD 5 kany = kval (.string ⟨x.1.toArray⟩) := by rw [hKL]; rfl
      have K6 : KL.getD 6 kany = kval (.slice (some ⟨gb, 0, none⟩) l.length cb) := by rw [hKL]; rfl
      have K7 : KL.getD 7 kany = kval (.int .i64 (i : Int)) := by rw [hKL]; rfl
      have K8 : KL.getD 8 kany = kval (.int .i64 ((i + 1 : Nat) : Int)) := by rw [hKL]; rfl
      have K9 : KL.getD 9 kany = kval (.slice (some ⟨gb, 0, none⟩) (i + 1) cb) := by rw [hKL]; rfl
      have K10 : KL.getD 10 kany = kval (.string ⟨(bytesS (l.take (i + 1))).toArray⟩) := by rw [hKL]; rfl
      have K11 : KL.getD 11 kany = kval (.int .i64 ((bytesS (l.take (i + 1))).length : Int)) := by rw [hKL]; rfl
      have K12 : KL.getD 12 kany = kval (.int .i64 (x.2.length : Int)) := by rw [hKL]; rfl
      have K13 : KL.getD 13 kany = kval (.int .i64 (((bytesS (l.take (i + 1))).length - x.2.length : Nat) : Int)) := by rw [hKL]; rfl
      have K14 : KL.getD 14 kany = kval (.int .i64 (x.2.length : Int)) := by rw [hKL]; rfl
      have K15 : KL.getD 15 kany = kval (.agg #[.string ⟨x.1.toArray⟩, .int .i64 (((bytesS (l.take (i + 1))).length - x.2.length : Nat) : Int), .int .i64 (x.2.length : Int)]) := by rw [hKL]; rfl
      have K16 : KL.getD 16 kany = krow w1.heap.size 39 #[.string ⟨x.1.toArray⟩, .int .i64 (((bytesS (l.take (i + 1))).length - x.2.length : Nat) : Int), .int .i64 (x.2.length : Int)] 1 := by rw [hKL]; rfl
      have HKL : KL.length ≤ 17 := by rw [hKL]; exact Nat.le_refl _
      clear hKL
      refine wp_region_kdTail2 49 17 (by kernel_rfl) (by kernel_rfl) (by kernel_rfl) (by kernel_rfl) hF10.size KL HKL ?_ ?_
      · refine ⟨?_, ?_, ?_, ?_, ?_, ?_, ?_, ?_, ?_, ?_, ?_, ?_, ?_, ?_, ?_, ?_, ?_, trivial⟩
        · refine asksH_mk fun a W hS hh hd => ⟨wanted_yes rfl, ?_⟩
          exact giv_run (run_mv rfl (eval_tmp (hh 4 _ rfl (hF10.at 4 rfl)))) K0
        · refine asksH_mk fun a W hS hh hd => ⟨wanted_yes rfl, ?_⟩
          exact giv_run (run_mv rfl (eval_tmp (hh 5 _ rfl (hF10.at 5 rfl)))) K1
        · refine asksH_mk fun a W hS hh hd => ⟨wanted_yes rfl, ?_⟩
          exact giv_run (run_mv rfl (eval_tmp (hh 7 _ rfl (hF10.at 7 rfl)))) K2
        · refine asksH_mk fun a W hS hh hd => ⟨wanted_yes rfl, ?_⟩
          exact giv_run (run_atP (i := i) rfl (eval_tmp (hd.val (j := 1) (s := 30) (by kernel_rfl) K1)) (eval_tmp (hd.val (j := 2) (s := 31) (by kernel_rfl) K2)) rfl (slOfRow (c := cb) ((hM0.grow hS).ob 0 rfl)) (by omega) elBox.un (by kernel_rfl)) K3
        · refine asksH_mk fun a W hS hh hd => ⟨wanted_yes rfl, ?_⟩
          exact giv_run (run_fldP (m2 := 1) (s := 0) rfl (eval_tmp (hd.val (j := 3) (s := 32) (by kernel_rfl) K3)) (slOfRow (c := cb) ((hM0.grow hS).ob 0 rfl)) (by omega) Try.underlying29 rfl rfl (by kernel_rfl) (by decide)) K4
        · refine asksH_mk fun a W hS hh hd => ⟨wanted_yes rfl, ?_⟩
          exact giv_run (run_ldP rfl (eval_tmp (hd.val (j := 4) (s := 33) (by kernel_rfl) K4)) (slOfRow (c := cb) ((hM0.grow hS).ob 0 rfl)) (flat_at boxC_len hx 0 rfl) (by kernel_rfl)) K5
        · refine asksH_mk fun a W hS hh hd => ⟨wanted_yes rfl, ?_⟩
          exact giv_run (run_mv rfl (eval_tmp (hh 5 _ rfl (hF10.at 5 rfl)))) K6
        · refine asksH_mk fun a W hS hh hd => ⟨wanted_yes rfl, ?_⟩
          exact giv_run (run_mv rfl (eval_tmp (hh 7 _ rfl (hF10.at 7 rfl)))) K7
        · refine asksH_mk fun a W hS hh hd => ⟨wanted_yes rfl, ?_⟩
          exact giv_run (run_add (r := ((i + 1 : Nat) : Int)) rfl (eval_tmp (hd.val (j := 7) (s := 36) (by kernel_rfl) K7)) rfl (by rw [IntKind.wrap_i64]; omega)) K8
        · refine asksH_mk fun a W hS hh hd => ⟨wanted_yes rfl, ?_⟩
          exact giv_run (run_toS (j := (i + 1)) (z := 2) rfl (eval_tmp (hd.val (j := 6) (s := 35) (by kernel_rfl) K6)) (eval_tmp (hd.val (j := 8) (s := 37) (by kernel_rfl) K8)) rfl (by omega) elBox.un (by kernel_rfl)) K9
        · refine asksH_mk fun a W hS hh hd => ⟨wanted_yes rfl, ?_⟩
          exact giv_call (run_call rfl Try.func17 (by kernel_rfl) rfl (mapE1 (eval_tmp (hd.val (j := 9) (s := 38) (by kernel_rfl) K9)))) (rbytes_any (l.take (i + 1)) _ W (slFront boxC_len ((hM0.grow hS).ob 0 rfl) (by omega)) (by omega) (by rw [List.length_take]; omega)) K10
        · refine asksH_mk fun a W hS hh hd => ⟨wanted_yes rfl, ?_⟩
          exact giv_run (run_len rfl (eval_tmp (hd.val (j := 10) (s := 39) (by kernel_rfl) K10)) rfl Try.underlying9) K11
        · refine asksH_mk fun a W hS hh hd => ⟨wanted_yes rfl, ?_⟩
          exact giv_run (run_mv rfl (eval_tmp (hh 8 _ rfl (hF10.at 8 rfl)))) K12
        · refine asksH_mk fun a W hS hh hd => ⟨wanted_yes rfl, ?_⟩
          exact giv_run (run_sub (r := (((bytesS (l.take (i + 1))).length - x.2.length : Nat) : Int)) rfl (eval_tmp (hd.val (j := 11) (s := 40) (by kernel_rfl) K11)) (eval_tmp (hd.val (j := 12) (s := 41) (by kernel_rfl) K12)) (by rw [IntKind.wrap_i64]; omega)) K13
        · refine asksH_mk fun a W hS hh hd => ⟨wanted_yes rfl, ?_⟩
          exact giv_run (run_mv rfl (eval_tmp (hh 8 _ rfl (hF10.at 8 rfl)))) K14
        · refine asksH_mk fun a W hS hh hd => ⟨wanted_yes rfl, ?_⟩
          exact giv_run (run_blt (vs := #[(0, .string ⟨x.1.toArray⟩), (1, .int .i64 (((bytesS (l.take (i + 1))).length - x.2.length : Nat) : Int)), (2, .int .i64 (x.2.length : Int))]) (cs := #[.string ⟨x.1.toArray⟩, .int .i64 (((bytesS (l.take (i + 1))).length - x.2.length : Nat) : Int), .int .i64 (x.2.length : Int)]) rfl (bltE3 (eval_tmp (hd.val (j := 5) (s := 34) (by kernel_rfl) K5)) (eval_tmp (hd.val (j := 13) (s := 42) (by kernel_rfl) K13)) (eval_tmp (hd.val (j := 14) (s := 43) (by kernel_rfl) K14))) (by kernel_rfl)) K15
        · refine asksH_mk fun a W hS hh hd => ⟨wanted_yes rfl, ?_⟩
          exact giv_row hS.size 39 #[.string ⟨x.1.toArray⟩, .int .i64 (((bytesS (l.take (i + 1))).length - x.2.length : Nat) : Int), .int .i64 (x.2.length : Int)] 1 (run_places1 rfl (eval_tmp (hd.val (j := 15) (s := 44) (by kernel_rfl) K15))) K16
      · intro a11 w2 hb2 hK
        have e0 := hK.hval (i := 0) (s := 29) rfl (by kernel_rfl) K0
        have e1 := hK.hval (i := 1) (s := 30) rfl (by kernel_rfl) K1
        have e2 := hK.hval (i := 2) (s := 31) rfl (by kernel_rfl) K2
        have e3 := hK.hval (i := 3) (s := 32) rfl (by kernel_rfl) K3
        have e4 := hK.hval (i := 4) (s := 33) rfl (by kernel_rfl) K4
        have e5 := hK.hval (i := 5) (s := 34) rfl (by kernel_rfl) K5
        have e6 := hK.hval (i := 6) (s := 35) rfl (by kernel_rfl) K6
        have e7 := hK.hval (i := 7) (s := 36) rfl (by kernel_rfl) K7
        have e8 := hK.hval (i := 8) (s := 37) rfl (by kernel_rfl) K8
        have e9 := hK.hval (i := 9) (s := 38) rfl (by kernel_rfl) K9
        have e10 := hK.hval (i := 10) (s := 39) rfl (by kernel_rfl) K10
        have e11 := hK.hval (i := 11) (s := 40) rfl (by kernel_rfl) K11
        have e12 := hK.hval (i := 12) (s := 41) rfl (by kernel_rfl) K12
        have e13 := hK.hval (i := 13) (s := 42) rfl (by kernel_rfl) K13
        have e14 := hK.hval (i := 14) (s := 43) rfl (by kernel_rfl) K14
        have e15 := hK.hval (i := 15) (s := 44) rfl (by kernel_rfl) K15
        obtain ⟨v3, e16, hpv3⟩ := hK.hget (i := 16) (s := 45) rfl (by kernel_rfl)
        rw [K16] at hpv3
        obtain ⟨g4, hgg4, rfl, hBg4⟩ := hpv3
        have hF11 : Fr a11 49 [(4, r), (5, (.slice (some ⟨gb, 0, none⟩) l.length cb)), (7, (.int .i64 (i : Int))), (19, (.int .i64 (l.length : Int))), (20, (.int .i64 (i : Int))), (21, (.bool true)), (22, (.int .i64 (i : Int))), (23, (.slice (some ⟨gb, 0, none⟩) l.length cb)), (24, (.int .i64 (i : Int))), (25, (slPtr (.slice (some ⟨gb, 0, none⟩) l.length cb) (i * 2))), (26, (slPtr (.slice (some ⟨gb, 0, none⟩) l.length cb) (i * 2 + 1))), (27, (.string ⟨x.2.toArray⟩)), (28, (.int .i64 (x.2.length : Int))), (29, r), (45, (.slice (some ⟨g4, 0, none⟩) 1 1))] := (hK.hfr hF10 [r, (.slice (some ⟨gb, 0, none⟩) l.length cb), (.int .i64 (i : Int)), (slPtr (.slice (some ⟨gb, 0, none⟩) l.length cb) (i * 2)), (slPtr (.slice (some ⟨gb, 0, none⟩) l.length cb) (i * 2 + 0)), (.string ⟨x.1.toArray⟩), (.slice (some ⟨gb, 0, none⟩) l.length cb), (.int .i64 (i : Int)), (.int .i64 ((i + 1 : Nat) : Int)), (.slice (some ⟨gb, 0, none⟩) (i + 1) cb), (.string ⟨(bytesS (l.take (i + 1))).toArray⟩), (.int .i64 ((bytesS (l.take (i + 1))).length : Int)), (.int .i64 (x.2.length : Int)), (.int .i64 (((bytesS (l.take (i + 1))).length - x.2.length : Nat) : Int)), (.int .i64 (x.2.length : Int)), (.agg #[.string ⟨x.1.toArray⟩, .int .i64 (((bytesS (l.take (i + 1))).length - x.2.length : Nat) : Int), .int .i64 (x.2.length : Int)]), (.slice (some ⟨g4, 0, none⟩) 1 1)] ⟨e0, e1, e2, e3, e4, e5, e6, e7, e8, e9, e10, e11, e12, e13, e14, e15, e16, trivial⟩).sub ⟨rfl, rfl, rfl, rfl, rfl, rfl, rfl, rfl, rfl, rfl, rfl, rfl, rfl, rfl, rfl, trivial⟩
        have hM1 := hM0.add hb2 hgg4 hBg4
        have hO1 := hO0.add (S := isB 39 #[.string ⟨x.1.toArray⟩, .int .i64 (((bytesS (l.take (i + 1))).length - x.2.length : Nat) : Int), .int .i64 (x.2.length : Int)]) hb2 hgg4
        clear hK K0 e0 K1 e1 K2 e2 K3 e3 K4 e4 K5 e5 K6 e6 K7 e7 K8 e8 K9 e9 K10 e10 K11 e11 K12 e12 K13 e13 K14 e14 K15 e15 K16 e16 HKL
        simp only [List.drop_succ_cons, List.drop_zero]
        refine sqAppend (news := [.string ⟨x.1.toArray⟩, .int .i64 (((bytesS (l.take (i + 1))).length - x.2.length : Nat) : Int), .int .i64 (x.2.length : Int)]) elPlace hF11 hM1 hO1 rfl rfl (hF11.ev 29 rfl) (hF11.ev 45 rfl) rfl (blkNews (hM1.at 0 rfl)) (all_one rfl) (by unfold maxLen; omega) (by omega) rfl (by decide) fun v5 a12 w3 hO2 hM2 hnilv5 hF12 => ?_
        refine sq (v := v5) hF12 (wantedS rfl) (run_as rfl (hF12.ev 46 rfl)) rfl (by decide) fun a13 hF13 => ?_
        refine sqEnd ?_
        clear hF10 hF11 hF12 hM0 hM1
        refine bkEnd ?_
        refine nx ?_
        refine wp_region_lit ?_
        refine sq (v := (.int .i64 ((i + 1 : Nat) : Int))) hF13 (wantedS rfl) (run_add (r := ((i + 1 : Nat) : Int)) rfl (hF13.ev 20 rfl) rfl (by rw [IntKind.wrap_i64]; omega)) rfl (by decide) fun a14 hF14 => ?_
        refine sq (v := (.int .i64 ((i + 1 : Nat) : Int))) hF14 (wantedS rfl) (run_mv rfl (hF14.ev 47 rfl)) rfl (by decide) fun a15 hF15 => ?_
        refine sqEnd ?_
        clear hF13 hF14
        refine nx ?_
        exact ⟨_, by omega, i + 1, v5, by omega, rfl, by rw [placesTo_snoc l i hx, List.length_append, List.flatMap_append]; exact hO2.sub (.cons _ (.cons_cons _ .slnil)), hF15.sub ⟨rfl, rfl, rfl, rfl, trivial⟩, hM2.sub (.cons _ (.cons_cons _ .slnil))⟩
    · have hie : i = l.length := by omega
      rw [hie] at hO0
      refine wp_seq ?_
      refine wp_region_lit ?_
      refine sq (v := (.bool false)) hF0 (wantedS rfl) (run_lss rfl (hF0.ev 20 rfl) (hF0.ev 19 rfl) (decide_eq_false (by omega))) rfl (by decide) fun a1 hF1 => ?_
      refine sqEnd ?_
      clear hF0
      refine nx ?_
      refine wp_seq ?_
      refine wp_cond_false (hF1.ev 21 rfl) ?_
      refine wp_exit ?_
      refine nxExit ?_
      refine nxExit ?_
      refine bkHere ?_
      refine nx ?_
      refine wp_seq ?_
      refine wp_region_lit ?_
      refine sq (v := r) hF1 (wantedS rfl) (run_mv rfl (hF1.ev 4 rfl)) rfl (by decide) fun a2 hF2 => ?_
      refine sq (v := r) hF2 (wantedS rfl) (run_as rfl (hF2.ev 48 rfl)) rfl (by decide) fun a3 hF3 => ?_
      refine sq (v := (.int .i64 0)) hF3 (wantedS rfl) (run_as rfl rfl) rfl (by decide) fun a4 hF4 => ?_
      refine sqEnd ?_
      clear hF1 hF2 hF3
      refine nx ?_
      refine wp_ret ?_
      exact ret2 hF4 rfl rfl rfl ⟨_, rfl, by unfold OfR; rw [hyes]; exact ⟨r, rfl, hO0.owns⟩, hM0.below⟩
end Go.Proofs.Ytnkklogkjnfjgaa
