/- The walks of pack.Of and Take. Printed by gen_pack4.py. -/
import Derived.Test.YtnkklogkjnfjgaaPack2
import Derived.Test.YtnkklogkjnfjgaaPackT
namespace Go.Proofs.Ytnkklogkjnfjgaa
open Go.RowKit

theorem elPlace : ElT Try.prog 32 39 3 32 := by
  obtain ⟨i, h1, h2, h3, h4⟩ := info_parts (show (Try.prog.info? 39).map (fun i => (i.zero, i.size, i.bytes)) = some (some (.agg #[.string ⟨#[]⟩, .int .i64 0, .int .i64 0]), 3, 32) by kernel_rfl)
  exact ⟨Try.underlying32, ⟨i, _, h1, h2, h3, h4, rfl⟩, by decide⟩
theorem szPlace : (Try.prog.info? 39).map (·.size) = some 3 := by kernel_rfl
theorem run_places1 {a : Act} {op : Oper} {w : World} {x : Operand} {s : ByteArray} {i j : Int} (ho : op.op = .buildSlice 32 1 #[(0, x)]) (hx : a.eval x = .agg #[.string s, .int .i64 i, .int .i64 j]) :
    (execOp a.eval op).run Try.prog w = .ok (.value (.slice (some ⟨w.heap.size, 0, none⟩) 1 1)) (w.alloc (.cells #[.string s, .int .i64 i, .int .i64 j] 39)) := by
  unfold execOp
  simp only [ho, List.map_toArray, List.map_cons, List.map_nil, hx]
  go_simp
theorem ntexts_err {b : List UInt8} {e : Int} (h : textsS b = .error e) (w : World) (hb : b.length < 2 ^ 42) : Calls Try.prog 15 #[.string ⟨b.toArray⟩] w fun x w' => x = .returned (.tuple #[.slice none 0 0, .int .i64 e]) ∧ Below w.heap.size w w' :=
  (ntexts_any b w hb).mono fun x w' ⟨u, h1, h2, h3⟩ => by unfold TxR at h2; rw [h] at h2; subst h2; exact ⟨h1, h3⟩
theorem ntexts_ok {b : List UInt8} {X : List (List UInt8)} (h : textsS b = .ok X) (w : World) (hb : b.length < 2 ^ 42) : Calls Try.prog 15 #[.string ⟨b.toArray⟩] w fun x w' => ∃ u, x = .returned u ∧ (∃ v, u = .tuple #[v, .int .i64 0] ∧ w'.ownsRow w.heap.size 9 1 v X.length (X.map tx)) ∧ Below w.heap.size w w' :=
  (ntexts_any b w hb).mono fun x w' ⟨u, h1, h2, h3⟩ => by unfold TxR at h2; rw [h] at h2; exact ⟨u, h1, h2, h3⟩
/-- what Of hands back. -/
def OfR (b : List UInt8) (base : Nat) (u : Value) (w : World) : Prop := match ofS b with
  | some l => ∃ v, u = .tuple #[v, .int .i64 0] ∧ w.ownsRow base 39 3 v (placesS l).length ((placesS l).flatMap placeC)
  | none => ∃ v, u = .tuple #[v, .int .i64 3] ∧ w.ownsRow base 39 3 v 0 []
theorem texts_at {l : List Bx} {k : Nat} {x : Bx} (hx : l[k]? = some x) : (hibp :: textsB l)[1 + 2 * k]? = some x.1 ∧ (hibp :: textsB l)[1 + 2 * k + 1]? = some x.2 := by
  rw [show 1 + 2 * k = (2 * k) + 1 by omega, List.getElem?_cons_succ, List.getElem?_cons_succ]
  induction l generalizing k with
  | nil => simp at hx
  | cons b l ih =>
    have h : textsB (b :: l) = b.1 :: b.2 :: textsB l := rfl
    rw [h]
    cases k with
    | zero => simp only [List.getElem?_cons_zero, Option.some.injEq] at hx; subst hx; exact ⟨rfl, rfl⟩
    | succ k =>
      rw [List.getElem?_cons_succ] at hx
      have := ih hx
      rw [show 2 * (k + 1) = 2 * k + 1 + 1 by omega, List.getElem?_cons_succ, List.getElem?_cons_succ, show 2 * k + 1 + 1 + 1 = (2 * k + 1) + 1 + 1 by omega, List.getElem?_cons_succ, List.getElem?_cons_succ]
      exact this
theorem rowS_ge : ∀ l : List (List UInt8), l.length ≤ (rowS l).length
  | [] => Nat.le_refl _
  | s :: l => by
    have h := lenB_pos s.length
    have := rowS_ge l
    rw [rowS_cons, List.length_cons, List.length_append, List.length_append]; omega
theorem own_none (w : World) (base : Nat) (e : TypeId) (size : Nat) : w.ownsRow base e size (.slice none 0 0) 0 [] := ⟨by simp, .inl ⟨rfl, rfl⟩⟩
set_option maxRecDepth 100000 in
set_option maxHeartbeats 1000000 in
theorem pof_any (b : List UInt8) (w : World) (hb : b.length < 2 ^ 42) : Calls Try.prog 9 #[.string ⟨b.toArray⟩] w fun e w' => ∃ u, e = .returned u ∧ OfR b w.heap.size u w' ∧ Below w.heap.size w w' := by
  by_cases hlong : 65536 < b.length
  · have hno := ofS_long hlong
    refine walk_enter Try.func9 rfl rfl rfl fun a0 hF0 => ?_
    have hM0 := Mem.new w
    refine wp_seq ?_
    refine wp_region_lit ?_
    refine sq (v := (.slice none 0 0)) hF0 (wantedS rfl) (run_as rfl rfl) rfl (by decide) fun a1 hF1 => ?_
    refine sq (v := (.int .i64 0)) hF1 (wantedS rfl) (run_as rfl rfl) rfl (by decide) fun a2 hF2 => ?_
    refine sqEnd ?_
    clear hF0 hF1
    refine nx ?_
    refine wp_seq ?_
    refine wp_seq ?_
    refine wp_region_lit ?_
    refine sq (v := (.string ⟨b.toArray⟩)) hF2 (wantedS rfl) (run_mv rfl (hF2.ev 0 rfl)) rfl (by decide) fun a3 hF3 => ?_
    refine sq (v := (.int .i64 (b.length : Int))) hF3 (wantedS rfl) (run_len rfl (hF3.ev 12 rfl) rfl Try.underlying9) rfl (by decide) fun a4 hF4 => ?_
    refine sq (v := (.bool true)) hF4 (wantedS rfl) (run_gtr rfl (hF4.ev 13 rfl) rfl (decide_eq_true (by omega))) rfl (by decide) fun a5 hF5 => ?_
    refine sqEnd ?_
    clear hF2 hF3 hF4
    refine nx ?_
    refine wp_cond_true (hF5.ev 14 rfl) ?_
    refine wp_seq ?_
    refine wp_region_lit ?_
    refine sq (v := (.slice none 0 0)) hF5 (wantedS rfl) (run_as rfl rfl) rfl (by decide) fun a6 hF6 => ?_
    refine sq (v := (.int .i64 3)) hF6 (wantedS rfl) (run_as rfl rfl) rfl (by decide) fun a7 hF7 => ?_
    refine sqEnd ?_
    clear hF5 hF6
    refine nx ?_
    refine wp_ret ?_
    refine nxRet ?_
    exact ret2 hF7 rfl rfl rfl ⟨_, rfl, by unfold OfR; rw [hno]; exact ⟨_, rfl, own_none _ _ _ _⟩, hM0.below⟩
  cases hT : textsS b with
  | error e =>
    have hno := ofS_err hT
    have he := textsS_err b.length b e (Nat.le_refl _) hT
    refine walk_enter Try.func9 rfl rfl rfl fun a0 hF0 => ?_
    have hM0 := Mem.new w
    refine wp_seq ?_
    refine wp_region_lit ?_
    refine sq (v := (.slice none 0 0)) hF0 (wantedS rfl) (run_as rfl rfl) rfl (by decide) fun a1 hF1 => ?_
    refine sq (v := (.int .i64 0)) hF1 (wantedS rfl) (run_as rfl rfl) rfl (by decide) fun a2 hF2 => ?_
    refine sqEnd ?_
    clear hF0 hF1
    refine nx ?_
    refine wp_seq ?_
    refine wp_seq ?_
    refine wp_region_lit ?_
    refine sq (v := (.string ⟨b.toArray⟩)) hF2 (wantedS rfl) (run_mv rfl (hF2.ev 0 rfl)) rfl (by decide) fun a3 hF3 => ?_
    refine sq (v := (.int .i64 (b.length : Int))) hF3 (wantedS rfl) (run_len rfl (hF3.ev 12 rfl) rfl Try.underlying9) rfl (by decide) fun a4 hF4 => ?_
    refine sq (v := (.bool false)) hF4 (wantedS rfl) (run_gtr rfl (hF4.ev 13 rfl) rfl (decide_eq_false (by omega))) rfl (by decide) fun a5 hF5 => ?_
    refine sqEnd ?_
    clear hF2 hF3 hF4
    refine nx ?_
    refine wp_cond_false (hF5.ev 14 rfl) ?_
    refine wp_skip ?_
    refine nx ?_
    refine wp_seq ?_
    refine wp_region_lit ?_
    refine sq (v := (.string ⟨b.toArray⟩)) hF5 (wantedS rfl) (run_mv rfl (hF5.ev 0 rfl)) rfl (by decide) fun a6 hF6 => ?_
    refine sqC (v := (.tuple #[(.slice none 0 0), (.int .i64 e)])) hF6 hM0 (wantedS rfl) (run_call rfl Try.func15 (by kernel_rfl) rfl (mapE1 (hF6.ev 16 rfl))) rfl (by decide) (ntexts_err hT w (by omega)) fun a7 w1 hb1 hF7 hM1 => ?_
    refine sq (v := (.tuple #[(.slice none 0 0), (.int .i64 e)])) hF7 (wantedS rfl) (run_mv rfl (hF7.ev 17 rfl)) rfl (by decide) fun a8 hF8 => ?_
    refine sq (v := (.slice none 0 0)) hF8 (wantedS rfl) (run_ext rfl (hF8.ev 15 rfl) rfl) rfl (by decide) fun a9 hF9 => ?_
    refine sq (v := (.int .i64 e)) hF9 (wantedS rfl) (run_ext rfl (hF9.ev 15 rfl) rfl) rfl (by decide) fun a10 hF10 => ?_
    refine sq (v := (.slice none 0 0)) hF10 (wantedS rfl) (run_as rfl (hF10.ev 18 rfl)) rfl (by decide) fun a11 hF11 => ?_
    refine sq (v := (.int .i64 e)) hF11 (wantedS rfl) (run_as rfl (hF11.ev 19 rfl)) rfl (by decide) fun a12 hF12 => ?_
    refine sqEnd ?_
    clear hF5 hF6 hF7 hF8 hF9 hF10 hF11 hM0
    refine nx ?_
    refine wp_seq ?_
    refine wp_seq ?_
    refine wp_region_lit ?_
    refine sq (v := (.int .i64 e)) hF12 (wantedS rfl) (run_mv rfl (hF12.ev 5 rfl)) rfl (by decide) fun a13 hF13 => ?_
    refine sq (v := (.bool true)) hF13 (wantedS rfl) (run_nei rfl (hF13.ev 20 rfl) rfl (bne_iff_ne.2 (by omega))) rfl (by decide) fun a14 hF14 => ?_
    refine sq (v := (.bool true)) hF14 (wantedS rfl) (run_mv rfl (hF14.ev 21 rfl)) rfl (by decide) fun a15 hF15 => ?_
    refine sqSkip hF15 (unwantedG hF15 rfl rfl rfl rfl rfl) rfl (by decide) fun a16 hF16 => ?_
    refine sqSkip hF16 (unwantedG hF16 rfl rfl rfl rfl rfl) rfl (by decide) fun a17 hF17 => ?_
    refine sqSkip hF17 (unwantedG hF17 rfl rfl rfl rfl rfl) rfl (by decide) fun a18 hF18 => ?_
    refine sq (v := (.bool true)) hF18 (wantedS rfl) (run_pick rfl (hF18.ev 22 rfl) rfl (hF18.ev 25 rfl)) rfl (by decide) fun a19 hF19 => ?_
    refine sq (v := (.bool true)) hF19 (wantedS rfl) (run_mv rfl (hF19.ev 26 rfl)) rfl (by decide) fun a20 hF20 => ?_
    refine sqSkip hF20 (unwantedG hF20 rfl rfl rfl rfl rfl) rfl (by decide) fun a21 hF21 => ?_
    refine sqSkip hF21 (unwantedG hF21 rfl rfl rfl rfl rfl) rfl (by decide) fun a22 hF22 => ?_
    refine sqSkip hF22 (unwantedG hF22 rfl rfl rfl rfl rfl) rfl (by decide) fun a23 hF23 => ?_
    refine sqSkip hF23 (unwantedG hF23 rfl rfl rfl rfl rfl) rfl (by decide) fun a24 hF24 => ?_
    refine sq (v := (.bool true)) hF24 (wantedS rfl) (run_pick rfl (hF24.ev 27 rfl) rfl (hF24.ev 31 rfl)) rfl (by decide) fun a25 hF25 => ?_
    refine sq (v := (.bool true)) hF25 (wantedS rfl) (run_mv rfl (hF25.ev 32 rfl)) rfl (by decide) fun a26 hF26 => ?_
    refine sqSkip hF26 (unwantedG hF26 rfl rfl rfl rfl rfl) rfl (by decide) fun a27 hF27 => ?_
    refine sqSkip hF27 (unwantedG hF27 rfl rfl rfl rfl rfl) rfl (by decide) fun a28 hF28 => ?_
    refine sqSkip hF28 (unwantedG hF28 rfl rfl rfl rfl rfl) rfl (by decide) fun a29 hF29 => ?_
    refine sqSkip hF29 (unwantedG hF29 rfl rfl rfl rfl rfl) rfl (by decide) fun a30 hF30 => ?_
    refine sq (v := (.bool true)) hF30 (wantedS rfl) (run_pick rfl (hF30.ev 33 rfl) rfl (hF30.ev 37 rfl)) rfl (by decide) fun a31 hF31 => ?_
    refine sqEnd ?_
    clear hF12 hF13 hF14 hF15 hF16 hF17 hF18 hF19 hF20 hF21 hF22 hF23 hF24 hF25 hF26 hF27 hF28 hF29 hF30
    refine nx ?_
    refine wp_cond_true (hF31.ev 38 rfl) ?_
    refine wp_seq ?_
    refine wp_region_lit ?_
    refine sq (v := (.slice none 0 0)) hF31 (wantedS rfl) (run_as rfl rfl) rfl (by decide) fun a32 hF32 => ?_
    refine sq (v := (.int .i64 3)) hF32 (wantedS rfl) (run_as rfl rfl) rfl (by decide) fun a33 hF33 => ?_
    refine sqEnd ?_
    clear hF31 hF32
    refine nx ?_
    refine wp_ret ?_
    refine nxRet ?_
    exact ret2 hF33 rfl rfl rfl ⟨_, rfl, by unfold OfR; rw [hno]; exact ⟨_, rfl, own_none _ _ _ _⟩, hM1.below⟩
  | ok X =>
  by_cases h3 : X.length < 3
  · have hno := ofS_no hT (.inl h3)
    refine walk_enter Try.func9 rfl rfl rfl fun a0 hF0 => ?_
    have hM0 := Mem.new w
    refine wp_seq ?_
    refine wp_region_lit ?_
    refine sq (v := (.slice none 0 0)) hF0 (wantedS rfl) (run_as rfl rfl) rfl (by decide) fun a1 hF1 => ?_
    refine sq (v := (.int .i64 0)) hF1 (wantedS rfl) (run_as rfl rfl) rfl (by decide) fun a2 hF2 => ?_
    refine sqEnd ?_
    clear hF0 hF1
    refine nx ?_
    refine wp_seq ?_
    refine wp_seq ?_
    refine wp_region_lit ?_
    refine sq (v := (.string ⟨b.toArray⟩)) hF2 (wantedS rfl) (run_mv rfl (hF2.ev 0 rfl)) rfl (by decide) fun a3 hF3 => ?_
    refine sq (v := (.int .i64 (b.length : Int))) hF3 (wantedS rfl) (run_len rfl (hF3.ev 12 rfl) rfl Try.underlying9) rfl (by decide) fun a4 hF4 => ?_
    refine sq (v := (.bool false)) hF4 (wantedS rfl) (run_gtr rfl (hF4.ev 13 rfl) rfl (decide_eq_false (by omega))) rfl (by decide) fun a5 hF5 => ?_
    refine sqEnd ?_
    clear hF2 hF3 hF4
    refine nx ?_
    refine wp_cond_false (hF5.ev 14 rfl) ?_
    refine wp_skip ?_
    refine nx ?_
    refine wp_seq ?_
    refine wp_region_lit ?_
    refine sq (v := (.string ⟨b.toArray⟩)) hF5 (wantedS rfl) (run_mv rfl (hF5.ev 0 rfl)) rfl (by decide) fun a6 hF6 => ?_
    refine sqT (T := fun u wx => (∃ v, u = .tuple #[v, .int .i64 0] ∧ wx.ownsRow w.heap.size 9 1 v X.length (X.map tx)) ∧ Below w.heap.size w wx) hF6 (wantedS rfl) (run_call rfl Try.func15 (by kernel_rfl) rfl (mapE1 (hF6.ev 16 rfl))) rfl (by decide) (ntexts_ok hT w (by omega)) fun u0 a7 w1 hT1 hF7 => ?_
    obtain ⟨⟨v1, rfl, hr1⟩, hb1⟩ := hT1
    have hO1 := OwnR.ofCall hM0 hr1
    have hM1 := hM0.grow hb1
    refine sq (v := (.tuple #[v1, (.int .i64 0)])) hF7 (wantedS rfl) (run_mv rfl (hF7.ev 17 rfl)) rfl (by decide) fun a8 hF8 => ?_
    refine sq (v := v1) hF8 (wantedS rfl) (run_ext rfl (hF8.ev 15 rfl) rfl) rfl (by decide) fun a9 hF9 => ?_
    refine sq (v := (.int .i64 0)) hF9 (wantedS rfl) (run_ext rfl (hF9.ev 15 rfl) rfl) rfl (by decide) fun a10 hF10 => ?_
    refine sq (v := v1) hF10 (wantedS rfl) (run_as rfl (hF10.ev 18 rfl)) rfl (by decide) fun a11 hF11 => ?_
    refine sq (v := (.int .i64 0)) hF11 (wantedS rfl) (run_as rfl (hF11.ev 19 rfl)) rfl (by decide) fun a12 hF12 => ?_
    refine sqEnd ?_
    clear hF5 hF6 hF7 hF8 hF9 hF10 hF11 hM0
    refine nx ?_
    refine wp_seq ?_
    refine wp_seq ?_
    refine wp_region_lit ?_
    refine sq (v := (.int .i64 0)) hF12 (wantedS rfl) (run_mv rfl (hF12.ev 5 rfl)) rfl (by decide) fun a13 hF13 => ?_
    refine sq (v := (.bool false)) hF13 (wantedS rfl) (run_nei rfl (hF13.ev 20 rfl) rfl (bne_eq_false_iff_eq.2 (by omega))) rfl (by decide) fun a14 hF14 => ?_
    refine sq (v := (.bool false)) hF14 (wantedS rfl) (run_mv rfl (hF14.ev 21 rfl)) rfl (by decide) fun a15 hF15 => ?_
    refine sq (v := v1) hF15 (wantedG hF15 rfl rfl rfl rfl rfl) (run_mv rfl (hF15.ev 4 rfl)) rfl (by decide) fun a16 hF16 => ?_
    refine sq (v := (.int .i64 (X.length : Int))) hF16 (wantedG hF16 rfl rfl rfl rfl rfl) (run_lenS rfl (hF16.ev 23 rfl) (Sl.own hO1) rfl Try.underlying42) rfl (by decide) fun a17 hF17 => ?_
    refine sq (v := (.bool true)) hF17 (wantedG hF17 rfl rfl rfl rfl rfl) (run_lss rfl (hF17.ev 24 rfl) rfl (decide_eq_true (by omega))) rfl (by decide) fun a18 hF18 => ?_
    refine sq (v := (.bool true)) hF18 (wantedS rfl) (run_pick rfl (hF18.ev 22 rfl) rfl (hF18.ev 25 rfl)) rfl (by decide) fun a19 hF19 => ?_
    refine sq (v := (.bool true)) hF19 (wantedS rfl) (run_mv rfl (hF19.ev 26 rfl)) rfl (by decide) fun a20 hF20 => ?_
    refine sqSkip hF20 (unwantedG hF20 rfl rfl rfl rfl rfl) rfl (by decide) fun a21 hF21 => ?_
    refine sqSkip hF21 (unwantedG hF21 rfl rfl rfl rfl rfl) rfl (by decide) fun a22 hF22 => ?_
    refine sqSkip hF22 (unwantedG hF22 rfl rfl rfl rfl rfl) rfl (by decide) fun a23 hF23 => ?_
    refine sqSkip hF23 (unwantedG hF23 rfl rfl rfl rfl rfl) rfl (by decide) fun a24 hF24 => ?_
    refine sq (v := (.bool true)) hF24 (wantedS rfl) (run_pick rfl (hF24.ev 27 rfl) rfl (hF24.ev 31 rfl)) rfl (by decide) fun a25 hF25 => ?_
    refine sq (v := (.bool true)) hF25 (wantedS rfl) (run_mv rfl (hF25.ev 32 rfl)) rfl (by decide) fun a26 hF26 => ?_
    refine sqSkip hF26 (unwantedG hF26 rfl rfl rfl rfl rfl) rfl (by decide) fun a27 hF27 => ?_
    refine sqSkip hF27 (unwantedG hF27 rfl rfl rfl rfl rfl) rfl (by decide) fun a28 hF28 => ?_
    refine sqSkip hF28 (unwantedG hF28 rfl rfl rfl rfl rfl) rfl (by decide) fun a29 hF29 => ?_
    refine sqSkip hF29 (unwantedG hF29 rfl rfl rfl rfl rfl) rfl (by decide) fun a30 hF30 => ?_
    refine sq (v := (.bool true)) hF30 (wantedS rfl) (run_pick rfl (hF30.ev 33 rfl) rfl (hF30.ev 37 rfl)) rfl (by decide) fun a31 hF31 => ?_
    refine sqEnd ?_
    clear hF12 hF13 hF14 hF15 hF16 hF17 hF18 hF19 hF20 hF21 hF22 hF23 hF24 hF25 hF26 hF27 hF28 hF29 hF30
    refine nx ?_
    refine wp_cond_true (hF31.ev 38 rfl) ?_
    refine wp_seq ?_
    refine wp_region_lit ?_
    refine sq (v := (.slice none 0 0)) hF31 (wantedS rfl) (run_as rfl rfl) rfl (by decide) fun a32 hF32 => ?_
    refine sq (v := (.int .i64 3)) hF32 (wantedS rfl) (run_as rfl rfl) rfl (by decide) fun a33 hF33 => ?_
    refine sqEnd ?_
    clear hF31 hF32
    refine nx ?_
    refine wp_ret ?_
    refine nxRet ?_
    exact ret2 hF33 rfl rfl rfl ⟨_, rfl, by unfold OfR; rw [hno]; exact ⟨_, rfl, own_none _ _ _ _⟩, hM1.below⟩
  by_cases h2 : X.length % 2 = 0
  · have hno := ofS_no hT (.inr (.inl h2))
    refine walk_enter Try.func9 rfl rfl rfl fun a0 hF0 => ?_
    have hM0 := Mem.new w
    refine wp_seq ?_
    refine wp_region_lit ?_
    refine sq (v := (.slice none 0 0)) hF0 (wantedS rfl) (run_as rfl rfl) rfl (by decide) fun a1 hF1 => ?_
    refine sq (v := (.int .i64 0)) hF1 (wantedS rfl) (run_as rfl rfl) rfl (by decide) fun a2 hF2 => ?_
    refine sqEnd ?_
    clear hF0 hF1
    refine nx ?_
    refine wp_seq ?_
    refine wp_seq ?_
    refine wp_region_lit ?_
    refine sq (v := (.string ⟨b.toArray⟩)) hF2 (wantedS rfl) (run_mv rfl (hF2.ev 0 rfl)) rfl (by decide) fun a3 hF3 => ?_
    refine sq (v := (.int .i64 (b.length : Int))) hF3 (wantedS rfl) (run_len rfl (hF3.ev 12 rfl) rfl Try.underlying9) rfl (by decide) fun a4 hF4 => ?_
    refine sq (v := (.bool false)) hF4 (wantedS rfl) (run_gtr rfl (hF4.ev 13 rfl) rfl (decide_eq_false (by omega))) rfl (by decide) fun a5 hF5 => ?_
    refine sqEnd ?_
    clear hF2 hF3 hF4
    refine nx ?_
    refine wp_cond_false (hF5.ev 14 rfl) ?_
    refine wp_skip ?_
    refine nx ?_
    refine wp_seq ?_
    refine wp_region_lit ?_
    refine sq (v := (.string ⟨b.toArray⟩)) hF5 (wantedS rfl) (run_mv rfl (hF5.ev 0 rfl)) rfl (by decide) fun a6 hF6 => ?_
    refine sqT (T := fun u wx => (∃ v, u = .tuple #[v, .int .i64 0] ∧ wx.ownsRow w.heap.size 9 1 v X.length (X.map tx)) ∧ Below w.heap.size w wx) hF6 (wantedS rfl) (run_call rfl Try.func15 (by kernel_rfl) rfl (mapE1 (hF6.ev 16 rfl))) rfl (by decide) (ntexts_ok hT w (by omega)) fun u0 a7 w1 hT1 hF7 => ?_
    obtain ⟨⟨v1, rfl, hr1⟩, hb1⟩ := hT1
    have hO1 := OwnR.ofCall hM0 hr1
    have hM1 := hM0.grow hb1
    refine sq (v := (.tuple #[v1, (.int .i64 0)])) hF7 (wantedS rfl) (run_mv rfl (hF7.ev 17 rfl)) rfl (by decide) fun a8 hF8 => ?_
    refine sq (v := v1) hF8 (wantedS rfl) (run_ext rfl (hF8.ev 15 rfl) rfl) rfl (by decide) fun a9 hF9 => ?_
    refine sq (v := (.int .i64 0)) hF9 (wantedS rfl) (run_ext rfl (hF9.ev 15 rfl) rfl) rfl (by decide) fun a10 hF10 => ?_
    refine sq (v := v1) hF10 (wantedS rfl) (run_as rfl (hF10.ev 18 rfl)) rfl (by decide) fun a11 hF11 => ?_
    refine sq (v := (.int .i64 0)) hF11 (wantedS rfl) (run_as rfl (hF11.ev 19 rfl)) rfl (by decide) fun a12 hF12 => ?_
    refine sqEnd ?_
    clear hF5 hF6 hF7 hF8 hF9 hF10 hF11 hM0
    refine nx ?_
    refine wp_seq ?_
    refine wp_seq ?_
    refine wp_region_lit ?_
    refine sq (v := (.int .i64 0)) hF12 (wantedS rfl) (run_mv rfl (hF12.ev 5 rfl)) rfl (by decide) fun a13 hF13 => ?_
    refine sq (v := (.bool false)) hF13 (wantedS rfl) (run_nei rfl (hF13.ev 20 rfl) rfl (bne_eq_false_iff_eq.2 (by omega))) rfl (by decide) fun a14 hF14 => ?_
    refine sq (v := (.bool false)) hF14 (wantedS rfl) (run_mv rfl (hF14.ev 21 rfl)) rfl (by decide) fun a15 hF15 => ?_
    refine sq (v := v1) hF15 (wantedG hF15 rfl rfl rfl rfl rfl) (run_mv rfl (hF15.ev 4 rfl)) rfl (by decide) fun a16 hF16 => ?_
    refine sq (v := (.int .i64 (X.length : Int))) hF16 (wantedG hF16 rfl rfl rfl rfl rfl) (run_lenS rfl (hF16.ev 23 rfl) (Sl.own hO1) rfl Try.underlying42) rfl (by decide) fun a17 hF17 => ?_
    refine sq (v := (.bool false)) hF17 (wantedG hF17 rfl rfl rfl rfl rfl) (run_lss rfl (hF17.ev 24 rfl) rfl (decide_eq_false (by omega))) rfl (by decide) fun a18 hF18 => ?_
    refine sq (v := (.bool false)) hF18 (wantedS rfl) (run_pick rfl (hF18.ev 22 rfl) rfl (hF18.ev 25 rfl)) rfl (by decide) fun a19 hF19 => ?_
    refine sq (v := (.bool false)) hF19 (wantedS rfl) (run_mv rfl (hF19.ev 26 rfl)) rfl (by decide) fun a20 hF20 => ?_
    refine sq (v := v1) hF20 (wantedG hF20 rfl rfl rfl rfl rfl) (run_mv rfl (hF20.ev 4 rfl)) rfl (by decide) fun a21 hF21 => ?_
    refine sq (v := (.int .i64 (X.length : Int))) hF21 (wantedG hF21 rfl rfl rfl rfl rfl) (run_lenS rfl (hF21.ev 28 rfl) (Sl.own hO1) rfl Try.underlying42) rfl (by decide) fun a22 hF22 => ?_
    refine sq (v := (.int .i64 ((X.length % 2 : Nat) : Int))) hF22 (wantedG hF22 rfl rfl rfl rfl rfl) (run_rem (r := ((X.length % 2 : Nat) : Int)) rfl (hF22.ev 29 rfl) rfl (by omega) (by rw [Int.tmod_eq_emod_of_nonneg (by omega)]; try omega)) rfl (by decide) fun a23 hF23 => ?_
    refine sq (v := (.bool true)) hF23 (wantedG hF23 rfl rfl rfl rfl rfl) (run_nei rfl (hF23.ev 30 rfl) rfl (bne_iff_ne.2 (by omega))) rfl (by decide) fun a24 hF24 => ?_
    refine sq (v := (.bool true)) hF24 (wantedS rfl) (run_pick rfl (hF24.ev 27 rfl) rfl (hF24.ev 31 rfl)) rfl (by decide) fun a25 hF25 => ?_
    refine sq (v := (.bool true)) hF25 (wantedS rfl) (run_mv rfl (hF25.ev 32 rfl)) rfl (by decide) fun a26 hF26 => ?_
    refine sqSkip hF26 (unwantedG hF26 rfl rfl rfl rfl rfl) rfl (by decide) fun a27 hF27 => ?_
    refine sqSkip hF27 (unwantedG hF27 rfl rfl rfl rfl rfl) rfl (by decide) fun a28 hF28 => ?_
    refine sqSkip hF28 (unwantedG hF28 rfl rfl rfl rfl rfl) rfl (by decide) fun a29 hF29 => ?_
    refine sqSkip hF29 (unwantedG hF29 rfl rfl rfl rfl rfl) rfl (by decide) fun a30 hF30 => ?_
    refine sq (v := (.bool true)) hF30 (wantedS rfl) (run_pick rfl (hF30.ev 33 rfl) rfl (hF30.ev 37 rfl)) rfl (by decide) fun a31 hF31 => ?_
    refine sqEnd ?_
    clear hF12 hF13 hF14 hF15 hF16 hF17 hF18 hF19 hF20 hF21 hF22 hF23 hF24 hF25 hF26 hF27 hF28 hF29 hF30
    refine nx ?_
    refine wp_cond_true (hF31.ev 38 rfl) ?_
    refine wp_seq ?_
    refine wp_region_lit ?_
    refine sq (v := (.slice none 0 0)) hF31 (wantedS rfl) (run_as rfl rfl) rfl (by decide) fun a32 hF32 => ?_
    refine sq (v := (.int .i64 3)) hF32 (wantedS rfl) (run_as rfl rfl) rfl (by decide) fun a33 hF33 => ?_
    refine sqEnd ?_
    clear hF31 hF32
    refine nx ?_
    refine wp_ret ?_
    refine nxRet ?_
    exact ret2 hF33 rfl rfl rfl ⟨_, rfl, by unfold OfR; rw [hno]; exact ⟨_, rfl, own_none _ _ _ _⟩, hM1.below⟩
  obtain ⟨y, hy⟩ : ∃ y, X[0]? = some y := ⟨X[0], by simp [show 0 < X.length by omega]⟩
  by_cases hh : y ≠ hibp
  · have hno := ofS_no hT (.inr (.inr (.inl (by rw [List.head?_eq_getElem?, hy]; intro e; injection e with e; exact hh e))))
    refine walk_enter Try.func9 rfl rfl rfl fun a0 hF0 => ?_
    have hM0 := Mem.new w
    refine wp_seq ?_
    refine wp_region_lit ?_
    refine sq (v := (.slice none 0 0)) hF0 (wantedS rfl) (run_as rfl rfl) rfl (by decide) fun a1 hF1 => ?_
    refine sq (v := (.int .i64 0)) hF1 (wantedS rfl) (run_as rfl rfl) rfl (by decide) fun a2 hF2 => ?_
    refine sqEnd ?_
    clear hF0 hF1
    refine nx ?_
    refine wp_seq ?_
    refine wp_seq ?_
    refine wp_region_lit ?_
    refine sq (v := (.string ⟨b.toArray⟩)) hF2 (wantedS rfl) (run_mv rfl (hF2.ev 0 rfl)) rfl (by decide) fun a3 hF3 => ?_
    refine sq (v := (.int .i64 (b.length : Int))) hF3 (wantedS rfl) (run_len rfl (hF3.ev 12 rfl) rfl Try.underlying9) rfl (by decide) fun a4 hF4 => ?_
    refine sq (v := (.bool false)) hF4 (wantedS rfl) (run_gtr rfl (hF4.ev 13 rfl) rfl (decide_eq_false (by omega))) rfl (by decide) fun a5 hF5 => ?_
    refine sqEnd ?_
    clear hF2 hF3 hF4
    refine nx ?_
    refine wp_cond_false (hF5.ev 14 rfl) ?_
    refine wp_skip ?_
    refine nx ?_
    refine wp_seq ?_
    refine wp_region_lit ?_
    refine sq (v := (.string ⟨b.toArray⟩)) hF5 (wantedS rfl) (run_mv rfl (hF5.ev 0 rfl)) rfl (by decide) fun a6 hF6 => ?_
    refine sqT (T := fun u wx => (∃ v, u = .tuple #[v, .int .i64 0] ∧ wx.ownsRow w.heap.size 9 1 v X.length (X.map tx)) ∧ Below w.heap.size w wx) hF6 (wantedS rfl) (run_call rfl Try.func15 (by kernel_rfl) rfl (mapE1 (hF6.ev 16 rfl))) rfl (by decide) (ntexts_ok hT w (by omega)) fun u0 a7 w1 hT1 hF7 => ?_
    obtain ⟨⟨v1, rfl, hr1⟩, hb1⟩ := hT1
    have hO1 := OwnR.ofCall hM0 hr1
    have hM1 := hM0.grow hb1
    refine sq (v := (.tuple #[v1, (.int .i64 0)])) hF7 (wantedS rfl) (run_mv rfl (hF7.ev 17 rfl)) rfl (by decide) fun a8 hF8 => ?_
    refine sq (v := v1) hF8 (wantedS rfl) (run_ext rfl (hF8.ev 15 rfl) rfl) rfl (by decide) fun a9 hF9 => ?_
    refine sq (v := (.int .i64 0)) hF9 (wantedS rfl) (run_ext rfl (hF9.ev 15 rfl) rfl) rfl (by decide) fun a10 hF10 => ?_
    refine sq (v := v1) hF10 (wantedS rfl) (run_as rfl (hF10.ev 18 rfl)) rfl (by decide) fun a11 hF11 => ?_
    refine sq (v := (.int .i64 0)) hF11 (wantedS rfl) (run_as rfl (hF11.ev 19 rfl)) rfl (by decide) fun a12 hF12 => ?_
    refine sqEnd ?_
    clear hF5 hF6 hF7 hF8 hF9 hF10 hF11 hM0
    refine nx ?_
    refine wp_seq ?_
    refine wp_seq ?_
    refine wp_region_lit ?_
    refine sq (v := (.int .i64 0)) hF12 (wantedS rfl) (run_mv rfl (hF12.ev 5 rfl)) rfl (by decide) fun a13 hF13 => ?_
    refine sq (v := (.bool false)) hF13 (wantedS rfl) (run_nei rfl (hF13.ev 20 rfl) rfl (bne_eq_false_iff_eq.2 (by omega))) rfl (by decide) fun a14 hF14 => ?_
    refine sq (v := (.bool false)) hF14 (wantedS rfl) (run_mv rfl (hF14.ev 21 rfl)) rfl (by decide) fun a15 hF15 => ?_
    refine sq (v := v1) hF15 (wantedG hF15 rfl rfl rfl rfl rfl) (run_mv rfl (hF15.ev 4 rfl)) rfl (by decide) fun a16 hF16 => ?_
    refine sq (v := (.int .i64 (X.length : Int))) hF16 (wantedG hF16 rfl rfl rfl rfl rfl) (run_lenS rfl (hF16.ev 23 rfl) (Sl.own hO1) rfl Try.underlying42) rfl (by decide) fun a17 hF17 => ?_
    refine sq (v := (.bool false)) hF17 (wantedG hF17 rfl rfl rfl rfl rfl) (run_lss rfl (hF17.ev 24 rfl) rfl (decide_eq_false (by omega))) rfl (by decide) fun a18 hF18 => ?_
    refine sq (v := (.bool false)) hF18 (wantedS rfl) (run_pick rfl (hF18.ev 22 rfl) rfl (hF18.ev 25 rfl)) rfl (by decide) fun a19 hF19 => ?_
    refine sq (v := (.bool false)) hF19 (wantedS rfl) (run_mv rfl (hF19.ev 26 rfl)) rfl (by decide) fun a20 hF20 => ?_
    refine sq (v := v1) hF20 (wantedG hF20 rfl rfl rfl rfl rfl) (run_mv rfl (hF20.ev 4 rfl)) rfl (by decide) fun a21 hF21 => ?_
    refine sq (v := (.int .i64 (X.length : Int))) hF21 (wantedG hF21 rfl rfl rfl rfl rfl) (run_lenS rfl (hF21.ev 28 rfl) (Sl.own hO1) rfl Try.underlying42) rfl (by decide) fun a22 hF22 => ?_
    refine sq (v := (.int .i64 ((X.length % 2 : Nat) : Int))) hF22 (wantedG hF22 rfl rfl rfl rfl rfl) (run_rem (r := ((X.length % 2 : Nat) : Int)) rfl (hF22.ev 29 rfl) rfl (by omega) (by rw [Int.tmod_eq_emod_of_nonneg (by omega)]; try omega)) rfl (by decide) fun a23 hF23 => ?_
    refine sq (v := (.bool false)) hF23 (wantedG hF23 rfl rfl rfl rfl rfl) (run_nei rfl (hF23.ev 30 rfl) rfl (bne_eq_false_iff_eq.2 (by omega))) rfl (by decide) fun a24 hF24 => ?_
    refine sq (v := (.bool false)) hF24 (wantedS rfl) (run_pick rfl (hF24.ev 27 rfl) rfl (hF24.ev 31 rfl)) rfl (by decide) fun a25 hF25 => ?_
    refine sq (v := (.bool false)) hF25 (wantedS rfl) (run_mv rfl (hF25.ev 32 rfl)) rfl (by decide) fun a26 hF26 => ?_
    refine sq (v := v1) hF26 (wantedG hF26 rfl rfl rfl rfl rfl) (run_mv rfl (hF26.ev 4 rfl)) rfl (by decide) fun a27 hF27 => ?_
    refine sq (v := (slPtr v1 (0 * 1))) hF27 (wantedG hF27 rfl rfl rfl rfl rfl) (run_atP (i := 0) rfl (hF27.ev 34 rfl) rfl rfl (Sl.own hO1) (by omega) elStr.un (by kernel_rfl)) rfl (by decide) fun a28 hF28 => ?_
    refine sq (v := (.string ⟨y.toArray⟩)) hF28 (wantedG hF28 rfl rfl rfl rfl rfl) (run_ldP rfl (hF28.ev 35 rfl) (Sl.own hO1) (map_at hy) (by kernel_rfl)) rfl (by decide) fun a29 hF29 => ?_
    refine sq (v := (.bool true)) hF29 (wantedG hF29 rfl rfl rfl rfl rfl) (run_nes rfl (hF29.ev 36 rfl) rfl (by rw [show (y == [104, 105, 98, 112]) = false from beq_eq_false_iff_ne.2 hh]; rfl)) rfl (by decide) fun a30 hF30 => ?_
    refine sq (v := (.bool true)) hF30 (wantedS rfl) (run_pick rfl (hF30.ev 33 rfl) rfl (hF30.ev 37 rfl)) rfl (by decide) fun a31 hF31 => ?_
    refine sqEnd ?_
    clear hF12 hF13 hF14 hF15 hF16 hF17 hF18 hF19 hF20 hF21 hF22 hF23 hF24 hF25 hF26 hF27 hF28 hF29 hF30
    refine nx ?_
    refine wp_cond_true (hF31.ev 38 rfl) ?_
    refine wp_seq ?_
    refine wp_region_lit ?_
    refine sq (v := (.slice none 0 0)) hF31 (wantedS rfl) (run_as rfl rfl) rfl (by decide) fun a32 hF32 => ?_
    refine sq (v := (.int .i64 3)) hF32 (wantedS rfl) (run_as rfl rfl) rfl (by decide) fun a33 hF33 => ?_
    refine sqEnd ?_
    clear hF31 hF32
    refine nx ?_
    refine wp_ret ?_
    refine nxRet ?_
    exact ret2 hF33 rfl rfl rfl ⟨_, rfl, by unfold OfR; rw [hno]; exact ⟨_, rfl, own_none _ _ _ _⟩, hM1.below⟩
  replace hh : y = hibp := Classical.byContradiction hh
  have hsh := shape (X := X) (by omega) (by rw [List.head?_eq_getElem?, hy, hh])
  obtain ⟨l, hl⟩ : ∃ l, boxesOf X.tail = l := ⟨_, rfl⟩
  rw [hl] at hsh
  have hlen : X.length = 1 + 2 * l.length := by rw [hsh, List.length_cons, textsB_len]; omega
  have hbk := (textsS_back b.length b X (Nat.le_refl _) hT).1
  have hby : bytesS l = b := by unfold bytesS; rw [← hsh]; exact hbk
  have hXb : X.length ≤ b.length := by rw [← hbk]; exact rowS_ge X
  refine walk_enter Try.func9 rfl rfl rfl fun a0 hF0 => ?_
  have hM0 := Mem.new w
  refine wp_seq ?_
  refine wp_region_lit ?_
  refine sq (v := (.slice none 0 0)) hF0 (wantedS rfl) (run_as rfl rfl) rfl (by decide) fun a1 hF1 => ?_
  refine sq (v := (.int .i64 0)) hF1 (wantedS rfl) (run_as rfl rfl) rfl (by decide) fun a2 hF2 => ?_
  refine sqEnd ?_
  clear hF0 hF1
  refine nx ?_
  refine wp_seq ?_
  refine wp_seq ?_
  refine wp_region_lit ?_
  refine sq (v := (.string ⟨b.toArray⟩)) hF2 (wantedS rfl) (run_mv rfl (hF2.ev 0 rfl)) rfl (by decide) fun a3 hF3 => ?_
  refine sq (v := (.int .i64 (b.length : Int))) hF3 (wantedS rfl) (run_len rfl (hF3.ev 12 rfl) rfl Try.underlying9) rfl (by decide) fun a4 hF4 => ?_
  refine sq (v := (.bool false)) hF4 (wantedS rfl) (run_gtr rfl (hF4.ev 13 rfl) rfl (decide_eq_false (by omega))) rfl (by decide) fun a5 hF5 => ?_
  refine sqEnd ?_
  clear hF2 hF3 hF4
  refine nx ?_
  refine wp_cond_false (hF5.ev 14 rfl) ?_
  refine wp_skip ?_
  refine nx ?_
  refine wp_seq ?_
  refine wp_region_lit ?_
  refine sq (v := (.string ⟨b.toArray⟩)) hF5 (wantedS rfl) (run_mv rfl (hF5.ev 0 rfl)) rfl (by decide) fun a6 hF6 => ?_
  refine sqT (T := fun u wx => (∃ v, u = .tuple #[v, .int .i64 0] ∧ wx.ownsRow w.heap.size 9 1 v X.length (X.map tx)) ∧ Below w.heap.size w wx) hF6 (wantedS rfl) (run_call rfl Try.func15 (by kernel_rfl) rfl (mapE1 (hF6.ev 16 rfl))) rfl (by decide) (ntexts_ok hT w (by omega)) fun u0 a7 w1 hT1 hF7 => ?_
  obtain ⟨⟨v1, rfl, hr1⟩, hb1⟩ := hT1
  have hO1 := OwnR.ofCall hM0 hr1
  have hM1 := hM0.grow hb1
  refine sq (v := (.tuple #[v1, (.int .i64 0)])) hF7 (wantedS rfl) (run_mv rfl (hF7.ev 17 rfl)) rfl (by decide) fun a8 hF8 => ?_
  refine sq (v := v1) hF8 (wantedS rfl) (run_ext rfl (hF8.ev 15 rfl) rfl) rfl (by decide) fun a9 hF9 => ?_
  refine sq (v := (.int .i64 0)) hF9 (wantedS rfl) (run_ext rfl (hF9.ev 15 rfl) rfl) rfl (by decide) fun a10 hF10 => ?_
  refine sq (v := v1) hF10 (wantedS rfl) (run_as rfl (hF10.ev 18 rfl)) rfl (by decide) fun a11 hF11 => ?_
  refine sq (v := (.int .i64 0)) hF11 (wantedS rfl) (run_as rfl (hF11.ev 19 rfl)) rfl (by decide) fun a12 hF12 => ?_
  refine sqEnd ?_
  clear hF5 hF6 hF7 hF8 hF9 hF10 hF11 hM0
  refine nx ?_
  refine wp_seq ?_
  refine wp_seq ?_
  refine wp_region_lit ?_
  refine sq (v := (.int .i64 0)) hF12 (wantedS rfl) (run_mv rfl (hF12.ev 5 rfl)) rfl (by decide) fun a13 hF13 => ?_
  refine sq (v := (.bool false)) hF13 (wantedS rfl) (run_nei rfl (hF13.ev 20 rfl) rfl (bne_eq_false_iff_eq.2 (by omega))) rfl (by decide) fun a14 hF14 => ?_
  refine sq (v := (.bool false)) hF14 (wantedS rfl) (run_mv rfl (hF14.ev 21 rfl)) rfl (by decide) fun a15 hF15 => ?_
  refine sq (v := v1) hF15 (wantedG hF15 rfl rfl rfl rfl rfl) (run_mv rfl (hF15.ev 4 rfl)) rfl (by decide) fun a16 hF16 => ?_
  refine sq (v := (.int .i64 (X.length : Int))) hF16 (wantedG hF16 rfl rfl rfl rfl rfl) (run_lenS rfl (hF16.ev 23 rfl) (Sl.own hO1) rfl Try.underlying42) rfl (by decide) fun a17 hF17 => ?_
  refine sq (v := (.bool false)) hF17 (wantedG hF17 rfl rfl rfl rfl rfl) (run_lss rfl (hF17.ev 24 rfl) rfl (decide_eq_false (by omega))) rfl (by decide) fun a18 hF18 => ?_
  refine sq (v := (.bool false)) hF18 (wantedS rfl) (run_pick rfl (hF18.ev 22 rfl) rfl (hF18.ev 25 rfl)) rfl (by decide) fun a19 hF19 => ?_
  refine sq (v := (.bool false)) hF19 (wantedS rfl) (run_mv rfl (hF19.ev 26 rfl)) rfl (by decide) fun a20 hF20 => ?_
  refine sq (v := v1) hF20 (wantedG hF20 rfl rfl rfl rfl rfl) (run_mv rfl (hF20.ev 4 rfl)) rfl (by decide) fun a21 hF21 => ?_
  refine sq (v := (.int .i64 (X.length : Int))) hF21 (wantedG hF21 rfl rfl rfl rfl rfl) (run_lenS rfl (hF21.ev 28 rfl) (Sl.own hO1) rfl Try.underlying42) rfl (by decide) fun a22 hF22 => ?_
  refine sq (v := (.int .i64 ((X.length % 2 : Nat) : Int))) hF22 (wantedG hF22 rfl rfl rfl rfl rfl) (run_rem (r := ((X.length % 2 : Nat) : Int)) rfl (hF22.ev 29 rfl) rfl (by omega) (by rw [Int.tmod_eq_emod_of_nonneg (by omega)]; try omega)) rfl (by decide) fun a23 hF23 => ?_
  refine sq (v := (.bool false)) hF23 (wantedG hF23 rfl rfl rfl rfl rfl) (run_nei rfl (hF23.ev 30 rfl) rfl (bne_eq_false_iff_eq.2 (by omega))) rfl (by decide) fun a24 hF24 => ?_
  refine sq (v := (.bool false)) hF24 (wantedS rfl) (run_pick rfl (hF24.ev 27 rfl) rfl (hF24.ev 31 rfl)) rfl (by decide) fun a25 hF25 => ?_
  refine sq (v := (.bool false)) hF25 (wantedS rfl) (run_mv rfl (hF25.ev 32 rfl)) rfl (by decide) fun a26 hF26 => ?_
  refine sq (v := v1) hF26 (wantedG hF26 rfl rfl rfl rfl rfl) (run_mv rfl (hF26.ev 4 rfl)) rfl (by decide) fun a27 hF27 => ?_
  refine sq (v := (slPtr v1 (0 * 1))) hF27 (wantedG hF27 rfl rfl rfl rfl rfl) (run_atP (i := 0) rfl (hF27.ev 34 rfl) rfl rfl (Sl.own hO1) (by omega) elStr.un (by kernel_rfl)) rfl (by decide) fun a28 hF28 => ?_
  refine sq (v := (.string ⟨y.toArray⟩)) hF28 (wantedG hF28 rfl rfl rfl rfl rfl) (run_ldP rfl (hF28.ev 35 rfl) (Sl.own hO1) (map_at hy) (by kernel_rfl)) rfl (by decide) fun a29 hF29 => ?_
  refine sq (v := (.bool false)) hF29 (wantedG hF29 rfl rfl rfl rfl rfl) (run_nes rfl (hF29.ev 36 rfl) rfl (by rw [hh]; rfl)) rfl (by decide) fun a30 hF30 => ?_
  refine sq (v := (.bool false)) hF30 (wantedS rfl) (run_pick rfl (hF30.ev 33 rfl) rfl (hF30.ev 37 rfl)) rfl (by decide) fun a31 hF31 => ?_
  refine sqEnd ?_
  clear hF12 hF13 hF14 hF15 hF16 hF17 hF18 hF19 hF20 hF21 hF22 hF23 hF24 hF25 hF26 hF27 hF28 hF29 hF30
  refine nx ?_
  refine wp_cond_false (hF31.ev 38 rfl) ?_
  refine wp_skip ?_
  refine nx ?_
  refine wp_seq ?_
  obtain ⟨gt, ct, rfl, hM2⟩ := hO1.toMem hM1 (by omega)
  refine wp_region_lit ?_
  refine sqMakeSet hF31 hM2 rfl rfl (fun q hq => by cases hq) rfl (by decide) fun g2 a32 w2 hgg2 hb2 hF32 hM3 => ?_
  refine sq (v := (.map (some g2))) hF32 (wantedS rfl) (run_as rfl (hF32.ev 39 rfl)) rfl (by decide) fun a33 hF33 => ?_
  refine sqEnd ?_
  clear hF31 hF32 hM2
  refine nx ?_
  refine wp_seq ?_
  refine wp_region_lit ?_
  refine sq (v := (.slice none 0 0)) hF33 (wantedS rfl) (run_as rfl rfl) rfl (by decide) fun a34 hF34 => ?_
  refine sqEnd ?_
  clear hF33
  refine nx ?_
  refine wp_seq ?_
  have hrh : rowedS [104, 105, 98, 112] = (bytesS (l.take 0)).length := by unfold bytesS; rw [rowS_sum]; rfl
  refine wp_region_lit ?_
  refine sqC (v := (.int .i64 ((bytesS (l.take 0)).length : Int))) hF34 hM3 (wantedS rfl) (run_call rfl Try.func14 (by kernel_rfl) rfl (mapE1 rfl)) rfl (by decide) (by rw [← hrh]; exact rowed_any [104, 105, 98, 112] w2 (by decide)) fun a35 w3 hb3 hF35 hM4 => ?_
  refine sq (v := (.int .i64 ((bytesS (l.take 0)).length : Int))) hF35 (wantedS rfl) (run_as rfl (hF35.ev 40 rfl)) rfl (by decide) fun a36 hF36 => ?_
  refine sqEnd ?_
  clear hF34 hF35 hM3
  refine nx ?_
  refine wp_seq ?_
  refine wp_seq ?_
  refine wp_region_lit ?_
  refine sq (v := (.int .i64 1)) hF36 (wantedS rfl) (run_as rfl rfl) rfl (by decide) fun a37 hF37 => ?_
  refine sqEnd ?_
  clear hF36
  refine nx ?_
  refine wp_block ?_
  refine wkLoop (fun m a w2 => ∃ (k : Nat) (r : Value), k ≤ l.length ∧ m = l.length - k ∧ namesS l = namesF ((l.take k).map (·.1)) (l.drop k) ∧ OwnR w [(g2, isSet (((l.take k).map (·.1)))), (gt, isRow 9 1 X.length (X.map tx))] w2 39 3 r (placesTo l k).length ((placesTo l k).flatMap placeC) ∧ Fr a 81 [(4, .slice (some ⟨gt, 0, none⟩) X.length ct), (6, .map (some g2)), (7, r), (8, .int .i64 ((bytesS (l.take k)).length : Int)), (9, .int .i64 ((1 + 2 * k : Nat) : Int))] ∧ Mem w [(g2, isSet (((l.take k).map (·.1)))), (gt, isRow 9 1 X.length (X.map tx))] w2) l.length ⟨0, .slice none 0 0, Nat.zero_le _, rfl, rfl, OwnR.nil _ _ _ _ _, hF37.sub ⟨rfl, rfl, rfl, rfl, rfl, trivial⟩, hM4⟩ ?_
  rintro m a0 w1 ⟨k, r, hk, rfl, hnm, hO0, hF0, hM0⟩
  have hpl := placesTo_len l k hk
  have hml : ((l.take k).map (·.1)).length = k := by rw [List.length_map, List.length_take]; omega
  obtain ⟨nms, hnms⟩ : ∃ nms, (l.take k).map (·.1) = nms := ⟨_, rfl⟩
  rw [hnms] at hnm hO0 hM0 hml
  by_cases hlt : k < l.length
  · obtain ⟨x, hx⟩ : ∃ x, l[k]? = some x := ⟨l[k], by simp [hlt]⟩
    obtain ⟨hx1, hx2⟩ := texts_at hx
    rw [← hsh] at hx1 hx2
    have hst := bytes_step l k hx
    obtain ⟨hc1, hc2, _⟩ := place_cut l k hx
    rw [hby] at hc2
    have hr1 : x.1.length ≤ rowedS x.1 := by unfold rowedS; omega
    have hr2 : x.2.length ≤ rowedS x.2 := by unfold rowedS; omega
    rw [namesF_step _ l k hx] at hnm
    by_cases hmay : mayS nms x.1 = 0
    · rw [if_pos hmay] at hnm
      refine wp_seq ?_
      refine wp_seq ?_
      refine wp_region_lit ?_
      refine sq (v := (.int .i64 ((1 + 2 * k : Nat) : Int))) hF0 (wantedS rfl) (run_mv rfl (hF0.ev 9 rfl)) rfl (by decide) fun a1 hF1 => ?_
      refine sq (v := (.slice (some ⟨gt, 0, none⟩) X.length ct)) hF1 (wantedS rfl) (run_mv rfl (hF1.ev 4 rfl)) rfl (by decide) fun a2 hF2 => ?_
      refine sq (v := (.int .i64 (X.length : Int))) hF2 (wantedS rfl) (run_lenS rfl (hF2.ev 42 rfl) (slOfRow (c := ct) (hM0.ob 1 rfl)) rfl Try.underlying42) rfl (by decide) fun a3 hF3 => ?_
      refine sq (v := (.bool true)) hF3 (wantedS rfl) (run_lss rfl (hF3.ev 41 rfl) (hF3.ev 43 rfl) (decide_eq_true (by omega))) rfl (by decide) fun a4 hF4 => ?_
      refine sqEnd ?_
      clear hF0 hF1 hF2 hF3
      refine nx ?_
      refine wp_cond_true (hF4.ev 44 rfl) ?_
      refine wp_skip ?_
      refine nx ?_
      refine wp_seq ?_
      refine wp_block ?_
      refine wp_seq ?_
      obtain ⟨KL, hKL⟩ : ∃ KL, KL = [kval (.slice (some ⟨gt, 0, none⟩) X.length ct), kval (.int .i64 ((1 + 2 * k : Nat) : Int)), kval (slPtr (.slice (some ⟨gt, 0, none⟩) X.length ct) ((1 + 2 * k) * 1)), kval (.string ⟨x.1.toArray⟩), kval (.slice (some ⟨gt, 0, none⟩) X.length ct), kval (.int .i64 ((1 + 2 * k : Nat) : Int)), kval (.int .i64 ((1 + 2 * k + 1 : Nat) : Int)), kval (slPtr (.slice (some ⟨gt, 0, none⟩) X.length ct) ((1 + 2 * k + 1) * 1)), kval (.string ⟨x.2.toArray⟩), kval (.string ⟨x.1.toArray⟩), kval (.string ⟨x.2.toArray⟩)] := ⟨_, rfl⟩
      have K0 : KL.getD 0 kany = kval (.slice (some ⟨gt, 0, none⟩) X.length ct) := by rw [hKL]; rfl
      have K1 : KL.getD 1 kany = kval (.int .i64 ((1 + 2 * k : Nat) : Int)) := by rw [hKL]; rfl
      have K2 : KL.getD 2 kany = kval (slPtr (.slice (some ⟨gt, 0, none⟩) X.length ct) ((1 + 2 * k) * 1)) := by rw [hKL]; rfl
      have K3 : KL.getD 3 kany = kval (.string ⟨x.1.toArray⟩) := by rw [hKL]; rfl
      have K4 : KL.getD 4 kany = kval (.slice (some ⟨gt, 0, none⟩) X.length ct) := by rw [hKL]; rfl
      have K5 : KL.getD 5 kany = kval (.int .i64 ((1 + 2 * k : Nat) : Int)) := by rw [hKL]; rfl
      have K6 : KL.getD 6 kany = kval (.int .i64 ((1 + 2 * k + 1 : Nat) : Int)) := by rw [hKL]; rfl
      have K7 : KL.getD 7 kany = kval (slPtr (.slice (some ⟨gt, 0, none⟩) X.length ct) ((1 + 2 * k + 1) * 1)) := by rw [hKL]; rfl
      have K8 : KL.getD 8 kany = kval (.string ⟨x.2.toArray⟩) := by rw [hKL]; rfl
      have K9 : KL.getD 9 kany = kval (.string ⟨x.1.toArray⟩) := by rw [hKL]; rfl
      have K10 : KL.getD 10 kany = kval (.string ⟨x.2.toArray⟩) := by rw [hKL]; rfl
      clear hKL
      refine wp_region_kd 81 (by kernel_rfl) (by kernel_rfl) (by kernel_rfl) hF4.size KL ?_ ?_
      · refine ⟨?_, ?_, ?_, ?_, ?_, ?_, ?_, ?_, ?_, ?_, ?_, trivial⟩
        · refine asks_mk fun a W hS hh hd => ⟨wanted_yes rfl, ?_⟩
          exact giv_run (run_mv rfl (eval_tmp (hh 4 _ rfl (hF4.at 4 rfl)))) K0
        · refine asks_mk fun a W hS hh hd => ⟨wanted_yes rfl, ?_⟩
          exact giv_run (run_mv rfl (eval_tmp (hh 9 _ rfl (hF4.at 9 rfl)))) K1
        · refine asks_mk fun a W hS hh hd => ⟨wanted_yes rfl, ?_⟩
          exact giv_run (run_atP (i := (1 + 2 * k)) rfl (eval_tmp (hd.val (j := 0) (s := 47) (by kernel_rfl) K0)) (eval_tmp (hd.val (j := 1) (s := 48) (by kernel_rfl) K1)) rfl (slOfRow (c := ct) ((hM0.grow hS).ob 1 rfl)) (by omega) elStr.un (by kernel_rfl)) K2
        · refine asks_mk fun a W hS hh hd => ⟨wanted_yes rfl, ?_⟩
          exact giv_run (run_ldP rfl (eval_tmp (hd.val (j := 2) (s := 49) (by kernel_rfl) K2)) (slOfRow (c := ct) ((hM0.grow hS).ob 1 rfl)) (map_at hx1) (by kernel_rfl)) K3
        · refine asks_mk fun a W hS hh hd => ⟨wanted_yes rfl, ?_⟩
          exact giv_run (run_mv rfl (eval_tmp (hh 4 _ rfl (hF4.at 4 rfl)))) K4
        · refine asks_mk fun a W hS hh hd => ⟨wanted_yes rfl, ?_⟩
          exact giv_run (run_mv rfl (eval_tmp (hh 9 _ rfl (hF4.at 9 rfl)))) K5
        · refine asks_mk fun a W hS hh hd => ⟨wanted_yes rfl, ?_⟩
          exact giv_run (run_add (r := ((1 + 2 * k + 1 : Nat) : Int)) rfl (eval_tmp (hd.val (j := 5) (s := 52) (by kernel_rfl) K5)) rfl (by rw [IntKind.wrap_i64]; omega)) K6
        · refine asks_mk fun a W hS hh hd => ⟨wanted_yes rfl, ?_⟩
          exact giv_run (run_atP (i := (1 + 2 * k + 1)) rfl (eval_tmp (hd.val (j := 4) (s := 51) (by kernel_rfl) K4)) (eval_tmp (hd.val (j := 6) (s := 53) (by kernel_rfl) K6)) rfl (slOfRow (c := ct) ((hM0.grow hS).ob 1 rfl)) (by omega) elStr.un (by kernel_rfl)) K7
        · refine asks_mk fun a W hS hh hd => ⟨wanted_yes rfl, ?_⟩
          exact giv_run (run_ldP rfl (eval_tmp (hd.val (j := 7) (s := 54) (by kernel_rfl) K7)) (slOfRow (c := ct) ((hM0.grow hS).ob 1 rfl)) (map_at hx2) (by kernel_rfl)) K8
        · refine asks_mk fun a W hS hh hd => ⟨wanted_yes rfl, ?_⟩
          exact giv_run (run_as rfl (eval_tmp (hd.val (j := 3) (s := 50) (by kernel_rfl) K3))) K9
        · refine asks_mk fun a W hS hh hd => ⟨wanted_yes rfl, ?_⟩
          exact giv_run (run_as rfl (eval_tmp (hd.val (j := 8) (s := 55) (by kernel_rfl) K8))) K10
      · intro a5 w2 hb2 hK
        have e0 := hK.val (i := 0) (s := 47) (by kernel_rfl) K0
        have e1 := hK.val (i := 1) (s := 48) (by kernel_rfl) K1
        have e2 := hK.val (i := 2) (s := 49) (by kernel_rfl) K2
        have e3 := hK.val (i := 3) (s := 50) (by kernel_rfl) K3
        have e4 := hK.val (i := 4) (s := 51) (by kernel_rfl) K4
        have e5 := hK.val (i := 5) (s := 52) (by kernel_rfl) K5
        have e6 := hK.val (i := 6) (s := 53) (by kernel_rfl) K6
        have e7 := hK.val (i := 7) (s := 54) (by kernel_rfl) K7
        have e8 := hK.val (i := 8) (s := 55) (by kernel_rfl) K8
        have e9 := hK.val (i := 9) (s := 10) (by kernel_rfl) K9
        have e10 := hK.val (i := 10) (s := 11) (by kernel_rfl) K10
        have hF5 : Fr a5 81 [(4, (.slice (some ⟨gt, 0, none⟩) X.length ct)), (6, (.map (some g2))), (7, r), (8, (.int .i64 ((bytesS (l.take k)).length : Int))), (9, (.int .i64 ((1 + 2 * k : Nat) : Int))), (10, (.string ⟨x.1.toArray⟩)), (11, (.string ⟨x.2.toArray⟩)), (41, (.int .i64 ((1 + 2 * k : Nat) : Int))), (42, (.slice (some ⟨gt, 0, none⟩) X.length ct)), (43, (.int .i64 (X.length : Int))), (44, (.bool true))] := (hK.fr hF4 [(.slice (some ⟨gt, 0, none⟩) X.length ct), (.int .i64 ((1 + 2 * k : Nat) : Int)), (slPtr (.slice (some ⟨gt, 0, none⟩) X.length ct) ((1 + 2 * k) * 1)), (.string ⟨x.1.toArray⟩), (.slice (some ⟨gt, 0, none⟩) X.length ct), (.int .i64 ((1 + 2 * k : Nat) : Int)), (.int .i64 ((1 + 2 * k + 1 : Nat) : Int)), (slPtr (.slice (some ⟨gt, 0, none⟩) X.length ct) ((1 + 2 * k + 1) * 1)), (.string ⟨x.2.toArray⟩), (.string ⟨x.1.toArray⟩), (.string ⟨x.2.toArray⟩)] ⟨e0, e1, e2, e3, e4, e5, e6, e7, e8, e9, e10, trivial⟩).sub ⟨rfl, rfl, rfl, rfl, rfl, rfl, rfl, rfl, rfl, rfl, rfl, trivial⟩
        have hM1 := hM0.grow hb2
        have hO1 := hO0.grow hb2
        clear hK K0 e0 K1 e1 K2 e2 K3 e3 K4 e4 K5 e5 K6 e6 K7 e7 K8 e8 K9 e9 K10 e10
        clear hF4 hM0
        refine nx ?_
        refine wp_seq ?_
        refine wp_seq ?_
        refine wp_region_lit ?_
        refine sq (v := (.map (some g2))) hF5 (wantedS rfl) (run_mv rfl (hF5.ev 6 rfl)) rfl (by decide) fun a6 hF6 => ?_
        refine sq (v := (.string ⟨x.1.toArray⟩)) hF6 (wantedS rfl) (run_mv rfl (hF6.ev 10 rfl)) rfl (by decide) fun a7 hF7 => ?_
        refine sqC (v := (.int .i64 (mayS nms x.1))) hF7 hM1 (wantedS rfl) (run_call rfl Try.func13 (by kernel_rfl) rfl (mapE2 (hF7.ev 56 rfl) (hF7.ev 57 rfl))) rfl (by decide) (may_any g2 nms x.1 w2 (hM1.ob 0 rfl) (by first | omega | decide | (simp; omega))) fun a8 w3 hb3 hF8 hM2 => ?_
        have hO2 := hO1.grow hb3
        refine sq (v := (.bool false)) hF8 (wantedS rfl) (run_nei rfl (hF8.ev 58 rfl) rfl (bne_eq_false_iff_eq.2 (by omega))) rfl (by decide) fun a9 hF9 => ?_
        refine sqEnd ?_
        clear hF5 hF6 hF7 hF8 hM1
        refine nx ?_
        refine wp_cond_false (hF9.ev 59 rfl) ?_
        refine wp_skip ?_
        refine nx ?_
        refine wp_seq ?_
        refine wp_region_lit ?_
        refine sq (v := (.map (some g2))) hF9 (wantedS rfl) (run_mv rfl (hF9.ev 6 rfl)) rfl (by decide) fun a10 hF10 => ?_
        refine sq (v := (.string ⟨x.1.toArray⟩)) hF10 (wantedS rfl) (run_mv rfl (hF10.ev 10 rfl)) rfl (by decide) fun a11 hF11 => ?_
        refine sqSetAdd (i := 0) hF11 hM2 rfl rfl rfl (hF11.ev 60 rfl) (hF11.ev 61 rfl) rfl rfl (by unfold maxLen; omega) (by unfold maxLen; omega) fun a12 w4 hgr4 hF12 hM3 => ?_
        have hO3 := hO2.upd 0 (S2 := isSet (nms ++ [x.1])) rfl hgr4
        refine sqEnd ?_
        clear hF9 hF10 hF11 hM2
        refine nx ?_
        refine wp_seq ?_
        refine wp_region_lit ?_
        refine sq (v := (.int .i64 ((bytesS (l.take k)).length : Int))) hF12 (wantedS rfl) (run_mv rfl (hF12.ev 8 rfl)) rfl (by decide) fun a13 hF13 => ?_
        refine sq (v := (.string ⟨x.1.toArray⟩)) hF13 (wantedS rfl) (run_mv rfl (hF13.ev 10 rfl)) rfl (by decide) fun a14 hF14 => ?_
        refine sqC (v := (.int .i64 (rowedS x.1 : Int))) hF14 hM3 (wantedS rfl) (run_call rfl Try.func14 (by kernel_rfl) rfl (mapE1 (hF14.ev 63 rfl))) rfl (by decide) (rowed_any x.1 w4 (by first | omega | decide | (simp; omega))) fun a15 w5 hb5 hF15 hM4 => ?_
        have hO4 := hO3.grow hb5
        refine sq (v := (.string ⟨x.2.toArray⟩)) hF15 (wantedS rfl) (run_mv rfl (hF15.ev 11 rfl)) rfl (by decide) fun a16 hF16 => ?_
        refine sqC (v := (.int .i64 (rowedS x.2 : Int))) hF16 hM4 (wantedS rfl) (run_call rfl Try.func14 (by kernel_rfl) rfl (mapE1 (hF16.ev 65 rfl))) rfl (by decide) (rowed_any x.2 w5 (by first | omega | decide | (simp; omega))) fun a17 w6 hb6 hF17 hM5 => ?_
        have hO5 := hO4.grow hb6
        refine sq (v := (.int .i64 ((rowedS x.1 + rowedS x.2 : Nat) : Int))) hF17 (wantedS rfl) (run_add (r := ((rowedS x.1 + rowedS x.2 : Nat) : Int)) rfl (hF17.ev 64 rfl) (hF17.ev 66 rfl) (by rw [IntKind.wrap_i64]; omega)) rfl (by decide) fun a18 hF18 => ?_
        refine sq (v := (.int .i64 (((bytesS (l.take k)).length + (rowedS x.1 + rowedS x.2) : Nat) : Int))) hF18 (wantedS rfl) (run_add (r := (((bytesS (l.take k)).length + (rowedS x.1 + rowedS x.2) : Nat) : Int)) rfl (hF18.ev 62 rfl) (hF18.ev 67 rfl) (by rw [IntKind.wrap_i64]; omega)) rfl (by decide) fun a19 hF19 => ?_
        refine sq (v := (.int .i64 (((bytesS (l.take k)).length + (rowedS x.1 + rowedS x.2) : Nat) : Int))) hF19 (wantedS rfl) (run_as rfl (hF19.ev 68 rfl)) rfl (by decide) fun a20 hF20 => ?_
        refine sqEnd ?_
        clear hF12 hF13 hF14 hF15 hF16 hF17 hF18 hF19 hM3 hM4
        refine nx ?_
        refine wp_region_lit ?_
        refine sq (v := r) hF20 (wantedS rfl) (run_mv rfl (hF20.ev 7 rfl)) rfl (by decide) fun a21 hF21 => ?_
        refine sq (v := (.string ⟨x.1.toArray⟩)) hF21 (wantedS rfl) (run_mv rfl (hF21.ev 10 rfl)) rfl (by decide) fun a22 hF22 => ?_
        refine sq (v := (.int .i64 (((bytesS (l.take k)).length + (rowedS x.1 + rowedS x.2) : Nat) : Int))) hF22 (wantedS rfl) (run_mv rfl (hF22.ev 8 rfl)) rfl (by decide) fun a23 hF23 => ?_
        refine sq (v := (.string ⟨x.2.toArray⟩)) hF23 (wantedS rfl) (run_mv rfl (hF23.ev 11 rfl)) rfl (by decide) fun a24 hF24 => ?_
        refine sq (v := (.int .i64 (x.2.length : Int))) hF24 (wantedS rfl) (run_len rfl (hF24.ev 72 rfl) rfl Try.underlying9) rfl (by decide) fun a25 hF25 => ?_
        refine sq (v := (.int .i64 (((bytesS (l.take (k + 1))).length - x.2.length : Nat) : Int))) hF25 (wantedS rfl) (run_sub (r := (((bytesS (l.take (k + 1))).length - x.2.length : Nat) : Int)) rfl (hF25.ev 71 rfl) (hF25.ev 73 rfl) (by rw [IntKind.wrap_i64, hst]; omega)) rfl (by decide) fun a26 hF26 => ?_
        refine sq (v := (.string ⟨x.2.toArray⟩)) hF26 (wantedS rfl) (run_mv rfl (hF26.ev 11 rfl)) rfl (by decide) fun a27 hF27 => ?_
        refine sq (v := (.int .i64 (x.2.length : Int))) hF27 (wantedS rfl) (run_len rfl (hF27.ev 75 rfl) rfl Try.underlying9) rfl (by decide) fun a28 hF28 => ?_
        refine sq (v := (.agg #[.string ⟨x.1.toArray⟩, .int .i64 (((bytesS (l.take (k + 1))).length - x.2.length : Nat) : Int), .int .i64 (x.2.length : Int)])) hF28 (wantedS rfl) (run_blt (vs := #[(0, .string ⟨x.1.toArray⟩), (1, .int .i64 (((bytesS (l.take (k + 1))).length - x.2.length : Nat) : Int)), (2, .int .i64 (x.2.length : Int))]) (cs := #[.string ⟨x.1.toArray⟩, .int .i64 (((bytesS (l.take (k + 1))).length - x.2.length : Nat) : Int), .int .i64 (x.2.length : Int)]) rfl (bltE3 (hF28.ev 70 rfl) (hF28.ev 74 rfl) (hF28.ev 76 rfl)) (by kernel_rfl)) rfl (by decide) fun a29 hF29 => ?_
        refine sqRow (cs := #[.string ⟨x.1.toArray⟩, .int .i64 (((bytesS (l.take (k + 1))).length - x.2.length : Nat) : Int), .int .i64 (x.2.length : Int)]) (t := 39) (m := 1) hF29 hM5 (wantedS rfl) (run_places1 rfl (hF29.ev 77 rfl)) rfl (by decide) fun g3 a30 w7 hgg3 hb7 hF30 hM6 => ?_
        have hO6 := hO5.add (S := isB 39 #[.string ⟨x.1.toArray⟩, .int .i64 (((bytesS (l.take (k + 1))).length - x.2.length : Nat) : Int), .int .i64 (x.2.length : Int)]) hb7 hgg3
        refine sqAppend (news := [.string ⟨x.1.toArray⟩, .int .i64 (((bytesS (l.take (k + 1))).length - x.2.length : Nat) : Int), .int .i64 (x.2.length : Int)]) elPlace hF30 hM6 hO6 rfl rfl (hF30.ev 69 rfl) (hF30.ev 78 rfl) rfl (blkNews (hM6.at 0 rfl)) (all_one rfl) (by unfold maxLen; omega) (by omega) rfl (by decide) fun v4 a31 w8 hO7 hM7 hnilv4 hF31 => ?_
        refine sq (v := v4) hF31 (wantedS rfl) (run_as rfl (hF31.ev 79 rfl)) rfl (by decide) fun a32 hF32 => ?_
        refine sqEnd ?_
        clear hF20 hF21 hF22 hF23 hF24 hF25 hF26 hF27 hF28 hF29 hF30 hF31 hM5 hM6
        refine bkEnd ?_
        refine nx ?_
        refine wp_region_lit ?_
        refine sq (v := (.int .i64 ((1 + 2 * k : Nat) : Int))) hF32 (wantedS rfl) (run_mv rfl (hF32.ev 9 rfl)) rfl (by decide) fun a33 hF33 => ?_
        refine sq (v := (.int .i64 ((1 + 2 * (k + 1) : Nat) : Int))) hF33 (wantedS rfl) (run_add (r := ((1 + 2 * (k + 1) : Nat) : Int)) rfl (hF33.ev 45 rfl) rfl (by rw [IntKind.wrap_i64]; omega)) rfl (by decide) fun a34 hF34 => ?_
        refine sq (v := (.int .i64 ((1 + 2 * (k + 1) : Nat) : Int))) hF34 (wantedS rfl) (run_as rfl (hF34.ev 46 rfl)) rfl (by decide) fun a35 hF35 => ?_
        refine sqEnd ?_
        clear hF32 hF33 hF34
        refine nx ?_
        refine ⟨_, by omega, k + 1, v4, by omega, rfl, ?_, ?_, hF35.sub ⟨rfl, rfl, rfl, ?_, rfl, trivial⟩, ?_⟩
        · rw [map_snoc l k hx, hnms]; exact hnm
        · rw [map_snoc l k hx, hnms, placesTo_snoc l k hx, List.length_append, List.flatMap_append]; exact hO7.sub (.cons _ (.cons_cons _ (.cons_cons _ .slnil)))
        · rw [hst]; rfl
        · rw [map_snoc l k hx, hnms]; exact hM7.sub (.cons _ (.cons_cons _ (.cons_cons _ .slnil)))
    · rw [if_neg hmay] at hnm
      have hno := ofS_no hT (.inr (.inr (.inr (.inr (by rw [hl, hnm]; exact hmay)))))
      refine wp_seq ?_
      refine wp_seq ?_
      refine wp_region_lit ?_
      refine sq (v := (.int .i64 ((1 + 2 * k : Nat) : Int))) hF0 (wantedS rfl) (run_mv rfl (hF0.ev 9 rfl)) rfl (by decide) fun a1 hF1 => ?_
      refine sq (v := (.slice (some ⟨gt, 0, none⟩) X.length ct)) hF1 (wantedS rfl) (run_mv rfl (hF1.ev 4 rfl)) rfl (by decide) fun a2 hF2 => ?_
      refine sq (v := (.int .i64 (X.length : Int))) hF2 (wantedS rfl) (run_lenS rfl (hF2.ev 42 rfl) (slOfRow (c := ct) (hM0.ob 1 rfl)) rfl Try.underlying42) rfl (by decide) fun a3 hF3 => ?_
      refine sq (v := (.bool true)) hF3 (wantedS rfl) (run_lss rfl (hF3.ev 41 rfl) (hF3.ev 43 rfl) (decide_eq_true (by omega))) rfl (by decide) fun a4 hF4 => ?_
      refine sqEnd ?_
      clear hF0 hF1 hF2 hF3
      refine nx ?_
      refine wp_cond_true (hF4.ev 44 rfl) ?_
      refine wp_skip ?_
      refine nx ?_
      refine wp_seq ?_
      refine wp_block ?_
      refine wp_seq ?_
      obtain ⟨KL, hKL⟩ : ∃ KL, KL = [kval (.slice (some ⟨gt, 0, none⟩) X.length ct), kval (.int .i64 ((1 + 2 * k : Nat) : Int)), kval (slPtr (.slice (some ⟨gt, 0, none⟩) X.length ct) ((1 + 2 * k) * 1)), kval (.string ⟨x.1.toArray⟩), kval (.slice (some ⟨gt, 0, none⟩) X.length ct), kval (.int .i64 ((1 + 2 * k : Nat) : Int)), kval (.int .i64 ((1 + 2 * k + 1 : Nat) : Int)), kval (slPtr (.slice (some ⟨gt, 0, none⟩) X.length ct) ((1 + 2 * k + 1) * 1)), kval (.string ⟨x.2.toArray⟩), kval (.string ⟨x.1.toArray⟩), kval (.string ⟨x.2.toArray⟩)] := ⟨_, rfl⟩
      have K0 : KL.getD 0 kany = kval (.slice (some ⟨gt, 0, none⟩) X.length ct) := by rw [hKL]; rfl
      have K1 : KL.getD 1 kany = kval (.int .i64 ((1 + 2 * k : Nat) : Int)) := by rw [hKL]; rfl
      have K2 : KL.getD 2 kany = kval (slPtr (.slice (some ⟨gt, 0, none⟩) X.length ct) ((1 + 2 * k) * 1)) := by rw [hKL]; rfl
      have K3 : KL.getD 3 kany = kval (.string ⟨x.1.toArray⟩) := by rw [hKL]; rfl
      have K4 : KL.getD 4 kany = kval (.slice (some ⟨gt, 0, none⟩) X.length ct) := by rw [hKL]; rfl
      have K5 : KL.getD 5 kany = kval (.int .i64 ((1 + 2 * k : Nat) : Int)) := by rw [hKL]; rfl
      have K6 : KL.getD 6 kany = kval (.int .i64 ((1 + 2 * k + 1 : Nat) : Int)) := by rw [hKL]; rfl
      have K7 : KL.getD 7 kany = kval (slPtr (.slice (some ⟨gt, 0, none⟩) X.length ct) ((1 + 2 * k + 1) * 1)) := by rw [hKL]; rfl
      have K8 : KL.getD 8 kany = kval (.string ⟨x.2.toArray⟩) := by rw [hKL]; rfl
      have K9 : KL.getD 9 kany = kval (.string ⟨x.1.toArray⟩) := by rw [hKL]; rfl
      have K10 : KL.getD 10 kany = kval (.string ⟨x.2.toArray⟩) := by rw [hKL]; rfl
      clear hKL
      refine wp_region_kd 81 (by kernel_rfl) (by kernel_rfl) (by kernel_rfl) hF4.size KL ?_ ?_
      · refine ⟨?_, ?_, ?_, ?_, ?_, ?_, ?_, ?_, ?_, ?_, ?_, trivial⟩
        · refine asks_mk fun a W hS hh hd => ⟨wanted_yes rfl, ?_⟩
          exact giv_run (run_mv rfl (eval_tmp (hh 4 _ rfl (hF4.at 4 rfl)))) K0
        · refine asks_mk fun a W hS hh hd => ⟨wanted_yes rfl, ?_⟩
          exact giv_run (run_mv rfl (eval_tmp (hh 9 _ rfl (hF4.at 9 rfl)))) K1
        · refine asks_mk fun a W hS hh hd => ⟨wanted_yes rfl, ?_⟩
          exact giv_run (run_atP (i := (1 + 2 * k)) rfl (eval_tmp (hd.val (j := 0) (s := 47) (by kernel_rfl) K0)) (eval_tmp (hd.val (j := 1) (s := 48) (by kernel_rfl) K1)) rfl (slOfRow (c := ct) ((hM0.grow hS).ob 1 rfl)) (by omega) elStr.un (by kernel_rfl)) K2
        · refine asks_mk fun a W hS hh hd => ⟨wanted_yes rfl, ?_⟩
          exact giv_run (run_ldP rfl (eval_tmp (hd.val (j := 2) (s := 49) (by kernel_rfl) K2)) (slOfRow (c := ct) ((hM0.grow hS).ob 1 rfl)) (map_at hx1) (by kernel_rfl)) K3
        · refine asks_mk fun a W hS hh hd => ⟨wanted_yes rfl, ?_⟩
          exact giv_run (run_mv rfl (eval_tmp (hh 4 _ rfl (hF4.at 4 rfl)))) K4
        · refine asks_mk fun a W hS hh hd => ⟨wanted_yes rfl, ?_⟩
          exact giv_run (run_mv rfl (eval_tmp (hh 9 _ rfl (hF4.at 9 rfl)))) K5
        · refine asks_mk fun a W hS hh hd => ⟨wanted_yes rfl, ?_⟩
          exact giv_run (run_add (r := ((1 + 2 * k + 1 : Nat) : Int)) rfl (eval_tmp (hd.val (j := 5) (s := 52) (by kernel_rfl) K5)) rfl (by rw [IntKind.wrap_i64]; omega)) K6
        · refine asks_mk fun a W hS hh hd => ⟨wanted_yes rfl, ?_⟩
          exact giv_run (run_atP (i := (1 + 2 * k + 1)) rfl (eval_tmp (hd.val (j := 4) (s := 51) (by kernel_rfl) K4)) (eval_tmp (hd.val (j := 6) (s := 53) (by kernel_rfl) K6)) rfl (slOfRow (c := ct) ((hM0.grow hS).ob 1 rfl)) (by omega) elStr.un (by kernel_rfl)) K7
        · refine asks_mk fun a W hS hh hd => ⟨wanted_yes rfl, ?_⟩
          exact giv_run (run_ldP rfl (eval_tmp (hd.val (j := 7) (s := 54) (by kernel_rfl) K7)) (slOfRow (c := ct) ((hM0.grow hS).ob 1 rfl)) (map_at hx2) (by kernel_rfl)) K8
        · refine asks_mk fun a W hS hh hd => ⟨wanted_yes rfl, ?_⟩
          exact giv_run (run_as rfl (eval_tmp (hd.val (j := 3) (s := 50) (by kernel_rfl) K3))) K9
        · refine asks_mk fun a W hS hh hd => ⟨wanted_yes rfl, ?_⟩
          exact giv_run (run_as rfl (eval_tmp (hd.val (j := 8) (s := 55) (by kernel_rfl) K8))) K10
      · intro a5 w2 hb2 hK
        have e0 := hK.val (i := 0) (s := 47) (by kernel_rfl) K0
        have e1 := hK.val (i := 1) (s := 48) (by kernel_rfl) K1
        have e2 := hK.val (i := 2) (s := 49) (by kernel_rfl) K2
        have e3 := hK.val (i := 3) (s := 50) (by kernel_rfl) K3
        have e4 := hK.val (i := 4) (s := 51) (by kernel_rfl) K4
        have e5 := hK.val (i := 5) (s := 52) (by kernel_rfl) K5
        have e6 := hK.val (i := 6) (s := 53) (by kernel_rfl) K6
        have e7 := hK.val (i := 7) (s := 54) (by kernel_rfl) K7
        have e8 := hK.val (i := 8) (s := 55) (by kernel_rfl) K8
        have e9 := hK.val (i := 9) (s := 10) (by kernel_rfl) K9
        have e10 := hK.val (i := 10) (s := 11) (by kernel_rfl) K10
        have hF5 : Fr a5 81 [(4, (.slice (some ⟨gt, 0, none⟩) X.length ct)), (6, (.map (some g2))), (7, r), (8, (.int .i64 ((bytesS (l.take k)).length : Int))), (9, (.int .i64 ((1 + 2 * k : Nat) : Int))), (10, (.string ⟨x.1.toArray⟩)), (11, (.string ⟨x.2.toArray⟩)), (41, (.int .i64 ((1 + 2 * k : Nat) : Int))), (42, (.slice (some ⟨gt, 0, none⟩) X.length ct)), (43, (.int .i64 (X.length : Int))), (44, (.bool true))] := (hK.fr hF4 [(.slice (some ⟨gt, 0, none⟩) X.length ct), (.int .i64 ((1 + 2 * k : Nat) : Int)), (slPtr (.slice (some ⟨gt, 0, none⟩) X.length ct) ((1 + 2 * k) * 1)), (.string ⟨x.1.toArray⟩), (.slice (some ⟨gt, 0, none⟩) X.length ct), (.int .i64 ((1 + 2 * k : Nat) : Int)), (.int .i64 ((1 + 2 * k + 1 : Nat) : Int)), (slPtr (.slice (some ⟨gt, 0, none⟩) X.length ct) ((1 + 2 * k + 1) * 1)), (.string ⟨x.2.toArray⟩), (.string ⟨x.1.toArray⟩), (.string ⟨x.2.toArray⟩)] ⟨e0, e1, e2, e3, e4, e5, e6, e7, e8, e9, e10, trivial⟩).sub ⟨rfl, rfl, rfl, rfl, rfl, rfl, rfl, rfl, rfl, rfl, rfl, trivial⟩
        have hM1 := hM0.grow hb2
        have hO1 := hO0.grow hb2
        clear hK K0 e0 K1 e1 K2 e2 K3 e3 K4 e4 K5 e5 K6 e6 K7 e7 K8 e8 K9 e9 K10 e10
        clear hF4 hM0
        refine nx ?_
        refine wp_seq ?_
        refine wp_seq ?_
        refine wp_region_lit ?_
        refine sq (v := (.map (some g2))) hF5 (wantedS rfl) (run_mv rfl (hF5.ev 6 rfl)) rfl (by decide) fun a6 hF6 => ?_
        refine sq (v := (.string ⟨x.1.toArray⟩)) hF6 (wantedS rfl) (run_mv rfl (hF6.ev 10 rfl)) rfl (by decide) fun a7 hF7 => ?_
        refine sqC (v := (.int .i64 (mayS nms x.1))) hF7 hM1 (wantedS rfl) (run_call rfl Try.func13 (by kernel_rfl) rfl (mapE2 (hF7.ev 56 rfl) (hF7.ev 57 rfl))) rfl (by decide) (may_any g2 nms x.1 w2 (hM1.ob 0 rfl) (by first | omega | decide | (simp; omega))) fun a8 w3 hb3 hF8 hM2 => ?_
        have hO2 := hO1.grow hb3
        refine sq (v := (.bool true)) hF8 (wantedS rfl) (run_nei rfl (hF8.ev 58 rfl) rfl (bne_iff_ne.2 (by omega))) rfl (by decide) fun a9 hF9 => ?_
        refine sqEnd ?_
        clear hF5 hF6 hF7 hF8 hM1
        refine nx ?_
        refine wp_cond_true (hF9.ev 59 rfl) ?_
        refine wp_seq ?_
        refine wp_region_lit ?_
        refine sq (v := (.slice none 0 0)) hF9 (wantedS rfl) (run_as rfl rfl) rfl (by decide) fun a10 hF10 => ?_
        refine sq (v := (.int .i64 3)) hF10 (wantedS rfl) (run_as rfl rfl) rfl (by decide) fun a11 hF11 => ?_
        refine sqEnd ?_
        clear hF9 hF10
        refine nx ?_
        refine wp_ret ?_
        refine nxRet ?_
        refine bkRet ?_
        refine nxRet ?_
        refine nxRet ?_
        refine bkRet ?_
        refine nxRet ?_
        exact ret2 hF11 rfl rfl rfl ⟨_, rfl, by unfold OfR; rw [hno]; exact ⟨_, rfl, own_none _ _ _ _⟩, hM2.below⟩
  · have hke : k = l.length := by omega
    have hn0 : namesS l = 0 := by rw [hnm, hke, List.drop_length]; rfl
    have hyes : ofS b = some l := by rw [ofS_ok hT ?_, hl]; rw [hl, hn0, List.head?_eq_getElem?, hy, hh]; simp; omega
    rw [hke] at hO0
    refine wp_seq ?_
    refine wp_seq ?_
    refine wp_region_lit ?_
    refine sq (v := (.int .i64 ((1 + 2 * k : Nat) : Int))) hF0 (wantedS rfl) (run_mv rfl (hF0.ev 9 rfl)) rfl (by decide) fun a1 hF1 => ?_
    refine sq (v := (.slice (some ⟨gt, 0, none⟩) X.length ct)) hF1 (wantedS rfl) (run_mv rfl (hF1.ev 4 rfl)) rfl (by decide) fun a2 hF2 => ?_
    refine sq (v := (.int .i64 (X.length : Int))) hF2 (wantedS rfl) (run_lenS rfl (hF2.ev 42 rfl) (slOfRow (c := ct) (hM0.ob 1 rfl)) rfl Try.underlying42) rfl (by decide) fun a3 hF3 => ?_
    refine sq (v := (.bool false)) hF3 (wantedS rfl) (run_lss rfl (hF3.ev 41 rfl) (hF3.ev 43 rfl) (decide_eq_false (by omega))) rfl (by decide) fun a4 hF4 => ?_
    refine sqEnd ?_
    clear hF0 hF1 hF2 hF3
    refine nx ?_
    refine wp_cond_false (hF4.ev 44 rfl) ?_
    refine wp_exit ?_
    refine nxExit ?_
    refine nxExit ?_
    refine bkHere ?_
    refine nx ?_
    refine wp_seq ?_
    refine wp_region_lit ?_
    refine sq (v := r) hF4 (wantedS rfl) (run_mv rfl (hF4.ev 7 rfl)) rfl (by decide) fun a5 hF5 => ?_
    refine sq (v := r) hF5 (wantedS rfl) (run_as rfl (hF5.ev 80 rfl)) rfl (by decide) fun a6 hF6 => ?_
    refine sq (v := (.int .i64 0)) hF6 (wantedS rfl) (run_as rfl rfl) rfl (by decide) fun a7 hF7 => ?_
    refine sqEnd ?_
    clear hF4 hF5 hF6
    refine nx ?_
    refine wp_ret ?_
    exact ret2 hF7 rfl rfl rfl ⟨_, rfl, by unfold OfR; rw [hyes]; exact ⟨r, rfl, hO0.owns⟩, hM0.below⟩
end Go.Proofs.Ytnkklogkjnfjgaa
