/- The walk of pack.Take. Printed by gen_pack5.py. -/
import Derived.Test.YtnkklogkjnfjgaaPack4
namespace Go.Proofs.Ytnkklogkjnfjgaa
open Go.RowKit

theorem pof_none {b : List UInt8} (h : ofS b = none) (w : World) (hb : b.length < 2 ^ 42) : Calls Try.prog 9 #[.string ⟨b.toArray⟩] w fun x w' => ∃ u, x = .returned u ∧ (∃ v, u = .tuple #[v, .int .i64 3] ∧ w'.ownsRow w.heap.size 39 3 v 0 []) ∧ Below w.heap.size w w' :=
  (pof_any b w hb).mono fun x w' ⟨u, h1, h2, h3⟩ => by unfold OfR at h2; rw [h] at h2; exact ⟨u, h1, h2, h3⟩
theorem pof_some {b : List UInt8} {l : List Bx} (h : ofS b = some l) (w : World) (hb : b.length < 2 ^ 42) : Calls Try.prog 9 #[.string ⟨b.toArray⟩] w fun x w' => ∃ u, x = .returned u ∧ (∃ v, u = .tuple #[v, .int .i64 0] ∧ w'.ownsRow w.heap.size 39 3 v (placesS l).length ((placesS l).flatMap placeC)) ∧ Below w.heap.size w w' :=
  (pof_any b w hb).mono fun x w' ⟨u, h1, h2, h3⟩ => by unfold OfR at h2; rw [h] at h2; exact ⟨u, h1, h2, h3⟩
theorem takeS_none {b nm : List UInt8} (h : ofS b = none) : takeS b nm = (([], []), 3) := by unfold takeS; rw [h]
theorem takeS_some {b nm : List UInt8} {l : List Bx} {x : Bx} (h : ofS b = some l) (hf : (l.find? fun x => x.1 == nm) = some x) : takeS b nm = (x, 0) := by unfold takeS; rw [h]; dsimp only; rw [hf]
theorem takeS_miss {b nm : List UInt8} {l : List Bx} (h : ofS b = some l) (hf : (l.find? fun x => x.1 == nm) = none) : takeS b nm = (([], []), 9) := by unfold takeS; rw [h]; dsimp only; rw [hf]
set_option maxRecDepth 100000 in
set_option maxHeartbeats 1000000 in
theorem ptake_any (b nm : List UInt8) (w : World) (hb : b.length < 2 ^ 42) : Calls Try.prog 11 #[.string ⟨b.toArray⟩, .string ⟨nm.toArray⟩] w fun e w' => e = .returned (.tuple #[.agg (boxC (takeS b nm).1).toArray, .int .i64 (takeS b nm).2]) ∧ Below w.heap.size w w' := by
  cases hno : ofS b with
  | none =>
    have htk := takeS_none (nm := nm) hno
    refine walk_enter Try.func11 rfl rfl rfl fun a0 hF0 => ?_
    have hM0 := Mem.new w
    refine wp_seq ?_
    refine wp_region_lit ?_
    refine sqNew (cs := #[.string ⟨List.toArray []⟩, .string ⟨List.toArray []⟩]) (t := 29) hF0 hM0 (wantedS rfl) (run_alloc rfl (by kernel_rfl)) rfl (by decide) fun g0 a1 w1 hgg0 hb1 hF1 hM1 => ?_
    refine sq (v := (.int .i64 0)) hF1 (wantedS rfl) (run_as rfl rfl) rfl (by decide) fun a2 hF2 => ?_
    refine sqEnd ?_
    clear hF0 hF1 hM0
    refine nx ?_
    refine wp_seq ?_
    refine wp_region_lit ?_
    refine sq (v := (.string ⟨b.toArray⟩)) hF2 (wantedS rfl) (run_mv rfl (hF2.ev 0 rfl)) rfl (by decide) fun a3 hF3 => ?_
    refine sqT (T := fun u wx => (∃ v, u = .tuple #[v, .int .i64 3] ∧ wx.ownsRow w1.heap.size 39 3 v 0 []) ∧ Below w1.heap.size w1 wx) hF3 (wantedS rfl) (run_call rfl Try.func9 (by kernel_rfl) rfl (mapE1 (hF3.ev 11 rfl))) rfl (by decide) (pof_none hno w1 hb) fun u1 a4 w2 hT2 hF4 => ?_
    obtain ⟨⟨v2, rfl, hr2⟩, hb2⟩ := hT2
    have hO1 := OwnR.ofCall hM1 hr2
    have hM2 := hM1.grow hb2
    refine sq (v := (.tuple #[v2, (.int .i64 3)])) hF4 (wantedS rfl) (run_mv rfl (hF4.ev 12 rfl)) rfl (by decide) fun a5 hF5 => ?_
    refine sq (v := v2) hF5 (wantedS rfl) (run_ext rfl (hF5.ev 10 rfl) rfl) rfl (by decide) fun a6 hF6 => ?_
    refine sq (v := (.int .i64 3)) hF6 (wantedS rfl) (run_ext rfl (hF6.ev 10 rfl) rfl) rfl (by decide) fun a7 hF7 => ?_
    refine sq (v := v2) hF7 (wantedS rfl) (run_as rfl (hF7.ev 13 rfl)) rfl (by decide) fun a8 hF8 => ?_
    refine sq (v := (.int .i64 3)) hF8 (wantedS rfl) (run_as rfl (hF8.ev 14 rfl)) rfl (by decide) fun a9 hF9 => ?_
    refine sqEnd ?_
    clear hF2 hF3 hF4 hF5 hF6 hF7 hF8 hM1
    refine nx ?_
    refine wp_seq ?_
    refine wp_seq ?_
    refine wp_region_lit ?_
    refine sq (v := (.int .i64 3)) hF9 (wantedS rfl) (run_mv rfl (hF9.ev 7 rfl)) rfl (by decide) fun a10 hF10 => ?_
    refine sq (v := (.bool true)) hF10 (wantedS rfl) (run_nei rfl (hF10.ev 15 rfl) rfl (bne_iff_ne.2 (by omega))) rfl (by decide) fun a11 hF11 => ?_
    refine sqEnd ?_
    clear hF9 hF10
    refine nx ?_
    refine wp_cond_true (hF11.ev 16 rfl) ?_
    refine wp_seq ?_
    refine wp_region_lit ?_
    refine sq (v := (.agg #[.string ⟨List.toArray []⟩, .string ⟨List.toArray []⟩])) hF11 (wantedS rfl) (run_blt (vs := #[]) (cs := #[.string ⟨List.toArray []⟩, .string ⟨List.toArray []⟩]) rfl (by simp) (by kernel_rfl)) rfl (by decide) fun a12 hF12 => ?_
    refine sq (v := (.int .i64 3)) hF12 (wantedS rfl) (run_mv rfl (hF12.ev 7 rfl)) rfl (by decide) fun a13 hF13 => ?_
    refine sqStoreG (i := 0) hF13 hM2 rfl rfl rfl (hF13.ev 4 rfl) (hF13.ev 17 rfl) rfl szBox rfl rfl (arr_one rfl) fun a14 w3 hgr3 hF14 hM3 => ?_
    have hO2 := hO1.upd 0 (S2 := isB 29 (#[.string ⟨List.toArray []⟩, .string ⟨List.toArray []⟩])) rfl hgr3
    refine sq (v := (.int .i64 3)) hF14 (wantedS rfl) (run_as rfl (hF14.ev 18 rfl)) rfl (by decide) fun a15 hF15 => ?_
    refine sqEnd ?_
    clear hF11 hF12 hF13 hF14 hM2
    refine nx ?_
    refine wp_ret ?_
    refine nxRet ?_
    exact retBT hF15 rfl rfl (hM3.at 0 rfl) Try.underlying29 rfl szBox rfl rfl ⟨by rw [htk]; rfl, hM3.below⟩
  | some l =>
    have hyes := hno
    obtain ⟨_, hby, hb6, _, hne⟩ := ofS_some hno
    obtain ⟨Z, hZ⟩ : ∃ Z, placesS l = Z := ⟨_, rfl⟩
    have hZl : Z.length = l.length := by rw [← hZ]; exact placesTo_len l l.length (Nat.le_refl _)
    have hlb : l.length ≤ b.length := by
      have := rowS_ge (hibp :: textsB l)
      rw [List.length_cons, textsB_len] at this
      rw [← hby]; unfold bytesS; omega
    refine walk_enter Try.func11 rfl rfl rfl fun a0 hF0 => ?_
    have hM0 := Mem.new w
    refine wp_seq ?_
    refine wp_region_lit ?_
    refine sqNew (cs := #[.string ⟨List.toArray []⟩, .string ⟨List.toArray []⟩]) (t := 29) hF0 hM0 (wantedS rfl) (run_alloc rfl (by kernel_rfl)) rfl (by decide) fun g0 a1 w1 hgg0 hb1 hF1 hM1 => ?_
    refine sq (v := (.int .i64 0)) hF1 (wantedS rfl) (run_as rfl rfl) rfl (by decide) fun a2 hF2 => ?_
    refine sqEnd ?_
    clear hF0 hF1 hM0
    refine nx ?_
    refine wp_seq ?_
    refine wp_region_lit ?_
    refine sq (v := (.string ⟨b.toArray⟩)) hF2 (wantedS rfl) (run_mv rfl (hF2.ev 0 rfl)) rfl (by decide) fun a3 hF3 => ?_
    refine sqT (T := fun u wx => (∃ v, u = .tuple #[v, .int .i64 0] ∧ wx.ownsRow w1.heap.size 39 3 v Z.length (Z.flatMap placeC)) ∧ Below w1.heap.size w1 wx) hF3 (wantedS rfl) (run_call rfl Try.func9 (by kernel_rfl) rfl (mapE1 (hF3.ev 11 rfl))) rfl (by decide) (by rw [← hZ]; exact pof_some hyes w1 hb) fun u1 a4 w2 hT2 hF4 => ?_
    obtain ⟨⟨v2, rfl, hr2⟩, hb2⟩ := hT2
    have hO1 := OwnR.ofCall hM1 hr2
    have hM2 := hM1.grow hb2
    refine sq (v := (.tuple #[v2, (.int .i64 0)])) hF4 (wantedS rfl) (run_mv rfl (hF4.ev 12 rfl)) rfl (by decide) fun a5 hF5 => ?_
    refine sq (v := v2) hF5 (wantedS rfl) (run_ext rfl (hF5.ev 10 rfl) rfl) rfl (by decide) fun a6 hF6 => ?_
    refine sq (v := (.int .i64 0)) hF6 (wantedS rfl) (run_ext rfl (hF6.ev 10 rfl) rfl) rfl (by decide) fun a7 hF7 => ?_
    refine sq (v := v2) hF7 (wantedS rfl) (run_as rfl (hF7.ev 13 rfl)) rfl (by decide) fun a8 hF8 => ?_
    refine sq (v := (.int .i64 0)) hF8 (wantedS rfl) (run_as rfl (hF8.ev 14 rfl)) rfl (by decide) fun a9 hF9 => ?_
    refine sqEnd ?_
    clear hF2 hF3 hF4 hF5 hF6 hF7 hF8 hM1
    refine nx ?_
    refine wp_seq ?_
    refine wp_seq ?_
    refine wp_region_lit ?_
    refine sq (v := (.int .i64 0)) hF9 (wantedS rfl) (run_mv rfl (hF9.ev 7 rfl)) rfl (by decide) fun a10 hF10 => ?_
    refine sq (v := (.bool false)) hF10 (wantedS rfl) (run_nei rfl (hF10.ev 15 rfl) rfl (bne_eq_false_iff_eq.2 (by omega))) rfl (by decide) fun a11 hF11 => ?_
    refine sqEnd ?_
    clear hF9 hF10
    refine nx ?_
    refine wp_cond_false (hF11.ev 16 rfl) ?_
    refine wp_skip ?_
    refine nx ?_
    refine wp_seq ?_
    refine wp_seq ?_
    refine wp_region_lit ?_
    refine sq (v := v2) hF11 (wantedS rfl) (run_mv rfl (hF11.ev 6 rfl)) rfl (by decide) fun a12 hF12 => ?_
    refine sq (v := (.int .i64 (Z.length : Int))) hF12 (wantedS rfl) (run_lenS rfl (hF12.ev 19 rfl) (Sl.own hO1) rfl Try.underlying32) rfl (by decide) fun a13 hF13 => ?_
    refine sq (v := (.int .i64 0)) hF13 (wantedS rfl) (run_mv rfl rfl) rfl (by decide) fun a14 hF14 => ?_
    refine sqEnd ?_
    clear hF11 hF12 hF13
    refine nx ?_
    refine wp_block ?_
    refine wkLoop (fun m a w2 => ∃ i : Nat, i ≤ l.length ∧ m = l.length - i ∧ (l.find? fun x => x.1 == nm) = ((l.drop i).find? fun x => x.1 == nm) ∧ OwnR w [(g0, isB 29 #[.string ⟨List.toArray []⟩, .string ⟨List.toArray []⟩])] w2 39 3 v2 Z.length (Z.flatMap placeC) ∧ Fr a 42 [(0, .string ⟨b.toArray⟩), (1, .string ⟨nm.toArray⟩), (4, .pointer (some ⟨g0, 0, none⟩)), (19, v2), (20, .int .i64 (Z.length : Int)), (21, .int .i64 (i : Int))] ∧ Mem w [(g0, isB 29 #[.string ⟨List.toArray []⟩, .string ⟨List.toArray []⟩])] w2) l.length ⟨0, Nat.zero_le _, rfl, rfl, hO1, hF14.sub ⟨rfl, rfl, rfl, rfl, rfl, rfl, trivial⟩, hM2⟩ ?_
    rintro m a0 w1 ⟨i, hi, rfl, hfd, hO0, hF0, hM0⟩
    by_cases hlt : i < l.length
    · obtain ⟨x, hx⟩ : ∃ x, l[i]? = some x := ⟨l[i], by simp [hlt]⟩
      have hp := placesTo_at l l.length i x hlt (Nat.le_refl _) hx
      rw [show placesTo l l.length = Z from hZ] at hp
      obtain ⟨hc1, hc2, hc3⟩ := place_cut l i hx
      rw [hby] at hc2 hc3
      obtain ⟨p, hpe⟩ : ∃ p, placeOf l i x = p := ⟨_, rfl⟩
      rw [hpe] at hp
      have hp1 : p.1 = x.1 := by rw [← hpe]; rfl
      have hp2 : p.2.1 = (bytesS (l.take (i + 1))).length - x.2.length := by rw [← hpe]; rfl
      have hp3 : p.2.2 = x.2.length := by rw [← hpe]; rfl
      rw [find_step l nm i hx] at hfd
      by_cases hnm : x.1 = nm
      · rw [if_pos hnm] at hfd
        have htk := takeS_some hyes hfd
        have hcut : (b.drop p.2.1).take (p.2.1 + p.2.2 - p.2.1) = x.2 := by rw [Nat.add_sub_cancel_left, hp2, hp3]; exact hc3
        refine wp_seq ?_
        refine wp_region_lit ?_
        refine sq (v := (.bool true)) hF0 (wantedS rfl) (run_lss rfl (hF0.ev 21 rfl) (hF0.ev 20 rfl) (decide_eq_true (by omega))) rfl (by decide) fun a1 hF1 => ?_
        refine sqEnd ?_
        clear hF0
        refine nx ?_
        refine wp_seq ?_
        refine wp_cond_true (hF1.ev 22 rfl) ?_
        refine wp_skip ?_
        refine nx ?_
        refine wp_seq ?_
        refine wp_block ?_
        refine wp_seq ?_
        refine wp_region_lit ?_
        refine sq (v := (slPtr v2 (i * 3))) hF1 (wantedS rfl) (run_atP (i := i) rfl (hF1.ev 19 rfl) (hF1.ev 21 rfl) rfl (Sl.own hO0) (by omega) elPlace.un (by kernel_rfl)) rfl (by decide) fun a2 hF2 => ?_
        refine sq (v := (.agg #[.string ⟨p.1.toArray⟩, .int .i64 (p.2.1 : Int), .int .i64 (p.2.2 : Int)])) hF2 (wantedS rfl) (run_ldPS (ys := placeC p) rfl (hF2.ev 23 rfl) (Sl.own hO0) (by omega) (fun j u hj => flat_at placeC_len hp j hj) (by kernel_rfl) (by kernel_rfl)) rfl (by decide) fun a3 hF3 => ?_
        refine sqNew (cs := #[.string ⟨List.toArray []⟩, .int .i64 0, .int .i64 0]) (t := 39) hF3 hM0 (wantedS rfl) (run_alloc rfl (by kernel_rfl)) rfl (by decide) fun g3 a4 w2 hgg3 hb2 hF4 hM1 => ?_
        have hO1 := hO0.add (S := isB 39 (#[.string ⟨List.toArray []⟩, .int .i64 0, .int .i64 0])) hb2 hgg3
        refine sqStoreG (i := 0) hF4 hM1 rfl rfl rfl (hF4.ev 9 rfl) (hF4.ev 24 rfl) rfl szPlace rfl rfl (arr_one rfl) fun a5 w3 hgr3 hF5 hM2 => ?_
        have hO2 := hO1.upd 0 (S2 := isB 39 (#[.string ⟨p.1.toArray⟩, .int .i64 (p.2.1 : Int), .int .i64 (p.2.2 : Int)])) rfl hgr3
        refine sqEnd ?_
        clear hF1 hF2 hF3 hF4 hM0 hM1
        refine nx ?_
        refine wp_seq ?_
        refine wp_region_lit ?_
        refine sq (v := (.pointer (some ⟨g3, 0, none⟩))) hF5 (wantedS rfl) (run_fldA (m := 1) (s := 0) rfl (hF5.ev 9 rfl) Try.underlying39 rfl rfl (by kernel_rfl) (by decide)) rfl (by decide) fun a6 hF6 => ?_
        refine sq (v := (.string ⟨p.1.toArray⟩)) hF6 (wantedS rfl) (run_ldF rfl (hF6.ev 25 rfl) (hM2.at 0 rfl) rfl (by kernel_rfl)) rfl (by decide) fun a7 hF7 => ?_
        refine sq (v := (.string ⟨nm.toArray⟩)) hF7 (wantedS rfl) (run_mv rfl (hF7.ev 1 rfl)) rfl (by decide) fun a8 hF8 => ?_
        refine sq (v := (.bool true)) hF8 (wantedS rfl) (run_eqs rfl (hF8.ev 26 rfl) (hF8.ev 27 rfl) (beq_iff_eq.2 (hp1.trans hnm))) rfl (by decide) fun a9 hF9 => ?_
        refine sqEnd ?_
        clear hF5 hF6 hF7 hF8
        refine nx ?_
        refine wp_cond_true (hF9.ev 28 rfl) ?_
        refine wp_seq ?_
        refine wp_region_lit ?_
        refine sq (v := (.string ⟨nm.toArray⟩)) hF9 (wantedS rfl) (run_mv rfl (hF9.ev 1 rfl)) rfl (by decide) fun a10 hF10 => ?_
        refine sq (v := (.string ⟨b.toArray⟩)) hF10 (wantedS rfl) (run_mv rfl (hF10.ev 0 rfl)) rfl (by decide) fun a11 hF11 => ?_
        refine sq (v := (.pointer (some ⟨g3, 1, none⟩))) hF11 (wantedS rfl) (run_fldA (m := 1) (s := 1) rfl (hF11.ev 9 rfl) Try.underlying39 rfl rfl (by kernel_rfl) (by decide)) rfl (by decide) fun a12 hF12 => ?_
        refine sq (v := (.int .i64 (p.2.1 : Int))) hF12 (wantedS rfl) (run_ldF rfl (hF12.ev 31 rfl) (hM2.at 0 rfl) rfl (by kernel_rfl)) rfl (by decide) fun a13 hF13 => ?_
        refine sq (v := (.pointer (some ⟨g3, 1, none⟩))) hF13 (wantedS rfl) (run_fldA (m := 1) (s := 1) rfl (hF13.ev 9 rfl) Try.underlying39 rfl rfl (by kernel_rfl) (by decide)) rfl (by decide) fun a14 hF14 => ?_
        refine sq (v := (.int .i64 (p.2.1 : Int))) hF14 (wantedS rfl) (run_ldF rfl (hF14.ev 33 rfl) (hM2.at 0 rfl) rfl (by kernel_rfl)) rfl (by decide) fun a15 hF15 => ?_
        refine sq (v := (.pointer (some ⟨g3, 2, none⟩))) hF15 (wantedS rfl) (run_fldA (m := 1) (s := 2) rfl (hF15.ev 9 rfl) Try.underlying39 rfl rfl (by kernel_rfl) (by decide)) rfl (by decide) fun a16 hF16 => ?_
        refine sq (v := (.int .i64 (p.2.2 : Int))) hF16 (wantedS rfl) (run_ldF rfl (hF16.ev 35 rfl) (hM2.at 0 rfl) rfl (by kernel_rfl)) rfl (by decide) fun a17 hF17 => ?_
        refine sq (v := (.int .i64 ((p.2.1 + p.2.2 : Nat) : Int))) hF17 (wantedS rfl) (run_add (r := ((p.2.1 + p.2.2 : Nat) : Int)) rfl (hF17.ev 34 rfl) (hF17.ev 36 rfl) (by rw [IntKind.wrap_i64]; omega)) rfl (by decide) fun a18 hF18 => ?_
        refine sq (v := (.string ⟨x.2.toArray⟩)) hF18 (wantedS rfl) (run_sMidE (m := p.2.1) (m2 := (p.2.1 + p.2.2)) hcut rfl (hF18.ev 30 rfl) (hF18.ev 32 rfl) (hF18.ev 37 rfl) Try.underlying9 rfl rfl (by omega) (by omega)) rfl (by decide) fun a19 hF19 => ?_
        refine sq (v := (.agg #[.string ⟨nm.toArray⟩, .string ⟨x.2.toArray⟩])) hF19 (wantedS rfl) (run_blt (vs := #[(0, .string ⟨nm.toArray⟩), (1, .string ⟨x.2.toArray⟩)]) (cs := #[.string ⟨nm.toArray⟩, .string ⟨x.2.toArray⟩]) rfl (bltE2 (hF19.ev 29 rfl) (hF19.ev 38 rfl)) (by kernel_rfl)) rfl (by decide) fun a20 hF20 => ?_
        refine sqStoreG (i := 1) hF20 hM2 rfl rfl rfl (hF20.ev 4 rfl) (hF20.ev 39 rfl) rfl szBox rfl rfl (arr_one rfl) fun a21 w4 hgr4 hF21 hM3 => ?_
        have hO3 := hO2.upd 1 (S2 := isB 29 (#[.string ⟨nm.toArray⟩, .string ⟨x.2.toArray⟩])) rfl hgr4
        refine sq (v := (.int .i64 0)) hF21 (wantedS rfl) (run_as rfl rfl) rfl (by decide) fun a22 hF22 => ?_
        refine sqEnd ?_
        clear hF9 hF10 hF11 hF12 hF13 hF14 hF15 hF16 hF17 hF18 hF19 hF20 hF21 hM2
        refine nx ?_
        refine wp_ret ?_
        refine bkRet ?_
        refine nxRet ?_
        refine nxRet ?_
        refine bkRet ?_
        refine nxRet ?_
        exact retBT hF22 rfl rfl (hM3.at 1 rfl) Try.underlying29 rfl szBox rfl rfl ⟨by rw [htk, ← hnm]; rfl, hM3.below⟩
      · rw [if_neg hnm] at hfd
        refine wp_seq ?_
        refine wp_region_lit ?_
        refine sq (v := (.bool true)) hF0 (wantedS rfl) (run_lss rfl (hF0.ev 21 rfl) (hF0.ev 20 rfl) (decide_eq_true (by omega))) rfl (by decide) fun a1 hF1 => ?_
        refine sqEnd ?_
        clear hF0
        refine nx ?_
        refine wp_seq ?_
        refine wp_cond_true (hF1.ev 22 rfl) ?_
        refine wp_skip ?_
        refine nx ?_
        refine wp_seq ?_
        refine wp_block ?_
        refine wp_seq ?_
        refine wp_region_lit ?_
        refine sq (v := (slPtr v2 (i * 3))) hF1 (wantedS rfl) (run_atP (i := i) rfl (hF1.ev 19 rfl) (hF1.ev 21 rfl) rfl (Sl.own hO0) (by omega) elPlace.un (by kernel_rfl)) rfl (by decide) fun a2 hF2 => ?_
        refine sq (v := (.agg #[.string ⟨p.1.toArray⟩, .int .i64 (p.2.1 : Int), .int .i64 (p.2.2 : Int)])) hF2 (wantedS rfl) (run_ldPS (ys := placeC p) rfl (hF2.ev 23 rfl) (Sl.own hO0) (by omega) (fun j u hj => flat_at placeC_len hp j hj) (by kernel_rfl) (by kernel_rfl)) rfl (by decide) fun a3 hF3 => ?_
        refine sqNew (cs := #[.string ⟨List.toArray []⟩, .int .i64 0, .int .i64 0]) (t := 39) hF3 hM0 (wantedS rfl) (run_alloc rfl (by kernel_rfl)) rfl (by decide) fun g4 a4 w2 hgg4 hb2 hF4 hM1 => ?_
        have hO1 := hO0.add (S := isB 39 (#[.string ⟨List.toArray []⟩, .int .i64 0, .int .i64 0])) hb2 hgg4
        refine sqStoreG (i := 0) hF4 hM1 rfl rfl rfl (hF4.ev 9 rfl) (hF4.ev 24 rfl) rfl szPlace rfl rfl (arr_one rfl) fun a5 w3 hgr3 hF5 hM2 => ?_
        have hO2 := hO1.upd 0 (S2 := isB 39 (#[.string ⟨p.1.toArray⟩, .int .i64 (p.2.1 : Int), .int .i64 (p.2.2 : Int)])) rfl hgr3
        refine sqEnd ?_
        clear hF1 hF2 hF3 hF4 hM0 hM1
        refine nx ?_
        refine wp_seq ?_
        refine wp_region_lit ?_
        refine sq (v := (.pointer (some ⟨g4, 0, none⟩))) hF5 (wantedS rfl) (run_fldA (m := 1) (s := 0) rfl (hF5.ev 9 rfl) Try.underlying39 rfl rfl (by kernel_rfl) (by decide)) rfl (by decide) fun a6 hF6 => ?_
        refine sq (v := (.string ⟨p.1.toArray⟩)) hF6 (wantedS rfl) (run_ldF rfl (hF6.ev 25 rfl) (hM2.at 0 rfl) rfl (by kernel_rfl)) rfl (by decide) fun a7 hF7 => ?_
        refine sq (v := (.string ⟨nm.toArray⟩)) hF7 (wantedS rfl) (run_mv rfl (hF7.ev 1 rfl)) rfl (by decide) fun a8 hF8 => ?_
        refine sq (v := (.bool false)) hF8 (wantedS rfl) (run_eqs rfl (hF8.ev 26 rfl) (hF8.ev 27 rfl) (beq_eq_false_iff_ne.2 (fun e => hnm (hp1 ▸ e)))) rfl (by decide) fun a9 hF9 => ?_
        refine sqEnd ?_
        clear hF5 hF6 hF7 hF8
        refine nx ?_
        refine wp_cond_false (hF9.ev 28 rfl) ?_
        refine wp_skip ?_
        refine bkEnd ?_
        refine nx ?_
        refine wp_region_lit ?_
        refine sq (v := (.int .i64 ((i + 1 : Nat) : Int))) hF9 (wantedS rfl) (run_add (r := ((i + 1 : Nat) : Int)) rfl (hF9.ev 21 rfl) rfl (by rw [IntKind.wrap_i64]; omega)) rfl (by decide) fun a10 hF10 => ?_
        refine sq (v := (.int .i64 ((i + 1 : Nat) : Int))) hF10 (wantedS rfl) (run_mv rfl (hF10.ev 40 rfl)) rfl (by decide) fun a11 hF11 => ?_
        refine sqEnd ?_
        clear hF9 hF10
        refine nx ?_
        exact ⟨_, by omega, i + 1, by omega, rfl, hfd, hO2.sub (.cons _ (.cons_cons _ .slnil)), hF11.sub ⟨rfl, rfl, rfl, rfl, rfl, rfl, trivial⟩, hM2.sub (.cons _ (.cons_cons _ .slnil))⟩
    · have hie : i = l.length := by omega
      rw [hie, List.drop_length] at hfd
      have htk := takeS_miss hyes hfd
      refine wp_seq ?_
      refine wp_region_lit ?_
      refine sq (v := (.bool false)) hF0 (wantedS rfl) (run_lss rfl (hF0.ev 21 rfl) (hF0.ev 20 rfl) (decide_eq_false (by omega))) rfl (by decide) fun a1 hF1 => ?_
      refine sqEnd ?_
      clear hF0
      refine nx ?_
      refine wp_seq ?_
      refine wp_cond_false (hF1.ev 22 rfl) ?_
      refine wp_exit ?_
      refine nxExit ?_
      refine nxExit ?_
      refine bkHere ?_
      refine nx ?_
      refine wp_seq ?_
      refine wp_region_lit ?_
      refine sq (v := (.agg #[.string ⟨List.toArray []⟩, .string ⟨List.toArray []⟩])) hF1 (wantedS rfl) (run_blt (vs := #[]) (cs := #[.string ⟨List.toArray []⟩, .string ⟨List.toArray []⟩]) rfl (by simp) (by kernel_rfl)) rfl (by decide) fun a2 hF2 => ?_
      refine sqStoreG (i := 0) hF2 hM0 rfl rfl rfl (hF2.ev 4 rfl) (hF2.ev 41 rfl) rfl szBox rfl rfl (arr_one rfl) fun a3 w2 hgr2 hF3 hM1 => ?_
      have hO1 := hO0.upd 0 (S2 := isB 29 (#[.string ⟨List.toArray []⟩, .string ⟨List.toArray []⟩])) rfl hgr2
      refine sq (v := (.int .i64 9)) hF3 (wantedS rfl) (run_as rfl rfl) rfl (by decide) fun a4 hF4 => ?_
      refine sqEnd ?_
      clear hF1 hF2 hF3 hM0
      refine nx ?_
      refine wp_ret ?_
      exact retBT hF4 rfl rfl (hM1.at 0 rfl) Try.underlying29 rfl szBox rfl rfl ⟨by rw [htk]; rfl, hM1.below⟩
end Go.Proofs.Ytnkklogkjnfjgaa
