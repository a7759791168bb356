/- The walk of the law PackPlaces. Printed by gen_pack8.py. -/
import Derived.Test.YtnkklogkjnfjgaaDoorPackN
namespace Go.Proofs.YtnkklogkjnfjgaaDoor
open Go.RowKit

set_option maxRecDepth 100000 in
set_option maxHeartbeats 1000000 in
theorem lawPlaces_any (b nm : List UInt8) (w : World) (HG : Glob w) (_hb : b.length ≤ maxLen) (_hnm : nm.length ≤ maxLen) : Calls Tryd.prog 11 #[.string ⟨b.toArray⟩, .string ⟨nm.toArray⟩] w fun e w' => e = .returned (.bool true) ∧ Below w.heap.size w w' := by
  by_cases h1 : 2000 < b.length
  · skip
    refine walk_enter Tryd.func11 rfl rfl rfl fun a0 hF0 => ?_
    have hM0 := Mem.new w
    refine wp_seq ?_
    refine wp_region_lit ?_
    refine sq (v := (.bool false)) hF0 (wantedS rfl) (run_as rfl rfl) rfl (by decide) fun a1 hF1 => ?_
    refine sqEnd ?_
    clear hF0
    refine nx ?_
    refine wp_seq ?_
    refine wp_seq ?_
    refine wp_region_lit ?_
    refine sq (v := (.string ⟨b.toArray⟩)) hF1 (wantedS rfl) (run_mv rfl (hF1.ev 0 rfl)) rfl (by decide) fun a2 hF2 => ?_
    refine sq (v := (.int .i64 (b.length : Int))) hF2 (wantedS rfl) (run_len rfl (hF2.ev 14 rfl) rfl Tryd.underlying9) rfl (by decide) fun a3 hF3 => ?_
    refine sq (v := (.bool true)) hF3 (wantedS rfl) (run_gtr rfl (hF3.ev 15 rfl) rfl (decide_eq_true (by omega))) rfl (by decide) fun a4 hF4 => ?_
    refine sq (v := (.bool true)) hF4 (wantedS rfl) (run_mv rfl (hF4.ev 16 rfl)) rfl (by decide) fun a5 hF5 => ?_
    refine sqSkip hF5 (unwantedG hF5 rfl rfl rfl rfl rfl) rfl (by decide) fun a6 hF6 => ?_
    refine sqSkip hF6 (unwantedG hF6 rfl rfl rfl rfl rfl) rfl (by decide) fun a7 hF7 => ?_
    refine sqSkip hF7 (unwantedG hF7 rfl rfl rfl rfl rfl) rfl (by decide) fun a8 hF8 => ?_
    refine sq (v := (.bool true)) hF8 (wantedS rfl) (run_pick rfl (hF8.ev 17 rfl) rfl (hF8.ev 20 rfl)) rfl (by decide) fun a9 hF9 => ?_
    refine sqEnd ?_
    clear hF1 hF2 hF3 hF4 hF5 hF6 hF7 hF8
    refine nx ?_
    refine wp_cond_true (hF9.ev 21 rfl) ?_
    refine wp_seq ?_
    refine wp_region_lit ?_
    refine sqC (v := (.bool true)) hF9 hM0 (wantedS rfl) (run_call rfl Tryd.func22 (by kernel_rfl) rfl (mapE0 )) rfl (by decide) (awake40_any w) fun a10 w1 hb1 hF10 hM1 => ?_
    refine sq (v := (.bool true)) hF10 (wantedS rfl) (run_as rfl (hF10.ev 22 rfl)) rfl (by decide) fun a11 hF11 => ?_
    refine sqEnd ?_
    clear hF9 hF10 hM0
    refine nx ?_
    refine wp_ret ?_
    refine nxRet ?_
    exact ret1 hF11 rfl rfl ⟨rfl, hM1.below⟩
  by_cases h2 : 200 < nm.length
  · skip
    refine walk_enter Tryd.func11 rfl rfl rfl fun a0 hF0 => ?_
    have hM0 := Mem.new w
    refine wp_seq ?_
    refine wp_region_lit ?_
    refine sq (v := (.bool false)) hF0 (wantedS rfl) (run_as rfl rfl) rfl (by decide) fun a1 hF1 => ?_
    refine sqEnd ?_
    clear hF0
    refine nx ?_
    refine wp_seq ?_
    refine wp_seq ?_
    refine wp_region_lit ?_
    refine sq (v := (.string ⟨b.toArray⟩)) hF1 (wantedS rfl) (run_mv rfl (hF1.ev 0 rfl)) rfl (by decide) fun a2 hF2 => ?_
    refine sq (v := (.int .i64 (b.length : Int))) hF2 (wantedS rfl) (run_len rfl (hF2.ev 14 rfl) rfl Tryd.underlying9) rfl (by decide) fun a3 hF3 => ?_
    refine sq (v := (.bool false)) hF3 (wantedS rfl) (run_gtr rfl (hF3.ev 15 rfl) rfl (decide_eq_false (by omega))) rfl (by decide) fun a4 hF4 => ?_
    refine sq (v := (.bool false)) hF4 (wantedS rfl) (run_mv rfl (hF4.ev 16 rfl)) rfl (by decide) fun a5 hF5 => ?_
    refine sq (v := (.string ⟨nm.toArray⟩)) hF5 (wantedG hF5 rfl rfl rfl rfl rfl) (run_mv rfl (hF5.ev 1 rfl)) rfl (by decide) fun a6 hF6 => ?_
    refine sq (v := (.int .i64 (nm.length : Int))) hF6 (wantedG hF6 rfl rfl rfl rfl rfl) (run_len rfl (hF6.ev 18 rfl) rfl Tryd.underlying9) rfl (by decide) fun a7 hF7 => ?_
    refine sq (v := (.bool true)) hF7 (wantedG hF7 rfl rfl rfl rfl rfl) (run_gtr rfl (hF7.ev 19 rfl) rfl (decide_eq_true (by omega))) rfl (by decide) fun a8 hF8 => ?_
    refine sq (v := (.bool true)) hF8 (wantedS rfl) (run_pick rfl (hF8.ev 17 rfl) rfl (hF8.ev 20 rfl)) rfl (by decide) fun a9 hF9 => ?_
    refine sqEnd ?_
    clear hF1 hF2 hF3 hF4 hF5 hF6 hF7 hF8
    refine nx ?_
    refine wp_cond_true (hF9.ev 21 rfl) ?_
    refine wp_seq ?_
    refine wp_region_lit ?_
    refine sqC (v := (.bool true)) hF9 hM0 (wantedS rfl) (run_call rfl Tryd.func22 (by kernel_rfl) rfl (mapE0 )) rfl (by decide) (awake40_any w) fun a10 w1 hb1 hF10 hM1 => ?_
    refine sq (v := (.bool true)) hF10 (wantedS rfl) (run_as rfl (hF10.ev 22 rfl)) rfl (by decide) fun a11 hF11 => ?_
    refine sqEnd ?_
    clear hF9 hF10 hM0
    refine nx ?_
    refine wp_ret ?_
    refine nxRet ?_
    exact ret1 hF11 rfl rfl ⟨rfl, hM1.below⟩
  obtain ⟨Z, hZ⟩ : ∃ Z, zS b = Z := ⟨_, rfl⟩
  have hzl : Z.length ≤ 2000 := by
    rw [← hZ]
    unfold zS
    cases ho : ofS b with
    | none => simp
    | some l =>
      obtain ⟨_, hby, _, _, _⟩ := ofS_some ho
      have := rowS_ge (hibp :: textsB l)
      rw [List.length_cons, textsB_len, show rowS (hibp :: textsB l) = b from hby] at this
      show (placesTo l l.length).length ≤ 2000
      rw [placesTo_len l l.length (Nat.le_refl _)]
      omega
  refine walk_enter Tryd.func11 rfl rfl rfl fun a0 hF0 => ?_
  have hM0 := Mem.new w
  refine wp_seq ?_
  refine wp_region_lit ?_
  refine sq (v := (.bool false)) hF0 (wantedS rfl) (run_as rfl rfl) rfl (by decide) fun a1 hF1 => ?_
  refine sqEnd ?_
  clear hF0
  refine nx ?_
  refine wp_seq ?_
  refine wp_seq ?_
  refine wp_region_lit ?_
  refine sq (v := (.string ⟨b.toArray⟩)) hF1 (wantedS rfl) (run_mv rfl (hF1.ev 0 rfl)) rfl (by decide) fun a2 hF2 => ?_
  refine sq (v := (.int .i64 (b.length : Int))) hF2 (wantedS rfl) (run_len rfl (hF2.ev 14 rfl) rfl Tryd.underlying9) rfl (by decide) fun a3 hF3 => ?_
  refine sq (v := (.bool false)) hF3 (wantedS rfl) (run_gtr rfl (hF3.ev 15 rfl) rfl (decide_eq_false (by omega))) rfl (by decide) fun a4 hF4 => ?_
  refine sq (v := (.bool false)) hF4 (wantedS rfl) (run_mv rfl (hF4.ev 16 rfl)) rfl (by decide) fun a5 hF5 => ?_
  refine sq (v := (.string ⟨nm.toArray⟩)) hF5 (wantedG hF5 rfl rfl rfl rfl rfl) (run_mv rfl (hF5.ev 1 rfl)) rfl (by decide) fun a6 hF6 => ?_
  refine sq (v := (.int .i64 (nm.length : Int))) hF6 (wantedG hF6 rfl rfl rfl rfl rfl) (run_len rfl (hF6.ev 18 rfl) rfl Tryd.underlying9) rfl (by decide) fun a7 hF7 => ?_
  refine sq (v := (.bool false)) hF7 (wantedG hF7 rfl rfl rfl rfl rfl) (run_gtr rfl (hF7.ev 19 rfl) rfl (decide_eq_false (by omega))) rfl (by decide) fun a8 hF8 => ?_
  refine sq (v := (.bool false)) hF8 (wantedS rfl) (run_pick rfl (hF8.ev 17 rfl) rfl (hF8.ev 20 rfl)) rfl (by decide) fun a9 hF9 => ?_
  refine sqEnd ?_
  clear hF1 hF2 hF3 hF4 hF5 hF6 hF7 hF8
  refine nx ?_
  refine wp_cond_false (hF9.ev 21 rfl) ?_
  refine wp_skip ?_
  refine nx ?_
  refine wp_seq ?_
  refine wp_region_lit ?_
  refine sq (v := (.string ⟨b.toArray⟩)) hF9 (wantedS rfl) (run_mv rfl (hF9.ev 0 rfl)) rfl (by decide) fun a10 hF10 => ?_
  refine sqT (T := fun u wx => (∃ v, u = .tuple #[v, .int .i64 (eS b)] ∧ wx.ownsRow w.heap.size 53 3 v Z.length (Z.flatMap placeC)) ∧ Below w.heap.size w wx) hF10 (wantedS rfl) (run_call rfl Tryd.func27 (by kernel_rfl) rfl (mapE1 (hF10.ev 24 rfl))) rfl (by decide) (by rw [← hZ]; exact pof_z b w (by omega)) fun u0 a11 w1 hT1 hF11 => ?_
  obtain ⟨⟨v1, rfl, hr1⟩, hb1⟩ := hT1
  have hO1 := OwnR.ofCall hM0 hr1
  have hM1 := hM0.grow hb1
  refine sq (v := (.tuple #[v1, (.int .i64 (eS b))])) hF11 (wantedS rfl) (run_mv rfl (hF11.ev 25 rfl)) rfl (by decide) fun a12 hF12 => ?_
  refine sq (v := v1) hF12 (wantedS rfl) (run_ext rfl (hF12.ev 23 rfl) rfl) rfl (by decide) fun a13 hF13 => ?_
  refine sq (v := (.int .i64 (eS b))) hF13 (wantedS rfl) (run_ext rfl (hF13.ev 23 rfl) rfl) rfl (by decide) fun a14 hF14 => ?_
  refine sq (v := v1) hF14 (wantedS rfl) (run_as rfl (hF14.ev 26 rfl)) rfl (by decide) fun a15 hF15 => ?_
  refine sq (v := (.int .i64 (eS b))) hF15 (wantedS rfl) (run_as rfl (hF15.ev 27 rfl)) rfl (by decide) fun a16 hF16 => ?_
  refine sqEnd ?_
  clear hF9 hF10 hF11 hF12 hF13 hF14 hF15 hM0
  refine nx ?_
  refine wp_seq ?_
  refine wp_region_lit ?_
  refine sq (v := (.string ⟨b.toArray⟩)) hF16 (wantedS rfl) (run_mv rfl (hF16.ev 0 rfl)) rfl (by decide) fun a17 hF17 => ?_
  refine sqT (T := fun u wx => (∃ v, u = .tuple #[v, .int .i64 (eS b)] ∧ wx.ownsRow w1.heap.size 53 3 v Z.length (Z.flatMap placeC)) ∧ Below w1.heap.size w1 wx) hF17 (wantedS rfl) (run_call rfl Tryd.func28 (by kernel_rfl) rfl (mapE1 (hF17.ev 29 rfl))) rfl (by decide) (by rw [← hZ]; exact rof_z b w1 (by omega)) fun u2 a18 w2 hT2 hF18 => ?_
  obtain ⟨⟨v3, rfl, hr2⟩, hb2⟩ := hT2
  have hO2 := OwnR.ofCall hM1 hr2
  have hM2 := hM1.grow hb2
  have hO3 := hO1.grow hb2
  refine sq (v := (.tuple #[v3, (.int .i64 (eS b))])) hF18 (wantedS rfl) (run_mv rfl (hF18.ev 30 rfl)) rfl (by decide) fun a19 hF19 => ?_
  refine sq (v := v3) hF19 (wantedS rfl) (run_ext rfl (hF19.ev 28 rfl) rfl) rfl (by decide) fun a20 hF20 => ?_
  refine sq (v := (.int .i64 (eS b))) hF20 (wantedS rfl) (run_ext rfl (hF20.ev 28 rfl) rfl) rfl (by decide) fun a21 hF21 => ?_
  refine sq (v := v3) hF21 (wantedS rfl) (run_as rfl (hF21.ev 31 rfl)) rfl (by decide) fun a22 hF22 => ?_
  refine sq (v := (.int .i64 (eS b))) hF22 (wantedS rfl) (run_as rfl (hF22.ev 32 rfl)) rfl (by decide) fun a23 hF23 => ?_
  refine sqEnd ?_
  clear hF16 hF17 hF18 hF19 hF20 hF21 hF22 hM1
  refine nx ?_
  refine wp_seq ?_
  refine wp_region_lit ?_
  refine sq (v := (.string ⟨b.toArray⟩)) hF23 (wantedS rfl) (run_mv rfl (hF23.ev 0 rfl)) rfl (by decide) fun a24 hF24 => ?_
  refine sq (v := (.string ⟨nm.toArray⟩)) hF24 (wantedS rfl) (run_mv rfl (hF24.ev 1 rfl)) rfl (by decide) fun a25 hF25 => ?_
  refine sqC (v := (.tuple #[(.agg #[.string ⟨((takeS b nm).1.1).toArray⟩, .string ⟨((takeS b nm).1.2).toArray⟩]), (.int .i64 ((takeS b nm).2))])) hF25 hM2 (wantedS rfl) (run_call rfl Tryd.func29 (by kernel_rfl) rfl (mapE2 (hF25.ev 34 rfl) (hF25.ev 35 rfl))) rfl (by decide) (ptake_any b nm w2 (by omega)) fun a26 w3 hb3 hF26 hM3 => ?_
  have hO4 := hO3.grow hb3
  have hO5 := hO2.grow hb3
  refine sq (v := (.tuple #[(.agg #[.string ⟨((takeS b nm).1.1).toArray⟩, .string ⟨((takeS b nm).1.2).toArray⟩]), (.int .i64 ((takeS b nm).2))])) hF26 (wantedS rfl) (run_mv rfl (hF26.ev 36 rfl)) rfl (by decide) fun a27 hF27 => ?_
  refine sq (v := (.agg #[.string ⟨((takeS b nm).1.1).toArray⟩, .string ⟨((takeS b nm).1.2).toArray⟩])) hF27 (wantedS rfl) (run_ext rfl (hF27.ev 33 rfl) rfl) rfl (by decide) fun a28 hF28 => ?_
  refine sq (v := (.int .i64 ((takeS b nm).2))) hF28 (wantedS rfl) (run_ext rfl (hF28.ev 33 rfl) rfl) rfl (by decide) fun a29 hF29 => ?_
  refine sqNew (cs := #[.string ⟨List.toArray []⟩, .string ⟨List.toArray []⟩]) (t := 49) hF29 hM3 (wantedS rfl) (run_alloc rfl (by kernel_rfl)) rfl (by decide) fun g4 a30 w4 hgg4 hb4 hF30 hM4 => ?_
  have hO6 := hO4.add (S := isB 49 (#[.string ⟨List.toArray []⟩, .string ⟨List.toArray []⟩])) hb4 hgg4
  have hO7 := hO5.add (S := isB 49 (#[.string ⟨List.toArray []⟩, .string ⟨List.toArray []⟩])) hb4 hgg4
  refine sqStoreG (i := 0) hF30 hM4 rfl rfl rfl (hF30.ev 9 rfl) (hF30.ev 37 rfl) rfl szBox rfl rfl (arr_one rfl) fun a31 w5 hgr5 hF31 hM5 => ?_
  have hO8 := hO6.upd 0 (S2 := isB 49 (#[.string ⟨((takeS b nm).1.1).toArray⟩, .string ⟨((takeS b nm).1.2).toArray⟩])) rfl hgr5
  have hO9 := hO7.upd 0 (S2 := isB 49 (#[.string ⟨((takeS b nm).1.1).toArray⟩, .string ⟨((takeS b nm).1.2).toArray⟩])) rfl hgr5
  refine sq (v := (.int .i64 ((takeS b nm).2))) hF31 (wantedS rfl) (run_as rfl (hF31.ev 38 rfl)) rfl (by decide) fun a32 hF32 => ?_
  refine sqEnd ?_
  clear hF23 hF24 hF25 hF26 hF27 hF28 hF29 hF30 hF31 hM2 hM3 hM4
  refine nx ?_
  refine wp_seq ?_
  refine wp_region_lit ?_
  refine sq (v := (.string ⟨b.toArray⟩)) hF32 (wantedS rfl) (run_mv rfl (hF32.ev 0 rfl)) rfl (by decide) fun a33 hF33 => ?_
  refine sq (v := (.string ⟨nm.toArray⟩)) hF33 (wantedS rfl) (run_mv rfl (hF33.ev 1 rfl)) rfl (by decide) fun a34 hF34 => ?_
  refine sqC (v := (.tuple #[(.agg #[.string ⟨((takeS b nm).1.1).toArray⟩, .string ⟨((takeS b nm).1.2).toArray⟩]), (.int .i64 ((takeS b nm).2))])) hF34 hM5 (wantedS rfl) (run_call rfl Tryd.func30 (by kernel_rfl) rfl (mapE2 (hF34.ev 40 rfl) (hF34.ev 41 rfl))) rfl (by decide) (rtake40_any b nm w5 (by omega)) fun a35 w6 hb6 hF35 hM6 => ?_
  have hO10 := hO8.grow hb6
  have hO11 := hO9.grow hb6
  refine sq (v := (.tuple #[(.agg #[.string ⟨((takeS b nm).1.1).toArray⟩, .string ⟨((takeS b nm).1.2).toArray⟩]), (.int .i64 ((takeS b nm).2))])) hF35 (wantedS rfl) (run_mv rfl (hF35.ev 42 rfl)) rfl (by decide) fun a36 hF36 => ?_
  refine sq (v := (.agg #[.string ⟨((takeS b nm).1.1).toArray⟩, .string ⟨((takeS b nm).1.2).toArray⟩])) hF36 (wantedS rfl) (run_ext rfl (hF36.ev 39 rfl) rfl) rfl (by decide) fun a37 hF37 => ?_
  refine sq (v := (.int .i64 ((takeS b nm).2))) hF37 (wantedS rfl) (run_ext rfl (hF37.ev 39 rfl) rfl) rfl (by decide) fun a38 hF38 => ?_
  refine sqNew (cs := #[.string ⟨List.toArray []⟩, .string ⟨List.toArray []⟩]) (t := 49) hF38 hM6 (wantedS rfl) (run_alloc rfl (by kernel_rfl)) rfl (by decide) fun g5 a39 w7 hgg5 hb7 hF39 hM7 => ?_
  have hO12 := hO10.add (S := isB 49 (#[.string ⟨List.toArray []⟩, .string ⟨List.toArray []⟩])) hb7 hgg5
  have hO13 := hO11.add (S := isB 49 (#[.string ⟨List.toArray []⟩, .string ⟨List.toArray []⟩])) hb7 hgg5
  refine sqStoreG (i := 0) hF39 hM7 rfl rfl rfl (hF39.ev 11 rfl) (hF39.ev 43 rfl) rfl szBox rfl rfl (arr_one rfl) fun a40 w8 hgr8 hF40 hM8 => ?_
  have hO14 := hO12.upd 0 (S2 := isB 49 (#[.string ⟨((takeS b nm).1.1).toArray⟩, .string ⟨((takeS b nm).1.2).toArray⟩])) rfl hgr8
  have hO15 := hO13.upd 0 (S2 := isB 49 (#[.string ⟨((takeS b nm).1.1).toArray⟩, .string ⟨((takeS b nm).1.2).toArray⟩])) rfl hgr8
  refine sq (v := (.int .i64 ((takeS b nm).2))) hF40 (wantedS rfl) (run_as rfl (hF40.ev 44 rfl)) rfl (by decide) fun a41 hF41 => ?_
  refine sqEnd ?_
  clear hF32 hF33 hF34 hF35 hF36 hF37 hF38 hF39 hF40 hM5 hM6 hM7
  refine nx ?_
  refine wp_seq ?_
  refine wp_seq ?_
  refine wp_region_lit ?_
  refine sq (v := (.int .i64 (eS b))) hF41 (wantedS rfl) (run_mv rfl (hF41.ev 6 rfl)) rfl (by decide) fun a42 hF42 => ?_
  refine sq (v := (.int .i64 (eS b))) hF42 (wantedS rfl) (run_mv rfl (hF42.ev 8 rfl)) rfl (by decide) fun a43 hF43 => ?_
  refine sq (v := (.bool false)) hF43 (wantedS rfl) (run_nei rfl (hF43.ev 45 rfl) (hF43.ev 46 rfl) (bne_self_eq_false _)) rfl (by decide) fun a44 hF44 => ?_
  refine sq (v := (.bool false)) hF44 (wantedS rfl) (run_mv rfl (hF44.ev 47 rfl)) rfl (by decide) fun a45 hF45 => ?_
  refine sq (v := v1) hF45 (wantedG hF45 rfl rfl rfl rfl rfl) (run_mv rfl (hF45.ev 5 rfl)) rfl (by decide) fun a46 hF46 => ?_
  refine sq (v := (.int .i64 (Z.length : Int))) hF46 (wantedG hF46 rfl rfl rfl rfl rfl) (run_lenS rfl (hF46.ev 49 rfl) (Sl.own hO14) rfl Tryd.underlying45) rfl (by decide) fun a47 hF47 => ?_
  refine sq (v := v3) hF47 (wantedG hF47 rfl rfl rfl rfl rfl) (run_mv rfl (hF47.ev 7 rfl)) rfl (by decide) fun a48 hF48 => ?_
  refine sq (v := (.int .i64 (Z.length : Int))) hF48 (wantedG hF48 rfl rfl rfl rfl rfl) (run_lenS rfl (hF48.ev 51 rfl) (Sl.own hO15) rfl Tryd.underlying45) rfl (by decide) fun a49 hF49 => ?_
  refine sq (v := (.bool false)) hF49 (wantedG hF49 rfl rfl rfl rfl rfl) (run_nei rfl (hF49.ev 50 rfl) (hF49.ev 52 rfl) (bne_self_eq_false _)) rfl (by decide) fun a50 hF50 => ?_
  refine sq (v := (.bool false)) hF50 (wantedS rfl) (run_pick rfl (hF50.ev 48 rfl) rfl (hF50.ev 53 rfl)) rfl (by decide) fun a51 hF51 => ?_
  refine sq (v := (.bool false)) hF51 (wantedS rfl) (run_mv rfl (hF51.ev 54 rfl)) rfl (by decide) fun a52 hF52 => ?_
  refine sq (v := (.agg #[.string ⟨((takeS b nm).1.1).toArray⟩, .string ⟨((takeS b nm).1.2).toArray⟩])) hF52 (wantedG hF52 rfl rfl rfl rfl rfl) (run_ldB rfl (hF52.ev 9 rfl) (hM8.at 1 rfl) Tryd.underlying49 rfl szBox rfl) rfl (by decide) fun a53 hF53 => ?_
  refine sq (v := (.agg #[.string ⟨((takeS b nm).1.1).toArray⟩, .string ⟨((takeS b nm).1.2).toArray⟩])) hF53 (wantedG hF53 rfl rfl rfl rfl rfl) (run_ldB rfl (hF53.ev 11 rfl) (hM8.at 0 rfl) Tryd.underlying49 rfl szBox rfl) rfl (by decide) fun a54 hF54 => ?_
  refine sq (v := (.bool false)) hF54 (wantedG hF54 rfl rfl rfl rfl rfl) (run_neBox (by simp) rfl (hF54.ev 56 rfl) (hF54.ev 57 rfl)) rfl (by decide) fun a55 hF55 => ?_
  refine sq (v := (.bool false)) hF55 (wantedS rfl) (run_pick rfl (hF55.ev 55 rfl) rfl (hF55.ev 58 rfl)) rfl (by decide) fun a56 hF56 => ?_
  refine sq (v := (.bool false)) hF56 (wantedS rfl) (run_mv rfl (hF56.ev 59 rfl)) rfl (by decide) fun a57 hF57 => ?_
  refine sq (v := (.int .i64 ((takeS b nm).2))) hF57 (wantedG hF57 rfl rfl rfl rfl rfl) (run_mv rfl (hF57.ev 10 rfl)) rfl (by decide) fun a58 hF58 => ?_
  refine sq (v := (.int .i64 ((takeS b nm).2))) hF58 (wantedG hF58 rfl rfl rfl rfl rfl) (run_mv rfl (hF58.ev 12 rfl)) rfl (by decide) fun a59 hF59 => ?_
  refine sq (v := (.bool false)) hF59 (wantedG hF59 rfl rfl rfl rfl rfl) (run_nei rfl (hF59.ev 61 rfl) (hF59.ev 62 rfl) (bne_self_eq_false _)) rfl (by decide) fun a60 hF60 => ?_
  refine sq (v := (.bool false)) hF60 (wantedS rfl) (run_pick rfl (hF60.ev 60 rfl) rfl (hF60.ev 63 rfl)) rfl (by decide) fun a61 hF61 => ?_
  refine sq (v := (.bool false)) hF61 (wantedS rfl) (run_mv rfl (hF61.ev 64 rfl)) rfl (by decide) fun a62 hF62 => ?_
  refine sq (v := (.string ⟨b.toArray⟩)) hF62 (wantedG hF62 rfl rfl rfl rfl rfl) (run_mv rfl (hF62.ev 0 rfl)) rfl (by decide) fun a63 hF63 => ?_
  refine sqC (v := (.string ⟨(nameS b).toArray⟩)) hF63 hM8 (wantedG hF63 rfl rfl rfl rfl rfl) (run_call rfl Tryd.func25 (by kernel_rfl) rfl (mapE1 (hF63.ev 66 rfl))) rfl (by decide) (pname_any b w8 (HG.below hM8.below) (by omega)) fun a64 w9 hb9 hF64 hM9 => ?_
  have hO16 := hO14.grow hb9
  have hO17 := hO15.grow hb9
  refine sq (v := (.string ⟨b.toArray⟩)) hF64 (wantedG hF64 rfl rfl rfl rfl rfl) (run_mv rfl (hF64.ev 0 rfl)) rfl (by decide) fun a65 hF65 => ?_
  refine sqC (v := (.string ⟨(nameS b).toArray⟩)) hF65 hM9 (wantedG hF65 rfl rfl rfl rfl rfl) (run_call rfl Tryd.func26 (by kernel_rfl) rfl (mapE1 (hF65.ev 68 rfl))) rfl (by decide) (rname_any b w9 (by omega)) fun a66 w10 hb10 hF66 hM10 => ?_
  have hO18 := hO16.grow hb10
  have hO19 := hO17.grow hb10
  refine sq (v := (.bool false)) hF66 (wantedG hF66 rfl rfl rfl rfl rfl) (run_nes rfl (hF66.ev 67 rfl) (hF66.ev 69 rfl) (by rw [beq_self_eq_true]; rfl)) rfl (by decide) fun a67 hF67 => ?_
  refine sq (v := (.bool false)) hF67 (wantedS rfl) (run_pick rfl (hF67.ev 65 rfl) rfl (hF67.ev 70 rfl)) rfl (by decide) fun a68 hF68 => ?_
  refine sqEnd ?_
  clear hF41 hF42 hF43 hF44 hF45 hF46 hF47 hF48 hF49 hF50 hF51 hF52 hF53 hF54 hF55 hF56 hF57 hF58 hF59 hF60 hF61 hF62 hF63 hF64 hF65 hF66 hF67 hM8 hM9
  refine nx ?_
  refine wp_cond_false (hF68.ev 71 rfl) ?_
  refine wp_skip ?_
  refine nx ?_
  refine wp_seq ?_
  refine wp_seq ?_
  refine wp_region_lit ?_
  refine sq (v := (.int .i64 0)) hF68 (wantedS rfl) (run_as rfl rfl) rfl (by decide) fun a69 hF69 => ?_
  refine sqEnd ?_
  clear hF68
  refine nx ?_
  refine wp_block ?_
  refine wkLoop (fun m a w2 => ∃ i : Nat, i ≤ Z.length ∧ m = Z.length - i ∧ OwnR w [(g5, isB 49 (#[.string ⟨((takeS b nm).1.1).toArray⟩, .string ⟨((takeS b nm).1.2).toArray⟩])), (g4, isB 49 (#[.string ⟨((takeS b nm).1.1).toArray⟩, .string ⟨((takeS b nm).1.2).toArray⟩]))] w2 53 3 v1 Z.length (Z.flatMap placeC) ∧ OwnR w [(g5, isB 49 (#[.string ⟨((takeS b nm).1.1).toArray⟩, .string ⟨((takeS b nm).1.2).toArray⟩])), (g4, isB 49 (#[.string ⟨((takeS b nm).1.1).toArray⟩, .string ⟨((takeS b nm).1.2).toArray⟩]))] w2 53 3 v3 Z.length (Z.flatMap placeC) ∧ Fr a 88 [(5, v1), (7, v3), (13, .int .i64 (i : Int))] ∧ Mem w [(g5, isB 49 (#[.string ⟨((takeS b nm).1.1).toArray⟩, .string ⟨((takeS b nm).1.2).toArray⟩])), (g4, isB 49 (#[.string ⟨((takeS b nm).1.1).toArray⟩, .string ⟨((takeS b nm).1.2).toArray⟩]))] w2) Z.length ⟨0, Nat.zero_le _, rfl, hO18, hO19, hF69.sub ⟨rfl, rfl, rfl, trivial⟩, hM10⟩ ?_
  rintro m a0 w1 ⟨i, hi, rfl, hO0, hO1, hF0, hM0⟩
  by_cases hlt : i < Z.length
  · obtain ⟨p, hp⟩ : ∃ p, Z[i]? = some p := ⟨Z[i], by simp [hlt]⟩
    refine wp_seq ?_
    refine wp_seq ?_
    refine wp_region_lit ?_
    refine sq (v := (.int .i64 (i : Int))) hF0 (wantedS rfl) (run_mv rfl (hF0.ev 13 rfl)) rfl (by decide) fun a1 hF1 => ?_
    refine sq (v := v1) hF1 (wantedS rfl) (run_mv rfl (hF1.ev 5 rfl)) rfl (by decide) fun a2 hF2 => ?_
    refine sq (v := (.int .i64 (Z.length : Int))) hF2 (wantedS rfl) (run_lenS rfl (hF2.ev 73 rfl) (Sl.own hO0) rfl Tryd.underlying45) rfl (by decide) fun a3 hF3 => ?_
    refine sq (v := (.bool true)) hF3 (wantedS rfl) (run_lss rfl (hF3.ev 72 rfl) (hF3.ev 74 rfl) (decide_eq_true (by omega))) rfl (by decide) fun a4 hF4 => ?_
    refine sqEnd ?_
    clear hF0 hF1 hF2 hF3
    refine nx ?_
    refine wp_cond_true (hF4.ev 75 rfl) ?_
    refine wp_skip ?_
    refine nx ?_
    refine wp_seq ?_
    refine wp_block ?_
    refine wp_seq ?_
    obtain ⟨KL, hKL⟩ : ∃ KL, KL = [kval v1, kval (.int .i64 (i : Int)), kval (slPtr v1 (i * 3)), kval (.agg #[.string ⟨p.1.toArray⟩, .int .i64 (p.2.1 : Int), .int .i64 (p.2.2 : Int)]), kval v3, kval (.int .i64 (i : Int)), kval (slPtr v3 (i * 3)), kval (.agg #[.string ⟨p.1.toArray⟩, .int .i64 (p.2.1 : Int), .int .i64 (p.2.2 : Int)]), kval (.bool false)] := ⟨_, rfl⟩
    have K0 : KL.getD 0 kany = kval v1 := by rw [hKL]; rfl
    have K1 : KL.getD 1 kany = kval (.int .i64 (i : Int)) := by rw [hKL]; rfl
    have K2 : KL.getD 2 kany = kval (slPtr v1 (i * 3)) := by rw [hKL]; rfl
    have K3 : KL.getD 3 kany = kval (.agg #[.string ⟨p.1.toArray⟩, .int .i64 (p.2.1 : Int), .int .i64 (p.2.2 : Int)]) := by rw [hKL]; rfl
    have K4 : KL.getD 4 kany = kval v3 := by rw [hKL]; rfl
    have K5 : KL.getD 5 kany = kval (.int .i64 (i : Int)) := by rw [hKL]; rfl
    have K6 : KL.getD 6 kany = kval (slPtr v3 (i * 3)) := by rw [hKL]; rfl
    have K7 : KL.getD 7 kany = kval (.agg #[.string ⟨p.1.toArray⟩, .int .i64 (p.2.1 : Int), .int .i64 (p.2.2 : Int)]) := by rw [hKL]; rfl
    have K8 : KL.getD 8 kany = kval (.bool false) := by rw [hKL]; rfl
    clear hKL
    refine wp_region_kd 88 (by kernel_rfl) (by kernel_rfl) (by kernel_rfl) hF4.size KL ?_ ?_
    · refine ⟨?_, ?_, ?_, ?_, ?_, ?_, ?_, ?_, ?_, trivial⟩
      · refine asks_mk fun a W hS hh hd => ⟨wanted_yes rfl, ?_⟩
        exact giv_run (run_mv rfl (eval_tmp (hh 5 _ rfl (hF4.at 5 rfl)))) K0
      · refine asks_mk fun a W hS hh hd => ⟨wanted_yes rfl, ?_⟩
        exact giv_run (run_mv rfl (eval_tmp (hh 13 _ rfl (hF4.at 13 rfl)))) K1
      · refine asks_mk fun a W hS hh hd => ⟨wanted_yes rfl, ?_⟩
        exact giv_run (run_atP (i := i) rfl (eval_tmp (hd.val (j := 0) (s := 78) (by kernel_rfl) K0)) (eval_tmp (hd.val (j := 1) (s := 79) (by kernel_rfl) K1)) rfl (Sl.own (hO0.grow hS)) (by omega) elPlace.un (by kernel_rfl)) K2
      · refine asks_mk fun a W hS hh hd => ⟨wanted_yes rfl, ?_⟩
        exact giv_run (run_ldPS (ys := placeC p) rfl (eval_tmp (hd.val (j := 2) (s := 80) (by kernel_rfl) K2)) (Sl.own (hO0.grow hS)) (by omega) (fun j u hj => flat_at placeC_len hp j hj) (by kernel_rfl) (by kernel_rfl)) K3
      · refine asks_mk fun a W hS hh hd => ⟨wanted_yes rfl, ?_⟩
        exact giv_run (run_mv rfl (eval_tmp (hh 7 _ rfl (hF4.at 7 rfl)))) K4
      · refine asks_mk fun a W hS hh hd => ⟨wanted_yes rfl, ?_⟩
        exact giv_run (run_mv rfl (eval_tmp (hh 13 _ rfl (hF4.at 13 rfl)))) K5
      · refine asks_mk fun a W hS hh hd => ⟨wanted_yes rfl, ?_⟩
        exact giv_run (run_atP (i := i) rfl (eval_tmp (hd.val (j := 4) (s := 82) (by kernel_rfl) K4)) (eval_tmp (hd.val (j := 5) (s := 83) (by kernel_rfl) K5)) rfl (Sl.own (hO1.grow hS)) (by omega) elPlace.un (by kernel_rfl)) K6
      · refine asks_mk fun a W hS hh hd => ⟨wanted_yes rfl, ?_⟩
        exact giv_run (run_ldPS (ys := placeC p) rfl (eval_tmp (hd.val (j := 6) (s := 84) (by kernel_rfl) K6)) (Sl.own (hO1.grow hS)) (by omega) (fun j u hj => flat_at placeC_len hp j hj) (by kernel_rfl) (by kernel_rfl)) K7
      · refine asks_mk fun a W hS hh hd => ⟨wanted_yes rfl, ?_⟩
        exact giv_run (run_nePlace (by simp) rfl (eval_tmp (hd.val (j := 3) (s := 81) (by kernel_rfl) K3)) (eval_tmp (hd.val (j := 7) (s := 85) (by kernel_rfl) K7))) K8
    · intro a5 w2 hb2 hK
      have e0 := hK.val (i := 0) (s := 78) (by kernel_rfl) K0
      have e1 := hK.val (i := 1) (s := 79) (by kernel_rfl) K1
      have e2 := hK.val (i := 2) (s := 80) (by kernel_rfl) K2
      have e3 := hK.val (i := 3) (s := 81) (by kernel_rfl) K3
      have e4 := hK.val (i := 4) (s := 82) (by kernel_rfl) K4
      have e5 := hK.val (i := 5) (s := 83) (by kernel_rfl) K5
      have e6 := hK.val (i := 6) (s := 84) (by kernel_rfl) K6
      have e7 := hK.val (i := 7) (s := 85) (by kernel_rfl) K7
      have e8 := hK.val (i := 8) (s := 86) (by kernel_rfl) K8
      have hF5 : Fr a5 88 [(5, v1), (7, v3), (13, (.int .i64 (i : Int))), (72, (.int .i64 (i : Int))), (73, v1), (74, (.int .i64 (Z.length : Int))), (75, (.bool true)), (86, (.bool false))] := (hK.fr hF4 [v1, (.int .i64 (i : Int)), (slPtr v1 (i * 3)), (.agg #[.string ⟨p.1.toArray⟩, .int .i64 (p.2.1 : Int), .int .i64 (p.2.2 : Int)]), v3, (.int .i64 (i : Int)), (slPtr v3 (i * 3)), (.agg #[.string ⟨p.1.toArray⟩, .int .i64 (p.2.1 : Int), .int .i64 (p.2.2 : Int)]), (.bool false)] ⟨e0, e1, e2, e3, e4, e5, e6, e7, e8, trivial⟩).sub ⟨rfl, rfl, rfl, rfl, rfl, rfl, rfl, rfl, trivial⟩
      have hM1 := hM0.grow hb2
      have hO2 := hO0.grow hb2
      have hO3 := hO1.grow hb2
      clear hK K0 e0 K1 e1 K2 e2 K3 e3 K4 e4 K5 e5 K6 e6 K7 e7 K8 e8
      clear hF4 hM0
      refine nx ?_
      refine wp_cond_false (hF5.ev 86 rfl) ?_
      refine wp_skip ?_
      refine bkEnd ?_
      refine nx ?_
      refine wp_region_lit ?_
      refine sq (v := (.int .i64 (i : Int))) hF5 (wantedS rfl) (run_mv rfl (hF5.ev 13 rfl)) rfl (by decide) fun a6 hF6 => ?_
      refine sq (v := (.int .i64 ((i + 1 : Nat) : Int))) hF6 (wantedS rfl) (run_add (r := ((i + 1 : Nat) : Int)) rfl (hF6.ev 76 rfl) rfl (by rw [IntKind.wrap_i64]; omega)) rfl (by decide) fun a7 hF7 => ?_
      refine sq (v := (.int .i64 ((i + 1 : Nat) : Int))) hF7 (wantedS rfl) (run_as rfl (hF7.ev 77 rfl)) rfl (by decide) fun a8 hF8 => ?_
      refine sqEnd ?_
      clear hF5 hF6 hF7
      refine nx ?_
      exact ⟨_, by omega, i + 1, by omega, rfl, hO2, hO3, hF8.sub ⟨rfl, rfl, rfl, trivial⟩, hM1⟩
  · skip
    refine wp_seq ?_
    refine wp_seq ?_
    refine wp_region_lit ?_
    refine sq (v := (.int .i64 (i : Int))) hF0 (wantedS rfl) (run_mv rfl (hF0.ev 13 rfl)) rfl (by decide) fun a1 hF1 => ?_
    refine sq (v := v1) hF1 (wantedS rfl) (run_mv rfl (hF1.ev 5 rfl)) rfl (by decide) fun a2 hF2 => ?_
    refine sq (v := (.int .i64 (Z.length : Int))) hF2 (wantedS rfl) (run_lenS rfl (hF2.ev 73 rfl) (Sl.own hO0) rfl Tryd.underlying45) rfl (by decide) fun a3 hF3 => ?_
    refine sq (v := (.bool false)) hF3 (wantedS rfl) (run_lss rfl (hF3.ev 72 rfl) (hF3.ev 74 rfl) (decide_eq_false (by omega))) rfl (by decide) fun a4 hF4 => ?_
    refine sqEnd ?_
    clear hF0 hF1 hF2 hF3
    refine nx ?_
    refine wp_cond_false (hF4.ev 75 rfl) ?_
    refine wp_exit ?_
    refine nxExit ?_
    refine nxExit ?_
    refine bkHere ?_
    refine nx ?_
    refine wp_seq ?_
    refine wp_region_lit ?_
    refine sqC (v := (.bool true)) hF4 hM0 (wantedS rfl) (run_call rfl Tryd.func22 (by kernel_rfl) rfl (mapE0 )) rfl (by decide) (awake40_any w1) fun a5 w2 hb2 hF5 hM1 => ?_
    have hO2 := hO0.grow hb2
    have hO3 := hO1.grow hb2
    refine sq (v := (.bool true)) hF5 (wantedS rfl) (run_as rfl (hF5.ev 87 rfl)) rfl (by decide) fun a6 hF6 => ?_
    refine sqEnd ?_
    clear hF4 hF5 hM0
    refine nx ?_
    refine wp_ret ?_
    exact ret1 hF6 rfl rfl ⟨rfl, hM1.below⟩
end Go.Proofs.YtnkklogkjnfjgaaDoor
