/- The walk of pack.Take. Printed by gen_pack5.py. -/
import Derived.Test.YtdjjiblijbjobaaDoorPack4
namespace Go.Proofs.YtdjjiblijbjobaaDoor
open Go.RowKit

theorem pof_none {b : List UInt8} (h : ofS b = none) (w : World) (hb : b.length < 2 ^ 42) : Calls Tryd.prog 58 #[.string ⟨b.toArray⟩] w fun x w' => ∃ u, x = .returned u ∧ (∃ v, u = .tuple #[v, .int .i64 3] ∧ w'.ownsRow w.heap.size 91 3 v 0 []) ∧ Below w.heap.size w w' :=
  (pof_any b w hb).mono fun x w' ⟨u, h1, h2, h3⟩ => by unfold OfR at h2; rw [h] at h2; exact ⟨u, h1, h2, h3⟩
theorem pof_some {b : List UInt8} {l : List Bx} (h : ofS b = some l) (w : World) (hb : b.length < 2 ^ 42) : Calls Tryd.prog 58 #[.string ⟨b.toArray⟩] w fun x w' => ∃ u, x = .returned u ∧ (∃ v, u = .tuple #[v, .int .i64 0] ∧ w'.ownsRow w.heap.size 91 3 v (placesS l).length ((placesS l).flatMap placeC)) ∧ Below w.heap.size w w' :=
  (pof_any b w hb).mono fun x w' ⟨u, h1, h2, h3⟩ => by unfold OfR at h2; rw [h] at h2; exact ⟨u, h1, h2, h3⟩
theorem takeS_none {b nm : List UInt8} (h : ofS b = none) : takeS b nm = (([], []), 3) := by unfold takeS; rw [h]
theorem takeS_some {b nm : List UInt8} {l : List Bx} {x : Bx} (h : ofS b = some l) (hf : (l.find? fun x => x.1 == nm) = some x) : takeS b nm = (x, 0) := by unfold takeS; rw [h]; dsimp only; rw [hf]
theorem takeS_miss {b nm : List UInt8} {l : List Bx} (h : ofS b = some l) (hf : (l.find? fun x => x.1 == nm) = none) : takeS b nm = (([], []), 9) := by unfold takeS; rw [h]; dsimp only; rw [hf]
set_option maxRecDepth 100000 in
set_option maxHeartbeats 1000000 in
theorem ptake_any (b nm : List UInt8) (w : World) (hb : b.length < 2 ^ 42) : Calls Tryd.prog 30 #[.string ⟨b.toArray⟩, .string ⟨nm.toArray⟩] w fun e w' => e = .returned (.tuple #[.agg (boxC (takeS b nm).1).toArray, .int .i64 (takeS b nm).2]) ∧ Below w.heap.size w w' := by
  cases hno : ofS b with
  | none =>
    have htk := takeS_none (nm := nm) hno
    refine walk_enter Tryd.func30 rfl rfl rfl fun a0 F0 => ?_
    have M0 := Mem.new w
    refine wsl ?_
    refine sqNew (cs := #[.string ⟨List.toArray []⟩, .string ⟨List.toArray []⟩]) (t := 36) F0 M0 (wantedS rfl) (run_alloc rfl (by kernel_rfl)) rfl (by decide) fun g0 a1 w1 hgg0 hb1 F1 M1 => ?_
    refine sr (v := (.int .i64 0)) F1 (run_as rfl rfl) rfl rfl rfl fun a2 F2 => ?_
    refine sn ?_
    clear F0 F1 M0
    refine wsl ?_
    refine mvS F2 rfl rfl rfl rfl rfl fun a3 F3 => ?_
    refine sqT (T := fun u wx => (∃ v, u = .tuple #[v, .int .i64 3] ∧ wx.ownsRow w1.heap.size 91 3 v 0 []) ∧ Below w1.heap.size w1 wx) F3 (wantedS rfl) (run_call rfl Tryd.func58 (by kernel_rfl) rfl (mapE1 (F3.ev 11 rfl))) rfl (by decide) (pof_none hno w1 hb) fun u1 a4 w2 hT2 F4 => ?_
    obtain ⟨⟨v2, rfl, hr2⟩, hb2⟩ := hT2
    have hO1 := OwnR.ofCall M1 hr2
    have M2 := M1.grow hb2
    refine mvS F4 rfl rfl rfl rfl rfl fun a5 F5 => ?_
    refine sr (v := v2) F5 (run_ext rfl (F5.ev 10 rfl) rfl) rfl rfl rfl fun a6 F6 => ?_
    refine sr (v := (.int .i64 3)) F6 (run_ext rfl (F6.ev 10 rfl) rfl) rfl rfl rfl fun a7 F7 => ?_
    refine asS F7 rfl rfl rfl rfl rfl fun a8 F8 => ?_
    refine asS F8 rfl rfl rfl rfl rfl fun a9 F9 => ?_
    refine sn ?_
    clear F2 F3 F4 F5 F6 F7 F8 M1
    refine wp_seq ?_
    refine wsl ?_
    refine mvS F9 rfl rfl rfl rfl rfl fun a10 F10 => ?_
    refine sr (v := (.bool true)) F10 (run_nei rfl (F10.ev 15 rfl) rfl (bne_iff_ne.2 (by omega))) rfl rfl rfl fun a11 F11 => ?_
    refine sn ?_
    clear F9 F10
    refine wp_cond_true (F11.ev 16 rfl) ?_
    refine wsl ?_
    refine sr (v := (.agg #[.string ⟨List.toArray []⟩, .string ⟨List.toArray []⟩])) F11 (run_blt (vs := #[]) (cs := #[.string ⟨List.toArray []⟩, .string ⟨List.toArray []⟩]) rfl (by simp) (by kernel_rfl)) rfl rfl rfl fun a12 F12 => ?_
    refine mvS F12 rfl rfl rfl rfl rfl fun a13 F13 => ?_
    refine sqStoreG (i := 0) F13 M2 rfl rfl rfl (F13.ev 4 rfl) (F13.ev 17 rfl) rfl szBox rfl rfl (arr_one rfl) fun a14 w3 hgr3 F14 M3 => ?_
    have hO2 := hO1.upd 0 (S2 := isB 36 (#[.string ⟨List.toArray []⟩, .string ⟨List.toArray []⟩])) rfl hgr3
    refine asS F14 rfl rfl rfl rfl rfl fun a15 F15 => ?_
    refine sn ?_
    clear F11 F12 F13 F14 M2
    refine wp_ret ?_
    refine nxRet ?_
    exact retBT F15 rfl rfl (M3.at 0 rfl) Tryd.underlying36 rfl szBox rfl rfl ⟨by rw [htk]; rfl, M3.below⟩
  | some l =>
    have hyes := hno
    obtain ⟨_, hby, hb6, _, hne⟩ := ofS_some hno
    obtain ⟨Z, hZ⟩ : ∃ Z, placesS l = Z := ⟨_, rfl⟩
    have hZl : Z.length = l.length := by rw [← hZ]; exact placesTo_len l l.length (Nat.le_refl _)
    have hlb : l.length ≤ b.length := by
      have := rowS_ge (hibp :: textsB l)
      rw [List.length_cons, textsB_len] at this
      rw [← hby]; unfold bytesS; omega
    refine walk_enter Tryd.func30 rfl rfl rfl fun a0 F0 => ?_
    have M0 := Mem.new w
    refine wsl ?_
    refine sqNew (cs := #[.string ⟨List.toArray []⟩, .string ⟨List.toArray []⟩]) (t := 36) F0 M0 (wantedS rfl) (run_alloc rfl (by kernel_rfl)) rfl (by decide) fun g0 a1 w1 hgg0 hb1 F1 M1 => ?_
    refine sr (v := (.int .i64 0)) F1 (run_as rfl rfl) rfl rfl rfl fun a2 F2 => ?_
    refine sn ?_
    clear F0 F1 M0
    refine wsl ?_
    refine mvS F2 rfl rfl rfl rfl rfl fun a3 F3 => ?_
    refine sqT (T := fun u wx => (∃ v, u = .tuple #[v, .int .i64 0] ∧ wx.ownsRow w1.heap.size 91 3 v Z.length (Z.flatMap placeC)) ∧ Below w1.heap.size w1 wx) F3 (wantedS rfl) (run_call rfl Tryd.func58 (by kernel_rfl) rfl (mapE1 (F3.ev 11 rfl))) rfl (by decide) (by rw [← hZ]; exact pof_some hyes w1 hb) fun u1 a4 w2 hT2 F4 => ?_
    obtain ⟨⟨v2, rfl, hr2⟩, hb2⟩ := hT2
    have hO1 := OwnR.ofCall M1 hr2
    have M2 := M1.grow hb2
    refine mvS F4 rfl rfl rfl rfl rfl fun a5 F5 => ?_
    refine sr (v := v2) F5 (run_ext rfl (F5.ev 10 rfl) rfl) rfl rfl rfl fun a6 F6 => ?_
    refine sr (v := (.int .i64 0)) F6 (run_ext rfl (F6.ev 10 rfl) rfl) rfl rfl rfl fun a7 F7 => ?_
    refine asS F7 rfl rfl rfl rfl rfl fun a8 F8 => ?_
    refine asS F8 rfl rfl rfl rfl rfl fun a9 F9 => ?_
    refine sn ?_
    clear F2 F3 F4 F5 F6 F7 F8 M1
    refine wp_seq ?_
    refine wsl ?_
    refine mvS F9 rfl rfl rfl rfl rfl fun a10 F10 => ?_
    refine sr (v := (.bool false)) F10 (run_nei rfl (F10.ev 15 rfl) rfl (bne_eq_false_iff_eq.2 (by omega))) rfl rfl rfl fun a11 F11 => ?_
    refine sn ?_
    clear F9 F10
    refine cfs (F11.ev 16 rfl) ?_
    refine wp_seq ?_
    refine wsl ?_
    refine mvS F11 rfl rfl rfl rfl rfl fun a12 F12 => ?_
    refine sr F12 (run_lenS rfl (F12.ev 19 rfl) (Sl.own hO1) rfl Tryd.underlying86) rfl rfl rfl fun a13 F13 => ?_
    refine sr (v := (.int .i64 0)) F13 (run_mv rfl rfl) rfl rfl rfl fun a14 F14 => ?_
    refine sn ?_
    clear F11 F12 F13
    refine wp_block ?_
    refine wkLoop (fun m a w2 => ∃ i : Nat, i ≤ l.length ∧ m = l.length - i ∧ (l.find? fun x => x.1 == nm) = ((l.drop i).find? fun x => x.1 == nm) ∧ OwnR w [(g0, isB 36 #[.string ⟨List.toArray []⟩, .string ⟨List.toArray []⟩])] w2 91 3 v2 Z.length (Z.flatMap placeC) ∧ Fr a 42 [(0, .string ⟨b.toArray⟩), (1, .string ⟨nm.toArray⟩), (4, .pointer (some ⟨g0, 0, none⟩)), (19, v2), (20, .int .i64 (Z.length : Int)), (21, .int .i64 (i : Int))] ∧ Mem w [(g0, isB 36 #[.string ⟨List.toArray []⟩, .string ⟨List.toArray []⟩])] w2) l.length ⟨0, Nat.zero_le _, rfl, rfl, hO1, F14.sub ⟨rfl, rfl, rfl, rfl, rfl, rfl, trivial⟩, M2⟩ ?_
    rintro m a0 w1 ⟨i, hi, rfl, hfd, hO0, F0, M0⟩
    by_cases hlt : i < l.length
    · obtain ⟨x, hx⟩ : ∃ x, l[i]? = some x := ⟨l[i], by simp [hlt]⟩
      have hp := placesTo_at l l.length i x hlt (Nat.le_refl _) hx
      rw [show placesTo l l.length = Z from hZ] at hp
      obtain ⟨hc1, hc2, hc3⟩ := place_cut l i hx
      rw [hby] at hc2 hc3
      obtain ⟨p, hpe⟩ : ∃ p, placeOf l i x = p := ⟨_, rfl⟩
      rw [hpe] at hp
      have hp1 : p.1 = x.1 := by rw [← hpe]; rfl
      have hp2 : p.2.1 = (bytesS (l.take (i + 1))).length - x.2.length := by rw [← hpe]; rfl
      have hp3 : p.2.2 = x.2.length := by rw [← hpe]; rfl
      rw [find_step l nm i hx] at hfd
      by_cases hnm : x.1 = nm
      · rw [if_pos hnm] at hfd
        have htk := takeS_some hyes hfd
        have hcut : (b.drop p.2.1).take (p.2.1 + p.2.2 - p.2.1) = x.2 := by rw [Nat.add_sub_cancel_left, hp2, hp3]; exact hc3
        refine wsl ?_
        refine sr (v := (.bool true)) F0 (run_lss rfl (F0.ev 21 rfl) (F0.ev 20 rfl) (decide_eq_true (by omega))) rfl rfl rfl fun a1 F1 => ?_
        refine sn ?_
        clear F0
        refine wp_seq ?_
        refine cts (F1.ev 22 rfl) ?_
        refine wp_seq ?_
        refine wp_block ?_
        refine wsl ?_
        refine sr (v := (slPtr v2 (i * 3))) F1 (run_atP (i := i) rfl (F1.ev 19 rfl) (F1.ev 21 rfl) rfl (Sl.own hO0) (by omega) elPlace.un (by kernel_rfl)) rfl rfl rfl fun a2 F2 => ?_
        refine sr (v := (.agg #[.string ⟨p.1.toArray⟩, .int .i64 (p.2.1 : Int), .int .i64 (p.2.2 : Int)])) F2 (run_ldPS (ys := placeC p) rfl (F2.ev 23 rfl) (Sl.own hO0) (by omega) (fun j u hj => flat_at placeC_len hp j hj) (by kernel_rfl) (by kernel_rfl)) rfl rfl rfl fun a3 F3 => ?_
        refine sqNew (cs := #[.string ⟨List.toArray []⟩, .int .i64 0, .int .i64 0]) (t := 91) F3 M0 (wantedS rfl) (run_alloc rfl (by kernel_rfl)) rfl (by decide) fun g3 a4 w2 hgg3 hb2 F4 M1 => ?_
        have hO1 := hO0.add (S := isB 91 (#[.string ⟨List.toArray []⟩, .int .i64 0, .int .i64 0])) hb2 hgg3
        refine sqStoreG (i := 0) F4 M1 rfl rfl rfl (F4.ev 9 rfl) (F4.ev 24 rfl) rfl szPlace rfl rfl (arr_one rfl) fun a5 w3 hgr3 F5 M2 => ?_
        have hO2 := hO1.upd 0 (S2 := isB 91 (#[.string ⟨p.1.toArray⟩, .int .i64 (p.2.1 : Int), .int .i64 (p.2.2 : Int)])) rfl hgr3
        refine sn ?_
        clear F1 F2 F3 F4 M0 M1
        refine wsl ?_
        refine sr F5 (run_fldA (m := 1) (s := 0) rfl (F5.ev 9 rfl) Tryd.underlying91 rfl rfl (by kernel_rfl) (by decide)) rfl rfl rfl fun a6 F6 => ?_
        refine sr (v := (.string ⟨p.1.toArray⟩)) F6 (run_ldF rfl (F6.ev 25 rfl) (M2.at 0 rfl) rfl (by kernel_rfl)) rfl rfl rfl fun a7 F7 => ?_
        refine mvS F7 rfl rfl rfl rfl rfl fun a8 F8 => ?_
        refine sr (v := (.bool true)) F8 (run_eqs rfl (F8.ev 26 rfl) (F8.ev 27 rfl) (beq_iff_eq.2 (hp1.trans hnm))) rfl rfl rfl fun a9 F9 => ?_
        refine sn ?_
        clear F5 F6 F7 F8
        refine wp_cond_true (F9.ev 28 rfl) ?_
        refine wsl ?_
        refine mvS F9 rfl rfl rfl rfl rfl fun a10 F10 => ?_
        refine mvS F10 rfl rfl rfl rfl rfl fun a11 F11 => ?_
        refine sr F11 (run_fldA (m := 1) (s := 1) rfl (F11.ev 9 rfl) Tryd.underlying91 rfl rfl (by kernel_rfl) (by decide)) rfl rfl rfl fun a12 F12 => ?_
        refine sr (v := (.int .i64 (p.2.1 : Int))) F12 (run_ldF rfl (F12.ev 31 rfl) (M2.at 0 rfl) rfl (by kernel_rfl)) rfl rfl rfl fun a13 F13 => ?_
        refine sr F13 (run_fldA (m := 1) (s := 1) rfl (F13.ev 9 rfl) Tryd.underlying91 rfl rfl (by kernel_rfl) (by decide)) rfl rfl rfl fun a14 F14 => ?_
        refine sr (v := (.int .i64 (p.2.1 : Int))) F14 (run_ldF rfl (F14.ev 33 rfl) (M2.at 0 rfl) rfl (by kernel_rfl)) rfl rfl rfl fun a15 F15 => ?_
        refine sr F15 (run_fldA (m := 1) (s := 2) rfl (F15.ev 9 rfl) Tryd.underlying91 rfl rfl (by kernel_rfl) (by decide)) rfl rfl rfl fun a16 F16 => ?_
        refine sr (v := (.int .i64 (p.2.2 : Int))) F16 (run_ldF rfl (F16.ev 35 rfl) (M2.at 0 rfl) rfl (by kernel_rfl)) rfl rfl rfl fun a17 F17 => ?_
        refine sr F17 (run_add (r := ((p.2.1 + p.2.2 : Nat) : Int)) rfl (F17.ev 34 rfl) (F17.ev 36 rfl) (by rw [IntKind.wrap_i64]; omega)) rfl rfl rfl fun a18 F18 => ?_
        refine sr (v := (.string ⟨x.2.toArray⟩)) F18 (run_sMidE (m := p.2.1) (m2 := (p.2.1 + p.2.2)) hcut rfl (F18.ev 30 rfl) (F18.ev 32 rfl) (F18.ev 37 rfl) Tryd.underlying9 rfl rfl (by omega) (by omega)) rfl rfl rfl fun a19 F19 => ?_
        refine sr (v := (.agg #[.string ⟨nm.toArray⟩, .string ⟨x.2.toArray⟩])) F19 (run_blt (vs := #[(0, .string ⟨nm.toArray⟩), (1, .string ⟨x.2.toArray⟩)]) (cs := #[.string ⟨nm.toArray⟩, .string ⟨x.2.toArray⟩]) rfl (bltE2 (F19.ev 29 rfl) (F19.ev 38 rfl)) (by kernel_rfl)) rfl rfl rfl fun a20 F20 => ?_
        refine sqStoreG (i := 1) F20 M2 rfl rfl rfl (F20.ev 4 rfl) (F20.ev 39 rfl) rfl szBox rfl rfl (arr_one rfl) fun a21 w4 hgr4 F21 M3 => ?_
        have hO3 := hO2.upd 1 (S2 := isB 36 (#[.string ⟨nm.toArray⟩, .string ⟨x.2.toArray⟩])) rfl hgr4
        refine sr (v := (.int .i64 0)) F21 (run_as rfl rfl) rfl rfl rfl fun a22 F22 => ?_
        refine sn ?_
        clear F9 F10 F11 F12 F13 F14 F15 F16 F17 F18 F19 F20 F21 M2
        refine wp_ret ?_
        refine bkRet ?_
        refine nxRet ?_
        refine nxRet ?_
        refine bkRet ?_
        refine nxRet ?_
        exact retBT F22 rfl rfl (M3.at 1 rfl) Tryd.underlying36 rfl szBox rfl rfl ⟨by rw [htk, ← hnm]; rfl, M3.below⟩
      · rw [if_neg hnm] at hfd
        refine wsl ?_
        refine sr (v := (.bool true)) F0 (run_lss rfl (F0.ev 21 rfl) (F0.ev 20 rfl) (decide_eq_true (by omega))) rfl rfl rfl fun a1 F1 => ?_
        refine sn ?_
        clear F0
        refine wp_seq ?_
        refine cts (F1.ev 22 rfl) ?_
        refine wp_seq ?_
        refine wp_block ?_
        refine wsl ?_
        refine sr (v := (slPtr v2 (i * 3))) F1 (run_atP (i := i) rfl (F1.ev 19 rfl) (F1.ev 21 rfl) rfl (Sl.own hO0) (by omega) elPlace.un (by kernel_rfl)) rfl rfl rfl fun a2 F2 => ?_
        refine sr (v := (.agg #[.string ⟨p.1.toArray⟩, .int .i64 (p.2.1 : Int), .int .i64 (p.2.2 : Int)])) F2 (run_ldPS (ys := placeC p) rfl (F2.ev 23 rfl) (Sl.own hO0) (by omega) (fun j u hj => flat_at placeC_len hp j hj) (by kernel_rfl) (by kernel_rfl)) rfl rfl rfl fun a3 F3 => ?_
        refine sqNew (cs := #[.string ⟨List.toArray []⟩, .int .i64 0, .int .i64 0]) (t := 91) F3 M0 (wantedS rfl) (run_alloc rfl (by kernel_rfl)) rfl (by decide) fun g4 a4 w2 hgg4 hb2 F4 M1 => ?_
        have hO1 := hO0.add (S := isB 91 (#[.string ⟨List.toArray []⟩, .int .i64 0, .int .i64 0])) hb2 hgg4
        refine sqStoreG (i := 0) F4 M1 rfl rfl rfl (F4.ev 9 rfl) (F4.ev 24 rfl) rfl szPlace rfl rfl (arr_one rfl) fun a5 w3 hgr3 F5 M2 => ?_
        have hO2 := hO1.upd 0 (S2 := isB 91 (#[.string ⟨p.1.toArray⟩, .int .i64 (p.2.1 : Int), .int .i64 (p.2.2 : Int)])) rfl hgr3
        refine sn ?_
        clear F1 F2 F3 F4 M0 M1
        refine wsl ?_
        refine sr F5 (run_fldA (m := 1) (s := 0) rfl (F5.ev 9 rfl) Tryd.underlying91 rfl rfl (by kernel_rfl) (by decide)) rfl rfl rfl fun a6 F6 => ?_
        refine sr (v := (.string ⟨p.1.toArray⟩)) F6 (run_ldF rfl (F6.ev 25 rfl) (M2.at 0 rfl) rfl (by kernel_rfl)) rfl rfl rfl fun a7 F7 => ?_
        refine mvS F7 rfl rfl rfl rfl rfl fun a8 F8 => ?_
        refine sr (v := (.bool false)) F8 (run_eqs rfl (F8.ev 26 rfl) (F8.ev 27 rfl) (beq_eq_false_iff_ne.2 (fun e => hnm (hp1 ▸ e)))) rfl rfl rfl fun a9 F9 => ?_
        refine sn ?_
        clear F5 F6 F7 F8
        refine wp_cond_false (F9.ev 28 rfl) ?_
        refine wp_skip ?_
        refine bkEnd ?_
        refine nx ?_
        refine wp_region_lit ?_
        refine sr F9 (run_add (r := ((i + 1 : Nat) : Int)) rfl (F9.ev 21 rfl) rfl (by rw [IntKind.wrap_i64]; omega)) rfl rfl rfl fun a10 F10 => ?_
        refine mvS F10 rfl rfl rfl rfl rfl fun a11 F11 => ?_
        refine sn ?_
        clear F9 F10
        exact ⟨_, by omega, i + 1, by omega, rfl, hfd, hO2.sub (.cons _ (.cons_cons _ .slnil)), F11.sub ⟨rfl, rfl, rfl, rfl, rfl, rfl, trivial⟩, M2.sub (.cons _ (.cons_cons _ .slnil))⟩
    · have hie : i = l.length := by omega
      rw [hie, List.drop_length] at hfd
      have htk := takeS_miss hyes hfd
      refine wsl ?_
      refine sr (v := (.bool false)) F0 (run_lss rfl (F0.ev 21 rfl) (F0.ev 20 rfl) (decide_eq_false (by omega))) rfl rfl rfl fun a1 F1 => ?_
      refine sn ?_
      clear F0
      refine wp_seq ?_
      refine wp_cond_false (F1.ev 22 rfl) ?_
      refine wp_exit ?_
      refine nxExit ?_
      refine nxExit ?_
      refine bkHere ?_
      refine nx ?_
      refine wsl ?_
      refine sr (v := (.agg #[.string ⟨List.toArray []⟩, .string ⟨List.toArray []⟩])) F1 (run_blt (vs := #[]) (cs := #[.string ⟨List.toArray []⟩, .string ⟨List.toArray []⟩]) rfl (by simp) (by kernel_rfl)) rfl rfl rfl fun a2 F2 => ?_
      refine sqStoreG (i := 0) F2 M0 rfl rfl rfl (F2.ev 4 rfl) (F2.ev 41 rfl) rfl szBox rfl rfl (arr_one rfl) fun a3 w2 hgr2 F3 M1 => ?_
      have hO1 := hO0.upd 0 (S2 := isB 36 (#[.string ⟨List.toArray []⟩, .string ⟨List.toArray []⟩])) rfl hgr2
      refine sr (v := (.int .i64 9)) F3 (run_as rfl rfl) rfl rfl rfl fun a4 F4 => ?_
      refine sn ?_
      clear F1 F2 F3 M0
      refine wp_ret ?_
      exact retBT F4 rfl rfl (M1.at 0 rfl) Tryd.underlying36 rfl szBox rfl rfl ⟨by rw [htk]; rfl, M1.below⟩
end Go.Proofs.YtdjjiblijbjobaaDoor
