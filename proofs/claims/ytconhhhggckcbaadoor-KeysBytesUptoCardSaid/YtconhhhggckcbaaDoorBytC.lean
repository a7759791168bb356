/- The walk of keys.Of. Printed by gen_key33.py. -/
import Derived.Test.YtconhhhggckcbaaDoorBytB
namespace Go.Proofs.YtconhhhggckcbaaDoor
open Go.RowKit

attribute [local irreducible] sealS keyedS nonceS openS
theorem ntexts_err {b : List UInt8} {e : Int} (h : textsS b = .error e) (w : World) (hb : b.length < 2 ^ 42) : Calls Tryd.prog 63 #[.string ⟨b.toArray⟩] w fun x w' => x = .returned (.tuple #[.slice none 0 0, .int .i64 e]) ∧ Below w.heap.size w w' :=
  (ntexts_any b w hb).mono fun x w' ⟨u, h1, h2, h3⟩ => by unfold TxR at h2; rw [h] at h2; subst h2; exact ⟨h1, h3⟩
theorem ntexts_ok {b : List UInt8} {X : List (List UInt8)} (h : textsS b = .ok X) (w : World) (hb : b.length < 2 ^ 42) : Calls Tryd.prog 63 #[.string ⟨b.toArray⟩] w fun x w' => ∃ u, x = .returned u ∧ (∃ v, u = .tuple #[v, .int .i64 0] ∧ w'.ownsRow w.heap.size 9 1 v X.length (X.map tx)) ∧ Below w.heap.size w w' :=
  (ntexts_any b w hb).mono fun x w' ⟨u, h1, h2, h3⟩ => by unfold TxR at h2; rw [h] at h2; exact ⟨u, h1, h2, h3⟩
theorem rowS_ge : ∀ l : List (List UInt8), l.length ≤ (rowS l).length
  | [] => Nat.le_refl _
  | s :: l => by
    have := rowS_ge l
    have h1 : 0 < (lenB s.length).length := List.length_pos_iff.2 (lenB_ne _)
    rw [rowS_cons, List.length_cons, List.length_append, List.length_append]
    omega
theorem built_ep2 (wr : List UInt8) : Tryd.prog.built 76 [(1, .string ⟨wr.toArray⟩)] = some (epC (Ep.mk (List.replicate 32 0) wr)) := by kernel_rfl
theorem own_cells {w : World} {base : Nat} {e : TypeId} {m n : Nat} {v : Value} {xs : List Value} (h : w.ownsRow base e m v n xs) : v.cells = #[v] := by
  obtain ⟨_, _, _, rfl⟩ := own_slice h
  rfl
set_option maxRecDepth 100000 in
set_option maxHeartbeats 1000000 in
theorem kof_any (b : List UInt8) (w : World) (hb : b.length < 2 ^ 41) : Calls Tryd.prog 35 #[.string ⟨b.toArray⟩] w fun e w' => ∃ u, e = .returned u ∧ Kp.sat w.heap.size (.tup2 (.st (.row 76 33 ((ringO b).1.length) ((ringO b).1.flatMap epF))) (.val (.int .i64 ((ringO b).2)))) u w' ∧ Below w.heap.size w w' := by
  cases hT : textsS b with
  | error e =>
    have hs := ringO_err hT
    have he0 := texts_err0 b.length b e (Nat.le_refl _) hT
    refine walk_enter Tryd.func35 rfl rfl rfl fun a0 F0 => ?_
    have M0 := Mem.new w
    refine wsl ?_
    refine sqNew (cs := #[.slice none 0 0]) (t := 27) F0 M0 (wantedS rfl) (run_alloc rfl (by kernel_rfl)) rfl (by decide) fun g0 a1 w1 hgg0 hb1 F1 M1 => ?_
    refine sr (v := (.int .i64 0)) F1 (run_as rfl rfl) rfl rfl rfl fun a2 F2 => ?_
    refine sn ?_
    clear F0 F1 M0
    refine wsl ?_
    refine mvS F2 rfl rfl rfl rfl rfl fun a3 F3 => ?_
    refine sqC (v := (.tuple #[(.slice none 0 0), (.int .i64 e)])) F3 M1 (wantedS rfl) (run_call rfl Tryd.func63 (by kernel_rfl) rfl (mapE1 (F3.ev 10 rfl))) rfl (by decide) (ntexts_err hT w1 (by omega)) fun a4 w2 hb2 F4 M2 => ?_
    refine mvS F4 rfl rfl rfl rfl rfl fun a5 F5 => ?_
    refine sr (v := (.slice none 0 0)) F5 (run_ext rfl (F5.ev 9 rfl) rfl) rfl rfl rfl fun a6 F6 => ?_
    refine sr (v := (.int .i64 e)) F6 (run_ext rfl (F6.ev 9 rfl) rfl) rfl rfl rfl fun a7 F7 => ?_
    refine asS F7 rfl rfl rfl rfl rfl fun a8 F8 => ?_
    refine asS F8 rfl rfl rfl rfl rfl fun a9 F9 => ?_
    refine sn ?_
    clear F2 F3 F4 F5 F6 F7 F8 M1
    refine wp_seq ?_
    refine wsl ?_
    refine mvS F9 rfl rfl rfl rfl rfl fun a10 F10 => ?_
    refine sr (v := (.bool true)) F10 (run_nei rfl (F10.ev 14 rfl) rfl (bne_iff_ne.2 he0)) rfl rfl rfl fun a11 F11 => ?_
    refine sn ?_
    clear F9 F10
    refine wp_cond_true (F11.ev 15 rfl) ?_
    refine wsl ?_
    refine sr (v := (.agg #[.slice none 0 0])) F11 (run_blt (vs := #[]) (cs := #[.slice none 0 0]) rfl (by simp) (by kernel_rfl)) rfl rfl rfl fun a12 F12 => ?_
    refine mvS F12 rfl rfl rfl rfl rfl fun a13 F13 => ?_
    refine sqStore (i := 0) F13 M2 rfl rfl rfl (F13.ev 2 rfl) (F13.ev 16 rfl) rfl szRg rfl rfl (arr_one rfl) fun a14 w3 F14 M3 => ?_
    refine asS F14 rfl rfl rfl rfl rfl fun a15 F15 => ?_
    refine sn ?_
    clear F11 F12 F13 F14 M2
    refine wp_ret ?_
    refine nxRet ?_
    exact retV F15 (results_LT F15 rfl rfl (loadVar_all (M3.at 0 rfl) Tryd.underlying27 rfl szRg rfl) rfl) ⟨_, rfl, by rw [hs]; exact ⟨_, _, rfl, ⟨_, rfl, ⟨rfl, .inl ⟨rfl, rfl⟩⟩⟩, rfl⟩, M3.below⟩
  | ok X =>
  have hXb : X.length ≤ b.length := by rw [← (textsS_back b.length b X (Nat.le_refl _) hT).1]; exact rowS_ge X
  by_cases h2 : X.length % 2 = 0
  · by_cases hX : X.length = 0
    · have hm0 : ¬ mayP [] := fun h => absurd h.1 (by simp)
      have hs : ringO b = ([], 3) := ringO_no hT fun h => by
        have := h.2.1
        rw [epsOf_len] at this
        omega
      refine walk_enter Tryd.func35 rfl rfl rfl fun a0 F0 => ?_
      have M0 := Mem.new w
      refine wsl ?_
      refine sqNew (cs := #[.slice none 0 0]) (t := 27) F0 M0 (wantedS rfl) (run_alloc rfl (by kernel_rfl)) rfl (by decide) fun g0 a1 w1 hgg0 hb1 F1 M1 => ?_
      refine sr (v := (.int .i64 0)) F1 (run_as rfl rfl) rfl rfl rfl fun a2 F2 => ?_
      refine sn ?_
      clear F0 F1 M0
      refine wsl ?_
      refine mvS F2 rfl rfl rfl rfl rfl fun a3 F3 => ?_
      refine sqT (T := fun u wx => (∃ v, u = .tuple #[v, .int .i64 0] ∧ wx.ownsRow w1.heap.size 9 1 v X.length (X.map tx)) ∧ Below w1.heap.size w1 wx) F3 (wantedS rfl) (run_call rfl Tryd.func63 (by kernel_rfl) rfl (mapE1 (F3.ev 10 rfl))) rfl (by decide) (ntexts_ok hT w1 (by omega)) fun u1 a4 w2 hT2 F4 => ?_
      obtain ⟨⟨v2, rfl, hr2⟩, hb2⟩ := hT2
      have hO1 := OwnR.ofCall M1 hr2
      have M2 := M1.grow hb2
      refine mvS F4 rfl rfl rfl rfl rfl fun a5 F5 => ?_
      refine sr (v := v2) F5 (run_ext rfl (F5.ev 9 rfl) rfl) rfl rfl rfl fun a6 F6 => ?_
      refine sr (v := (.int .i64 0)) F6 (run_ext rfl (F6.ev 9 rfl) rfl) rfl rfl rfl fun a7 F7 => ?_
      refine asS F7 rfl rfl rfl rfl rfl fun a8 F8 => ?_
      refine asS F8 rfl rfl rfl rfl rfl fun a9 F9 => ?_
      refine sn ?_
      clear F2 F3 F4 F5 F6 F7 F8 M1
      refine wp_seq ?_
      refine wsl ?_
      refine mvS F9 rfl rfl rfl rfl rfl fun a10 F10 => ?_
      refine sr (v := (.bool false)) F10 (run_nei rfl (F10.ev 14 rfl) rfl (bne_eq_false_iff_eq.2 (by omega))) rfl rfl rfl fun a11 F11 => ?_
      refine sn ?_
      clear F9 F10
      refine cfs (F11.ev 15 rfl) ?_
      refine wp_seq ?_
      refine wsl ?_
      refine mvS F11 rfl rfl rfl rfl rfl fun a12 F12 => ?_
      refine sr F12 (run_lenS rfl (F12.ev 18 rfl) (Sl.own hO1) rfl Tryd.underlying91) rfl rfl rfl fun a13 F13 => ?_
      refine sr (v := (.int .i64 ((X.length % 2 : Nat) : Int))) F13 (run_rem (r := ((X.length % 2 : Nat) : Int)) rfl (F13.ev 19 rfl) rfl (by omega) (by rw [Int.tmod_eq_emod_of_nonneg (by omega)]; try omega)) rfl rfl rfl fun a14 F14 => ?_
      refine sr (v := (.bool false)) F14 (run_nei rfl (F14.ev 20 rfl) rfl (bne_eq_false_iff_eq.2 (by omega))) rfl rfl rfl fun a15 F15 => ?_
      refine sn ?_
      clear F11 F12 F13 F14
      refine cfs (F15.ev 21 rfl) ?_
      refine wsl ?_
      refine sqNew (cs := #[.slice none 0 0]) (t := 27) F15 M2 (wantedS rfl) (run_alloc rfl (by kernel_rfl)) rfl (by decide) fun g3 a16 w3 hgg3 hb3 F16 M3 => ?_
      have hO2 := hO1.add (S := isB 27 (#[.slice none 0 0])) hb3 hgg3
      refine sn ?_
      clear F15 M2
      refine wp_seq ?_
      refine wsl ?_
      refine sr (v := (.int .i64 0)) F16 (run_as rfl rfl) rfl rfl rfl fun a17 F17 => ?_
      refine sn ?_
      clear F16
      refine wp_block ?_
      refine wkLoop (fun m a0 w2 => m = 0 ∧ Fr a0 60 [(2, .pointer (some ⟨g0, 0, none⟩)), (4, v2), (6, .pointer (some ⟨g3, 0, none⟩)), (7, .int .i64 0)] ∧ Mem w [(g3, isB 27 #[.slice none 0 0]), (g0, isB 27 #[.slice none 0 0])] w2 ∧ OwnR w [(g3, isB 27 #[.slice none 0 0]), (g0, isB 27 #[.slice none 0 0])] w2 9 1 v2 X.length (X.map tx)) 0 ⟨rfl, F17.sub ⟨rfl, rfl, rfl, rfl, trivial⟩, M3, hO2⟩ ?_
      rintro m a0 w1 ⟨rfl, F0, M0, hO0⟩
      refine wp_seq ?_
      refine wsl ?_
      refine mvS F0 rfl rfl rfl rfl rfl fun a1 F1 => ?_
      refine mvS F1 rfl rfl rfl rfl rfl fun a2 F2 => ?_
      refine sr F2 (run_lenS rfl (F2.ev 24 rfl) (Sl.own hO0) rfl Tryd.underlying91) rfl rfl rfl fun a3 F3 => ?_
      refine sr (v := (.bool false)) F3 (run_lss rfl (F3.ev 23 rfl) (F3.ev 25 rfl) (decide_eq_false (by omega))) rfl rfl rfl fun a4 F4 => ?_
      refine sn ?_
      clear F0 F1 F2 F3
      refine wp_cond_false (F4.ev 26 rfl) ?_
      refine wp_exit ?_
      refine nxExit ?_
      refine nxExit ?_
      refine bkHere ?_
      refine nx ?_
      refine wp_seq ?_
      refine wsl ?_
      refine sr F4 (run_ldB rfl (F4.ev 6 rfl) (M0.at 0 rfl) Tryd.underlying27 rfl szRg rfl) rfl rfl rfl fun a5 F5 => ?_
      refine sqC (v := (.bool false)) F5 M0 (wantedS rfl) (run_call rfl Tryd.func58 (by kernel_rfl) rfl (mapE1 (F5.ev 55 rfl))) rfl (by decide) ((by have h := kmay_any [] (.slice none 0 0) w1 ⟨rfl, .inl ⟨⟨_, _, rfl⟩, rfl⟩⟩ (fun e he => by cases he); rw [decide_eq_false hm0] at h; exact h)) fun a6 w2 hb2 F6 M1 => ?_
      have hO1 := hO0.grow hb2
      refine sr (v := (.bool true)) F6 (run_not rfl (F6.ev 56 rfl)) rfl rfl rfl fun a7 F7 => ?_
      refine sn ?_
      clear F4 F5 F6 M0
      refine wp_cond_true (F7.ev 57 rfl) ?_
      refine wsl ?_
      refine sr (v := (.agg #[.slice none 0 0])) F7 (run_blt (vs := #[]) (cs := #[.slice none 0 0]) rfl (by simp) (by kernel_rfl)) rfl rfl rfl fun a8 F8 => ?_
      refine sqStoreG (i := 1) F8 M1 rfl rfl rfl (F8.ev 2 rfl) (F8.ev 58 rfl) rfl szRg rfl rfl (arr_one rfl) fun a9 w3 hgr3 F9 M2 => ?_
      have hO2 := hO1.upd 1 (S2 := isB 27 (#[.slice none 0 0])) rfl hgr3
      refine sr (v := (.int .i64 3)) F9 (run_as rfl rfl) rfl rfl rfl fun a10 F10 => ?_
      refine sn ?_
      clear F7 F8 F9 M1
      refine wp_ret ?_
      refine nxRet ?_
      exact retV F10 (results_LT F10 rfl rfl (loadVar_all (M2.at 1 rfl) Tryd.underlying27 rfl szRg rfl) rfl) ⟨_, rfl, by rw [hs]; exact ⟨_, _, rfl, ⟨_, rfl, ⟨rfl, .inl ⟨rfl, rfl⟩⟩⟩, rfl⟩, M2.below⟩
    · skip
      refine walk_enter Tryd.func35 rfl rfl rfl fun a0 F0 => ?_
      have M0 := Mem.new w
      refine wsl ?_
      refine sqNew (cs := #[.slice none 0 0]) (t := 27) F0 M0 (wantedS rfl) (run_alloc rfl (by kernel_rfl)) rfl (by decide) fun g0 a1 w1 hgg0 hb1 F1 M1 => ?_
      refine sr (v := (.int .i64 0)) F1 (run_as rfl rfl) rfl rfl rfl fun a2 F2 => ?_
      refine sn ?_
      clear F0 F1 M0
      refine wsl ?_
      refine mvS F2 rfl rfl rfl rfl rfl fun a3 F3 => ?_
      refine sqT (T := fun u wx => (∃ v, u = .tuple #[v, .int .i64 0] ∧ wx.ownsRow w1.heap.size 9 1 v X.length (X.map tx)) ∧ Below w1.heap.size w1 wx) F3 (wantedS rfl) (run_call rfl Tryd.func63 (by kernel_rfl) rfl (mapE1 (F3.ev 10 rfl))) rfl (by decide) (ntexts_ok hT w1 (by omega)) fun u1 a4 w2 hT2 F4 => ?_
      obtain ⟨⟨v2, rfl, hr2⟩, hb2⟩ := hT2
      obtain ⟨gt, ct, rfl, hcapgt, hggt, M2⟩ := OwnR.ofCallMem M1 hb2 hr2 (by omega)
      refine mvS F4 rfl rfl rfl rfl rfl fun a5 F5 => ?_
      refine sr (v := (.slice (some ⟨gt, 0, none⟩) X.length ct)) F5 (run_ext rfl (F5.ev 9 rfl) rfl) rfl rfl rfl fun a6 F6 => ?_
      refine sr (v := (.int .i64 0)) F6 (run_ext rfl (F6.ev 9 rfl) rfl) rfl rfl rfl fun a7 F7 => ?_
      refine asS F7 rfl rfl rfl rfl rfl fun a8 F8 => ?_
      refine asS F8 rfl rfl rfl rfl rfl fun a9 F9 => ?_
      refine sn ?_
      clear F2 F3 F4 F5 F6 F7 F8 M1
      refine wp_seq ?_
      refine wsl ?_
      refine mvS F9 rfl rfl rfl rfl rfl fun a10 F10 => ?_
      refine sr (v := (.bool false)) F10 (run_nei rfl (F10.ev 14 rfl) rfl (bne_eq_false_iff_eq.2 (by omega))) rfl rfl rfl fun a11 F11 => ?_
      refine sn ?_
      clear F9 F10
      refine cfs (F11.ev 15 rfl) ?_
      refine wp_seq ?_
      refine wsl ?_
      refine mvS F11 rfl rfl rfl rfl rfl fun a12 F12 => ?_
      refine sr F12 (run_lenS rfl (F12.ev 18 rfl) (slOfRow (c := ct) (M2.ob 0 rfl)) rfl Tryd.underlying91) rfl rfl rfl fun a13 F13 => ?_
      refine sr (v := (.int .i64 ((X.length % 2 : Nat) : Int))) F13 (run_rem (r := ((X.length % 2 : Nat) : Int)) rfl (F13.ev 19 rfl) rfl (by omega) (by rw [Int.tmod_eq_emod_of_nonneg (by omega)]; try omega)) rfl rfl rfl fun a14 F14 => ?_
      refine sr (v := (.bool false)) F14 (run_nei rfl (F14.ev 20 rfl) rfl (bne_eq_false_iff_eq.2 (by omega))) rfl rfl rfl fun a15 F15 => ?_
      refine sn ?_
      clear F11 F12 F13 F14
      refine cfs (F15.ev 21 rfl) ?_
      refine wsl ?_
      refine sqNew (cs := #[.slice none 0 0]) (t := 27) F15 M2 (wantedS rfl) (run_alloc rfl (by kernel_rfl)) rfl (by decide) fun g3 a16 w3 hgg3 hb3 F16 M3 => ?_
      refine sn ?_
      clear F15 M2
      refine wp_seq ?_
      refine wsl ?_
      refine sr (v := (.int .i64 0)) F16 (run_as rfl rfl) rfl rfl rfl fun a17 F17 => ?_
      refine sn ?_
      clear F16
      refine wp_block ?_
      refine wkLoop (fun m a0 w2 => ∃ (j : Nat) (vr : Value), 2 * j ≤ X.length ∧ m = X.length - 2 * j ∧ (∀ q, q < j → (X.getD (2 * q) []).length = 32) ∧ Fr a0 60 [(2, .pointer (some ⟨g0, 0, none⟩)), (4, .slice (some ⟨gt, 0, none⟩) X.length ct), (6, .pointer (some ⟨g3, 0, none⟩)), (7, .int .i64 ((2 * j : Nat) : Int))] ∧ Mem w [(g3, isB 27 #[vr]), (gt, isRow 9 1 X.length (X.map tx)), (g0, isB 27 #[.slice none 0 0])] w2 ∧ OwnR w [(g3, isB 27 #[vr]), (gt, isRow 9 1 X.length (X.map tx)), (g0, isB 27 #[.slice none 0 0])] w2 76 33 vr j (((epsOf X).take j).flatMap epF)) X.length ⟨0, .slice none 0 0, Nat.zero_le _, rfl, fun q hq => by omega, F17.sub ⟨rfl, rfl, rfl, rfl, trivial⟩, M3, OwnR.nil _ _ _ _ _⟩ ?_
      rintro m a0 w1 ⟨j, vr, hj, rfl, hok, F0, M0, hO0⟩
      by_cases h1 : 2 * j < X.length
      · obtain ⟨cc, hx1⟩ : ∃ c, X[2 * j]? = some c := ⟨X[2 * j], List.getElem?_eq_getElem h1⟩
        obtain ⟨ww, hx2⟩ : ∃ c, X[2 * j + 1]? = some c := ⟨X[2 * j + 1]'(by omega), List.getElem?_eq_getElem (by omega)⟩
        by_cases hcc : cc.length = 32
        · skip
          refine wp_seq ?_
          refine wsl ?_
          refine mvS F0 rfl rfl rfl rfl rfl fun a1 F1 => ?_
          refine mvS F1 rfl rfl rfl rfl rfl fun a2 F2 => ?_
          refine sr F2 (run_lenS rfl (F2.ev 24 rfl) (slOfRow (c := ct) (M0.ob 1 rfl)) rfl Tryd.underlying91) rfl rfl rfl fun a3 F3 => ?_
          refine sr (v := (.bool true)) F3 (run_lss rfl (F3.ev 23 rfl) (F3.ev 25 rfl) (decide_eq_true (by omega))) rfl rfl rfl fun a4 F4 => ?_
          refine sn ?_
          clear F0 F1 F2 F3
          refine cts (F4.ev 26 rfl) ?_
          refine wp_seq ?_
          refine wp_block ?_
          refine wsl ?_
          refine mvS F4 rfl rfl rfl rfl rfl fun a5 F5 => ?_
          refine mvS F5 rfl rfl rfl rfl rfl fun a6 F6 => ?_
          refine sr F6 (run_add (r := ((2 * j + 1 : Nat) : Int)) rfl (F6.ev 30 rfl) rfl (by rw [IntKind.wrap_i64]; omega)) rfl rfl rfl fun a7 F7 => ?_
          refine sr (v := (slPtr (.slice (some ⟨gt, 0, none⟩) X.length ct) ((2 * j + 1) * 1))) F7 (run_atP (i := (2 * j + 1)) rfl (F7.ev 29 rfl) (F7.ev 31 rfl) rfl (slOfRow (c := ct) (M0.ob 1 rfl)) (by omega) elStr.un (by kernel_rfl)) rfl rfl rfl fun a8 F8 => ?_
          refine sr (v := (.string ⟨ww.toArray⟩)) F8 (run_ldP rfl (F8.ev 32 rfl) (slOfRow (c := ct) (M0.ob 1 rfl)) (map_at hx2) (by kernel_rfl)) rfl rfl rfl fun a9 F9 => ?_
          refine sr (v := (.agg (epC (Ep.mk (List.replicate 32 0) ww)))) F9 (run_blt (vs := #[(1, .string ⟨ww.toArray⟩)]) (cs := epC (Ep.mk (List.replicate 32 0) ww)) rfl (bltE1 (F9.ev 33 rfl)) (built_ep2 _)) rfl rfl rfl fun a10 F10 => ?_
          refine sqNew (cs := (epC ⟨List.replicate 32 0, []⟩)) (t := 76) F10 M0 (wantedS rfl) (run_alloc rfl (by kernel_rfl)) rfl (by decide) fun g4 a11 w2 hgg4 hb2 F11 M1 => ?_
          have hO1 := hO0.add (S := isB 76 (epC ⟨List.replicate 32 0, []⟩)) hb2 hgg4
          refine sqStoreG (i := 0) F11 M1 rfl rfl rfl (F11.ev 8 rfl) (F11.ev 34 rfl) rfl szEp (epC_size (e := (Ep.mk (List.replicate 32 0) ww)) List.length_replicate) (epC_size (e := ⟨List.replicate 32 0, []⟩) List.length_replicate) (epC_one (Ep.mk (List.replicate 32 0) ww)) fun a12 w3 hgr3 F12 M2 => ?_
          have hO2 := hO1.upd 0 (S2 := isB 76 (epC (Ep.mk (List.replicate 32 0) ww))) rfl hgr3
          refine sn ?_
          clear F4 F5 F6 F7 F8 F9 F10 F11 M0 M1
          refine wp_seq ?_
          refine wsl ?_
          refine mvS F12 rfl rfl rfl rfl rfl fun a13 F13 => ?_
          refine mvS F13 rfl rfl rfl rfl rfl fun a14 F14 => ?_
          refine sr (v := (slPtr (.slice (some ⟨gt, 0, none⟩) X.length ct) ((2 * j) * 1))) F14 (run_atP (i := (2 * j)) rfl (F14.ev 35 rfl) (F14.ev 36 rfl) rfl (slOfRow (c := ct) (M2.ob 2 rfl)) (by omega) elStr.un (by kernel_rfl)) rfl rfl rfl fun a15 F15 => ?_
          refine sr (v := (.string ⟨cc.toArray⟩)) F15 (run_ldP rfl (F15.ev 37 rfl) (slOfRow (c := ct) (M2.ob 2 rfl)) (map_at hx1) (by kernel_rfl)) rfl rfl rfl fun a16 F16 => ?_
          refine sr F16 (run_len rfl (F16.ev 38 rfl) rfl Tryd.underlying9) rfl rfl rfl fun a17 F17 => ?_
          refine sr (v := (.bool false)) F17 (run_nei rfl (F17.ev 39 rfl) rfl (bne_eq_false_iff_eq.2 (by omega))) rfl rfl rfl fun a18 F18 => ?_
          refine sn ?_
          clear F12 F13 F14 F15 F16 F17
          refine cfs (F18.ev 40 rfl) ?_
          refine wp_seq ?_
          obtain ⟨KL, hKL⟩ : ∃ KL, KL = [kval (.pointer (some ⟨g4, 0, none⟩)), kval (.slice (some ⟨g4, 0, none⟩) 32 32), kval (.slice (some ⟨gt, 0, none⟩) X.length ct), kval (.int .i64 ((2 * j : Nat) : Int)), kval (slPtr (.slice (some ⟨gt, 0, none⟩) X.length ct) ((2 * j) * 1)), kval (.string ⟨cc.toArray⟩)] := ⟨_, rfl⟩
          have K0 := getK hKL 0
          have K1 := getK hKL 1
          have K2 := getK hKL 2
          have K3 := getK hKL 3
          have K4 := getK hKL 4
          have K5 := getK hKL 5
          have HKL : KL.length ≤ 6 := by rw [hKL]; exact Nat.le_refl _
          clear hKL
          refine wp_region_kdTail2 60 6 (by kernel_rfl) (by kernel_rfl) (by kernel_rfl) (by kernel_rfl) F18.size KL HKL ?_ ?_
          · refine ⟨?_, ?_, ?_, ?_, ?_, ?_, trivial⟩
            · exact asksHY rfl fun a W hS hh hd => giv_run (run_fldA (m := 32) (s := 0) rfl (eval_tmp (hh 8 _ rfl (F18.at 8 rfl))) Tryd.underlying76 rfl rfl (by kernel_rfl) (by decide)) K0
            · exact asksHY rfl fun a W hS hh hd => giv_run (run_slA rfl (eval_tmp (hd.vl 0 42 (by kernel_rfl) K0)) (run_sliceArr_all (P := Tryd.prog) Tryd.underlying73 so8 g4 0 (by decide) _)) K1
            · exact asksHY rfl fun a W hS hh hd => giv_run (run_mv rfl (eval_tmp (hh 4 _ rfl (F18.at 4 rfl)))) K2
            · exact asksHY rfl fun a W hS hh hd => giv_run (run_mv rfl (eval_tmp (hh 7 _ rfl (F18.at 7 rfl)))) K3
            · exact asksHY rfl fun a W hS hh hd => giv_run (run_atP (i := (2 * j)) rfl (eval_tmp (hd.vl 2 44 (by kernel_rfl) K2)) (eval_tmp (hd.vl 3 45 (by kernel_rfl) K3)) rfl (slOfRow (c := ct) ((M2.grow hS).ob 2 rfl)) (by omega) elStr.un (by kernel_rfl)) K4
            · exact asksHY rfl fun a W hS hh hd => giv_run (run_ldP rfl (eval_tmp (hd.vl 4 46 (by kernel_rfl) K4)) (slOfRow (c := ct) ((M2.grow hS).ob 2 rfl)) (map_at hx1) (by kernel_rfl)) K5
          · intro a19 w4 hb4 hK
            have e0 := hK.hvl 0 42 rfl (by kernel_rfl) K0
            have e1 := hK.hvl 1 43 rfl (by kernel_rfl) K1
            have e2 := hK.hvl 2 44 rfl (by kernel_rfl) K2
            have e3 := hK.hvl 3 45 rfl (by kernel_rfl) K3
            have e4 := hK.hvl 4 46 rfl (by kernel_rfl) K4
            have e5 := hK.hvl 5 47 rfl (by kernel_rfl) K5
            have F19 : Fr a19 60 [(2, (.pointer (some ⟨g0, 0, none⟩))), (4, (.slice (some ⟨gt, 0, none⟩) X.length ct)), (6, (.pointer (some ⟨g3, 0, none⟩))), (7, (.int .i64 ((2 * j : Nat) : Int))), (8, (.pointer (some ⟨g4, 0, none⟩))), (23, (.int .i64 ((2 * j : Nat) : Int))), (24, (.slice (some ⟨gt, 0, none⟩) X.length ct)), (25, (.int .i64 (X.length : Int))), (26, (.bool true)), (29, (.slice (some ⟨gt, 0, none⟩) X.length ct)), (30, (.int .i64 ((2 * j : Nat) : Int))), (31, (.int .i64 ((2 * j + 1 : Nat) : Int))), (32, (slPtr (.slice (some ⟨gt, 0, none⟩) X.length ct) ((2 * j + 1) * 1))), (33, (.string ⟨ww.toArray⟩)), (34, (.agg (epC (Ep.mk (List.replicate 32 0) ww)))), (35, (.slice (some ⟨gt, 0, none⟩) X.length ct)), (36, (.int .i64 ((2 * j : Nat) : Int))), (37, (slPtr (.slice (some ⟨gt, 0, none⟩) X.length ct) ((2 * j) * 1))), (38, (.string ⟨cc.toArray⟩)), (39, (.int .i64 (cc.length : Int))), (40, (.bool false)), (43, (.slice (some ⟨g4, 0, none⟩) 32 32)), (47, (.string ⟨cc.toArray⟩))] := (hK.hfr F18 [_, _, _, _, _, _] ⟨e0, e1, e2, e3, e4, e5, trivial⟩).sub ⟨rfl, rfl, rfl, rfl, rfl, rfl, rfl, rfl, rfl, rfl, rfl, rfl, rfl, rfl, rfl, rfl, rfl, rfl, rfl, rfl, rfl, rfl, rfl, trivial⟩
            have M3 := M2.grow hb4
            have hO3 := hO2.grow hb4
            clear hK K0 e0 K1 e1 K2 e2 K3 e3 K4 e4 K5 e5 HKL
            simp only [List.drop_succ_cons, List.drop_zero]
            refine sqCopyG (j := 0) (cs2 := epC (Ep.mk cc ww)) Tryd.underlying52 F19 M3 rfl rfl (F19.ev 43 rfl) (F19.ev 47 rfl) hcc rfl (by rw [epC_size List.length_replicate]; decide) (copy_ep List.length_replicate) rfl (by decide) fun a20 w5 hgr5 F20 M4 => ?_
            have hO4 := hO3.upd 0 (S2 := isB 76 (epC (Ep.mk cc ww))) rfl hgr5
            refine sn ?_
            clear F18 F19 M2 M3
            refine wp_region_lit ?_
            refine sr F20 (run_fldA (m := 1) (s := 0) rfl (F20.ev 6 rfl) Tryd.underlying27 rfl rfl (by kernel_rfl) (by decide)) rfl rfl rfl fun a21 F21 => ?_
            refine sr (v := vr) F21 (run_ldF rfl (F21.ev 49 rfl) (M4.at 1 rfl) rfl (by kernel_rfl)) rfl rfl rfl fun a22 F22 => ?_
            refine sr F22 (run_ldB rfl (F22.ev 8 rfl) (M4.at 0 rfl) Tryd.underlying76 rfl szEp (epC_size (e := (Ep.mk cc ww)) hcc)) rfl rfl rfl fun a23 F23 => ?_
            refine sqRow (cs := (List.toArray ([(Ep.mk cc ww)].flatMap epF))) (t := 76) (m := 1) F23 M4 (wantedS rfl) (run_eps1 (e := (Ep.mk cc ww)) hcc rfl (F23.ev 51 rfl)) rfl (by decide) fun g5 a24 w6 hgg5 hb6 F24 M5 => ?_
            have hO5 := hO4.add (S := isB 76 (List.toArray ([(Ep.mk cc ww)].flatMap epF))) hb6 hgg5
            refine sqAppend (m := 1) (news := ([(Ep.mk cc ww)].flatMap epF)) elEp F24 M5 hO5 rfl rfl (F24.ev 50 rfl) (F24.ev 52 rfl) (flat_lenG epF_len _) (blkNews (M5.at 0 rfl)) (flat_one epF_one _) (by unfold maxLen; omega) (by omega) rfl (by decide) fun v6 a25 w7 hO6 M6 hnilv6 F25 => ?_
            refine sr F25 (run_fldA (m := 1) (s := 0) rfl (F25.ev 6 rfl) Tryd.underlying27 rfl rfl (by kernel_rfl) (by decide)) rfl rfl rfl fun a26 F26 => ?_
            refine sqStoreV (i := 2) (cs := #[v6]) F26 M6 rfl rfl rfl (F26.ev 54 rfl) (F26.ev 53 rfl) (own_cells hO6.owns) rfl (by kernel_rfl) rfl rfl (one_own hO6.owns) fun a27 w8 hgr8 F27 M7 => ?_
            have hO7 := hO6.upd 2 (S2 := isB 27 #[v6]) rfl hgr8
            refine sqEnd ?_
            clear F20 F21 F22 F23 F24 F25 F26 M4 M5 M6
            refine bkEnd ?_
            refine nx ?_
            refine wp_region_lit ?_
            refine mvS F27 rfl rfl rfl rfl rfl fun a28 F28 => ?_
            refine sr F28 (run_add (r := ((2 * (j + 1) : Nat) : Int)) rfl (F28.ev 27 rfl) rfl (by rw [IntKind.wrap_i64]; omega)) rfl rfl rfl fun a29 F29 => ?_
            refine asS F29 rfl rfl rfl rfl rfl fun a30 F30 => ?_
            refine sn ?_
            clear F27 F28 F29
            have hep := epsOf_at hx1 hx2
            exact ⟨_, by omega, j + 1, v6, by omega, rfl, fun q hq => by
                rcases Nat.lt_succ_iff_lt_or_eq.1 hq with h | h
                · exact hok q h
                · rw [h, List.getD_eq_getElem?_getD, hx1]; exact hcc, F30.sub ⟨rfl, rfl, rfl, rfl, trivial⟩, M7.sub (.cons _ (.cons _ (.cons_cons _ (.cons_cons _ (.cons_cons _ .slnil))))), by have h9 := hO7.sub (.cons _ (.cons _ (.cons_cons _ (.cons_cons _ (.cons_cons _ .slnil))))); rw [List.take_add_one, hep, List.flatMap_append]; exact h9⟩
        · have hs : ringO b = ([], 3) := ringO_no hT fun h => even_bad hx1 hcc h.1
          refine wp_seq ?_
          refine wsl ?_
          refine mvS F0 rfl rfl rfl rfl rfl fun a1 F1 => ?_
          refine mvS F1 rfl rfl rfl rfl rfl fun a2 F2 => ?_
          refine sr F2 (run_lenS rfl (F2.ev 24 rfl) (slOfRow (c := ct) (M0.ob 1 rfl)) rfl Tryd.underlying91) rfl rfl rfl fun a3 F3 => ?_
          refine sr (v := (.bool true)) F3 (run_lss rfl (F3.ev 23 rfl) (F3.ev 25 rfl) (decide_eq_true (by omega))) rfl rfl rfl fun a4 F4 => ?_
          refine sn ?_
          clear F0 F1 F2 F3
          refine cts (F4.ev 26 rfl) ?_
          refine wp_seq ?_
          refine wp_block ?_
          refine wsl ?_
          refine mvS F4 rfl rfl rfl rfl rfl fun a5 F5 => ?_
          refine mvS F5 rfl rfl rfl rfl rfl fun a6 F6 => ?_
          refine sr F6 (run_add (r := ((2 * j + 1 : Nat) : Int)) rfl (F6.ev 30 rfl) rfl (by rw [IntKind.wrap_i64]; omega)) rfl rfl rfl fun a7 F7 => ?_
          refine sr (v := (slPtr (.slice (some ⟨gt, 0, none⟩) X.length ct) ((2 * j + 1) * 1))) F7 (run_atP (i := (2 * j + 1)) rfl (F7.ev 29 rfl) (F7.ev 31 rfl) rfl (slOfRow (c := ct) (M0.ob 1 rfl)) (by omega) elStr.un (by kernel_rfl)) rfl rfl rfl fun a8 F8 => ?_
          refine sr (v := (.string ⟨ww.toArray⟩)) F8 (run_ldP rfl (F8.ev 32 rfl) (slOfRow (c := ct) (M0.ob 1 rfl)) (map_at hx2) (by kernel_rfl)) rfl rfl rfl fun a9 F9 => ?_
          refine sr (v := (.agg (epC (Ep.mk (List.replicate 32 0) ww)))) F9 (run_blt (vs := #[(1, .string ⟨ww.toArray⟩)]) (cs := epC (Ep.mk (List.replicate 32 0) ww)) rfl (bltE1 (F9.ev 33 rfl)) (built_ep2 _)) rfl rfl rfl fun a10 F10 => ?_
          refine sqNew (cs := (epC ⟨List.replicate 32 0, []⟩)) (t := 76) F10 M0 (wantedS rfl) (run_alloc rfl (by kernel_rfl)) rfl (by decide) fun g7 a11 w2 hgg7 hb2 F11 M1 => ?_
          have hO1 := hO0.add (S := isB 76 (epC ⟨List.replicate 32 0, []⟩)) hb2 hgg7
          refine sqStoreG (i := 0) F11 M1 rfl rfl rfl (F11.ev 8 rfl) (F11.ev 34 rfl) rfl szEp (epC_size (e := (Ep.mk (List.replicate 32 0) ww)) List.length_replicate) (epC_size (e := ⟨List.replicate 32 0, []⟩) List.length_replicate) (epC_one (Ep.mk (List.replicate 32 0) ww)) fun a12 w3 hgr3 F12 M2 => ?_
          have hO2 := hO1.upd 0 (S2 := isB 76 (epC (Ep.mk (List.replicate 32 0) ww))) rfl hgr3
          refine sn ?_
          clear F4 F5 F6 F7 F8 F9 F10 F11 M0 M1
          refine wp_seq ?_
          refine wsl ?_
          refine mvS F12 rfl rfl rfl rfl rfl fun a13 F13 => ?_
          refine mvS F13 rfl rfl rfl rfl rfl fun a14 F14 => ?_
          refine sr (v := (slPtr (.slice (some ⟨gt, 0, none⟩) X.length ct) ((2 * j) * 1))) F14 (run_atP (i := (2 * j)) rfl (F14.ev 35 rfl) (F14.ev 36 rfl) rfl (slOfRow (c := ct) (M2.ob 2 rfl)) (by omega) elStr.un (by kernel_rfl)) rfl rfl rfl fun a15 F15 => ?_
          refine sr (v := (.string ⟨cc.toArray⟩)) F15 (run_ldP rfl (F15.ev 37 rfl) (slOfRow (c := ct) (M2.ob 2 rfl)) (map_at hx1) (by kernel_rfl)) rfl rfl rfl fun a16 F16 => ?_
          refine sr F16 (run_len rfl (F16.ev 38 rfl) rfl Tryd.underlying9) rfl rfl rfl fun a17 F17 => ?_
          refine sr (v := (.bool true)) F17 (run_nei rfl (F17.ev 39 rfl) rfl (bne_iff_ne.2 (by omega))) rfl rfl rfl fun a18 F18 => ?_
          refine sn ?_
          clear F12 F13 F14 F15 F16 F17
          refine wp_cond_true (F18.ev 40 rfl) ?_
          refine wsl ?_
          refine sr (v := (.agg #[.slice none 0 0])) F18 (run_blt (vs := #[]) (cs := #[.slice none 0 0]) rfl (by simp) (by kernel_rfl)) rfl rfl rfl fun a19 F19 => ?_
          refine sqStoreG (i := 3) F19 M2 rfl rfl rfl (F19.ev 2 rfl) (F19.ev 41 rfl) rfl szRg rfl rfl (arr_one rfl) fun a20 w4 hgr4 F20 M3 => ?_
          have hO3 := hO2.upd 3 (S2 := isB 27 (#[.slice none 0 0])) rfl hgr4
          refine sr (v := (.int .i64 3)) F20 (run_as rfl rfl) rfl rfl rfl fun a21 F21 => ?_
          refine sn ?_
          clear F18 F19 F20 M2
          refine wp_ret ?_
          refine nxRet ?_
          refine bkRet ?_
          refine nxRet ?_
          refine nxRet ?_
          refine bkRet ?_
          refine nxRet ?_
          exact retV F21 (results_LT F21 rfl rfl (loadVar_all (M3.at 3 rfl) Tryd.underlying27 rfl szRg rfl) rfl) ⟨_, rfl, by rw [hs]; exact ⟨_, _, rfl, ⟨_, rfl, ⟨rfl, .inl ⟨rfl, rfl⟩⟩⟩, rfl⟩, M3.below⟩
      · have hel := epsOf_len X
        obtain rfl : j = (epsOf X).length := by omega
        rw [List.take_length] at hO0
        have hev : evenOk X := ⟨h2, fun q hq => hok q (by omega)⟩
        by_cases hm : mayP (epsOf X)
        · have hs : ringO b = (epsOf X, 0) := ringO_ok hT ⟨hev, hm⟩
          refine wp_seq ?_
          refine wsl ?_
          refine mvS F0 rfl rfl rfl rfl rfl fun a1 F1 => ?_
          refine mvS F1 rfl rfl rfl rfl rfl fun a2 F2 => ?_
          refine sr F2 (run_lenS rfl (F2.ev 24 rfl) (slOfRow (c := ct) (M0.ob 1 rfl)) rfl Tryd.underlying91) rfl rfl rfl fun a3 F3 => ?_
          refine sr (v := (.bool false)) F3 (run_lss rfl (F3.ev 23 rfl) (F3.ev 25 rfl) (decide_eq_false (by omega))) rfl rfl rfl fun a4 F4 => ?_
          refine sn ?_
          clear F0 F1 F2 F3
          refine wp_cond_false (F4.ev 26 rfl) ?_
          refine wp_exit ?_
          refine nxExit ?_
          refine nxExit ?_
          refine bkHere ?_
          refine nx ?_
          refine wp_seq ?_
          refine wsl ?_
          refine sr F4 (run_ldB rfl (F4.ev 6 rfl) (M0.at 0 rfl) Tryd.underlying27 rfl szRg rfl) rfl rfl rfl fun a5 F5 => ?_
          refine sqC (v := (.bool true)) F5 M0 (wantedS rfl) (run_call rfl Tryd.func58 (by kernel_rfl) rfl (mapE1 (F5.ev 55 rfl))) rfl (by decide) ((by have h := kmay_any (epsOf X) vr w1 (Sl.own hO0) (eps_c32 hev); rw [decide_eq_true hm] at h; exact h)) fun a6 w2 hb2 F6 M1 => ?_
          have hO1 := hO0.grow hb2
          refine sr (v := (.bool false)) F6 (run_not rfl (F6.ev 56 rfl)) rfl rfl rfl fun a7 F7 => ?_
          refine sn ?_
          clear F4 F5 F6 M0
          refine cfs (F7.ev 57 rfl) ?_
          refine wsl ?_
          refine sr F7 (run_ldB rfl (F7.ev 6 rfl) (M1.at 0 rfl) Tryd.underlying27 rfl szRg rfl) rfl rfl rfl fun a8 F8 => ?_
          refine sqStoreG (i := 2) F8 M1 rfl rfl rfl (F8.ev 2 rfl) (F8.ev 59 rfl) rfl szRg rfl rfl (one_own hO1.owns) fun a9 w3 hgr3 F9 M2 => ?_
          have hO2 := hO1.upd 2 (S2 := isB 27 #[vr]) rfl hgr3
          refine sr (v := (.int .i64 0)) F9 (run_as rfl rfl) rfl rfl rfl fun a10 F10 => ?_
          refine sn ?_
          clear F7 F8 F9 M1
          refine wp_ret ?_
          exact retV F10 (results_LT F10 rfl rfl (loadVar_all (M2.at 2 rfl) Tryd.underlying27 rfl szRg rfl) rfl) ⟨_, rfl, by rw [hs]; exact ⟨_, _, rfl, ⟨_, rfl, hO2.owns⟩, rfl⟩, M2.below⟩
        · have hs : ringO b = ([], 3) := ringO_no hT fun h => hm h.2
          refine wp_seq ?_
          refine wsl ?_
          refine mvS F0 rfl rfl rfl rfl rfl fun a1 F1 => ?_
          refine mvS F1 rfl rfl rfl rfl rfl fun a2 F2 => ?_
          refine sr F2 (run_lenS rfl (F2.ev 24 rfl) (slOfRow (c := ct) (M0.ob 1 rfl)) rfl Tryd.underlying91) rfl rfl rfl fun a3 F3 => ?_
          refine sr (v := (.bool false)) F3 (run_lss rfl (F3.ev 23 rfl) (F3.ev 25 rfl) (decide_eq_false (by omega))) rfl rfl rfl fun a4 F4 => ?_
          refine sn ?_
          clear F0 F1 F2 F3
          refine wp_cond_false (F4.ev 26 rfl) ?_
          refine wp_exit ?_
          refine nxExit ?_
          refine nxExit ?_
          refine bkHere ?_
          refine nx ?_
          refine wp_seq ?_
          refine wsl ?_
          refine sr F4 (run_ldB rfl (F4.ev 6 rfl) (M0.at 0 rfl) Tryd.underlying27 rfl szRg rfl) rfl rfl rfl fun a5 F5 => ?_
          refine sqC (v := (.bool false)) F5 M0 (wantedS rfl) (run_call rfl Tryd.func58 (by kernel_rfl) rfl (mapE1 (F5.ev 55 rfl))) rfl (by decide) ((by have h := kmay_any (epsOf X) vr w1 (Sl.own hO0) (eps_c32 hev); rw [decide_eq_false hm] at h; exact h)) fun a6 w2 hb2 F6 M1 => ?_
          have hO1 := hO0.grow hb2
          refine sr (v := (.bool true)) F6 (run_not rfl (F6.ev 56 rfl)) rfl rfl rfl fun a7 F7 => ?_
          refine sn ?_
          clear F4 F5 F6 M0
          refine wp_cond_true (F7.ev 57 rfl) ?_
          refine wsl ?_
          refine sr (v := (.agg #[.slice none 0 0])) F7 (run_blt (vs := #[]) (cs := #[.slice none 0 0]) rfl (by simp) (by kernel_rfl)) rfl rfl rfl fun a8 F8 => ?_
          refine sqStoreG (i := 2) F8 M1 rfl rfl rfl (F8.ev 2 rfl) (F8.ev 58 rfl) rfl szRg rfl rfl (arr_one rfl) fun a9 w3 hgr3 F9 M2 => ?_
          have hO2 := hO1.upd 2 (S2 := isB 27 (#[.slice none 0 0])) rfl hgr3
          refine sr (v := (.int .i64 3)) F9 (run_as rfl rfl) rfl rfl rfl fun a10 F10 => ?_
          refine sn ?_
          clear F7 F8 F9 M1
          refine wp_ret ?_
          refine nxRet ?_
          exact retV F10 (results_LT F10 rfl rfl (loadVar_all (M2.at 2 rfl) Tryd.underlying27 rfl szRg rfl) rfl) ⟨_, rfl, by rw [hs]; exact ⟨_, _, rfl, ⟨_, rfl, ⟨rfl, .inl ⟨rfl, rfl⟩⟩⟩, rfl⟩, M2.below⟩
  · have hs : ringO b = ([], 3) := ringO_no hT fun h => h2 h.1.1
    refine walk_enter Tryd.func35 rfl rfl rfl fun a0 F0 => ?_
    have M0 := Mem.new w
    refine wsl ?_
    refine sqNew (cs := #[.slice none 0 0]) (t := 27) F0 M0 (wantedS rfl) (run_alloc rfl (by kernel_rfl)) rfl (by decide) fun g0 a1 w1 hgg0 hb1 F1 M1 => ?_
    refine sr (v := (.int .i64 0)) F1 (run_as rfl rfl) rfl rfl rfl fun a2 F2 => ?_
    refine sn ?_
    clear F0 F1 M0
    refine wsl ?_
    refine mvS F2 rfl rfl rfl rfl rfl fun a3 F3 => ?_
    refine sqT (T := fun u wx => (∃ v, u = .tuple #[v, .int .i64 0] ∧ wx.ownsRow w1.heap.size 9 1 v X.length (X.map tx)) ∧ Below w1.heap.size w1 wx) F3 (wantedS rfl) (run_call rfl Tryd.func63 (by kernel_rfl) rfl (mapE1 (F3.ev 10 rfl))) rfl (by decide) (ntexts_ok hT w1 (by omega)) fun u1 a4 w2 hT2 F4 => ?_
    obtain ⟨⟨v2, rfl, hr2⟩, hb2⟩ := hT2
    have hO1 := OwnR.ofCall M1 hr2
    have M2 := M1.grow hb2
    refine mvS F4 rfl rfl rfl rfl rfl fun a5 F5 => ?_
    refine sr (v := v2) F5 (run_ext rfl (F5.ev 9 rfl) rfl) rfl rfl rfl fun a6 F6 => ?_
    refine sr (v := (.int .i64 0)) F6 (run_ext rfl (F6.ev 9 rfl) rfl) rfl rfl rfl fun a7 F7 => ?_
    refine asS F7 rfl rfl rfl rfl rfl fun a8 F8 => ?_
    refine asS F8 rfl rfl rfl rfl rfl fun a9 F9 => ?_
    refine sn ?_
    clear F2 F3 F4 F5 F6 F7 F8 M1
    refine wp_seq ?_
    refine wsl ?_
    refine mvS F9 rfl rfl rfl rfl rfl fun a10 F10 => ?_
    refine sr (v := (.bool false)) F10 (run_nei rfl (F10.ev 14 rfl) rfl (bne_eq_false_iff_eq.2 (by omega))) rfl rfl rfl fun a11 F11 => ?_
    refine sn ?_
    clear F9 F10
    refine cfs (F11.ev 15 rfl) ?_
    refine wp_seq ?_
    refine wsl ?_
    refine mvS F11 rfl rfl rfl rfl rfl fun a12 F12 => ?_
    refine sr F12 (run_lenS rfl (F12.ev 18 rfl) (Sl.own hO1) rfl Tryd.underlying91) rfl rfl rfl fun a13 F13 => ?_
    refine sr (v := (.int .i64 ((X.length % 2 : Nat) : Int))) F13 (run_rem (r := ((X.length % 2 : Nat) : Int)) rfl (F13.ev 19 rfl) rfl (by omega) (by rw [Int.tmod_eq_emod_of_nonneg (by omega)]; try omega)) rfl rfl rfl fun a14 F14 => ?_
    refine sr (v := (.bool true)) F14 (run_nei rfl (F14.ev 20 rfl) rfl (bne_iff_ne.2 (by omega))) rfl rfl rfl fun a15 F15 => ?_
    refine sn ?_
    clear F11 F12 F13 F14
    refine wp_cond_true (F15.ev 21 rfl) ?_
    refine wsl ?_
    refine sr (v := (.agg #[.slice none 0 0])) F15 (run_blt (vs := #[]) (cs := #[.slice none 0 0]) rfl (by simp) (by kernel_rfl)) rfl rfl rfl fun a16 F16 => ?_
    refine sqStoreG (i := 0) F16 M2 rfl rfl rfl (F16.ev 2 rfl) (F16.ev 22 rfl) rfl szRg rfl rfl (arr_one rfl) fun a17 w3 hgr3 F17 M3 => ?_
    have hO2 := hO1.upd 0 (S2 := isB 27 (#[.slice none 0 0])) rfl hgr3
    refine sr (v := (.int .i64 3)) F17 (run_as rfl rfl) rfl rfl rfl fun a18 F18 => ?_
    refine sn ?_
    clear F15 F16 F17 M2
    refine wp_ret ?_
    refine nxRet ?_
    exact retV F18 (results_LT F18 rfl rfl (loadVar_all (M3.at 0 rfl) Tryd.underlying27 rfl szRg rfl) rfl) ⟨_, rfl, by rw [hs]; exact ⟨_, _, rfl, ⟨_, rfl, ⟨rfl, .inl ⟨rfl, rfl⟩⟩⟩, rfl⟩, M3.below⟩
end Go.Proofs.YtconhhhggckcbaaDoor
