/- The walks of the reference's Split (layer 6), Same and SameRing. Printed by gen_key24.py. -/
import Derived.Test.YtconhhhggckcbaaDoorShT
namespace Go.Proofs.YtconhhhggckcbaaDoor
open Go.RowKit

theorem run_neSh {a : Act} {o : Oper} {w : World} {x y : Operand} {t2 : TypeId} {s : Sh} (ho : o.op = .binOp .neq 54 x y t2) (hx : a.eval x = .agg (shareC s).toArray) (hy : a.eval y = .agg (shareC s).toArray) : (execOp a.eval o).run Tryd.prog w = .ok (.value (.bool false)) w :=
  run_bin ho hx hy (run_eqGuard_agg w _ _ _ _ _ _ (by kernel_rfl)) (by rw [run_neq_struct, eqShB s]; rfl)
set_option maxRecDepth 100000 in
set_option maxHeartbeats 1000000 in
theorem rsplit_any (k no : List UInt8) (w : World) (hLk : k.length = 32) (hno : no.length = 64) : Calls Tryd.prog 40 #[.agg (cells8 k), .int .i64 5, .string ⟨no.toArray⟩] w fun e w' => (∃ v, e = .returned (.tuple #[v, .int .i64 0]) ∧ w'.ownsRow w.heap.size 54 33 v 5 ((shS k no).flatMap shareC)) ∧ Below w.heap.size w w' := by
  refine walk_enter Tryd.func40 rfl rfl rfl fun a0 F0 => ?_
  have M0 := Mem.new w
  refine wsl ?_
  refine sqNew (cs := (cells8 k)) (t := 23) F0 M0 (wantedS rfl) (run_box rfl (F0.ev 0 rfl)) rfl (by decide) fun g0 a1 w1 hgg0 hb1 F1 M1 => ?_
  refine sr (v := (.slice none 0 0)) F1 (run_as rfl rfl) rfl rfl rfl fun a2 F2 => ?_
  refine sr (v := (.int .i64 0)) F2 (run_as rfl rfl) rfl rfl rfl fun a3 F3 => ?_
  refine sn ?_
  clear F0 F1 F2 M0
  refine wp_seq ?_
  refine wsl ?_
  refine mvS F3 rfl rfl rfl rfl rfl fun a4 F4 => ?_
  refine sr (v := (.bool false)) F4 (run_lss rfl (F4.ev 12 rfl) rfl (decide_eq_false (by omega))) rfl rfl rfl fun a5 F5 => ?_
  refine mvS F5 rfl rfl rfl rfl rfl fun a6 F6 => ?_
  refine sq (v := (.int .i64 5)) F6 (wantedG F6 rfl rfl rfl rfl rfl) (run_mv rfl (F6.ev 1 rfl)) rfl (by decide) fun a7 F7 => ?_
  refine sq (v := (.bool false)) F7 (wantedG F7 rfl rfl rfl rfl rfl) (run_gtr rfl (F7.ev 15 rfl) rfl (decide_eq_false (by omega))) rfl (by decide) fun a8 F8 => ?_
  refine sr (v := (.bool false)) F8 (run_pick rfl (F8.ev 14 rfl) rfl (F8.ev 16 rfl)) rfl rfl rfl fun a9 F9 => ?_
  refine mvS F9 rfl rfl rfl rfl rfl fun a10 F10 => ?_
  refine sq (v := (.string ⟨no.toArray⟩)) F10 (wantedG F10 rfl rfl rfl rfl rfl) (run_mv rfl (F10.ev 2 rfl)) rfl (by decide) fun a11 F11 => ?_
  refine sq (v := (.int .i64 (no.length : Int))) F11 (wantedG F11 rfl rfl rfl rfl rfl) (run_len rfl (F11.ev 19 rfl) rfl Tryd.underlying9) rfl (by decide) fun a12 F12 => ?_
  refine sq (v := (.bool false)) F12 (wantedG F12 rfl rfl rfl rfl rfl) (run_nei rfl (F12.ev 20 rfl) rfl (bne_eq_false_iff_eq.2 (by omega))) rfl (by decide) fun a13 F13 => ?_
  refine sr (v := (.bool false)) F13 (run_pick rfl (F13.ev 18 rfl) rfl (F13.ev 21 rfl)) rfl rfl rfl fun a14 F14 => ?_
  refine sn ?_
  clear F3 F4 F5 F6 F7 F8 F9 F10 F11 F12 F13
  refine cfs (F14.ev 22 rfl) ?_
  refine wsl ?_
  refine sr (v := (.slice none 0 0)) F14 (run_as rfl rfl) rfl rfl rfl fun a15 F15 => ?_
  refine sn ?_
  clear F14
  refine wp_seq ?_
  refine wsl ?_
  refine sr (v := (.int .i64 1)) F15 (run_as rfl rfl) rfl rfl rfl fun a16 F16 => ?_
  refine sn ?_
  clear F15
  refine wp_block ?_
  refine wkLoop (fun m a0 w2 => ∃ (j : Nat) (vo : Value), j ≤ 5 ∧ m = 5 - j ∧ Fr a0 57 [(1, .int .i64 5), (2, .string ⟨no.toArray⟩), (3, .pointer (some ⟨g0, 0, none⟩)), (8, vo), (9, .int .i64 ((j + 1 : Nat) : Int))] ∧ Mem w [(g0, isB 23 (cells8 k))] w2 ∧ OwnR w [(g0, isB 23 (cells8 k))] w2 54 33 vo j (((shS k no).take j).flatMap shareC)) 5 ⟨0, .slice none 0 0, Nat.zero_le _, rfl, F16.sub ⟨rfl, rfl, rfl, rfl, rfl, trivial⟩, M1, OwnR.nil _ _ _ _ _⟩ ?_
  rintro m a0 w1 ⟨j, vo, hj, rfl, F0, M0, hO0⟩
  by_cases h1 : j < 5
  · have hcv : ((UInt8.ofNat (j + 1)).toNat : Int) = ((j + 1 : Nat) : Int) := by rw [UInt8.toNat_ofNat']; omega
    refine wp_seq ?_
    refine wsl ?_
    refine mvS F0 rfl rfl rfl rfl rfl fun a1 F1 => ?_
    refine mvS F1 rfl rfl rfl rfl rfl fun a2 F2 => ?_
    refine sr (v := (.bool true)) F2 (run_leq rfl (F2.ev 23 rfl) (F2.ev 24 rfl) (decide_eq_true (by omega))) rfl rfl rfl fun a3 F3 => ?_
    refine sn ?_
    clear F0 F1 F2
    refine cts (F3.ev 25 rfl) ?_
    refine wp_seq ?_
    refine wp_block ?_
    refine wsl ?_
    refine mvS F3 rfl rfl rfl rfl rfl fun a4 F4 => ?_
    refine sr F4 (run_cvI (r := ((UInt8.ofNat (j + 1)).toNat : Int)) rfl (F4.ev 28 rfl) Tryd.underlying3 Tryd.underlying5 (by rw [hcv, IntKind.wrap_u8]; omega)) rfl rfl rfl fun a5 F5 => ?_
    refine sr (v := (.agg (cells8 ((UInt8.ofNat (j + 1)) :: List.replicate 32 0)))) F5 (run_blt (vs := #[(0, .int .u8 ((UInt8.ofNat (j + 1)).toNat : Int))]) (cs := cells8 ((UInt8.ofNat (j + 1)) :: List.replicate 32 0)) rfl (bltE1 (F5.ev 29 rfl)) (built_sh (UInt8.ofNat (j + 1)))) rfl rfl rfl fun a6 F6 => ?_
    refine sqNew (cs := (cells8 (List.replicate 33 0))) (t := 54) F6 M0 (wantedS rfl) (run_alloc rfl (by kernel_rfl)) rfl (by decide) fun g1 a7 w2 hgg1 hb2 F7 M1 => ?_
    have hO1 := hO0.add (S := isB 54 (cells8 (List.replicate 33 0))) hb2 hgg1
    refine sqStoreG (i := 0) F7 M1 rfl rfl rfl (F7.ev 10 rfl) (F7.ev 30 rfl) rfl szSh3 (szOf (by simp)) (szOf List.length_replicate) (cells8_one _) fun a8 w3 hgr3 F8 M2 => ?_
    have hO2 := hO1.upd 0 (S2 := isB 54 (cells8 ((UInt8.ofNat (j + 1)) :: List.replicate 32 0))) rfl hgr3
    refine sn ?_
    clear F3 F4 F5 F6 F7 M0 M1
    refine wp_seq ?_
    refine wsl ?_
    refine sr (v := (.int .i64 0)) F8 (run_as rfl rfl) rfl rfl rfl fun a9 F9 => ?_
    refine sn ?_
    clear F8
    refine wp_block ?_
    refine wkLoop (fun m a0 w2 => ∃ i : Nat, i ≤ 32 ∧ m = 32 - i ∧ Fr a0 57 [(1, .int .i64 5), (2, .string ⟨no.toArray⟩), (3, .pointer (some ⟨g0, 0, none⟩)), (8, vo), (9, .int .i64 ((j + 1 : Nat) : Int)), (10, .pointer (some ⟨g1, 0, none⟩)), (11, .int .i64 (i : Int))] ∧ Mem w [(g1, isB 54 (cells8 (genT (UInt8.ofNat (j + 1)) (fun q => evalS (polS k no q) (UInt8.ofNat (j + 1))) i))), (g0, isB 23 (cells8 k))] w2 ∧ OwnR w [(g1, isB 54 (cells8 (genT (UInt8.ofNat (j + 1)) (fun q => evalS (polS k no q) (UInt8.ofNat (j + 1))) i))), (g0, isB 23 (cells8 k))] w2 54 33 vo j (((shS k no).take j).flatMap shareC)) 32 ⟨0, Nat.zero_le _, rfl, F9.sub ⟨rfl, rfl, rfl, rfl, rfl, rfl, rfl, trivial⟩, by rw [← genT_zero]; exact M2, by rw [← genT_zero]; exact hO2⟩ ?_
    rintro m a0 w1 ⟨i, hi, rfl, F0, M0, hO0⟩
    by_cases h2 : i < 32
    · have hgl := genT_len (UInt8.ofNat (j + 1)) (fun q => evalS (polS k no q) (UInt8.ofNat (j + 1))) i
      refine wp_seq ?_
      refine wsl ?_
      refine mvS F0 rfl rfl rfl rfl rfl fun a1 F1 => ?_
      refine sr (v := (.bool true)) F1 (run_lss rfl (F1.ev 31 rfl) rfl (decide_eq_true (by omega))) rfl rfl rfl fun a2 F2 => ?_
      refine sn ?_
      clear F0 F1
      refine cts (F2.ev 32 rfl) ?_
      refine wp_seq ?_
      refine wp_block ?_
      obtain ⟨KL, hKL⟩ : ∃ KL, KL = [kval (.int .i64 (i : Int)), kval (.int .i64 (i : Int)), kval (.pointer (some ⟨g0, i, none⟩)), kval (.int .u8 ((bt k (i)).toNat : Int)), kval (.string ⟨no.toArray⟩), kval (.int .i64 (i : Int)), kval (.int .u8 ((bt no i).toNat : Int)), kval (.string ⟨no.toArray⟩), kval (.int .i64 (i : Int)), kval (.int .i64 ((32 + i : Nat) : Int)), kval (.int .u8 ((bt no (32 + i : Nat)).toNat : Int)), kbytes 5 [(bt k (i)), (bt no i), (bt no (32 + i : Nat))], kval (.int .i64 ((j + 1 : Nat) : Int)), kval (.int .u8 ((UInt8.ofNat (j + 1)).toNat : Int)), kval (.int .u8 ((evalS [(bt k (i)), (bt no i), (bt no (32 + i : Nat))] (UInt8.ofNat (j + 1))).toNat : Int)), kval (.pointer (some ⟨g1, 1, none⟩)), kval (.pointer (some ⟨g1, 1 + i, none⟩))] := ⟨_, rfl⟩
      have K0 := getK hKL 0
      have K1 := getK hKL 1
      have K2 := getK hKL 2
      have K3 := getK hKL 3
      have K4 := getK hKL 4
      have K5 := getK hKL 5
      have K6 := getK hKL 6
      have K7 := getK hKL 7
      have K8 := getK hKL 8
      have K9 := getK hKL 9
      have K10 := getK hKL 10
      have K11 := getK hKL 11
      have K12 := getK hKL 12
      have K13 := getK hKL 13
      have K14 := getK hKL 14
      have K15 := getK hKL 15
      have K16 := getK hKL 16
      have HKL : KL.length ≤ 17 := by rw [hKL]; exact Nat.le_refl _
      clear hKL
      refine wp_region_kdTail2 57 17 (by kernel_rfl) (by kernel_rfl) (by kernel_rfl) (by kernel_rfl) F2.size KL HKL ?_ ?_
      · refine ⟨?_, ?_, ?_, ?_, ?_, ?_, ?_, ?_, ?_, ?_, ?_, ?_, ?_, ?_, ?_, ?_, ?_, trivial⟩
        · exact asksHY rfl fun a W hS hh hd => giv_run (run_mv rfl (eval_tmp (hh 11 _ rfl (F2.at 11 rfl)))) K0
        · exact asksHY rfl fun a W hS hh hd => giv_run (run_mv rfl (eval_tmp (hh 11 _ rfl (F2.at 11 rfl)))) K1
        · exact asksHY rfl fun a W hS hh hd => giv_run (run_idxA (i := i) (cnt := 32) rfl (eval_tmp (hh 3 _ rfl (F2.at 3 rfl))) (eval_tmp (hd.vl 1 36 (by kernel_rfl) K1)) rfl (by omega) Tryd.underlying23 (by kernel_rfl)) K2
        · exact asksHY rfl fun a W hS hh hd => giv_run (run_ldF rfl (eval_tmp (hd.vl 2 37 (by kernel_rfl) K2)) ((M0.grow hS).at 1 rfl) (cells8_get k (i) (by rw [hLk]; omega)) (by kernel_rfl)) K3
        · exact asksHY rfl fun a W hS hh hd => giv_run (run_mv rfl (eval_tmp (hh 2 _ rfl (F2.at 2 rfl)))) K4
        · exact asksHY rfl fun a W hS hh hd => giv_run (run_mv rfl (eval_tmp (hh 11 _ rfl (F2.at 11 rfl)))) K5
        · exact asksHY rfl fun a W hS hh hd => giv_run (run_sAt (n := i) rfl (eval_tmp (hd.vl 4 39 (by kernel_rfl) K4)) (eval_tmp (hd.vl 5 40 (by kernel_rfl) K5)) Tryd.underlying9 rfl (by omega)) K6
        · exact asksHY rfl fun a W hS hh hd => giv_run (run_mv rfl (eval_tmp (hh 2 _ rfl (F2.at 2 rfl)))) K7
        · exact asksHY rfl fun a W hS hh hd => giv_run (run_mv rfl (eval_tmp (hh 11 _ rfl (F2.at 11 rfl)))) K8
        · exact asksHY rfl fun a W hS hh hd => giv_run (run_add (r := ((32 + i : Nat) : Int)) rfl rfl (eval_tmp (hd.vl 8 43 (by kernel_rfl) K8)) (by rw [IntKind.wrap_i64]; omega)) K9
        · exact asksHY rfl fun a W hS hh hd => giv_run (run_sAt (n := (32 + i : Nat)) rfl (eval_tmp (hd.vl 7 42 (by kernel_rfl) K7)) (eval_tmp (hd.vl 9 44 (by kernel_rfl) K9)) Tryd.underlying9 rfl (by omega)) K10
        · exact asksHY rfl fun a W hS hh hd => giv_bytes [(bt k (i)), (bt no i), (bt no (32 + i : Nat))] 5 (run_bytes3 rfl (eval_tmp (hd.vl 3 38 (by kernel_rfl) K3)) (eval_tmp (hd.vl 6 41 (by kernel_rfl) K6)) (eval_tmp (hd.vl 10 45 (by kernel_rfl) K10))) K11
        · exact asksHY rfl fun a W hS hh hd => giv_run (run_mv rfl (eval_tmp (hh 9 _ rfl (F2.at 9 rfl)))) K12
        · exact asksHY rfl fun a W hS hh hd => giv_run (run_cvI (r := ((UInt8.ofNat (j + 1)).toNat : Int)) rfl (eval_tmp (hd.vl 12 47 (by kernel_rfl) K12)) Tryd.underlying3 Tryd.underlying5 (by rw [hcv, IntKind.wrap_u8]; omega)) K13
        · refine asksH_mk fun a W hS hh hd => ⟨wanted_yes rfl, ?_⟩
          obtain ⟨g11, c11, e11, b11⟩ := Dep.bytes hd (j := 11) (s := 46) (by kernel_rfl) K11
          exact giv_call (run_call rfl Tryd.func66 (by kernel_rfl) rfl (mapE2 (eval_tmp e11) (eval_tmp (hd.vl 13 48 (by kernel_rfl) K13)))) ((by have h := reval5_any [(bt k (i)), (bt no i), (bt no (32 + i : Nat))] (.slice (some ⟨g11, 0, none⟩) 3 c11) (UInt8.ofNat (j + 1)) W (slOfB rfl b11) (by simp); rw [show (sumE [(bt k (i)), (bt no i), (bt no (32 + i : Nat))] (UInt8.ofNat (j + 1)) [(bt k (i)), (bt no i), (bt no (32 + i : Nat))].length).1 = evalS [(bt k (i)), (bt no i), (bt no (32 + i : Nat))] (UInt8.ofNat (j + 1)) from sumE3 _ _ _ _] at h; exact h)) K14
        · exact asksHY rfl fun a W hS hh hd => giv_run (run_fldA (m := 32) (s := 1) rfl (eval_tmp (hh 10 _ rfl (F2.at 10 rfl))) Tryd.underlying54 rfl rfl (by kernel_rfl) (by decide)) K15
        · exact asksHY rfl fun a W hS hh hd => giv_run (run_idxO (i := i) (cnt := 32) rfl (eval_tmp (hd.vl 15 50 (by kernel_rfl) K15)) (eval_tmp (hd.vl 0 35 (by kernel_rfl) K0)) rfl (by omega) Tryd.underlying23 (by kernel_rfl)) K16
      · intro a3 w2 hb2 hK
        have e0 := hK.hvl 0 35 rfl (by kernel_rfl) K0
        have e1 := hK.hvl 1 36 rfl (by kernel_rfl) K1
        have e2 := hK.hvl 2 37 rfl (by kernel_rfl) K2
        have e3 := hK.hvl 3 38 rfl (by kernel_rfl) K3
        have e4 := hK.hvl 4 39 rfl (by kernel_rfl) K4
        have e5 := hK.hvl 5 40 rfl (by kernel_rfl) K5
        have e6 := hK.hvl 6 41 rfl (by kernel_rfl) K6
        have e7 := hK.hvl 7 42 rfl (by kernel_rfl) K7
        have e8 := hK.hvl 8 43 rfl (by kernel_rfl) K8
        have e9 := hK.hvl 9 44 rfl (by kernel_rfl) K9
        have e10 := hK.hvl 10 45 rfl (by kernel_rfl) K10
        obtain ⟨v2, e11, hpv2⟩ := hK.hget (i := 11) (s := 46) rfl (by kernel_rfl)
        rw [K11] at hpv2
        have e12 := hK.hvl 12 47 rfl (by kernel_rfl) K12
        have e13 := hK.hvl 13 48 rfl (by kernel_rfl) K13
        have e14 := hK.hvl 14 49 rfl (by kernel_rfl) K14
        have e15 := hK.hvl 15 50 rfl (by kernel_rfl) K15
        have e16 := hK.hvl 16 51 rfl (by kernel_rfl) K16
        have F3 : Fr a3 57 [(1, (.int .i64 5)), (2, (.string ⟨no.toArray⟩)), (3, (.pointer (some ⟨g0, 0, none⟩))), (8, vo), (9, (.int .i64 ((j + 1 : Nat) : Int))), (10, (.pointer (some ⟨g1, 0, none⟩))), (11, (.int .i64 (i : Int))), (31, (.int .i64 (i : Int))), (32, (.bool true)), (49, (.int .u8 ((evalS [(bt k (i)), (bt no i), (bt no (32 + i : Nat))] (UInt8.ofNat (j + 1))).toNat : Int))), (51, (.pointer (some ⟨g1, 1 + i, none⟩)))] := (hK.hfr F2 [_, _, _, _, _, _, _, _, _, _, _, _, _, _, _, _, _] ⟨e0, e1, e2, e3, e4, e5, e6, e7, e8, e9, e10, e11, e12, e13, e14, e15, e16, trivial⟩).sub ⟨rfl, rfl, rfl, rfl, rfl, rfl, rfl, rfl, rfl, rfl, rfl, trivial⟩
        have M1 := M0.grow hb2
        have hO1 := hO0.grow hb2
        clear hK K0 e0 K1 e1 K2 e2 K3 e3 K4 e4 K5 e5 K6 e6 K7 e7 K8 e8 K9 e9 K10 e10 K11 e11 K12 e12 K13 e13 K14 e14 K15 e15 K16 e16 HKL
        simp only [List.drop_succ_cons, List.drop_zero]
        refine sqSetA2 (j := 0) (l := (genT (UInt8.ofNat (j + 1)) (fun q => evalS (polS k no q) (UInt8.ofNat (j + 1))) i)) F3 M1 rfl rfl rfl (F3.ev 51 rfl) (F3.ev 49 rfl) rfl (by omega) fun a4 w3 hgr3 F4 M2 => ?_
        have hO2 := hO1.upd 0 (S2 := isB 54 (cells8 ((genT (UInt8.ofNat (j + 1)) (fun q => evalS (polS k no q) (UInt8.ofNat (j + 1))) i).set (1 + i) ((evalS [(bt k (i)), (bt no i), (bt no (32 + i : Nat))] (UInt8.ofNat (j + 1))))))) rfl hgr3
        refine sqEnd ?_
        clear F2 F3 M0 M1
        refine bkEnd ?_
        refine nx ?_
        refine wp_region_lit ?_
        refine mvS F4 rfl rfl rfl rfl rfl fun a5 F5 => ?_
        refine sr F5 (run_add (r := ((i + 1 : Nat) : Int)) rfl (F5.ev 33 rfl) rfl (by rw [IntKind.wrap_i64]; omega)) rfl rfl rfl fun a6 F6 => ?_
        refine asS F6 rfl rfl rfl rfl rfl fun a7 F7 => ?_
        refine sn ?_
        clear F4 F5 F6
        exact ⟨_, by omega, i + 1, by omega, rfl, F7.sub ⟨rfl, rfl, rfl, rfl, rfl, rfl, rfl, trivial⟩, by rw [← genT_step (UInt8.ofNat (j + 1)) (fun q => evalS (polS k no q) (UInt8.ofNat (j + 1))) (i := i) (b := evalS [bt k i, bt no i, bt no (32 + i)] (UInt8.ofNat (j + 1))) rfl]; exact M2, by rw [← genT_step (UInt8.ofNat (j + 1)) (fun q => evalS (polS k no q) (UInt8.ofNat (j + 1))) (i := i) (b := evalS [bt k i, bt no i, bt no (32 + i)] (UInt8.ofNat (j + 1))) rfl]; exact hO2⟩
    · obtain rfl : i = 32 := by omega
      refine wp_seq ?_
      refine wsl ?_
      refine mvS F0 rfl rfl rfl rfl rfl fun a1 F1 => ?_
      refine sr (v := (.bool false)) F1 (run_lss rfl (F1.ev 31 rfl) rfl (decide_eq_false (by omega))) rfl rfl rfl fun a2 F2 => ?_
      refine sn ?_
      clear F0 F1
      refine wp_cond_false (F2.ev 32 rfl) ?_
      refine wp_exit ?_
      refine nxExit ?_
      refine nxExit ?_
      refine bkHere ?_
      refine nx ?_
      refine wp_region_lit ?_
      refine mvS F2 rfl rfl rfl rfl rfl fun a3 F3 => ?_
      refine sr F3 (run_ldB rfl (F3.ev 10 rfl) (M0.at 0 rfl) Tryd.underlying54 rfl szSh3 (szOf (genT_len _ _ _))) rfl rfl rfl fun a4 F4 => ?_
      refine sqRow (cs := cells8 (genT (UInt8.ofNat (j + 1)) (fun q => evalS (polS k no q) (UInt8.ofNat (j + 1))) 32)) (t := 54) (m := 1) F4 M0 (wantedS rfl) (run_sh1 (genT_len _ _ _) rfl (F4.ev 53 rfl)) rfl (by decide) fun g4 a5 w2 hgg4 hb2 F5 M1 => ?_
      have hO1 := hO0.add (S := isB 54 (cells8 (genT (UInt8.ofNat (j + 1)) (fun q => evalS (polS k no q) (UInt8.ofNat (j + 1))) 32))) hb2 hgg4
      refine sqAppend (news := (genT (UInt8.ofNat (j + 1)) (fun q => evalS (polS k no q) (UInt8.ofNat (j + 1))) 32).map cb) eltSh F5 M1 hO1 rfl rfl (F5.ev 52 rfl) (F5.ev 54 rfl) (by rw [List.length_map, genT_len]) (blkNews (M1.at 0 rfl)) (fun u hu => by obtain ⟨q, _, rfl⟩ := List.mem_map.1 hu; rfl) (by unfold maxLen; omega) (by omega) rfl (by decide) fun v5 a6 w3 hO2 M2 hnilv5 F6 => ?_
      refine asS F6 rfl rfl rfl rfl rfl fun a7 F7 => ?_
      refine sqEnd ?_
      refine bkEnd ?_
      refine nx ?_
      refine wp_region_lit ?_
      refine mvS F7 rfl rfl rfl rfl rfl fun a8 F8 => ?_
      refine sr F8 (run_add (r := ((j + 1 + 1 : Nat) : Int)) rfl (F8.ev 26 rfl) rfl (by rw [IntKind.wrap_i64]; omega)) rfl rfl rfl fun a9 F9 => ?_
      refine asS F9 rfl rfl rfl rfl rfl fun a10 F10 => ?_
      refine sn ?_
      clear F7 F8 F9
      exact ⟨_, by omega, j + 1, v5, by omega, rfl, F10.sub ⟨rfl, rfl, rfl, rfl, rfl, trivial⟩, M2.sub (.cons _ (.cons _ (.cons_cons _ .slnil))), by have h9 := hO2.sub (.cons _ (.cons _ (.cons_cons _ .slnil))); rw [shS_snoc k no h1] at h9; exact h9⟩
  · obtain rfl : j = 5 := by omega
    refine wp_seq ?_
    refine wsl ?_
    refine mvS F0 rfl rfl rfl rfl rfl fun a1 F1 => ?_
    refine mvS F1 rfl rfl rfl rfl rfl fun a2 F2 => ?_
    refine sr (v := (.bool false)) F2 (run_leq rfl (F2.ev 23 rfl) (F2.ev 24 rfl) (decide_eq_false (by omega))) rfl rfl rfl fun a3 F3 => ?_
    refine sn ?_
    clear F0 F1 F2
    refine wp_cond_false (F3.ev 25 rfl) ?_
    refine wp_exit ?_
    refine nxExit ?_
    refine nxExit ?_
    refine bkHere ?_
    refine nx ?_
    refine wsl ?_
    refine mvS F3 rfl rfl rfl rfl rfl fun a4 F4 => ?_
    refine asS F4 rfl rfl rfl rfl rfl fun a5 F5 => ?_
    refine sr (v := (.int .i64 0)) F5 (run_as rfl rfl) rfl rfl rfl fun a6 F6 => ?_
    refine sn ?_
    clear F3 F4 F5
    refine wp_ret ?_
    exact ret2 F6 rfl rfl rfl ⟨⟨vo, rfl, by have h9 := hO0.owns; rw [List.take_of_length_le (by rw [shS_len]; exact Nat.le_refl _)] at h9; exact h9⟩, M0.below⟩
set_option maxRecDepth 100000 in
set_option maxHeartbeats 1000000 in
theorem rsplitE_any (k no : List UInt8) (w : World) (_hLk : k.length = 32) (hno : no.length ≠ 64) : Calls Tryd.prog 40 #[.agg (cells8 k), .int .i64 5, .string ⟨no.toArray⟩] w fun e w' => e = .returned (.tuple #[.slice none 0 0, .int .i64 1]) ∧ Below w.heap.size w w' := by
  refine walk_enter Tryd.func40 rfl rfl rfl fun a0 F0 => ?_
  have M0 := Mem.new w
  refine wsl ?_
  refine sqNew (cs := (cells8 k)) (t := 23) F0 M0 (wantedS rfl) (run_box rfl (F0.ev 0 rfl)) rfl (by decide) fun g0 a1 w1 hgg0 hb1 F1 M1 => ?_
  refine sr (v := (.slice none 0 0)) F1 (run_as rfl rfl) rfl rfl rfl fun a2 F2 => ?_
  refine sr (v := (.int .i64 0)) F2 (run_as rfl rfl) rfl rfl rfl fun a3 F3 => ?_
  refine sn ?_
  clear F0 F1 F2 M0
  refine wp_seq ?_
  refine wsl ?_
  refine mvS F3 rfl rfl rfl rfl rfl fun a4 F4 => ?_
  refine sr (v := (.bool false)) F4 (run_lss rfl (F4.ev 12 rfl) rfl (decide_eq_false (by omega))) rfl rfl rfl fun a5 F5 => ?_
  refine mvS F5 rfl rfl rfl rfl rfl fun a6 F6 => ?_
  refine sq (v := (.int .i64 5)) F6 (wantedG F6 rfl rfl rfl rfl rfl) (run_mv rfl (F6.ev 1 rfl)) rfl (by decide) fun a7 F7 => ?_
  refine sq (v := (.bool false)) F7 (wantedG F7 rfl rfl rfl rfl rfl) (run_gtr rfl (F7.ev 15 rfl) rfl (decide_eq_false (by omega))) rfl (by decide) fun a8 F8 => ?_
  refine sr (v := (.bool false)) F8 (run_pick rfl (F8.ev 14 rfl) rfl (F8.ev 16 rfl)) rfl rfl rfl fun a9 F9 => ?_
  refine mvS F9 rfl rfl rfl rfl rfl fun a10 F10 => ?_
  refine sq (v := (.string ⟨no.toArray⟩)) F10 (wantedG F10 rfl rfl rfl rfl rfl) (run_mv rfl (F10.ev 2 rfl)) rfl (by decide) fun a11 F11 => ?_
  refine sq (v := (.int .i64 (no.length : Int))) F11 (wantedG F11 rfl rfl rfl rfl rfl) (run_len rfl (F11.ev 19 rfl) rfl Tryd.underlying9) rfl (by decide) fun a12 F12 => ?_
  refine sq (v := (.bool true)) F12 (wantedG F12 rfl rfl rfl rfl rfl) (run_nei rfl (F12.ev 20 rfl) rfl (bne_iff_ne.2 (by omega))) rfl (by decide) fun a13 F13 => ?_
  refine sr (v := (.bool true)) F13 (run_pick rfl (F13.ev 18 rfl) rfl (F13.ev 21 rfl)) rfl rfl rfl fun a14 F14 => ?_
  refine sn ?_
  clear F3 F4 F5 F6 F7 F8 F9 F10 F11 F12 F13
  refine wp_cond_true (F14.ev 22 rfl) ?_
  refine wsl ?_
  refine sr (v := (.slice none 0 0)) F14 (run_as rfl rfl) rfl rfl rfl fun a15 F15 => ?_
  refine sr (v := (.int .i64 1)) F15 (run_as rfl rfl) rfl rfl rfl fun a16 F16 => ?_
  refine sn ?_
  clear F14 F15
  refine wp_ret ?_
  refine nxRet ?_
  exact ret2 F16 rfl rfl rfl ⟨rfl, M1.below⟩
end Go.Proofs.YtconhhhggckcbaaDoor
