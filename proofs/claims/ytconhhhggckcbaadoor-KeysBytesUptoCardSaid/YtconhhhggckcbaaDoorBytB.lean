/- The walks of keys.Bytes and of the reference's. Printed by gen_key32.py. -/
import Derived.Test.YtconhhhggckcbaaDoorBytA
import Derived.Test.YtconhhhggckcbaaDoorRngD
namespace Go.Proofs.YtconhhhggckcbaaDoor
open Go.RowKit

attribute [local irreducible] sealS keyedS nonceS openS
theorem run_strEp {w : World} {g cap : Nat} {t : TypeId} {e : Ep} (hn : e.c.length = 32) (hB : Blk w g t (epC e)) : (convert 52 9 (.slice (some ⟨g, 0, none⟩) 32 cap)).run Tryd.prog w = .ok (.string ⟨e.c.toArray⟩) w :=
  run_strOf hn (fun j hj => by
    rw [Nat.zero_add, hB.cell]
    simp only [epC, epL, List.getElem?_toArray]
    rw [List.getElem?_append_left (by rw [List.length_map]; omega), List.getElem?_map, List.getElem?_eq_getElem (by omega : j < e.c.length)]
    simp [cb, bt, List.getD_eq_getElem?_getD, List.getElem?_eq_getElem (by omega : j < e.c.length)])
set_option maxRecDepth 100000 in
set_option maxHeartbeats 1000000 in
theorem kbytes_any (E : List Ep) (v : Value) (w : World) (hV : Sl w v 33 E.length (E.flatMap epF)) (hE32 : ∀ e ∈ E, e.c.length = 32) (hEw : ∀ e ∈ E, e.wr.length ≤ 1048576) : Calls Tryd.prog 33 #[.agg #[v]] w fun e w' => e = .returned (.tuple #[.string ⟨(ringB E).1.toArray⟩, .int .i64 (ringB E).2]) ∧ Below w.heap.size w w' := by
  have hfl := flatten_le (rtxT_all hE32 hEw (by decide))
  have hrl := rtxT_len E
  rw [hrl] at hfl
  by_cases hm : mayP E
  · have hs : ringB E = (rowS (rtxT E), 0) := by unfold ringB; rw [if_pos hm]
    have h100 := hm.2.1
    refine walk_enter Tryd.func33 rfl rfl rfl fun a0 F0 => ?_
    have M0 := Mem.new w
    refine wsl ?_
    refine sqNew (cs := #[v]) (t := 27) F0 M0 (wantedS rfl) (run_box rfl (F0.ev 0 rfl)) rfl (by decide) fun g0 a1 w1 hgg0 hb1 F1 M1 => ?_
    refine sr (v := (.string ⟨List.toArray []⟩)) F1 (run_as rfl rfl) rfl rfl rfl fun a2 F2 => ?_
    refine sr (v := (.int .i64 0)) F2 (run_as rfl rfl) rfl rfl rfl fun a3 F3 => ?_
    refine sn ?_
    clear F0 F1 F2 M0
    refine wp_seq ?_
    refine wsl ?_
    refine sr F3 (run_ldB rfl (F3.ev 1 rfl) (M1.at 0 rfl) Tryd.underlying27 rfl szRg rfl) rfl rfl rfl fun a4 F4 => ?_
    refine sqC (v := (.bool true)) F4 M1 (wantedS rfl) (run_call rfl Tryd.func58 (by kernel_rfl) rfl (mapE1 (F4.ev 7 rfl))) rfl (by decide) ((by have h := kmay_any E v w1 (hV.below M1.below) hE32; rw [decide_eq_true hm] at h; exact h)) fun a5 w2 hb2 F5 M2 => ?_
    refine sr (v := (.bool false)) F5 (run_not rfl (F5.ev 8 rfl)) rfl rfl rfl fun a6 F6 => ?_
    refine sn ?_
    clear F3 F4 F5 M1
    refine cfs (F6.ev 9 rfl) ?_
    refine wsl ?_
    refine sr F6 (run_fldA (m := 1) (s := 0) rfl (F6.ev 1 rfl) Tryd.underlying27 rfl rfl (by kernel_rfl) (by decide)) rfl rfl rfl fun a7 F7 => ?_
    refine sr (v := v) F7 (run_ldF rfl (F7.ev 10 rfl) (M2.at 0 rfl) rfl (by kernel_rfl)) rfl rfl rfl fun a8 F8 => ?_
    refine sr F8 (run_lenS rfl (F8.ev 11 rfl) (hV.below M2.below) rfl Tryd.underlying25) rfl rfl rfl fun a9 F9 => ?_
    refine sr (v := (.int .i64 ((2 * E.length : Nat) : Int))) F9 (run_mul (r := ((2 * E.length : Nat) : Int)) rfl rfl (F9.ev 12 rfl) (by rw [IntKind.wrap_i64]; omega)) rfl rfl rfl fun a10 F10 => ?_
    refine sqMake (c := (2 * E.length)) elStr F10 M2 rfl rfl rfl (F10.ev 13 rfl) rfl (by omega) (by unfold maxLen; omega) rfl (by decide) fun v1 a11 w3 hO1 hb3 M3 F11 => ?_
    refine asS F11 rfl rfl rfl rfl rfl fun a12 F12 => ?_
    refine sn ?_
    clear F6 F7 F8 F9 F10 F11 M2
    refine wp_seq ?_
    refine wsl ?_
    refine sr F12 (run_fldA (m := 1) (s := 0) rfl (F12.ev 1 rfl) Tryd.underlying27 rfl rfl (by kernel_rfl) (by decide)) rfl rfl rfl fun a13 F13 => ?_
    refine sr (v := v) F13 (run_ldF rfl (F13.ev 15 rfl) (M3.at 0 rfl) rfl (by kernel_rfl)) rfl rfl rfl fun a14 F14 => ?_
    refine sr F14 (run_lenS rfl (F14.ev 16 rfl) (hV.below M3.below) rfl Tryd.underlying25) rfl rfl rfl fun a15 F15 => ?_
    refine sr (v := (.int .i64 0)) F15 (run_mv rfl rfl) rfl rfl rfl fun a16 F16 => ?_
    refine sn ?_
    clear F12 F13 F14 F15
    refine wp_block ?_
    refine wkLoop (fun m a0 w2 => ∃ (i : Nat) (vo : Value), i ≤ E.length ∧ m = E.length - i ∧ Fr a0 33 [(1, .pointer (some ⟨g0, 0, none⟩)), (4, vo), (16, v), (17, .int .i64 (E.length : Int)), (18, .int .i64 (i : Int))] ∧ Mem w [(g0, isB 27 #[v])] w2 ∧ OwnR w [(g0, isB 27 #[v])] w2 9 1 vo (2 * i) ((rtxT (E.take i)).map tx)) E.length ⟨0, v1, Nat.zero_le _, rfl, F16.sub ⟨rfl, rfl, rfl, rfl, rfl, trivial⟩, M3.sub (.cons_cons _ .slnil), hO1.sub (.cons_cons _ .slnil)⟩ ?_
    rintro m a0 w1 ⟨i, vo, hi, rfl, F0, M0, hO0⟩
    by_cases h1 : i < E.length
    · obtain ⟨e, he⟩ : ∃ e, E[i]? = some e := ⟨E[i], List.getElem?_eq_getElem h1⟩
      have hLe := hE32 e (List.mem_of_getElem? he)
      refine wsl ?_
      refine sr (v := (.bool true)) F0 (run_lss rfl (F0.ev 18 rfl) (F0.ev 17 rfl) (decide_eq_true (by omega))) rfl rfl rfl fun a1 F1 => ?_
      refine sn ?_
      clear F0
      refine wp_seq ?_
      refine cts (F1.ev 19 rfl) ?_
      refine wp_seq ?_
      refine wp_block ?_
      refine wsl ?_
      refine sr (v := (slPtr v (i * 33))) F1 (run_atP (i := i) rfl (F1.ev 16 rfl) (F1.ev 18 rfl) rfl (hV.below M0.below) (by omega) elEp.un (by kernel_rfl)) rfl rfl rfl fun a2 F2 => ?_
      refine sr (v := (.agg (epC e))) F2 (ldEp hLe (run_ldPS (ys := epF e) rfl (F2.ev 20 rfl) (hV.below M0.below) (by omega) (fun j u hj => flat_at epF_len he j hj) (by kernel_rfl) (by kernel_rfl))) rfl rfl rfl fun a3 F3 => ?_
      refine sqNew (cs := (epC ⟨List.replicate 32 0, []⟩)) (t := 76) F3 M0 (wantedS rfl) (run_alloc rfl (by kernel_rfl)) rfl (by decide) fun g2 a4 w2 hgg2 hb2 F4 M1 => ?_
      have hO1 := hO0.add (S := isB 76 (epC ⟨List.replicate 32 0, []⟩)) hb2 hgg2
      refine sqStoreG (i := 0) F4 M1 rfl rfl rfl (F4.ev 6 rfl) (F4.ev 21 rfl) rfl szEp (epC_size (e := e) hLe) (epC_size (e := ⟨List.replicate 32 0, []⟩) List.length_replicate) (epC_one e) fun a5 w3 hgr3 F5 M2 => ?_
      have hO2 := hO1.upd 0 (S2 := isB 76 (epC e)) rfl hgr3
      refine sn ?_
      clear F1 F2 F3 F4 M0 M1
      obtain ⟨KL, hKL⟩ : ∃ KL, KL = [kval vo, kval (.pointer (some ⟨g2, 0, none⟩)), kval (.slice (some ⟨g2, 0, none⟩) 32 32), kval (.string ⟨e.c.toArray⟩), kval (.pointer (some ⟨g2, 32, none⟩)), kval (.string ⟨e.wr.toArray⟩), krow w3.heap.size 9 #[.string ⟨e.c.toArray⟩, .string ⟨e.wr.toArray⟩] 2] := ⟨_, rfl⟩
      have K0 := getK hKL 0
      have K1 := getK hKL 1
      have K2 := getK hKL 2
      have K3 := getK hKL 3
      have K4 := getK hKL 4
      have K5 := getK hKL 5
      have K6 := getK hKL 6
      have HKL : KL.length ≤ 7 := by rw [hKL]; exact Nat.le_refl _
      clear hKL
      refine wp_region_kdTail2 33 7 (by kernel_rfl) (by kernel_rfl) (by kernel_rfl) (by kernel_rfl) F5.size KL HKL ?_ ?_
      · refine ⟨?_, ?_, ?_, ?_, ?_, ?_, ?_, trivial⟩
        · exact asksHY rfl fun a W hS hh hd => giv_run (run_mv rfl (eval_tmp (hh 4 _ rfl (F5.at 4 rfl)))) K0
        · exact asksHY rfl fun a W hS hh hd => giv_run (run_fldA (m := 32) (s := 0) rfl (eval_tmp (hh 6 _ rfl (F5.at 6 rfl))) Tryd.underlying76 rfl rfl (by kernel_rfl) (by decide)) K1
        · exact asksHY rfl fun a W hS hh hd => giv_run (run_slA rfl (eval_tmp (hd.vl 1 23 (by kernel_rfl) K1)) (run_sliceArr_all (P := Tryd.prog) Tryd.underlying73 so8 g2 0 (by decide) _)) K2
        · exact asksHY rfl fun a W hS hh hd => giv_run (run_cv rfl (eval_tmp (hd.vl 2 24 (by kernel_rfl) K2)) (run_strEp hLe ((M2.grow hS).at 0 rfl))) K3
        · exact asksHY rfl fun a W hS hh hd => giv_run (run_fldA (m := 1) (s := 32) rfl (eval_tmp (hh 6 _ rfl (F5.at 6 rfl))) Tryd.underlying76 rfl rfl (by kernel_rfl) (by decide)) K4
        · exact asksHY rfl fun a W hS hh hd => giv_run (run_ldF rfl (eval_tmp (hd.vl 4 26 (by kernel_rfl) K4)) ((M2.grow hS).at 0 rfl) (epC_wrap (c := e.c) (wr := e.wr) hLe) (by kernel_rfl)) K5
        · exact asksHY rfl fun a W hS hh hd => giv_row hS.size 9 #[.string ⟨e.c.toArray⟩, .string ⟨e.wr.toArray⟩] 2 (run_strs2 rfl (eval_tmp (hd.vl 3 25 (by kernel_rfl) K3)) (eval_tmp (hd.vl 5 27 (by kernel_rfl) K5))) K6
      · intro a6 w4 hb4 hK
        have e0 := hK.hvl 0 22 rfl (by kernel_rfl) K0
        have e1 := hK.hvl 1 23 rfl (by kernel_rfl) K1
        have e2 := hK.hvl 2 24 rfl (by kernel_rfl) K2
        have e3 := hK.hvl 3 25 rfl (by kernel_rfl) K3
        have e4 := hK.hvl 4 26 rfl (by kernel_rfl) K4
        have e5 := hK.hvl 5 27 rfl (by kernel_rfl) K5
        obtain ⟨v3, e6, hpv3⟩ := hK.hget (i := 6) (s := 28) rfl (by kernel_rfl)
        rw [K6] at hpv3
        obtain ⟨g4, hgg4, rfl, hBg4⟩ := hpv3
        have F6 : Fr a6 33 [(1, (.pointer (some ⟨g0, 0, none⟩))), (4, vo), (6, (.pointer (some ⟨g2, 0, none⟩))), (16, v), (17, (.int .i64 (E.length : Int))), (18, (.int .i64 (i : Int))), (19, (.bool true)), (20, (slPtr v (i * 33))), (21, (.agg (epC e))), (22, vo), (28, (.slice (some ⟨g4, 0, none⟩) 2 2))] := (hK.hfr F5 [_, _, _, _, _, _, _] ⟨e0, e1, e2, e3, e4, e5, e6, trivial⟩).sub ⟨rfl, rfl, rfl, rfl, rfl, rfl, rfl, rfl, rfl, rfl, rfl, trivial⟩
        have M3 := M2.add hb4 hgg4 hBg4
        have hO3 := hO2.add (S := isB 9 #[.string ⟨e.c.toArray⟩, .string ⟨e.wr.toArray⟩]) hb4 hgg4
        clear hK K0 e0 K1 e1 K2 e2 K3 e3 K4 e4 K5 e5 K6 e6 HKL
        simp only [List.drop_succ_cons, List.drop_zero]
        refine sqAppend (news := [.string ⟨e.c.toArray⟩, .string ⟨e.wr.toArray⟩]) elStr F6 M3 hO3 rfl rfl (F6.ev 22 rfl) (F6.ev 28 rfl) rfl (blkNews (M3.at 0 rfl)) (all_one rfl) (by unfold maxLen; omega) (by omega) rfl (by decide) fun v5 a7 w5 hO4 M4 hnilv5 F7 => ?_
        refine asS F7 rfl rfl rfl rfl rfl fun a8 F8 => ?_
        refine sqEnd ?_
        clear F5 F6 F7 M2 M3
        refine bkEnd ?_
        refine nx ?_
        refine wp_region_lit ?_
        refine sr F8 (run_add (r := ((i + 1 : Nat) : Int)) rfl (F8.ev 18 rfl) rfl (by rw [IntKind.wrap_i64]; omega)) rfl rfl rfl fun a9 F9 => ?_
        refine mvS F9 rfl rfl rfl rfl rfl fun a10 F10 => ?_
        refine sn ?_
        clear F8 F9
        exact ⟨_, by omega, i + 1, v5, by omega, rfl, F10.sub ⟨rfl, rfl, rfl, rfl, rfl, trivial⟩, M4.sub (.cons _ (.cons _ (.cons_cons _ .slnil))), by have h9 := hO4.sub (.cons _ (.cons _ (.cons_cons _ .slnil))); rw [← rtxT_take he, List.map_append, show 2 * (i + 1) = 2 * i + 2 by omega]; exact h9⟩
    · obtain rfl : i = E.length := by omega
      rw [List.take_length, ← hrl] at hO0
      refine wsl ?_
      refine sr (v := (.bool false)) F0 (run_lss rfl (F0.ev 18 rfl) (F0.ev 17 rfl) (decide_eq_false (by omega))) rfl rfl rfl fun a1 F1 => ?_
      refine sn ?_
      clear F0
      refine wp_seq ?_
      refine wp_cond_false (F1.ev 19 rfl) ?_
      refine wp_exit ?_
      refine nxExit ?_
      refine nxExit ?_
      refine bkHere ?_
      refine nx ?_
      refine wsl ?_
      refine mvS F1 rfl rfl rfl rfl rfl fun a2 F2 => ?_
      refine sqC (v := (.string ⟨(rowS (rtxT E)).toArray⟩)) F2 M0 (wantedS rfl) (run_call rfl Tryd.func59 (by kernel_rfl) rfl (mapE1 (F2.ev 31 rfl))) rfl (by decide) (nrow_any (rtxT E) vo w1 (Sl.own hO0).strs (by omega) (by omega)) fun a3 w2 hb2 F3 M1 => ?_
      have hO1 := hO0.grow hb2
      refine asS F3 rfl rfl rfl rfl rfl fun a4 F4 => ?_
      refine sr (v := (.int .i64 0)) F4 (run_as rfl rfl) rfl rfl rfl fun a5 F5 => ?_
      refine sn ?_
      clear F1 F2 F3 F4 M0
      refine wp_ret ?_
      exact ret2 F5 rfl rfl rfl ⟨by rw [hs], M1.below⟩
  · have hs : ringB E = ([], 3) := by unfold ringB; rw [if_neg hm]
    refine walk_enter Tryd.func33 rfl rfl rfl fun a0 F0 => ?_
    have M0 := Mem.new w
    refine wsl ?_
    refine sqNew (cs := #[v]) (t := 27) F0 M0 (wantedS rfl) (run_box rfl (F0.ev 0 rfl)) rfl (by decide) fun g0 a1 w1 hgg0 hb1 F1 M1 => ?_
    refine sr (v := (.string ⟨List.toArray []⟩)) F1 (run_as rfl rfl) rfl rfl rfl fun a2 F2 => ?_
    refine sr (v := (.int .i64 0)) F2 (run_as rfl rfl) rfl rfl rfl fun a3 F3 => ?_
    refine sn ?_
    clear F0 F1 F2 M0
    refine wp_seq ?_
    refine wsl ?_
    refine sr F3 (run_ldB rfl (F3.ev 1 rfl) (M1.at 0 rfl) Tryd.underlying27 rfl szRg rfl) rfl rfl rfl fun a4 F4 => ?_
    refine sqC (v := (.bool false)) F4 M1 (wantedS rfl) (run_call rfl Tryd.func58 (by kernel_rfl) rfl (mapE1 (F4.ev 7 rfl))) rfl (by decide) ((by have h := kmay_any E v w1 (hV.below M1.below) hE32; rw [decide_eq_false hm] at h; exact h)) fun a5 w2 hb2 F5 M2 => ?_
    refine sr (v := (.bool true)) F5 (run_not rfl (F5.ev 8 rfl)) rfl rfl rfl fun a6 F6 => ?_
    refine sn ?_
    clear F3 F4 F5 M1
    refine wp_cond_true (F6.ev 9 rfl) ?_
    refine wsl ?_
    refine sr (v := (.string ⟨List.toArray []⟩)) F6 (run_as rfl rfl) rfl rfl rfl fun a7 F7 => ?_
    refine sr (v := (.int .i64 3)) F7 (run_as rfl rfl) rfl rfl rfl fun a8 F8 => ?_
    refine sn ?_
    clear F6 F7
    refine wp_ret ?_
    refine nxRet ?_
    exact ret2 F8 rfl rfl rfl ⟨by rw [hs], M2.below⟩
set_option maxRecDepth 100000 in
set_option maxHeartbeats 1000000 in
theorem rbytes38_any (E : List Ep) (v : Value) (w : World) (hV : Sl w v 33 E.length (E.flatMap epF)) (hE32 : ∀ e ∈ E, e.c.length = 32) (hEw : ∀ e ∈ E, e.wr.length ≤ 1048576) : Calls Tryd.prog 34 #[.agg #[v]] w fun e w' => e = .returned (.tuple #[.string ⟨(ringB E).1.toArray⟩, .int .i64 (ringB E).2]) ∧ Below w.heap.size w w' := by
  have hfl := flatten_le (rtxT_all hE32 hEw (by decide))
  have hrl := rtxT_len E
  rw [hrl] at hfl
  by_cases hm : mayP E
  · have hs : ringB E = (rowS (rtxT E), 0) := by unfold ringB; rw [if_pos hm]
    have h100 := hm.2.1
    refine walk_enter Tryd.func34 rfl rfl rfl fun a0 F0 => ?_
    have M0 := Mem.new w
    refine wsl ?_
    refine sqNew (cs := #[v]) (t := 27) F0 M0 (wantedS rfl) (run_box rfl (F0.ev 0 rfl)) rfl (by decide) fun g0 a1 w1 hgg0 hb1 F1 M1 => ?_
    refine sr (v := (.string ⟨List.toArray []⟩)) F1 (run_as rfl rfl) rfl rfl rfl fun a2 F2 => ?_
    refine sr (v := (.int .i64 0)) F2 (run_as rfl rfl) rfl rfl rfl fun a3 F3 => ?_
    refine sn ?_
    clear F0 F1 F2 M0
    refine wp_seq ?_
    refine wsl ?_
    refine sr F3 (run_ldB rfl (F3.ev 1 rfl) (M1.at 0 rfl) Tryd.underlying27 rfl szRg rfl) rfl rfl rfl fun a4 F4 => ?_
    refine sqC (v := (.bool true)) F4 M1 (wantedS rfl) (run_call rfl Tryd.func60 (by kernel_rfl) rfl (mapE1 (F4.ev 6 rfl))) rfl (by decide) ((by have h := rright38_any E v w1 (hV.below M1.below) hE32; rw [decide_eq_true hm] at h; exact h)) fun a5 w2 hb2 F5 M2 => ?_
    refine sr (v := (.bool false)) F5 (run_not rfl (F5.ev 7 rfl)) rfl rfl rfl fun a6 F6 => ?_
    refine sn ?_
    clear F3 F4 F5 M1
    refine cfs (F6.ev 8 rfl) ?_
    refine wsl ?_
    refine sr (v := (.slice none 0 0)) F6 (run_as rfl rfl) rfl rfl rfl fun a7 F7 => ?_
    refine sn ?_
    clear F6
    refine wp_seq ?_
    refine wsl ?_
    refine sr (v := (.int .i64 0)) F7 (run_as rfl rfl) rfl rfl rfl fun a8 F8 => ?_
    refine sn ?_
    clear F7
    refine wp_block ?_
    refine wkLoop (fun m a0 w2 => ∃ (i : Nat) (vo : Value), i ≤ E.length ∧ m = E.length - i ∧ Fr a0 34 [(1, .pointer (some ⟨g0, 0, none⟩)), (4, vo), (5, .int .i64 (i : Int))] ∧ Mem w [(g0, isB 27 #[v])] w2 ∧ OwnR w [(g0, isB 27 #[v])] w2 9 1 vo (2 * i) ((rtxT (E.take i)).map tx)) E.length ⟨0, .slice none 0 0, Nat.zero_le _, rfl, F8.sub ⟨rfl, rfl, rfl, trivial⟩, M2.sub (.cons_cons _ .slnil), OwnR.nil _ _ _ _ _⟩ ?_
    rintro m a0 w1 ⟨i, vo, hi, rfl, F0, M0, hO0⟩
    by_cases h1 : i < E.length
    · obtain ⟨e, he⟩ : ∃ e, E[i]? = some e := ⟨E[i], List.getElem?_eq_getElem h1⟩
      have hLe := hE32 e (List.mem_of_getElem? he)
      refine wp_seq ?_
      refine wsl ?_
      refine mvS F0 rfl rfl rfl rfl rfl fun a1 F1 => ?_
      refine sr F1 (run_fldA (m := 1) (s := 0) rfl (F1.ev 1 rfl) Tryd.underlying27 rfl rfl (by kernel_rfl) (by decide)) rfl rfl rfl fun a2 F2 => ?_
      refine sr (v := v) F2 (run_ldF rfl (F2.ev 10 rfl) (M0.at 0 rfl) rfl (by kernel_rfl)) rfl rfl rfl fun a3 F3 => ?_
      refine sr F3 (run_lenS rfl (F3.ev 11 rfl) (hV.below M0.below) rfl Tryd.underlying25) rfl rfl rfl fun a4 F4 => ?_
      refine sr (v := (.bool true)) F4 (run_lss rfl (F4.ev 9 rfl) (F4.ev 12 rfl) (decide_eq_true (by omega))) rfl rfl rfl fun a5 F5 => ?_
      refine sn ?_
      clear F0 F1 F2 F3 F4
      refine cts (F5.ev 13 rfl) ?_
      refine wp_seq ?_
      refine wp_block ?_
      obtain ⟨KL, hKL⟩ : ∃ KL, KL = [kval vo, kval (.pointer (some ⟨g0, 0, none⟩)), kval v, kval (.int .i64 (i : Int)), kval (slPtr v (i * 33)), kval (slPtr v (i * 33 + 0)), kval (.agg (cells8 e.c)), kval (.string ⟨e.c.toArray⟩), kval (.pointer (some ⟨g0, 0, none⟩)), kval v, kval (.int .i64 (i : Int)), kval (slPtr v (i * 33)), kval (slPtr v (i * 33 + 32)), kval (.string ⟨e.wr.toArray⟩), krow w1.heap.size 9 #[.string ⟨e.c.toArray⟩, .string ⟨e.wr.toArray⟩] 2] := ⟨_, rfl⟩
      have K0 := getK hKL 0
      have K1 := getK hKL 1
      have K2 := getK hKL 2
      have K3 := getK hKL 3
      have K4 := getK hKL 4
      have K5 := getK hKL 5
      have K6 := getK hKL 6
      have K7 := getK hKL 7
      have K8 := getK hKL 8
      have K9 := getK hKL 9
      have K10 := getK hKL 10
      have K11 := getK hKL 11
      have K12 := getK hKL 12
      have K13 := getK hKL 13
      have K14 := getK hKL 14
      have HKL : KL.length ≤ 15 := by rw [hKL]; exact Nat.le_refl _
      clear hKL
      refine wp_region_kdTail2 34 15 (by kernel_rfl) (by kernel_rfl) (by kernel_rfl) (by kernel_rfl) F5.size KL HKL ?_ ?_
      · refine ⟨?_, ?_, ?_, ?_, ?_, ?_, ?_, ?_, ?_, ?_, ?_, ?_, ?_, ?_, ?_, trivial⟩
        · exact asksHY rfl fun a W hS hh hd => giv_run (run_mv rfl (eval_tmp (hh 4 _ rfl (F5.at 4 rfl)))) K0
        · exact asksHY rfl fun a W hS hh hd => giv_run (run_fldA (m := 1) (s := 0) rfl (eval_tmp (hh 1 _ rfl (F5.at 1 rfl))) Tryd.underlying27 rfl rfl (by kernel_rfl) (by decide)) K1
        · exact asksHY rfl fun a W hS hh hd => giv_run (run_ldF rfl (eval_tmp (hd.vl 1 17 (by kernel_rfl) K1)) ((M0.grow hS).at 0 rfl) rfl (by kernel_rfl)) K2
        · exact asksHY rfl fun a W hS hh hd => giv_run (run_mv rfl (eval_tmp (hh 5 _ rfl (F5.at 5 rfl)))) K3
        · exact asksHY rfl fun a W hS hh hd => giv_run (run_atP (i := i) rfl (eval_tmp (hd.vl 2 18 (by kernel_rfl) K2)) (eval_tmp (hd.vl 3 19 (by kernel_rfl) K3)) rfl (hV.below (M0.grow hS).below) (by omega) elEp.un (by kernel_rfl)) K4
        · exact asksHY rfl fun a W hS hh hd => giv_run (run_fldP (m2 := 32) (s := 0) rfl (eval_tmp (hd.vl 4 20 (by kernel_rfl) K4)) (hV.below (M0.grow hS).below) (by omega) Tryd.underlying76 rfl rfl (by kernel_rfl) (by decide)) K5
        · exact asksHY rfl fun a W hS hh hd => giv_run (ldKey hLe (run_ldPS (ys := dgC e.c) rfl (eval_tmp (hd.vl 5 21 (by kernel_rfl) K5)) (hV.below (M0.grow hS).below) (by omega) (fun j u hj => by rw [Nat.add_zero]; exact flat_at epF_len he j (dg_ep hj)) (by kernel_rfl) (by rw [dgC_len]; kernel_rfl))) K6
        · exact asksHY rfl fun a W hS hh hd => giv_call (run_call rfl Tryd.func61 (by kernel_rfl) rfl (mapE1 (eval_tmp (hd.vl 6 22 (by kernel_rfl) K6)))) (rraw_any e.c W hLe) K7
        · exact asksHY rfl fun a W hS hh hd => giv_run (run_fldA (m := 1) (s := 0) rfl (eval_tmp (hh 1 _ rfl (F5.at 1 rfl))) Tryd.underlying27 rfl rfl (by kernel_rfl) (by decide)) K8
        · exact asksHY rfl fun a W hS hh hd => giv_run (run_ldF rfl (eval_tmp (hd.vl 8 24 (by kernel_rfl) K8)) ((M0.grow hS).at 0 rfl) rfl (by kernel_rfl)) K9
        · exact asksHY rfl fun a W hS hh hd => giv_run (run_mv rfl (eval_tmp (hh 5 _ rfl (F5.at 5 rfl)))) K10
        · exact asksHY rfl fun a W hS hh hd => giv_run (run_atP (i := i) rfl (eval_tmp (hd.vl 9 25 (by kernel_rfl) K9)) (eval_tmp (hd.vl 10 26 (by kernel_rfl) K10)) rfl (hV.below (M0.grow hS).below) (by omega) elEp.un (by kernel_rfl)) K11
        · exact asksHY rfl fun a W hS hh hd => giv_run (run_fldP (m2 := 1) (s := 32) rfl (eval_tmp (hd.vl 11 27 (by kernel_rfl) K11)) (hV.below (M0.grow hS).below) (by omega) Tryd.underlying76 rfl rfl (by kernel_rfl) (by decide)) K12
        · exact asksHY rfl fun a W hS hh hd => giv_run (run_ldP rfl (eval_tmp (hd.vl 12 28 (by kernel_rfl) K12)) (hV.below (M0.grow hS).below) (flat_at epF_len he 32 rfl) (by kernel_rfl)) K13
        · exact asksHY rfl fun a W hS hh hd => giv_row hS.size 9 #[.string ⟨e.c.toArray⟩, .string ⟨e.wr.toArray⟩] 2 (run_strs2 rfl (eval_tmp (hd.vl 7 23 (by kernel_rfl) K7)) (eval_tmp (hd.vl 13 29 (by kernel_rfl) K13))) K14
      · intro a6 w2 hb2 hK
        have e0 := hK.hvl 0 16 rfl (by kernel_rfl) K0
        have e1 := hK.hvl 1 17 rfl (by kernel_rfl) K1
        have e2 := hK.hvl 2 18 rfl (by kernel_rfl) K2
        have e3 := hK.hvl 3 19 rfl (by kernel_rfl) K3
        have e4 := hK.hvl 4 20 rfl (by kernel_rfl) K4
        have e5 := hK.hvl 5 21 rfl (by kernel_rfl) K5
        have e6 := hK.hvl 6 22 rfl (by kernel_rfl) K6
        have e7 := hK.hvl 7 23 rfl (by kernel_rfl) K7
        have e8 := hK.hvl 8 24 rfl (by kernel_rfl) K8
        have e9 := hK.hvl 9 25 rfl (by kernel_rfl) K9
        have e10 := hK.hvl 10 26 rfl (by kernel_rfl) K10
        have e11 := hK.hvl 11 27 rfl (by kernel_rfl) K11
        have e12 := hK.hvl 12 28 rfl (by kernel_rfl) K12
        have e13 := hK.hvl 13 29 rfl (by kernel_rfl) K13
        obtain ⟨v1, e14, hpv1⟩ := hK.hget (i := 14) (s := 30) rfl (by kernel_rfl)
        rw [K14] at hpv1
        obtain ⟨g2, hgg2, rfl, hBg2⟩ := hpv1
        have F6 : Fr a6 34 [(1, (.pointer (some ⟨g0, 0, none⟩))), (4, vo), (5, (.int .i64 (i : Int))), (9, (.int .i64 (i : Int))), (10, (.pointer (some ⟨g0, 0, none⟩))), (11, v), (12, (.int .i64 (E.length : Int))), (13, (.bool true)), (16, vo), (30, (.slice (some ⟨g2, 0, none⟩) 2 2))] := (hK.hfr F5 [_, _, _, _, _, _, _, _, _, _, _, _, _, _, _] ⟨e0, e1, e2, e3, e4, e5, e6, e7, e8, e9, e10, e11, e12, e13, e14, trivial⟩).sub ⟨rfl, rfl, rfl, rfl, rfl, rfl, rfl, rfl, rfl, rfl, trivial⟩
        have M1 := M0.add hb2 hgg2 hBg2
        have hO1 := hO0.add (S := isB 9 #[.string ⟨e.c.toArray⟩, .string ⟨e.wr.toArray⟩]) hb2 hgg2
        clear hK K0 e0 K1 e1 K2 e2 K3 e3 K4 e4 K5 e5 K6 e6 K7 e7 K8 e8 K9 e9 K10 e10 K11 e11 K12 e12 K13 e13 K14 e14 HKL
        simp only [List.drop_succ_cons, List.drop_zero]
        refine sqAppend (news := [.string ⟨e.c.toArray⟩, .string ⟨e.wr.toArray⟩]) elStr F6 M1 hO1 rfl rfl (F6.ev 16 rfl) (F6.ev 30 rfl) rfl (blkNews (M1.at 0 rfl)) (all_one rfl) (by unfold maxLen; omega) (by omega) rfl (by decide) fun v3 a7 w3 hO2 M2 hnilv3 F7 => ?_
        refine asS F7 rfl rfl rfl rfl rfl fun a8 F8 => ?_
        refine sqEnd ?_
        clear F5 F6 F7 M0 M1
        refine bkEnd ?_
        refine nx ?_
        refine wp_region_lit ?_
        refine mvS F8 rfl rfl rfl rfl rfl fun a9 F9 => ?_
        refine sr F9 (run_add (r := ((i + 1 : Nat) : Int)) rfl (F9.ev 14 rfl) rfl (by rw [IntKind.wrap_i64]; omega)) rfl rfl rfl fun a10 F10 => ?_
        refine asS F10 rfl rfl rfl rfl rfl fun a11 F11 => ?_
        refine sn ?_
        clear F8 F9 F10
        exact ⟨_, by omega, i + 1, v3, by omega, rfl, F11.sub ⟨rfl, rfl, rfl, trivial⟩, M2.sub (.cons _ (.cons_cons _ .slnil)), by have h9 := hO2.sub (.cons _ (.cons_cons _ .slnil)); rw [← rtxT_take he, List.map_append, show 2 * (i + 1) = 2 * i + 2 by omega]; exact h9⟩
    · obtain rfl : i = E.length := by omega
      rw [List.take_length, ← hrl] at hO0
      refine wp_seq ?_
      refine wsl ?_
      refine mvS F0 rfl rfl rfl rfl rfl fun a1 F1 => ?_
      refine sr F1 (run_fldA (m := 1) (s := 0) rfl (F1.ev 1 rfl) Tryd.underlying27 rfl rfl (by kernel_rfl) (by decide)) rfl rfl rfl fun a2 F2 => ?_
      refine sr (v := v) F2 (run_ldF rfl (F2.ev 10 rfl) (M0.at 0 rfl) rfl (by kernel_rfl)) rfl rfl rfl fun a3 F3 => ?_
      refine sr F3 (run_lenS rfl (F3.ev 11 rfl) (hV.below M0.below) rfl Tryd.underlying25) rfl rfl rfl fun a4 F4 => ?_
      refine sr (v := (.bool false)) F4 (run_lss rfl (F4.ev 9 rfl) (F4.ev 12 rfl) (decide_eq_false (by omega))) rfl rfl rfl fun a5 F5 => ?_
      refine sn ?_
      clear F0 F1 F2 F3 F4
      refine wp_cond_false (F5.ev 13 rfl) ?_
      refine wp_exit ?_
      refine nxExit ?_
      refine nxExit ?_
      refine bkHere ?_
      refine nx ?_
      refine wsl ?_
      refine mvS F5 rfl rfl rfl rfl rfl fun a6 F6 => ?_
      refine sqC (v := (.string ⟨(rowS (rtxT E)).toArray⟩)) F6 M0 (wantedS rfl) (run_call rfl Tryd.func62 (by kernel_rfl) rfl (mapE1 (F6.ev 32 rfl))) rfl (by decide) (rrow_any (rtxT E) vo w1 (Sl.own hO0).strs (by omega) (by omega)) fun a7 w2 hb2 F7 M1 => ?_
      have hO1 := hO0.grow hb2
      refine asS F7 rfl rfl rfl rfl rfl fun a8 F8 => ?_
      refine sr (v := (.int .i64 0)) F8 (run_as rfl rfl) rfl rfl rfl fun a9 F9 => ?_
      refine sn ?_
      clear F5 F6 F7 F8 M0
      refine wp_ret ?_
      exact ret2 F9 rfl rfl rfl ⟨by rw [hs], M1.below⟩
  · have hs : ringB E = ([], 3) := by unfold ringB; rw [if_neg hm]
    refine walk_enter Tryd.func34 rfl rfl rfl fun a0 F0 => ?_
    have M0 := Mem.new w
    refine wsl ?_
    refine sqNew (cs := #[v]) (t := 27) F0 M0 (wantedS rfl) (run_box rfl (F0.ev 0 rfl)) rfl (by decide) fun g0 a1 w1 hgg0 hb1 F1 M1 => ?_
    refine sr (v := (.string ⟨List.toArray []⟩)) F1 (run_as rfl rfl) rfl rfl rfl fun a2 F2 => ?_
    refine sr (v := (.int .i64 0)) F2 (run_as rfl rfl) rfl rfl rfl fun a3 F3 => ?_
    refine sn ?_
    clear F0 F1 F2 M0
    refine wp_seq ?_
    refine wsl ?_
    refine sr F3 (run_ldB rfl (F3.ev 1 rfl) (M1.at 0 rfl) Tryd.underlying27 rfl szRg rfl) rfl rfl rfl fun a4 F4 => ?_
    refine sqC (v := (.bool false)) F4 M1 (wantedS rfl) (run_call rfl Tryd.func60 (by kernel_rfl) rfl (mapE1 (F4.ev 6 rfl))) rfl (by decide) ((by have h := rright38_any E v w1 (hV.below M1.below) hE32; rw [decide_eq_false hm] at h; exact h)) fun a5 w2 hb2 F5 M2 => ?_
    refine sr (v := (.bool true)) F5 (run_not rfl (F5.ev 7 rfl)) rfl rfl rfl fun a6 F6 => ?_
    refine sn ?_
    clear F3 F4 F5 M1
    refine wp_cond_true (F6.ev 8 rfl) ?_
    refine wsl ?_
    refine sr (v := (.string ⟨List.toArray []⟩)) F6 (run_as rfl rfl) rfl rfl rfl fun a7 F7 => ?_
    refine sr (v := (.int .i64 3)) F7 (run_as rfl rfl) rfl rfl rfl fun a8 F8 => ?_
    refine sn ?_
    clear F6 F7
    refine wp_ret ?_
    refine nxRet ?_
    exact ret2 F8 rfl rfl rfl ⟨by rw [hs], M2.below⟩
end Go.Proofs.YtconhhhggckcbaaDoor
