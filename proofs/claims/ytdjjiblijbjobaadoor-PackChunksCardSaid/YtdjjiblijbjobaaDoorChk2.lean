/- The walks of chunk.Open, with its deferred closure, and of the reference's. Printed by gen_chk6.py. -/
import Derived.Test.YtdjjiblijbjobaaDoorChk1
import Derived.Test.YtdjjiblijbjobaaDoorRegB
import Derived.Test.YtdjjiblijbjobaaDoorChkPB
namespace Go.Proofs.YtdjjiblijbjobaaDoor
open Go.RowKit

theorem szStr : (Tryd.prog.info? 9).map (·.size) = some 1 := by kernel_rfl
theorem szErr : (Tryd.prog.info? 37).map (·.size) = some 1 := by kernel_rfl
set_option maxRecDepth 100000 in
set_option maxHeartbeats 1000000 in
theorem opened1_any (gd ge : Nat) (x : List UInt8) (e : Int) (u : FrameMode) (w0 w : World) (M : List (Nat × (Obj → Prop))) (hM : Mem w0 ((gd, isB 9 #[.string ⟨x.toArray⟩]) :: (ge, isB 37 #[.int .i64 e]) :: M) w) : CallsD Tryd.prog 81 #[.pointer (some ⟨ge, 0, none⟩), .pointer (some ⟨gd, 0, none⟩)] u w fun r u' w' => u' = u ∧ ((∃ v, r = .returned v) ∧ Mem w0 ((gd, isB 9 #[.string ⟨(if e = 0 then x else []).toArray⟩]) :: (ge, isB 37 #[.int .i64 e]) :: M) w') := by
  by_cases h : e = 0
  · rw [if_pos h]
    refine walk_enterDd Tryd.func81 rfl rfl rfl fun a0 F0 => ?_
    have M0 := hM
    refine wsl ?_
    refine sr F0 (run_ld1 rfl (F0.ev 0 rfl) (M0.at 1 rfl) (by kernel_rfl)) rfl rfl rfl fun a1 F1 => ?_
    refine sr (v := (.bool false)) F1 (run_nei rfl (F1.ev 2 rfl) rfl (bne_eq_false_iff_eq.2 (by omega))) rfl rfl rfl fun a2 F2 => ?_
    refine sn ?_
    clear F0 F1
    refine wp_cond_false (F2.ev 3 rfl) ?_
    refine wp_skip ?_
    exact end0 F2 rfl ⟨⟨_, rfl⟩, M0⟩
  · rw [if_neg h]
    refine walk_enterDd Tryd.func81 rfl rfl rfl fun a0 F0 => ?_
    have M0 := hM
    refine wsl ?_
    refine sr F0 (run_ld1 rfl (F0.ev 0 rfl) (M0.at 1 rfl) (by kernel_rfl)) rfl rfl rfl fun a1 F1 => ?_
    refine sr (v := (.bool true)) F1 (run_nei rfl (F1.ev 2 rfl) rfl (bne_iff_ne.2 (by omega))) rfl rfl rfl fun a2 F2 => ?_
    refine sn ?_
    clear F0 F1
    refine wp_cond_true (F2.ev 3 rfl) ?_
    refine wp_region_lit ?_
    refine sqStoreV (i := 0) (cs := #[.string ⟨List.toArray []⟩]) F2 M0 rfl rfl rfl (F2.ev 1 rfl) rfl rfl rfl szStr rfl rfl (arr_one rfl) fun a3 w1 hgr1 F3 M1 => ?_
    refine sqEnd ?_
    clear F2 M0
    exact end0 F3 rfl ⟨⟨_, rfl⟩, M1⟩
set_option maxRecDepth 100000 in
set_option maxHeartbeats 1000000 in
theorem copened_any (K : List (List UInt8)) (v : Value) (nm x : List UInt8) (w : World) (HG : Glob w) (hV : Sl w v 32 K.length (K.flatMap dgC)) (h32 : ∀ k ∈ K, k.length = 32) (hnm : nm.length < 2 ^ 28) (hx : x.length < 2 ^ 28) : Calls Tryd.prog 47 #[.agg #[v], .agg #[.string ⟨nm.toArray⟩, .string ⟨x.toArray⟩]] w fun e w' => e = .returned (.tuple #[.string ⟨(openC K nm x).1.toArray⟩, .int .i64 (openC K nm x).2]) ∧ Below w.heap.size w w' := by
  have hdl : (x.drop 2).length = x.length - 2 := List.length_drop ..
  have hsx := openC_eq K nm x
  have hx2 := epochC_two x
  have hgl := epochC_lt x
  obtain ⟨k0, hk0⟩ : ∃ k, (epochC x).1 = k := ⟨_, rfl⟩
  obtain ⟨k1, hk1⟩ : ∃ k, (epochC x).2 = k := ⟨_, rfl⟩
  have hep : epochC x = (k0, k1) := by rw [← hk0, ← hk1]
  rw [hep] at hsx hx2 hgl
  obtain ⟨BK, hBK⟩ : ∃ B, (boxK K (k0 : Int)).1 = B := ⟨_, rfl⟩
  obtain ⟨k2, hk2⟩ : ∃ k, (boxK K (k0 : Int)).2 = k := ⟨_, rfl⟩
  have hLBK : BK.length = 32 := by rw [← hBK]; exact boxK_len _ _
  have hbox : boxK K (k0 : Int) = (BK, k2) := by rw [← hBK, ← hk2]
  simp only [hbox] at hsx
  obtain ⟨P, hP⟩ : ∃ P, (openS BK nm (x.drop 2)).1 = P := ⟨_, rfl⟩
  obtain ⟨k3, hk3⟩ : ∃ k, (openS BK nm (x.drop 2)).2 = k := ⟨_, rfl⟩
  have hop : openS BK nm (x.drop 2) = (P, k3) := by rw [← hP, ← hk3]
  simp only [hop] at hsx
  have hPl : P.length ≤ x.length := by
    have := openS_le BK nm (x.drop 2)
    rw [hP] at this
    omega
  obtain ⟨U, hU⟩ : ∃ U, (unpS P 65536).1 = U := ⟨_, rfl⟩
  obtain ⟨k4, hk4⟩ : ∃ k, (unpS P 65536).2 = k := ⟨_, rfl⟩
  have hun : unpS P 65536 = (U, k4) := by rw [← hU, ← hk4]
  simp only [hun] at hsx
  have hUl : U.length ≤ 65536 := by
    have := unpS_le P 65536 (by omega)
    rw [hU] at this
    omega
  obtain ⟨N, hN⟩ : ∃ N, nameC K U = N := ⟨_, rfl⟩
  rw [hN] at hsx
  refine walk_enterD Tryd.func47 rfl rfl rfl fun a0 F0 => ?_
  have M0 := Mem.new w
  refine wsl ?_
  refine sqNew (cs := #[v]) (t := 31) F0 M0 (wantedS rfl) (run_box rfl (F0.ev 0 rfl)) rfl (by decide) fun g0 a1 w1 hgg0 hb1 F1 M1 => ?_
  refine sqNew (cs := #[.string ⟨nm.toArray⟩, .string ⟨x.toArray⟩]) (t := 36) F1 M1 (wantedS rfl) (run_box rfl (F1.ev 1 rfl)) rfl (by decide) fun g1 a2 w2 hgg1 hb2 F2 M2 => ?_
  refine sqNew (cs := #[.string ⟨List.toArray []⟩]) (t := 9) F2 M2 (wantedS rfl) (run_allocV (V := (.string ⟨List.toArray []⟩)) rfl (by kernel_rfl) rfl) rfl (by decide) fun g2 a3 w3 hgg2 hb3 F3 M3 => ?_
  refine sqNew (cs := #[.int .i64 0]) (t := 37) F3 M3 (wantedS rfl) (run_allocV (V := (.int .i64 0)) rfl (by kernel_rfl) rfl) rfl (by decide) fun g3 a4 w4 hgg3 hb4 F4 M4 => ?_
  refine sn ?_
  clear F0 F1 F2 F3 M0 M1 M2 M3
  refine wsl ?_
  refine sr (v := (.func (.func 81) #[] #[(.pointer (some ⟨g3, 0, none⟩)), (.pointer (some ⟨g2, 0, none⟩))])) F4 (run_mkFn rfl (F4.ev 5 rfl) (F4.ev 4 rfl)) rfl rfl rfl fun a5 F5 => ?_
  refine sqDefer F5 rfl rfl (F5.ev 9 rfl) rfl fun a6 F6 => ?_
  refine sn ?_
  clear F4 F5
  refine wsl ?_
  refine sr F6 (run_ldB rfl (F6.ev 3 rfl) (M4.at 2 rfl) Tryd.underlying36 rfl szBox rfl) rfl rfl rfl fun a7 F7 => ?_
  refine sqC (v := (.tuple #[(.int .i64 (k0 : Int)), (.int .i64 k1)])) F7 M4 (wantedS rfl) (run_call rfl Tryd.func21 (by kernel_rfl) rfl (mapE1 (F7.ev 11 rfl))) rfl (by decide) ((by have h := cepoch_any nm x w4; rw [hep] at h; exact h)) fun a8 w5 hb5 F8 M5 => ?_
  refine mvS F8 rfl rfl rfl rfl rfl fun a9 F9 => ?_
  refine sr (v := (.int .i64 (k0 : Int))) F9 (run_ext rfl (F9.ev 10 rfl) rfl) rfl rfl rfl fun a10 F10 => ?_
  refine sr (v := (.int .i64 k1)) F10 (run_ext rfl (F10.ev 10 rfl) rfl) rfl rfl rfl fun a11 F11 => ?_
  refine asS F11 rfl rfl rfl rfl rfl fun a12 F12 => ?_
  refine sqStoreV (i := 0) (cs := #[.int .i64 k1]) F12 M5 rfl rfl rfl (F12.ev 5 rfl) (F12.ev 14 rfl) rfl rfl szErr rfl rfl (arr_one rfl) fun a13 w6 hgr6 F13 M6 => ?_
  refine sn ?_
  clear F6 F7 F8 F9 F10 F11 F12 M4 M5
  refine wp_seq ?_
  refine wp_seq ?_
  by_cases c1 : k1 = 0
  · have hx2 := hx2 c1
    skip
    refine wp_region_lit ?_
    refine sr F13 (run_ld1 rfl (F13.ev 5 rfl) (M6.at 0 rfl) (by kernel_rfl)) rfl rfl rfl fun a14 F14 => ?_
    refine sr (v := (.bool false)) F14 (run_nei rfl (F14.ev 15 rfl) rfl (bne_eq_false_iff_eq.2 (by omega))) rfl rfl rfl fun a15 F15 => ?_
    refine sn ?_
    clear F13 F14
    refine cfs (F15.ev 16 rfl) ?_
    refine wsl ?_
    refine sr F15 (run_ldB rfl (F15.ev 2 rfl) (M6.at 3 rfl) Tryd.underlying31 rfl szKy rfl) rfl rfl rfl fun a16 F16 => ?_
    refine mvS F16 rfl rfl rfl rfl rfl fun a17 F17 => ?_
    refine sqC (v := (.tuple #[(.agg (cells8 BK)), (.int .i64 k2)])) F17 M6 (wantedS rfl) (run_call rfl Tryd.func38 (by kernel_rfl) rfl (mapE2 (F17.ev 19 rfl) (F17.ev 20 rfl))) rfl (by decide) ((by have h := kbox_any K v (k0 : Int) w6 (HG.below M6.below) (hV.below M6.below) h32; rw [hbox] at h; exact h)) fun a18 w7 hb7 F18 M7 => ?_
    refine mvS F18 rfl rfl rfl rfl rfl fun a19 F19 => ?_
    refine sr (v := (.agg (cells8 BK))) F19 (run_ext rfl (F19.ev 18 rfl) rfl) rfl rfl rfl fun a20 F20 => ?_
    refine sr (v := (.int .i64 k2)) F20 (run_ext rfl (F20.ev 18 rfl) rfl) rfl rfl rfl fun a21 F21 => ?_
    refine sqNew (cs := (cells8 (List.replicate 32 0))) (t := 50) F21 M7 (wantedS rfl) (run_alloc rfl (by kernel_rfl)) rfl (by decide) fun g4 a22 w8 hgg4 hb8 F22 M8 => ?_
    refine sqStore (i := 0) F22 M8 rfl rfl rfl (F22.ev 7 rfl) (F22.ev 22 rfl) rfl szKk (szOf hLBK) (szOf List.length_replicate) (cells8_one _) fun a23 w9 F23 M9 => ?_
    refine sqStoreV (i := 1) (cs := #[.int .i64 k2]) F23 M9 rfl rfl rfl (F23.ev 5 rfl) (F23.ev 23 rfl) rfl rfl szErr rfl rfl (arr_one rfl) fun a24 w10 hgr10 F24 M10 => ?_
    refine sn ?_
    clear F15 F16 F17 F18 F19 F20 F21 F22 F23 M6 M7 M8 M9
    refine wp_seq ?_
    refine wp_seq ?_
    by_cases c2 : k2 = 0
    · skip
      refine wp_region_lit ?_
      refine sr F24 (run_ld1 rfl (F24.ev 5 rfl) (M10.at 1 rfl) (by kernel_rfl)) rfl rfl rfl fun a25 F25 => ?_
      refine sr (v := (.bool false)) F25 (run_nei rfl (F25.ev 24 rfl) rfl (bne_eq_false_iff_eq.2 (by omega))) rfl rfl rfl fun a26 F26 => ?_
      refine sn ?_
      clear F24 F25
      refine cfs (F26.ev 25 rfl) ?_
      refine wp_seq ?_
      refine wp_region_put 57 [some (.agg (cells8 BK)), some (.pointer (some ⟨g1, 0, none⟩)), some (.string ⟨nm.toArray⟩), some (.pointer (some ⟨g1, 1, none⟩)), some (.string ⟨x.toArray⟩), some (.string ⟨(x.drop 2).toArray⟩), some (.tuple #[(.string ⟨P.toArray⟩), (.int .i64 k3)]), some (.tuple #[(.string ⟨P.toArray⟩), (.int .i64 k3)]), some (.string ⟨P.toArray⟩), some (.int .i64 k3), some (.string ⟨P.toArray⟩), none] [⟨11, g3, 37, #[.int .i64 k2], #[.int .i64 k3]⟩] (by kernel_rfl) (by kernel_rfl) F26.size (M10.sub (.cons_cons _ (.cons _ (.cons_cons _ (.cons_cons _ (.cons_cons _ .slnil)))))) ?_ ?_ ?_ ?_ fun a27 w11 hI => ?_
      · intro b hb
        simp only [List.mem_cons, List.not_mem_nil, or_false] at hb
        rcases hb with rfl
        · exact ⟨M10.at 1 rfl, M10.ge 1 rfl, (fun y hy => by simp only [List.mem_cons, List.not_mem_nil, or_false] at hy; rcases hy with rfl | rfl | rfl | rfl <;> first | exact setAt_ne M10.nd (i := 0) (j := 1) rfl rfl (by decide) | exact setAt_ne M10.nd (i := 2) (j := 1) rfl rfl (by decide) | exact setAt_ne M10.nd (i := 3) (j := 1) rfl rfl (by decide) | exact setAt_ne M10.nd (i := 4) (j := 1) rfl rfl (by decide))⟩
      · intro b hb e he hne
        simp only [List.mem_cons, List.not_mem_nil, or_false] at hb he
        rw [hb, he] at hne
        exact absurd rfl hne
      · intro b hb
        simp only [List.mem_cons, List.not_mem_nil, or_false] at hb
        rcases hb with rfl <;> exact Nat.le_of_ble_eq_true (by kernel_rfl)
      · refine ⟨?_, ?_, ?_, ?_, ?_, ?_, ?_, ?_, ?_, ?_, ?_, ?_, trivial⟩
        · refine .val 28 (.agg (cells8 BK)) rfl rfl (by simp) fun a W hS hh hd hO => ⟨wanted_yes rfl, ?_⟩
          exact givn_run (run_ldB rfl (eval_tmp (hh 7 _ rfl (F26.at 7 rfl))) (hS.at 0 rfl) Tryd.underlying50 rfl szKk (szOf hLBK))
        · refine .val 29 (.pointer (some ⟨g1, 0, none⟩)) rfl rfl (by simp) fun a W hS hh hd hO => ⟨wanted_yes rfl, ?_⟩
          exact givn_run (run_fldA (m := 1) (s := 0) rfl (eval_tmp (hh 3 _ rfl (F26.at 3 rfl))) Tryd.underlying36 rfl rfl (by kernel_rfl) (by decide))
        · refine .val 30 (.string ⟨nm.toArray⟩) rfl rfl (by simp) fun a W hS hh hd hO => ⟨wanted_yes rfl, ?_⟩
          exact givn_run (run_ldF rfl (eval_tmp (hd 1 29 _ (by kernel_rfl) rfl)) (hS.at 2 rfl) rfl (by kernel_rfl))
        · refine .val 31 (.pointer (some ⟨g1, 1, none⟩)) rfl rfl (by simp) fun a W hS hh hd hO => ⟨wanted_yes rfl, ?_⟩
          exact givn_run (run_fldA (m := 1) (s := 1) rfl (eval_tmp (hh 3 _ rfl (F26.at 3 rfl))) Tryd.underlying36 rfl rfl (by kernel_rfl) (by decide))
        · refine .val 32 (.string ⟨x.toArray⟩) rfl rfl (by simp) fun a W hS hh hd hO => ⟨wanted_yes rfl, ?_⟩
          exact givn_run (run_ldF rfl (eval_tmp (hd 3 31 _ (by kernel_rfl) rfl)) (hS.at 2 rfl) rfl (by kernel_rfl))
        · refine .val 33 (.string ⟨(x.drop 2).toArray⟩) rfl rfl (by simp) fun a W hS hh hd hO => ⟨wanted_yes rfl, ?_⟩
          exact givn_run (run_sFrom (m := 2) rfl (eval_tmp (hd 4 32 _ (by kernel_rfl) rfl)) rfl Tryd.underlying9 (by omega) (by omega))
        · refine .val 34 (.tuple #[(.string ⟨P.toArray⟩), (.int .i64 k3)]) rfl rfl (by simp) fun a W hS hh hd hO => ⟨wanted_yes rfl, ?_⟩
          exact givn_call (run_call rfl Tryd.func82 (by kernel_rfl) rfl (mapE3 (eval_tmp (hd 0 28 _ (by kernel_rfl) rfl)) (eval_tmp (hd 2 30 _ (by kernel_rfl) rfl)) (eval_tmp (hd 5 33 _ (by kernel_rfl) rfl)))) ((by have h := sopen_any BK nm (x.drop 2) W (HG.below hS.below) hLBK (by omega); rw [hop] at h; exact h))
        · refine .val 27 (.tuple #[(.string ⟨P.toArray⟩), (.int .i64 k3)]) rfl rfl (by simp) fun a W hS hh hd hO => ⟨wanted_yes rfl, ?_⟩
          exact givn_run (run_mv rfl (eval_tmp (hd 6 34 _ (by kernel_rfl) rfl)))
        · refine .val 35 (.string ⟨P.toArray⟩) rfl rfl (by simp) fun a W hS hh hd hO => ⟨wanted_yes rfl, ?_⟩
          exact givn_run (run_ext rfl (eval_tmp (hd 7 27 _ (by kernel_rfl) rfl)) rfl)
        · refine .val 36 (.int .i64 k3) rfl rfl (by simp) fun a W hS hh hd hO => ⟨wanted_yes rfl, ?_⟩
          exact givn_run (run_ext rfl (eval_tmp (hd 7 27 _ (by kernel_rfl) rfl)) rfl)
        · refine .val 8 (.string ⟨P.toArray⟩) rfl rfl (by simp) fun a W hS hh hd hO => ⟨wanted_yes rfl, ?_⟩
          exact givn_run (run_as rfl (eval_tmp (hd 8 35 _ (by kernel_rfl) rfl)))
        · exact .put _ (List.mem_cons_self ..) rfl rfl (by simp) 1 37 _ _ (.int .i64 k3) rfl (fun a hh => eval_tmp (hh 5 _ rfl (F26.at 5 rfl))) (fun a hh hd => (eval_tmp (hd 9 36 _ (by kernel_rfl) rfl))) rfl rfl szErr rfl rfl (arr_one rfl)
      have M11 := hI.mem.put1 (cs := #[.int .i64 k3]) (M10.ge 1 rfl) (hI.blk _ (List.mem_cons_self ..)) (fun y hy => by simp only [List.mem_cons, List.not_mem_nil, or_false] at hy; rcases hy with rfl | rfl | rfl | rfl <;> first | exact setAt_ne M10.nd (i := 0) (j := 1) rfl rfl (by decide) | exact setAt_ne M10.nd (i := 2) (j := 1) rfl rfl (by decide) | exact setAt_ne M10.nd (i := 3) (j := 1) rfl rfl (by decide) | exact setAt_ne M10.nd (i := 4) (j := 1) rfl rfl (by decide))
      have F27 : FrD [lateF 81 #[.pointer (some ⟨g3, 0, none⟩), .pointer (some ⟨g2, 0, none⟩)]] a27 57 [(0, (.agg #[v])), (1, (.agg #[.string ⟨nm.toArray⟩, .string ⟨x.toArray⟩])), (2, (.pointer (some ⟨g0, 0, none⟩))), (3, (.pointer (some ⟨g1, 0, none⟩))), (4, (.pointer (some ⟨g2, 0, none⟩))), (5, (.pointer (some ⟨g3, 0, none⟩))), (6, (.int .i64 (k0 : Int))), (7, (.pointer (some ⟨g4, 0, none⟩))), (8, (.string ⟨P.toArray⟩)), (9, (.func (.func 81) #[] #[(.pointer (some ⟨g3, 0, none⟩)), (.pointer (some ⟨g2, 0, none⟩))])), (10, (.tuple #[(.int .i64 (k0 : Int)), (.int .i64 k1)])), (11, (.agg #[.string ⟨nm.toArray⟩, .string ⟨x.toArray⟩])), (12, (.tuple #[(.int .i64 (k0 : Int)), (.int .i64 k1)])), (13, (.int .i64 (k0 : Int))), (14, (.int .i64 k1)), (15, (.int .i64 k1)), (16, (.bool false)), (18, (.tuple #[(.agg (cells8 BK)), (.int .i64 k2)])), (19, (.agg #[v])), (20, (.int .i64 (k0 : Int))), (21, (.tuple #[(.agg (cells8 BK)), (.int .i64 k2)])), (22, (.agg (cells8 BK))), (23, (.int .i64 k2)), (24, (.int .i64 k2)), (25, (.bool false)), (36, (.int .i64 k3))] := fr_of_holds hI.size (hI.defers.trans F26.defers) ⟨hI.had 0 _ rfl (F26.at 0 rfl), hI.had 1 _ rfl (F26.at 1 rfl), hI.had 2 _ rfl (F26.at 2 rfl), hI.had 3 _ rfl (F26.at 3 rfl), hI.had 4 _ rfl (F26.at 4 rfl), hI.had 5 _ rfl (F26.at 5 rfl), hI.had 6 _ rfl (F26.at 6 rfl), hI.had 7 _ rfl (F26.at 7 rfl), hI.val 10 _ 8 _ rfl rfl rfl rfl, hI.had 9 _ rfl (F26.at 9 rfl), hI.had 10 _ rfl (F26.at 10 rfl), hI.had 11 _ rfl (F26.at 11 rfl), hI.had 12 _ rfl (F26.at 12 rfl), hI.had 13 _ rfl (F26.at 13 rfl), hI.had 14 _ rfl (F26.at 14 rfl), hI.had 15 _ rfl (F26.at 15 rfl), hI.had 16 _ rfl (F26.at 16 rfl), hI.had 18 _ rfl (F26.at 18 rfl), hI.had 19 _ rfl (F26.at 19 rfl), hI.had 20 _ rfl (F26.at 20 rfl), hI.had 21 _ rfl (F26.at 21 rfl), hI.had 22 _ rfl (F26.at 22 rfl), hI.had 23 _ rfl (F26.at 23 rfl), hI.had 24 _ rfl (F26.at 24 rfl), hI.had 25 _ rfl (F26.at 25 rfl), hI.val 9 _ 36 _ rfl rfl rfl rfl, trivial⟩
      clear hI
      clear F26 M10
      refine nx ?_
      refine wp_seq ?_
      refine wp_seq ?_
      by_cases c3 : k3 = 0
      · skip
        refine wp_region_lit ?_
        refine sr F27 (run_ld1 rfl (F27.ev 5 rfl) (M11.at 0 rfl) (by kernel_rfl)) rfl rfl rfl fun a28 F28 => ?_
        refine sr (v := (.bool false)) F28 (run_nei rfl (F28.ev 37 rfl) rfl (bne_eq_false_iff_eq.2 (by omega))) rfl rfl rfl fun a29 F29 => ?_
        refine sn ?_
        clear F27 F28
        refine cfs (F29.ev 38 rfl) ?_
        refine wsl ?_
        refine mvS F29 rfl rfl rfl rfl rfl fun a30 F30 => ?_
        refine sqC (v := (.tuple #[(.string ⟨U.toArray⟩), (.int .i64 k4)])) F30 M11 (wantedS rfl) (run_call rfl Tryd.func83 (by kernel_rfl) rfl (mapE2 (F30.ev 41 rfl) rfl)) rfl (by decide) ((by have h := zunp_any P 65536 w11 (by omega) (by omega) (by omega); rw [hun] at h; exact h)) fun a31 w12 hb12 F31 M12 => ?_
        refine mvS F31 rfl rfl rfl rfl rfl fun a32 F32 => ?_
        refine sr (v := (.string ⟨U.toArray⟩)) F32 (run_ext rfl (F32.ev 40 rfl) rfl) rfl rfl rfl fun a33 F33 => ?_
        refine sr (v := (.int .i64 k4)) F33 (run_ext rfl (F33.ev 40 rfl) rfl) rfl rfl rfl fun a34 F34 => ?_
        refine sqStoreV (i := 2) (cs := #[.string ⟨U.toArray⟩]) F34 M12 rfl rfl rfl (F34.ev 4 rfl) (F34.ev 43 rfl) rfl rfl szStr rfl rfl (arr_one rfl) fun a35 w13 hgr13 F35 M13 => ?_
        refine sqStoreV (i := 0) (cs := #[.int .i64 k4]) F35 M13 rfl rfl rfl (F35.ev 5 rfl) (F35.ev 44 rfl) rfl rfl szErr rfl rfl (arr_one rfl) fun a36 w14 hgr14 F36 M14 => ?_
        refine sn ?_
        clear F29 F30 F31 F32 F33 F34 F35 M11 M12 M13
        refine wp_seq ?_
        refine wp_seq ?_
        have c5 : k4 ≠ 0 ∨ (k4 = 0 ∧ N ≠ nm) ∨ (k4 = 0 ∧ N = nm) := by by_cases h : k4 = 0 <;> by_cases h2 : N = nm <;> simp [h, h2]
        rcases c5 with c4 | ⟨c4, c5⟩ | ⟨c4, c5⟩
        · have hs := hsx
          rw [if_neg (by simp [c1]), if_neg (by simp [c2]), if_neg (by simp [c3]), if_pos c4] at hs
          obtain ⟨KL, hKL⟩ : ∃ KL, KL = [kval (.int .i64 k4), kval (.bool false), kval (.bool false), kval undef, kval undef, kval undef, kval undef, kval undef, kval undef, kval (.bool false)] := ⟨_, rfl⟩
          have K0 := getK hKL 0
          have K1 := getK hKL 1
          have K2 := getK hKL 2
          have K3 := getK hKL 3
          have K4 := getK hKL 4
          have K5 := getK hKL 5
          have K6 := getK hKL 6
          have K7 := getK hKL 7
          have K8 := getK hKL 8
          have K9 := getK hKL 9
          clear hKL
          refine wp_region_kd 57 (by kernel_rfl) (by kernel_rfl) (by kernel_rfl) F36.size KL ?_ ?_
          · refine ⟨?_, ?_, ?_, ?_, ?_, ?_, ?_, ?_, ?_, ?_, trivial⟩
            · exact asksY rfl fun a W hS hh hd => giv_run (run_ld1 rfl (eval_tmp (hh 5 _ rfl (F36.at 5 rfl))) ((M14.grow hS).at 0 rfl) (by kernel_rfl)) K0
            · exact asksY rfl fun a W hS hh hd => giv_run (run_eqi rfl (eval_tmp (hd.vl 0 45 (by kernel_rfl) K0)) rfl (beq_eq_false_iff_ne.2 (by omega))) K1
            · exact asksY rfl fun a W hS hh hd => giv_run (run_mv rfl (eval_tmp (hd.vl 1 46 (by kernel_rfl) K1))) K2
            · exact asks_skip fun a W hS hh hd => ⟨unwanted_of (j := 2) (s := 47) (want := true) (by kernel_rfl) (hd.vl 2 47 (by kernel_rfl) K2), show kT KL 3 undef W by unfold kT; rw [K3]; rfl⟩
            · exact asks_skip fun a W hS hh hd => ⟨unwanted_of (j := 2) (s := 47) (want := true) (by kernel_rfl) (hd.vl 2 47 (by kernel_rfl) K2), show kT KL 4 undef W by unfold kT; rw [K4]; rfl⟩
            · exact asks_skip fun a W hS hh hd => ⟨unwanted_of (j := 2) (s := 47) (want := true) (by kernel_rfl) (hd.vl 2 47 (by kernel_rfl) K2), show kT KL 5 undef W by unfold kT; rw [K5]; rfl⟩
            · exact asks_skip fun a W hS hh hd => ⟨unwanted_of (j := 2) (s := 47) (want := true) (by kernel_rfl) (hd.vl 2 47 (by kernel_rfl) K2), show kT KL 6 undef W by unfold kT; rw [K6]; rfl⟩
            · exact asks_skip fun a W hS hh hd => ⟨unwanted_of (j := 2) (s := 47) (want := true) (by kernel_rfl) (hd.vl 2 47 (by kernel_rfl) K2), show kT KL 7 undef W by unfold kT; rw [K7]; rfl⟩
            · exact asks_skip fun a W hS hh hd => ⟨unwanted_of (j := 2) (s := 47) (want := true) (by kernel_rfl) (hd.vl 2 47 (by kernel_rfl) K2), show kT KL 8 undef W by unfold kT; rw [K8]; rfl⟩
            · exact asksY rfl fun a W hS hh hd => giv_run (run_pick rfl (eval_tmp (hd.vl 2 47 (by kernel_rfl) K2)) (eval_tmp (hd.vl 8 53 (by kernel_rfl) K8)) rfl) K9
          · intro a37 w15 hb15 hK
            have e0 := hK.vl 0 45 (by kernel_rfl) K0
            have e1 := hK.vl 1 46 (by kernel_rfl) K1
            have e2 := hK.vl 2 47 (by kernel_rfl) K2
            have e3 := hK.vl 3 48 (by kernel_rfl) K3
            have e4 := hK.vl 4 49 (by kernel_rfl) K4
            have e5 := hK.vl 5 50 (by kernel_rfl) K5
            have e6 := hK.vl 6 51 (by kernel_rfl) K6
            have e7 := hK.vl 7 52 (by kernel_rfl) K7
            have e8 := hK.vl 8 53 (by kernel_rfl) K8
            have e9 := hK.vl 9 54 (by kernel_rfl) K9
            have F37 : FrD [lateF 81 #[.pointer (some ⟨g3, 0, none⟩), .pointer (some ⟨g2, 0, none⟩)]] a37 57 [(0, (.agg #[v])), (1, (.agg #[.string ⟨nm.toArray⟩, .string ⟨x.toArray⟩])), (2, (.pointer (some ⟨g0, 0, none⟩))), (3, (.pointer (some ⟨g1, 0, none⟩))), (4, (.pointer (some ⟨g2, 0, none⟩))), (5, (.pointer (some ⟨g3, 0, none⟩))), (6, (.int .i64 (k0 : Int))), (7, (.pointer (some ⟨g4, 0, none⟩))), (8, (.string ⟨P.toArray⟩)), (9, (.func (.func 81) #[] #[(.pointer (some ⟨g3, 0, none⟩)), (.pointer (some ⟨g2, 0, none⟩))])), (10, (.tuple #[(.int .i64 (k0 : Int)), (.int .i64 k1)])), (11, (.agg #[.string ⟨nm.toArray⟩, .string ⟨x.toArray⟩])), (12, (.tuple #[(.int .i64 (k0 : Int)), (.int .i64 k1)])), (13, (.int .i64 (k0 : Int))), (14, (.int .i64 k1)), (15, (.int .i64 k1)), (16, (.bool false)), (18, (.tuple #[(.agg (cells8 BK)), (.int .i64 k2)])), (19, (.agg #[v])), (20, (.int .i64 (k0 : Int))), (21, (.tuple #[(.agg (cells8 BK)), (.int .i64 k2)])), (22, (.agg (cells8 BK))), (23, (.int .i64 k2)), (24, (.int .i64 k2)), (25, (.bool false)), (36, (.int .i64 k3)), (37, (.int .i64 k3)), (38, (.bool false)), (40, (.tuple #[(.string ⟨U.toArray⟩), (.int .i64 k4)])), (41, (.string ⟨P.toArray⟩)), (42, (.tuple #[(.string ⟨U.toArray⟩), (.int .i64 k4)])), (43, (.string ⟨U.toArray⟩)), (44, (.int .i64 k4)), (54, (.bool false))] := (hK.fr F36 [_, _, _, _, _, _, _, _, _, _] ⟨e0, e1, e2, e3, e4, e5, e6, e7, e8, e9, trivial⟩).sub ⟨rfl, rfl, rfl, rfl, rfl, rfl, rfl, rfl, rfl, rfl, rfl, rfl, rfl, rfl, rfl, rfl, rfl, rfl, rfl, rfl, rfl, rfl, rfl, rfl, rfl, rfl, rfl, rfl, rfl, rfl, rfl, rfl, rfl, rfl, trivial⟩
            have M15 := M14.grow hb15
            clear hK K0 e0 K1 e1 K2 e2 K3 e3 K4 e4 K5 e5 K6 e6 K7 e7 K8 e8 K9 e9
            clear F36 M14
            refine nx ?_
            refine cfs (F37.ev 54 rfl) ?_
            refine wp_seq ?_
            refine wp_region_put 57 [some (.string ⟨U.toArray⟩), some (.int .i64 k4), none, none] [⟨2, g2, 9, #[.string ⟨U.toArray⟩], #[.string ⟨U.toArray⟩]⟩, ⟨3, g3, 37, #[.int .i64 k4], #[.int .i64 k4]⟩] (by kernel_rfl) (by kernel_rfl) F37.size (M15.sub (.cons _ (.cons_cons _ (.cons _ (.cons_cons _ (.cons_cons _ .slnil)))))) ?_ ?_ ?_ ?_ fun a38 w16 hI => ?_
            · intro b hb
              simp only [List.mem_cons, List.not_mem_nil, or_false] at hb
              rcases hb with rfl | rfl
              · exact ⟨M15.at 2 rfl, M15.ge 2 rfl, (fun y hy => by simp only [List.mem_cons, List.not_mem_nil, or_false] at hy; rcases hy with rfl | rfl | rfl <;> first | exact setAt_ne M15.nd (i := 1) (j := 2) rfl rfl (by decide) | exact setAt_ne M15.nd (i := 3) (j := 2) rfl rfl (by decide) | exact setAt_ne M15.nd (i := 4) (j := 2) rfl rfl (by decide))⟩
              · exact ⟨M15.at 0 rfl, M15.ge 0 rfl, (fun y hy => by simp only [List.mem_cons, List.not_mem_nil, or_false] at hy; rcases hy with rfl | rfl | rfl <;> first | exact setAt_ne M15.nd (i := 1) (j := 0) rfl rfl (by decide) | exact setAt_ne M15.nd (i := 3) (j := 0) rfl rfl (by decide) | exact setAt_ne M15.nd (i := 4) (j := 0) rfl rfl (by decide))⟩
            · intro b hb e he hne
              simp only [List.mem_cons, List.not_mem_nil, or_false] at hb he
              rcases hb with rfl | rfl <;> rcases he with rfl | rfl <;> first | exact absurd rfl hne | exact setAt_ne M15.nd (i := 2) (j := 0) rfl rfl (by decide) | exact (setAt_ne M15.nd (i := 2) (j := 0) rfl rfl (by decide)).symm
            · intro b hb
              simp only [List.mem_cons, List.not_mem_nil, or_false] at hb
              rcases hb with rfl | rfl <;> exact Nat.le_of_ble_eq_true (by kernel_rfl)
            · refine ⟨?_, ?_, ?_, ?_, trivial⟩
              · refine .val 55 (.string ⟨U.toArray⟩) rfl rfl (by simp) fun a W hS hh hd hO => ⟨wanted_yes rfl, ?_⟩
                exact givn_run (run_ld1 rfl (eval_tmp (hh 4 _ rfl (F37.at 4 rfl))) (hO _ (List.mem_cons_self ..) (by kernel_rfl)) (by kernel_rfl))
              · refine .val 56 (.int .i64 k4) rfl rfl (by simp) fun a W hS hh hd hO => ⟨wanted_yes rfl, ?_⟩
                exact givn_run (run_ld1 rfl (eval_tmp (hh 5 _ rfl (F37.at 5 rfl))) (hO _ (List.mem_cons_of_mem _ (List.mem_cons_self ..)) (by kernel_rfl)) (by kernel_rfl))
              · exact .put _ (List.mem_cons_self ..) rfl rfl (by simp) 1 9 _ _ (.string ⟨U.toArray⟩) rfl (fun a hh => eval_tmp (hh 4 _ rfl (F37.at 4 rfl))) (fun a hh hd => (eval_tmp (hd 0 55 _ (by kernel_rfl) rfl))) rfl rfl szStr rfl rfl (arr_one rfl)
              · exact .put _ (List.mem_cons_of_mem _ (List.mem_cons_self ..)) rfl rfl (by simp) 1 37 _ _ (.int .i64 k4) rfl (fun a hh => eval_tmp (hh 5 _ rfl (F37.at 5 rfl))) (fun a hh hd => (eval_tmp (hd 1 56 _ (by kernel_rfl) rfl))) rfl rfl szErr rfl rfl (arr_one rfl)
            have M16 := hI.mem.put1 (cs := #[.int .i64 k4]) (M15.ge 0 rfl) (hI.blk _ (List.mem_cons_of_mem _ (List.mem_cons_self ..))) (fun y hy => by simp only [List.mem_cons, List.not_mem_nil, or_false] at hy; rcases hy with rfl | rfl | rfl <;> first | exact setAt_ne M15.nd (i := 1) (j := 0) rfl rfl (by decide) | exact setAt_ne M15.nd (i := 3) (j := 0) rfl rfl (by decide) | exact setAt_ne M15.nd (i := 4) (j := 0) rfl rfl (by decide))
            have M17 := M16.put1 (cs := #[.string ⟨U.toArray⟩]) (M15.ge 2 rfl) (hI.blk _ (List.mem_cons_self ..)) (far_cons (setAt_ne M15.nd (i := 0) (j := 2) rfl rfl (by decide)) (fun y hy => by simp only [List.mem_cons, List.not_mem_nil, or_false] at hy; rcases hy with rfl | rfl | rfl <;> first | exact setAt_ne M15.nd (i := 1) (j := 2) rfl rfl (by decide) | exact setAt_ne M15.nd (i := 3) (j := 2) rfl rfl (by decide) | exact setAt_ne M15.nd (i := 4) (j := 2) rfl rfl (by decide)))
            have F38 : FrD [lateF 81 #[.pointer (some ⟨g3, 0, none⟩), .pointer (some ⟨g2, 0, none⟩)]] a38 57 [(0, (.agg #[v])), (1, (.agg #[.string ⟨nm.toArray⟩, .string ⟨x.toArray⟩])), (2, (.pointer (some ⟨g0, 0, none⟩))), (3, (.pointer (some ⟨g1, 0, none⟩))), (4, (.pointer (some ⟨g2, 0, none⟩))), (5, (.pointer (some ⟨g3, 0, none⟩))), (6, (.int .i64 (k0 : Int))), (7, (.pointer (some ⟨g4, 0, none⟩))), (8, (.string ⟨P.toArray⟩)), (9, (.func (.func 81) #[] #[(.pointer (some ⟨g3, 0, none⟩)), (.pointer (some ⟨g2, 0, none⟩))])), (10, (.tuple #[(.int .i64 (k0 : Int)), (.int .i64 k1)])), (11, (.agg #[.string ⟨nm.toArray⟩, .string ⟨x.toArray⟩])), (12, (.tuple #[(.int .i64 (k0 : Int)), (.int .i64 k1)])), (13, (.int .i64 (k0 : Int))), (14, (.int .i64 k1)), (15, (.int .i64 k1)), (16, (.bool false)), (18, (.tuple #[(.agg (cells8 BK)), (.int .i64 k2)])), (19, (.agg #[v])), (20, (.int .i64 (k0 : Int))), (21, (.tuple #[(.agg (cells8 BK)), (.int .i64 k2)])), (22, (.agg (cells8 BK))), (23, (.int .i64 k2)), (24, (.int .i64 k2)), (25, (.bool false)), (36, (.int .i64 k3)), (37, (.int .i64 k3)), (38, (.bool false)), (40, (.tuple #[(.string ⟨U.toArray⟩), (.int .i64 k4)])), (41, (.string ⟨P.toArray⟩)), (42, (.tuple #[(.string ⟨U.toArray⟩), (.int .i64 k4)])), (43, (.string ⟨U.toArray⟩)), (44, (.int .i64 k4)), (54, (.bool false)), (55, (.string ⟨U.toArray⟩)), (56, (.int .i64 k4))] := fr_of_holds hI.size (hI.defers.trans F37.defers) ⟨hI.had 0 _ rfl (F37.at 0 rfl), hI.had 1 _ rfl (F37.at 1 rfl), hI.had 2 _ rfl (F37.at 2 rfl), hI.had 3 _ rfl (F37.at 3 rfl), hI.had 4 _ rfl (F37.at 4 rfl), hI.had 5 _ rfl (F37.at 5 rfl), hI.had 6 _ rfl (F37.at 6 rfl), hI.had 7 _ rfl (F37.at 7 rfl), hI.had 8 _ rfl (F37.at 8 rfl), hI.had 9 _ rfl (F37.at 9 rfl), hI.had 10 _ rfl (F37.at 10 rfl), hI.had 11 _ rfl (F37.at 11 rfl), hI.had 12 _ rfl (F37.at 12 rfl), hI.had 13 _ rfl (F37.at 13 rfl), hI.had 14 _ rfl (F37.at 14 rfl), hI.had 15 _ rfl (F37.at 15 rfl), hI.had 16 _ rfl (F37.at 16 rfl), hI.had 18 _ rfl (F37.at 18 rfl), hI.had 19 _ rfl (F37.at 19 rfl), hI.had 20 _ rfl (F37.at 20 rfl), hI.had 21 _ rfl (F37.at 21 rfl), hI.had 22 _ rfl (F37.at 22 rfl), hI.had 23 _ rfl (F37.at 23 rfl), hI.had 24 _ rfl (F37.at 24 rfl), hI.had 25 _ rfl (F37.at 25 rfl), hI.had 36 _ rfl (F37.at 36 rfl), hI.had 37 _ rfl (F37.at 37 rfl), hI.had 38 _ rfl (F37.at 38 rfl), hI.had 40 _ rfl (F37.at 40 rfl), hI.had 41 _ rfl (F37.at 41 rfl), hI.had 42 _ rfl (F37.at 42 rfl), hI.had 43 _ rfl (F37.at 43 rfl), hI.had 44 _ rfl (F37.at 44 rfl), hI.had 54 _ rfl (F37.at 54 rfl), hI.val 0 _ 55 _ rfl rfl rfl rfl, hI.val 1 _ 56 _ rfl rfl rfl rfl, trivial⟩
            clear hI
            clear F37 M15 M16
            refine nx ?_
            refine wp_ret ?_
            exact retD1 F38 (entersF Tryd.func81 (by kernel_rfl) rfl _) (opened1_any g2 g3 U k4 .returning w _ _ M17) fun w9 M9 => ⟨_, results_CC F38 rfl rfl rfl (M9.at 0 rfl) (M9.at 1 rfl) (by kernel_rfl) (by kernel_rfl), by first | rw [hs, if_neg (by omega)] | rw [hs, if_pos c4, c4], M9.below⟩
        · have hs := hsx
          rw [if_neg (by simp [c1]), if_neg (by simp [c2]), if_neg (by simp [c3]), if_neg (by simp [c4]), if_pos c5] at hs
          obtain ⟨KL, hKL⟩ : ∃ KL, KL = [kval (.int .i64 k4), kval (.bool true), kval (.bool true), kval (.agg #[v]), kval (.string ⟨U.toArray⟩), kval (.string ⟨N.toArray⟩), kval (.pointer (some ⟨g1, 0, none⟩)), kval (.string ⟨nm.toArray⟩), kval (.bool true), kval (.bool true)] := ⟨_, rfl⟩
          have K0 := getK hKL 0
          have K1 := getK hKL 1
          have K2 := getK hKL 2
          have K3 := getK hKL 3
          have K4 := getK hKL 4
          have K5 := getK hKL 5
          have K6 := getK hKL 6
          have K7 := getK hKL 7
          have K8 := getK hKL 8
          have K9 := getK hKL 9
          clear hKL
          refine wp_region_kd 57 (by kernel_rfl) (by kernel_rfl) (by kernel_rfl) F36.size KL ?_ ?_
          · refine ⟨?_, ?_, ?_, ?_, ?_, ?_, ?_, ?_, ?_, ?_, trivial⟩
            · exact asksY rfl fun a W hS hh hd => giv_run (run_ld1 rfl (eval_tmp (hh 5 _ rfl (F36.at 5 rfl))) ((M14.grow hS).at 0 rfl) (by kernel_rfl)) K0
            · exact asksY rfl fun a W hS hh hd => giv_run (run_eqi rfl (eval_tmp (hd.vl 0 45 (by kernel_rfl) K0)) rfl (beq_iff_eq.2 (by omega))) K1
            · exact asksY rfl fun a W hS hh hd => giv_run (run_mv rfl (eval_tmp (hd.vl 1 46 (by kernel_rfl) K1))) K2
            · refine asks_mk fun a W hS hh hd => ⟨wanted_of (j := 2) (s := 47) (by kernel_rfl) (hd.vl 2 47 (by kernel_rfl) K2), ?_⟩
              exact giv_run (run_ldB rfl (eval_tmp (hh 2 _ rfl (F36.at 2 rfl))) ((M14.grow hS).at 4 rfl) Tryd.underlying31 rfl szKy rfl) K3
            · refine asks_mk fun a W hS hh hd => ⟨wanted_of (j := 2) (s := 47) (by kernel_rfl) (hd.vl 2 47 (by kernel_rfl) K2), ?_⟩
              exact giv_run (run_ld1 rfl (eval_tmp (hh 4 _ rfl (F36.at 4 rfl))) ((M14.grow hS).at 2 rfl) (by kernel_rfl)) K4
            · refine asks_mk fun a W hS hh hd => ⟨wanted_of (j := 2) (s := 47) (by kernel_rfl) (hd.vl 2 47 (by kernel_rfl) K2), ?_⟩
              exact giv_call (run_call rfl Tryd.func16 (by kernel_rfl) rfl (mapE2 (eval_tmp (hd.vl 3 48 (by kernel_rfl) K3)) (eval_tmp (hd.vl 4 49 (by kernel_rfl) K4)))) ((by rw [← hN]; exact cname_any K v U W (HG.below (M14.grow hS).below) (hV.below (M14.grow hS).below) h32 (by omega))) K5
            · refine asks_mk fun a W hS hh hd => ⟨wanted_of (j := 2) (s := 47) (by kernel_rfl) (hd.vl 2 47 (by kernel_rfl) K2), ?_⟩
              exact giv_run (run_fldA (m := 1) (s := 0) rfl (eval_tmp (hh 3 _ rfl (F36.at 3 rfl))) Tryd.underlying36 rfl rfl (by kernel_rfl) (by decide)) K6
            · refine asks_mk fun a W hS hh hd => ⟨wanted_of (j := 2) (s := 47) (by kernel_rfl) (hd.vl 2 47 (by kernel_rfl) K2), ?_⟩
              exact giv_run (run_ldF rfl (eval_tmp (hd.vl 6 51 (by kernel_rfl) K6)) ((M14.grow hS).at 3 rfl) rfl (by kernel_rfl)) K7
            · refine asks_mk fun a W hS hh hd => ⟨wanted_of (j := 2) (s := 47) (by kernel_rfl) (hd.vl 2 47 (by kernel_rfl) K2), ?_⟩
              exact giv_run (run_nes rfl (eval_tmp (hd.vl 5 50 (by kernel_rfl) K5)) (eval_tmp (hd.vl 7 52 (by kernel_rfl) K7)) (by simp [c5])) K8
            · exact asksY rfl fun a W hS hh hd => giv_run (run_pick rfl (eval_tmp (hd.vl 2 47 (by kernel_rfl) K2)) (eval_tmp (hd.vl 8 53 (by kernel_rfl) K8)) rfl) K9
          · intro a37 w15 hb15 hK
            have e0 := hK.vl 0 45 (by kernel_rfl) K0
            have e1 := hK.vl 1 46 (by kernel_rfl) K1
            have e2 := hK.vl 2 47 (by kernel_rfl) K2
            have e3 := hK.vl 3 48 (by kernel_rfl) K3
            have e4 := hK.vl 4 49 (by kernel_rfl) K4
            have e5 := hK.vl 5 50 (by kernel_rfl) K5
            have e6 := hK.vl 6 51 (by kernel_rfl) K6
            have e7 := hK.vl 7 52 (by kernel_rfl) K7
            have e8 := hK.vl 8 53 (by kernel_rfl) K8
            have e9 := hK.vl 9 54 (by kernel_rfl) K9
            have F37 : FrD [lateF 81 #[.pointer (some ⟨g3, 0, none⟩), .pointer (some ⟨g2, 0, none⟩)]] a37 57 [(0, (.agg #[v])), (1, (.agg #[.string ⟨nm.toArray⟩, .string ⟨x.toArray⟩])), (2, (.pointer (some ⟨g0, 0, none⟩))), (3, (.pointer (some ⟨g1, 0, none⟩))), (4, (.pointer (some ⟨g2, 0, none⟩))), (5, (.pointer (some ⟨g3, 0, none⟩))), (6, (.int .i64 (k0 : Int))), (7, (.pointer (some ⟨g4, 0, none⟩))), (8, (.string ⟨P.toArray⟩)), (9, (.func (.func 81) #[] #[(.pointer (some ⟨g3, 0, none⟩)), (.pointer (some ⟨g2, 0, none⟩))])), (10, (.tuple #[(.int .i64 (k0 : Int)), (.int .i64 k1)])), (11, (.agg #[.string ⟨nm.toArray⟩, .string ⟨x.toArray⟩])), (12, (.tuple #[(.int .i64 (k0 : Int)), (.int .i64 k1)])), (13, (.int .i64 (k0 : Int))), (14, (.int .i64 k1)), (15, (.int .i64 k1)), (16, (.bool false)), (18, (.tuple #[(.agg (cells8 BK)), (.int .i64 k2)])), (19, (.agg #[v])), (20, (.int .i64 (k0 : Int))), (21, (.tuple #[(.agg (cells8 BK)), (.int .i64 k2)])), (22, (.agg (cells8 BK))), (23, (.int .i64 k2)), (24, (.int .i64 k2)), (25, (.bool false)), (36, (.int .i64 k3)), (37, (.int .i64 k3)), (38, (.bool false)), (40, (.tuple #[(.string ⟨U.toArray⟩), (.int .i64 k4)])), (41, (.string ⟨P.toArray⟩)), (42, (.tuple #[(.string ⟨U.toArray⟩), (.int .i64 k4)])), (43, (.string ⟨U.toArray⟩)), (44, (.int .i64 k4)), (54, (.bool true))] := (hK.fr F36 [_, _, _, _, _, _, _, _, _, _] ⟨e0, e1, e2, e3, e4, e5, e6, e7, e8, e9, trivial⟩).sub ⟨rfl, rfl, rfl, rfl, rfl, rfl, rfl, rfl, rfl, rfl, rfl, rfl, rfl, rfl, rfl, rfl, rfl, rfl, rfl, rfl, rfl, rfl, rfl, rfl, rfl, rfl, rfl, rfl, rfl, rfl, rfl, rfl, rfl, rfl, trivial⟩
            have M15 := M14.grow hb15
            clear hK K0 e0 K1 e1 K2 e2 K3 e3 K4 e4 K5 e5 K6 e6 K7 e7 K8 e8 K9 e9
            clear F36 M14
            refine nx ?_
            refine wp_cond_true (F37.ev 54 rfl) ?_
            refine wp_region_lit ?_
            refine sqStoreV (i := 0) (cs := #[.int .i64 5]) F37 M15 rfl rfl rfl (F37.ev 5 rfl) rfl rfl rfl szErr rfl rfl (arr_one rfl) fun a38 w16 hgr16 F38 M16 => ?_
            refine sn ?_
            clear F37 M15
            refine wp_seq ?_
            refine wp_region_put 57 [some (.string ⟨U.toArray⟩), some (.int .i64 5), none, none] [⟨2, g2, 9, #[.string ⟨U.toArray⟩], #[.string ⟨U.toArray⟩]⟩, ⟨3, g3, 37, #[.int .i64 5], #[.int .i64 5]⟩] (by kernel_rfl) (by kernel_rfl) F38.size (M16.sub (.cons _ (.cons_cons _ (.cons _ (.cons_cons _ (.cons_cons _ .slnil)))))) ?_ ?_ ?_ ?_ fun a39 w17 hI => ?_
            · intro b hb
              simp only [List.mem_cons, List.not_mem_nil, or_false] at hb
              rcases hb with rfl | rfl
              · exact ⟨M16.at 2 rfl, M16.ge 2 rfl, (fun y hy => by simp only [List.mem_cons, List.not_mem_nil, or_false] at hy; rcases hy with rfl | rfl | rfl <;> first | exact setAt_ne M16.nd (i := 1) (j := 2) rfl rfl (by decide) | exact setAt_ne M16.nd (i := 3) (j := 2) rfl rfl (by decide) | exact setAt_ne M16.nd (i := 4) (j := 2) rfl rfl (by decide))⟩
              · exact ⟨M16.at 0 rfl, M16.ge 0 rfl, (fun y hy => by simp only [List.mem_cons, List.not_mem_nil, or_false] at hy; rcases hy with rfl | rfl | rfl <;> first | exact setAt_ne M16.nd (i := 1) (j := 0) rfl rfl (by decide) | exact setAt_ne M16.nd (i := 3) (j := 0) rfl rfl (by decide) | exact setAt_ne M16.nd (i := 4) (j := 0) rfl rfl (by decide))⟩
            · intro b hb e he hne
              simp only [List.mem_cons, List.not_mem_nil, or_false] at hb he
              rcases hb with rfl | rfl <;> rcases he with rfl | rfl <;> first | exact absurd rfl hne | exact setAt_ne M16.nd (i := 2) (j := 0) rfl rfl (by decide) | exact (setAt_ne M16.nd (i := 2) (j := 0) rfl rfl (by decide)).symm
            · intro b hb
              simp only [List.mem_cons, List.not_mem_nil, or_false] at hb
              rcases hb with rfl | rfl <;> exact Nat.le_of_ble_eq_true (by kernel_rfl)
            · refine ⟨?_, ?_, ?_, ?_, trivial⟩
              · refine .val 55 (.string ⟨U.toArray⟩) rfl rfl (by simp) fun a W hS hh hd hO => ⟨wanted_yes rfl, ?_⟩
                exact givn_run (run_ld1 rfl (eval_tmp (hh 4 _ rfl (F38.at 4 rfl))) (hO _ (List.mem_cons_self ..) (by kernel_rfl)) (by kernel_rfl))
              · refine .val 56 (.int .i64 5) rfl rfl (by simp) fun a W hS hh hd hO => ⟨wanted_yes rfl, ?_⟩
                exact givn_run (run_ld1 rfl (eval_tmp (hh 5 _ rfl (F38.at 5 rfl))) (hO _ (List.mem_cons_of_mem _ (List.mem_cons_self ..)) (by kernel_rfl)) (by kernel_rfl))
              · exact .put _ (List.mem_cons_self ..) rfl rfl (by simp) 1 9 _ _ (.string ⟨U.toArray⟩) rfl (fun a hh => eval_tmp (hh 4 _ rfl (F38.at 4 rfl))) (fun a hh hd => (eval_tmp (hd 0 55 _ (by kernel_rfl) rfl))) rfl rfl szStr rfl rfl (arr_one rfl)
              · exact .put _ (List.mem_cons_of_mem _ (List.mem_cons_self ..)) rfl rfl (by simp) 1 37 _ _ (.int .i64 5) rfl (fun a hh => eval_tmp (hh 5 _ rfl (F38.at 5 rfl))) (fun a hh hd => (eval_tmp (hd 1 56 _ (by kernel_rfl) rfl))) rfl rfl szErr rfl rfl (arr_one rfl)
            have M17 := hI.mem.put1 (cs := #[.int .i64 5]) (M16.ge 0 rfl) (hI.blk _ (List.mem_cons_of_mem _ (List.mem_cons_self ..))) (fun y hy => by simp only [List.mem_cons, List.not_mem_nil, or_false] at hy; rcases hy with rfl | rfl | rfl <;> first | exact setAt_ne M16.nd (i := 1) (j := 0) rfl rfl (by decide) | exact setAt_ne M16.nd (i := 3) (j := 0) rfl rfl (by decide) | exact setAt_ne M16.nd (i := 4) (j := 0) rfl rfl (by decide))
            have M18 := M17.put1 (cs := #[.string ⟨U.toArray⟩]) (M16.ge 2 rfl) (hI.blk _ (List.mem_cons_self ..)) (far_cons (setAt_ne M16.nd (i := 0) (j := 2) rfl rfl (by decide)) (fun y hy => by simp only [List.mem_cons, List.not_mem_nil, or_false] at hy; rcases hy with rfl | rfl | rfl <;> first | exact setAt_ne M16.nd (i := 1) (j := 2) rfl rfl (by decide) | exact setAt_ne M16.nd (i := 3) (j := 2) rfl rfl (by decide) | exact setAt_ne M16.nd (i := 4) (j := 2) rfl rfl (by decide)))
            have F39 : FrD [lateF 81 #[.pointer (some ⟨g3, 0, none⟩), .pointer (some ⟨g2, 0, none⟩)]] a39 57 [(0, (.agg #[v])), (1, (.agg #[.string ⟨nm.toArray⟩, .string ⟨x.toArray⟩])), (2, (.pointer (some ⟨g0, 0, none⟩))), (3, (.pointer (some ⟨g1, 0, none⟩))), (4, (.pointer (some ⟨g2, 0, none⟩))), (5, (.pointer (some ⟨g3, 0, none⟩))), (6, (.int .i64 (k0 : Int))), (7, (.pointer (some ⟨g4, 0, none⟩))), (8, (.string ⟨P.toArray⟩)), (9, (.func (.func 81) #[] #[(.pointer (some ⟨g3, 0, none⟩)), (.pointer (some ⟨g2, 0, none⟩))])), (10, (.tuple #[(.int .i64 (k0 : Int)), (.int .i64 k1)])), (11, (.agg #[.string ⟨nm.toArray⟩, .string ⟨x.toArray⟩])), (12, (.tuple #[(.int .i64 (k0 : Int)), (.int .i64 k1)])), (13, (.int .i64 (k0 : Int))), (14, (.int .i64 k1)), (15, (.int .i64 k1)), (16, (.bool false)), (18, (.tuple #[(.agg (cells8 BK)), (.int .i64 k2)])), (19, (.agg #[v])), (20, (.int .i64 (k0 : Int))), (21, (.tuple #[(.agg (cells8 BK)), (.int .i64 k2)])), (22, (.agg (cells8 BK))), (23, (.int .i64 k2)), (24, (.int .i64 k2)), (25, (.bool false)), (36, (.int .i64 k3)), (37, (.int .i64 k3)), (38, (.bool false)), (40, (.tuple #[(.string ⟨U.toArray⟩), (.int .i64 k4)])), (41, (.string ⟨P.toArray⟩)), (42, (.tuple #[(.string ⟨U.toArray⟩), (.int .i64 k4)])), (43, (.string ⟨U.toArray⟩)), (44, (.int .i64 k4)), (54, (.bool true)), (55, (.string ⟨U.toArray⟩)), (56, (.int .i64 5))] := fr_of_holds hI.size (hI.defers.trans F38.defers) ⟨hI.had 0 _ rfl (F38.at 0 rfl), hI.had 1 _ rfl (F38.at 1 rfl), hI.had 2 _ rfl (F38.at 2 rfl), hI.had 3 _ rfl (F38.at 3 rfl), hI.had 4 _ rfl (F38.at 4 rfl), hI.had 5 _ rfl (F38.at 5 rfl), hI.had 6 _ rfl (F38.at 6 rfl), hI.had 7 _ rfl (F38.at 7 rfl), hI.had 8 _ rfl (F38.at 8 rfl), hI.had 9 _ rfl (F38.at 9 rfl), hI.had 10 _ rfl (F38.at 10 rfl), hI.had 11 _ rfl (F38.at 11 rfl), hI.had 12 _ rfl (F38.at 12 rfl), hI.had 13 _ rfl (F38.at 13 rfl), hI.had 14 _ rfl (F38.at 14 rfl), hI.had 15 _ rfl (F38.at 15 rfl), hI.had 16 _ rfl (F38.at 16 rfl), hI.had 18 _ rfl (F38.at 18 rfl), hI.had 19 _ rfl (F38.at 19 rfl), hI.had 20 _ rfl (F38.at 20 rfl), hI.had 21 _ rfl (F38.at 21 rfl), hI.had 22 _ rfl (F38.at 22 rfl), hI.had 23 _ rfl (F38.at 23 rfl), hI.had 24 _ rfl (F38.at 24 rfl), hI.had 25 _ rfl (F38.at 25 rfl), hI.had 36 _ rfl (F38.at 36 rfl), hI.had 37 _ rfl (F38.at 37 rfl), hI.had 38 _ rfl (F38.at 38 rfl), hI.had 40 _ rfl (F38.at 40 rfl), hI.had 41 _ rfl (F38.at 41 rfl), hI.had 42 _ rfl (F38.at 42 rfl), hI.had 43 _ rfl (F38.at 43 rfl), hI.had 44 _ rfl (F38.at 44 rfl), hI.had 54 _ rfl (F38.at 54 rfl), hI.val 0 _ 55 _ rfl rfl rfl rfl, hI.val 1 _ 56 _ rfl rfl rfl rfl, trivial⟩
            clear hI
            clear F38 M16 M17
            refine nx ?_
            refine wp_ret ?_
            exact retD1 F39 (entersF Tryd.func81 (by kernel_rfl) rfl _) (opened1_any g2 g3 U 5 .returning w _ _ M18) fun w9 M9 => ⟨_, results_CC F39 rfl rfl rfl (M9.at 0 rfl) (M9.at 1 rfl) (by kernel_rfl) (by kernel_rfl), by first | rw [hs, if_neg (by omega)] | rw [hs, if_pos c4, c4], M9.below⟩
        · have hs := hsx
          rw [if_neg (by simp [c1]), if_neg (by simp [c2]), if_neg (by simp [c3]), if_neg (by simp [c4]), if_neg (by simp [c5])] at hs
          obtain ⟨KL, hKL⟩ : ∃ KL, KL = [kval (.int .i64 k4), kval (.bool true), kval (.bool true), kval (.agg #[v]), kval (.string ⟨U.toArray⟩), kval (.string ⟨N.toArray⟩), kval (.pointer (some ⟨g1, 0, none⟩)), kval (.string ⟨nm.toArray⟩), kval (.bool false), kval (.bool false)] := ⟨_, rfl⟩
          have K0 := getK hKL 0
          have K1 := getK hKL 1
          have K2 := getK hKL 2
          have K3 := getK hKL 3
          have K4 := getK hKL 4
          have K5 := getK hKL 5
          have K6 := getK hKL 6
          have K7 := getK hKL 7
          have K8 := getK hKL 8
          have K9 := getK hKL 9
          clear hKL
          refine wp_region_kd 57 (by kernel_rfl) (by kernel_rfl) (by kernel_rfl) F36.size KL ?_ ?_
          · refine ⟨?_, ?_, ?_, ?_, ?_, ?_, ?_, ?_, ?_, ?_, trivial⟩
            · exact asksY rfl fun a W hS hh hd => giv_run (run_ld1 rfl (eval_tmp (hh 5 _ rfl (F36.at 5 rfl))) ((M14.grow hS).at 0 rfl) (by kernel_rfl)) K0
            · exact asksY rfl fun a W hS hh hd => giv_run (run_eqi rfl (eval_tmp (hd.vl 0 45 (by kernel_rfl) K0)) rfl (beq_iff_eq.2 (by omega))) K1
            · exact asksY rfl fun a W hS hh hd => giv_run (run_mv rfl (eval_tmp (hd.vl 1 46 (by kernel_rfl) K1))) K2
            · refine asks_mk fun a W hS hh hd => ⟨wanted_of (j := 2) (s := 47) (by kernel_rfl) (hd.vl 2 47 (by kernel_rfl) K2), ?_⟩
              exact giv_run (run_ldB rfl (eval_tmp (hh 2 _ rfl (F36.at 2 rfl))) ((M14.grow hS).at 4 rfl) Tryd.underlying31 rfl szKy rfl) K3
            · refine asks_mk fun a W hS hh hd => ⟨wanted_of (j := 2) (s := 47) (by kernel_rfl) (hd.vl 2 47 (by kernel_rfl) K2), ?_⟩
              exact giv_run (run_ld1 rfl (eval_tmp (hh 4 _ rfl (F36.at 4 rfl))) ((M14.grow hS).at 2 rfl) (by kernel_rfl)) K4
            · refine asks_mk fun a W hS hh hd => ⟨wanted_of (j := 2) (s := 47) (by kernel_rfl) (hd.vl 2 47 (by kernel_rfl) K2), ?_⟩
              exact giv_call (run_call rfl Tryd.func16 (by kernel_rfl) rfl (mapE2 (eval_tmp (hd.vl 3 48 (by kernel_rfl) K3)) (eval_tmp (hd.vl 4 49 (by kernel_rfl) K4)))) ((by rw [← hN]; exact cname_any K v U W (HG.below (M14.grow hS).below) (hV.below (M14.grow hS).below) h32 (by omega))) K5
            · refine asks_mk fun a W hS hh hd => ⟨wanted_of (j := 2) (s := 47) (by kernel_rfl) (hd.vl 2 47 (by kernel_rfl) K2), ?_⟩
              exact giv_run (run_fldA (m := 1) (s := 0) rfl (eval_tmp (hh 3 _ rfl (F36.at 3 rfl))) Tryd.underlying36 rfl rfl (by kernel_rfl) (by decide)) K6
            · refine asks_mk fun a W hS hh hd => ⟨wanted_of (j := 2) (s := 47) (by kernel_rfl) (hd.vl 2 47 (by kernel_rfl) K2), ?_⟩
              exact giv_run (run_ldF rfl (eval_tmp (hd.vl 6 51 (by kernel_rfl) K6)) ((M14.grow hS).at 3 rfl) rfl (by kernel_rfl)) K7
            · refine asks_mk fun a W hS hh hd => ⟨wanted_of (j := 2) (s := 47) (by kernel_rfl) (hd.vl 2 47 (by kernel_rfl) K2), ?_⟩
              exact giv_run (run_nes rfl (eval_tmp (hd.vl 5 50 (by kernel_rfl) K5)) (eval_tmp (hd.vl 7 52 (by kernel_rfl) K7)) (by simp [c5])) K8
            · exact asksY rfl fun a W hS hh hd => giv_run (run_pick rfl (eval_tmp (hd.vl 2 47 (by kernel_rfl) K2)) (eval_tmp (hd.vl 8 53 (by kernel_rfl) K8)) rfl) K9
          · intro a37 w15 hb15 hK
            have e0 := hK.vl 0 45 (by kernel_rfl) K0
            have e1 := hK.vl 1 46 (by kernel_rfl) K1
            have e2 := hK.vl 2 47 (by kernel_rfl) K2
            have e3 := hK.vl 3 48 (by kernel_rfl) K3
            have e4 := hK.vl 4 49 (by kernel_rfl) K4
            have e5 := hK.vl 5 50 (by kernel_rfl) K5
            have e6 := hK.vl 6 51 (by kernel_rfl) K6
            have e7 := hK.vl 7 52 (by kernel_rfl) K7
            have e8 := hK.vl 8 53 (by kernel_rfl) K8
            have e9 := hK.vl 9 54 (by kernel_rfl) K9
            have F37 : FrD [lateF 81 #[.pointer (some ⟨g3, 0, none⟩), .pointer (some ⟨g2, 0, none⟩)]] a37 57 [(0, (.agg #[v])), (1, (.agg #[.string ⟨nm.toArray⟩, .string ⟨x.toArray⟩])), (2, (.pointer (some ⟨g0, 0, none⟩))), (3, (.pointer (some ⟨g1, 0, none⟩))), (4, (.pointer (some ⟨g2, 0, none⟩))), (5, (.pointer (some ⟨g3, 0, none⟩))), (6, (.int .i64 (k0 : Int))), (7, (.pointer (some ⟨g4, 0, none⟩))), (8, (.string ⟨P.toArray⟩)), (9, (.func (.func 81) #[] #[(.pointer (some ⟨g3, 0, none⟩)), (.pointer (some ⟨g2, 0, none⟩))])), (10, (.tuple #[(.int .i64 (k0 : Int)), (.int .i64 k1)])), (11, (.agg #[.string ⟨nm.toArray⟩, .string ⟨x.toArray⟩])), (12, (.tuple #[(.int .i64 (k0 : Int)), (.int .i64 k1)])), (13, (.int .i64 (k0 : Int))), (14, (.int .i64 k1)), (15, (.int .i64 k1)), (16, (.bool false)), (18, (.tuple #[(.agg (cells8 BK)), (.int .i64 k2)])), (19, (.agg #[v])), (20, (.int .i64 (k0 : Int))), (21, (.tuple #[(.agg (cells8 BK)), (.int .i64 k2)])), (22, (.agg (cells8 BK))), (23, (.int .i64 k2)), (24, (.int .i64 k2)), (25, (.bool false)), (36, (.int .i64 k3)), (37, (.int .i64 k3)), (38, (.bool false)), (40, (.tuple #[(.string ⟨U.toArray⟩), (.int .i64 k4)])), (41, (.string ⟨P.toArray⟩)), (42, (.tuple #[(.string ⟨U.toArray⟩), (.int .i64 k4)])), (43, (.string ⟨U.toArray⟩)), (44, (.int .i64 k4)), (54, (.bool false))] := (hK.fr F36 [_, _, _, _, _, _, _, _, _, _] ⟨e0, e1, e2, e3, e4, e5, e6, e7, e8, e9, trivial⟩).sub ⟨rfl, rfl, rfl, rfl, rfl, rfl, rfl, rfl, rfl, rfl, rfl, rfl, rfl, rfl, rfl, rfl, rfl, rfl, rfl, rfl, rfl, rfl, rfl, rfl, rfl, rfl, rfl, rfl, rfl, rfl, rfl, rfl, rfl, rfl, trivial⟩
            have M15 := M14.grow hb15
            clear hK K0 e0 K1 e1 K2 e2 K3 e3 K4 e4 K5 e5 K6 e6 K7 e7 K8 e8 K9 e9
            clear F36 M14
            refine nx ?_
            refine cfs (F37.ev 54 rfl) ?_
            refine wp_seq ?_
            refine wp_region_put 57 [some (.string ⟨U.toArray⟩), some (.int .i64 k4), none, none] [⟨2, g2, 9, #[.string ⟨U.toArray⟩], #[.string ⟨U.toArray⟩]⟩, ⟨3, g3, 37, #[.int .i64 k4], #[.int .i64 k4]⟩] (by kernel_rfl) (by kernel_rfl) F37.size (M15.sub (.cons _ (.cons_cons _ (.cons _ (.cons_cons _ (.cons_cons _ .slnil)))))) ?_ ?_ ?_ ?_ fun a38 w16 hI => ?_
            · intro b hb
              simp only [List.mem_cons, List.not_mem_nil, or_false] at hb
              rcases hb with rfl | rfl
              · exact ⟨M15.at 2 rfl, M15.ge 2 rfl, (fun y hy => by simp only [List.mem_cons, List.not_mem_nil, or_false] at hy; rcases hy with rfl | rfl | rfl <;> first | exact setAt_ne M15.nd (i := 1) (j := 2) rfl rfl (by decide) | exact setAt_ne M15.nd (i := 3) (j := 2) rfl rfl (by decide) | exact setAt_ne M15.nd (i := 4) (j := 2) rfl rfl (by decide))⟩
              · exact ⟨M15.at 0 rfl, M15.ge 0 rfl, (fun y hy => by simp only [List.mem_cons, List.not_mem_nil, or_false] at hy; rcases hy with rfl | rfl | rfl <;> first | exact setAt_ne M15.nd (i := 1) (j := 0) rfl rfl (by decide) | exact setAt_ne M15.nd (i := 3) (j := 0) rfl rfl (by decide) | exact setAt_ne M15.nd (i := 4) (j := 0) rfl rfl (by decide))⟩
            · intro b hb e he hne
              simp only [List.mem_cons, List.not_mem_nil, or_false] at hb he
              rcases hb with rfl | rfl <;> rcases he with rfl | rfl <;> first | exact absurd rfl hne | exact setAt_ne M15.nd (i := 2) (j := 0) rfl rfl (by decide) | exact (setAt_ne M15.nd (i := 2) (j := 0) rfl rfl (by decide)).symm
            · intro b hb
              simp only [List.mem_cons, List.not_mem_nil, or_false] at hb
              rcases hb with rfl | rfl <;> exact Nat.le_of_ble_eq_true (by kernel_rfl)
            · refine ⟨?_, ?_, ?_, ?_, trivial⟩
              · refine .val 55 (.string ⟨U.toArray⟩) rfl rfl (by simp) fun a W hS hh hd hO => ⟨wanted_yes rfl, ?_⟩
                exact givn_run (run_ld1 rfl (eval_tmp (hh 4 _ rfl (F37.at 4 rfl))) (hO _ (List.mem_cons_self ..) (by kernel_rfl)) (by kernel_rfl))
              · refine .val 56 (.int .i64 k4) rfl rfl (by simp) fun a W hS hh hd hO => ⟨wanted_yes rfl, ?_⟩
                exact givn_run (run_ld1 rfl (eval_tmp (hh 5 _ rfl (F37.at 5 rfl))) (hO _ (List.mem_cons_of_mem _ (List.mem_cons_self ..)) (by kernel_rfl)) (by kernel_rfl))
              · exact .put _ (List.mem_cons_self ..) rfl rfl (by simp) 1 9 _ _ (.string ⟨U.toArray⟩) rfl (fun a hh => eval_tmp (hh 4 _ rfl (F37.at 4 rfl))) (fun a hh hd => (eval_tmp (hd 0 55 _ (by kernel_rfl) rfl))) rfl rfl szStr rfl rfl (arr_one rfl)
              · exact .put _ (List.mem_cons_of_mem _ (List.mem_cons_self ..)) rfl rfl (by simp) 1 37 _ _ (.int .i64 k4) rfl (fun a hh => eval_tmp (hh 5 _ rfl (F37.at 5 rfl))) (fun a hh hd => (eval_tmp (hd 1 56 _ (by kernel_rfl) rfl))) rfl rfl szErr rfl rfl (arr_one rfl)
            have M16 := hI.mem.put1 (cs := #[.int .i64 k4]) (M15.ge 0 rfl) (hI.blk _ (List.mem_cons_of_mem _ (List.mem_cons_self ..))) (fun y hy => by simp only [List.mem_cons, List.not_mem_nil, or_false] at hy; rcases hy with rfl | rfl | rfl <;> first | exact setAt_ne M15.nd (i := 1) (j := 0) rfl rfl (by decide) | exact setAt_ne M15.nd (i := 3) (j := 0) rfl rfl (by decide) | exact setAt_ne M15.nd (i := 4) (j := 0) rfl rfl (by decide))
            have M17 := M16.put1 (cs := #[.string ⟨U.toArray⟩]) (M15.ge 2 rfl) (hI.blk _ (List.mem_cons_self ..)) (far_cons (setAt_ne M15.nd (i := 0) (j := 2) rfl rfl (by decide)) (fun y hy => by simp only [List.mem_cons, List.not_mem_nil, or_false] at hy; rcases hy with rfl | rfl | rfl <;> first | exact setAt_ne M15.nd (i := 1) (j := 2) rfl rfl (by decide) | exact setAt_ne M15.nd (i := 3) (j := 2) rfl rfl (by decide) | exact setAt_ne M15.nd (i := 4) (j := 2) rfl rfl (by decide)))
            have F38 : FrD [lateF 81 #[.pointer (some ⟨g3, 0, none⟩), .pointer (some ⟨g2, 0, none⟩)]] a38 57 [(0, (.agg #[v])), (1, (.agg #[.string ⟨nm.toArray⟩, .string ⟨x.toArray⟩])), (2, (.pointer (some ⟨g0, 0, none⟩))), (3, (.pointer (some ⟨g1, 0, none⟩))), (4, (.pointer (some ⟨g2, 0, none⟩))), (5, (.pointer (some ⟨g3, 0, none⟩))), (6, (.int .i64 (k0 : Int))), (7, (.pointer (some ⟨g4, 0, none⟩))), (8, (.string ⟨P.toArray⟩)), (9, (.func (.func 81) #[] #[(.pointer (some ⟨g3, 0, none⟩)), (.pointer (some ⟨g2, 0, none⟩))])), (10, (.tuple #[(.int .i64 (k0 : Int)), (.int .i64 k1)])), (11, (.agg #[.string ⟨nm.toArray⟩, .string ⟨x.toArray⟩])), (12, (.tuple #[(.int .i64 (k0 : Int)), (.int .i64 k1)])), (13, (.int .i64 (k0 : Int))), (14, (.int .i64 k1)), (15, (.int .i64 k1)), (16, (.bool false)), (18, (.tuple #[(.agg (cells8 BK)), (.int .i64 k2)])), (19, (.agg #[v])), (20, (.int .i64 (k0 : Int))), (21, (.tuple #[(.agg (cells8 BK)), (.int .i64 k2)])), (22, (.agg (cells8 BK))), (23, (.int .i64 k2)), (24, (.int .i64 k2)), (25, (.bool false)), (36, (.int .i64 k3)), (37, (.int .i64 k3)), (38, (.bool false)), (40, (.tuple #[(.string ⟨U.toArray⟩), (.int .i64 k4)])), (41, (.string ⟨P.toArray⟩)), (42, (.tuple #[(.string ⟨U.toArray⟩), (.int .i64 k4)])), (43, (.string ⟨U.toArray⟩)), (44, (.int .i64 k4)), (54, (.bool false)), (55, (.string ⟨U.toArray⟩)), (56, (.int .i64 k4))] := fr_of_holds hI.size (hI.defers.trans F37.defers) ⟨hI.had 0 _ rfl (F37.at 0 rfl), hI.had 1 _ rfl (F37.at 1 rfl), hI.had 2 _ rfl (F37.at 2 rfl), hI.had 3 _ rfl (F37.at 3 rfl), hI.had 4 _ rfl (F37.at 4 rfl), hI.had 5 _ rfl (F37.at 5 rfl), hI.had 6 _ rfl (F37.at 6 rfl), hI.had 7 _ rfl (F37.at 7 rfl), hI.had 8 _ rfl (F37.at 8 rfl), hI.had 9 _ rfl (F37.at 9 rfl), hI.had 10 _ rfl (F37.at 10 rfl), hI.had 11 _ rfl (F37.at 11 rfl), hI.had 12 _ rfl (F37.at 12 rfl), hI.had 13 _ rfl (F37.at 13 rfl), hI.had 14 _ rfl (F37.at 14 rfl), hI.had 15 _ rfl (F37.at 15 rfl), hI.had 16 _ rfl (F37.at 16 rfl), hI.had 18 _ rfl (F37.at 18 rfl), hI.had 19 _ rfl (F37.at 19 rfl), hI.had 20 _ rfl (F37.at 20 rfl), hI.had 21 _ rfl (F37.at 21 rfl), hI.had 22 _ rfl (F37.at 22 rfl), hI.had 23 _ rfl (F37.at 23 rfl), hI.had 24 _ rfl (F37.at 24 rfl), hI.had 25 _ rfl (F37.at 25 rfl), hI.had 36 _ rfl (F37.at 36 rfl), hI.had 37 _ rfl (F37.at 37 rfl), hI.had 38 _ rfl (F37.at 38 rfl), hI.had 40 _ rfl (F37.at 40 rfl), hI.had 41 _ rfl (F37.at 41 rfl), hI.had 42 _ rfl (F37.at 42 rfl), hI.had 43 _ rfl (F37.at 43 rfl), hI.had 44 _ rfl (F37.at 44 rfl), hI.had 54 _ rfl (F37.at 54 rfl), hI.val 0 _ 55 _ rfl rfl rfl rfl, hI.val 1 _ 56 _ rfl rfl rfl rfl, trivial⟩
            clear hI
            clear F37 M15 M16
            refine nx ?_
            refine wp_ret ?_
            exact retD1 F38 (entersF Tryd.func81 (by kernel_rfl) rfl _) (opened1_any g2 g3 U k4 .returning w _ _ M17) fun w9 M9 => ⟨_, results_CC F38 rfl rfl rfl (M9.at 0 rfl) (M9.at 1 rfl) (by kernel_rfl) (by kernel_rfl), by first | rw [hs, if_neg (by omega)] | rw [hs, if_pos c4, c4], M9.below⟩
      · have hs := hsx
        rw [if_neg (by simp [c1]), if_neg (by simp [c2]), if_pos c3] at hs
        refine wp_region_lit ?_
        refine sr F27 (run_ld1 rfl (F27.ev 5 rfl) (M11.at 0 rfl) (by kernel_rfl)) rfl rfl rfl fun a28 F28 => ?_
        refine sr (v := (.bool true)) F28 (run_nei rfl (F28.ev 37 rfl) rfl (bne_iff_ne.2 (by omega))) rfl rfl rfl fun a29 F29 => ?_
        refine sn ?_
        clear F27 F28
        refine wp_cond_true (F29.ev 38 rfl) ?_
        refine wp_seq ?_
        refine wp_region_put 57 [some (.int .i64 k3), none, none] [⟨1, g2, 9, #[.string ⟨List.toArray []⟩], #[.string ⟨List.toArray []⟩]⟩, ⟨2, g3, 37, #[.int .i64 k3], #[.int .i64 k3]⟩] (by kernel_rfl) (by kernel_rfl) F29.size (M11.sub (.cons _ (.cons_cons _ (.cons _ (.cons_cons _ (.cons_cons _ .slnil)))))) ?_ ?_ ?_ ?_ fun a30 w12 hI => ?_
        · intro b hb
          simp only [List.mem_cons, List.not_mem_nil, or_false] at hb
          rcases hb with rfl | rfl
          · exact ⟨M11.at 2 rfl, M11.ge 2 rfl, (fun y hy => by simp only [List.mem_cons, List.not_mem_nil, or_false] at hy; rcases hy with rfl | rfl | rfl <;> first | exact setAt_ne M11.nd (i := 1) (j := 2) rfl rfl (by decide) | exact setAt_ne M11.nd (i := 3) (j := 2) rfl rfl (by decide) | exact setAt_ne M11.nd (i := 4) (j := 2) rfl rfl (by decide))⟩
          · exact ⟨M11.at 0 rfl, M11.ge 0 rfl, (fun y hy => by simp only [List.mem_cons, List.not_mem_nil, or_false] at hy; rcases hy with rfl | rfl | rfl <;> first | exact setAt_ne M11.nd (i := 1) (j := 0) rfl rfl (by decide) | exact setAt_ne M11.nd (i := 3) (j := 0) rfl rfl (by decide) | exact setAt_ne M11.nd (i := 4) (j := 0) rfl rfl (by decide))⟩
        · intro b hb e he hne
          simp only [List.mem_cons, List.not_mem_nil, or_false] at hb he
          rcases hb with rfl | rfl <;> rcases he with rfl | rfl <;> first | exact absurd rfl hne | exact setAt_ne M11.nd (i := 2) (j := 0) rfl rfl (by decide) | exact (setAt_ne M11.nd (i := 2) (j := 0) rfl rfl (by decide)).symm
        · intro b hb
          simp only [List.mem_cons, List.not_mem_nil, or_false] at hb
          rcases hb with rfl | rfl <;> exact Nat.le_of_ble_eq_true (by kernel_rfl)
        · refine ⟨?_, ?_, ?_, trivial⟩
          · refine .val 39 (.int .i64 k3) rfl rfl (by simp) fun a W hS hh hd hO => ⟨wanted_yes rfl, ?_⟩
            exact givn_run (run_ld1 rfl (eval_tmp (hh 5 _ rfl (F29.at 5 rfl))) (hO _ (List.mem_cons_of_mem _ (List.mem_cons_self ..)) (by kernel_rfl)) (by kernel_rfl))
          · exact .put _ (List.mem_cons_self ..) rfl rfl (by simp) 1 9 _ _ (.string ⟨List.toArray []⟩) rfl (fun a hh => eval_tmp (hh 4 _ rfl (F29.at 4 rfl))) (fun a hh hd => rfl) rfl rfl szStr rfl rfl (arr_one rfl)
          · exact .put _ (List.mem_cons_of_mem _ (List.mem_cons_self ..)) rfl rfl (by simp) 1 37 _ _ (.int .i64 k3) rfl (fun a hh => eval_tmp (hh 5 _ rfl (F29.at 5 rfl))) (fun a hh hd => (eval_tmp (hd 0 39 _ (by kernel_rfl) rfl))) rfl rfl szErr rfl rfl (arr_one rfl)
        have M12 := hI.mem.put1 (cs := #[.int .i64 k3]) (M11.ge 0 rfl) (hI.blk _ (List.mem_cons_of_mem _ (List.mem_cons_self ..))) (fun y hy => by simp only [List.mem_cons, List.not_mem_nil, or_false] at hy; rcases hy with rfl | rfl | rfl <;> first | exact setAt_ne M11.nd (i := 1) (j := 0) rfl rfl (by decide) | exact setAt_ne M11.nd (i := 3) (j := 0) rfl rfl (by decide) | exact setAt_ne M11.nd (i := 4) (j := 0) rfl rfl (by decide))
        have M13 := M12.put1 (cs := #[.string ⟨List.toArray []⟩]) (M11.ge 2 rfl) (hI.blk _ (List.mem_cons_self ..)) (far_cons (setAt_ne M11.nd (i := 0) (j := 2) rfl rfl (by decide)) (fun y hy => by simp only [List.mem_cons, List.not_mem_nil, or_false] at hy; rcases hy with rfl | rfl | rfl <;> first | exact setAt_ne M11.nd (i := 1) (j := 2) rfl rfl (by decide) | exact setAt_ne M11.nd (i := 3) (j := 2) rfl rfl (by decide) | exact setAt_ne M11.nd (i := 4) (j := 2) rfl rfl (by decide)))
        have F30 : FrD [lateF 81 #[.pointer (some ⟨g3, 0, none⟩), .pointer (some ⟨g2, 0, none⟩)]] a30 57 [(0, (.agg #[v])), (1, (.agg #[.string ⟨nm.toArray⟩, .string ⟨x.toArray⟩])), (2, (.pointer (some ⟨g0, 0, none⟩))), (3, (.pointer (some ⟨g1, 0, none⟩))), (4, (.pointer (some ⟨g2, 0, none⟩))), (5, (.pointer (some ⟨g3, 0, none⟩))), (6, (.int .i64 (k0 : Int))), (7, (.pointer (some ⟨g4, 0, none⟩))), (8, (.string ⟨P.toArray⟩)), (9, (.func (.func 81) #[] #[(.pointer (some ⟨g3, 0, none⟩)), (.pointer (some ⟨g2, 0, none⟩))])), (10, (.tuple #[(.int .i64 (k0 : Int)), (.int .i64 k1)])), (11, (.agg #[.string ⟨nm.toArray⟩, .string ⟨x.toArray⟩])), (12, (.tuple #[(.int .i64 (k0 : Int)), (.int .i64 k1)])), (13, (.int .i64 (k0 : Int))), (14, (.int .i64 k1)), (15, (.int .i64 k1)), (16, (.bool false)), (18, (.tuple #[(.agg (cells8 BK)), (.int .i64 k2)])), (19, (.agg #[v])), (20, (.int .i64 (k0 : Int))), (21, (.tuple #[(.agg (cells8 BK)), (.int .i64 k2)])), (22, (.agg (cells8 BK))), (23, (.int .i64 k2)), (24, (.int .i64 k2)), (25, (.bool false)), (36, (.int .i64 k3)), (37, (.int .i64 k3)), (38, (.bool true)), (39, (.int .i64 k3))] := fr_of_holds hI.size (hI.defers.trans F29.defers) ⟨hI.had 0 _ rfl (F29.at 0 rfl), hI.had 1 _ rfl (F29.at 1 rfl), hI.had 2 _ rfl (F29.at 2 rfl), hI.had 3 _ rfl (F29.at 3 rfl), hI.had 4 _ rfl (F29.at 4 rfl), hI.had 5 _ rfl (F29.at 5 rfl), hI.had 6 _ rfl (F29.at 6 rfl), hI.had 7 _ rfl (F29.at 7 rfl), hI.had 8 _ rfl (F29.at 8 rfl), hI.had 9 _ rfl (F29.at 9 rfl), hI.had 10 _ rfl (F29.at 10 rfl), hI.had 11 _ rfl (F29.at 11 rfl), hI.had 12 _ rfl (F29.at 12 rfl), hI.had 13 _ rfl (F29.at 13 rfl), hI.had 14 _ rfl (F29.at 14 rfl), hI.had 15 _ rfl (F29.at 15 rfl), hI.had 16 _ rfl (F29.at 16 rfl), hI.had 18 _ rfl (F29.at 18 rfl), hI.had 19 _ rfl (F29.at 19 rfl), hI.had 20 _ rfl (F29.at 20 rfl), hI.had 21 _ rfl (F29.at 21 rfl), hI.had 22 _ rfl (F29.at 22 rfl), hI.had 23 _ rfl (F29.at 23 rfl), hI.had 24 _ rfl (F29.at 24 rfl), hI.had 25 _ rfl (F29.at 25 rfl), hI.had 36 _ rfl (F29.at 36 rfl), hI.had 37 _ rfl (F29.at 37 rfl), hI.had 38 _ rfl (F29.at 38 rfl), hI.val 0 _ 39 _ rfl rfl rfl rfl, trivial⟩
        clear hI
        clear F29 M11 M12
        refine nx ?_
        refine wp_ret ?_
        refine nxRet ?_
        exact retD1 F30 (entersF Tryd.func81 (by kernel_rfl) rfl _) (opened1_any g2 g3 [] k3 .returning w _ _ M13) fun w9 M9 => ⟨_, results_CC F30 rfl rfl rfl (M9.at 0 rfl) (M9.at 1 rfl) (by kernel_rfl) (by kernel_rfl), by first | rw [hs, if_neg (by omega)] | rw [hs, if_pos c4, c4], M9.below⟩
    · have hs := hsx
      rw [if_neg (by simp [c1]), if_pos c2] at hs
      refine wp_region_lit ?_
      refine sr F24 (run_ld1 rfl (F24.ev 5 rfl) (M10.at 1 rfl) (by kernel_rfl)) rfl rfl rfl fun a25 F25 => ?_
      refine sr (v := (.bool true)) F25 (run_nei rfl (F25.ev 24 rfl) rfl (bne_iff_ne.2 (by omega))) rfl rfl rfl fun a26 F26 => ?_
      refine sn ?_
      clear F24 F25
      refine wp_cond_true (F26.ev 25 rfl) ?_
      refine wp_seq ?_
      refine wp_region_put 57 [some (.int .i64 k2), none, none] [⟨1, g2, 9, #[.string ⟨List.toArray []⟩], #[.string ⟨List.toArray []⟩]⟩, ⟨2, g3, 37, #[.int .i64 k2], #[.int .i64 k2]⟩] (by kernel_rfl) (by kernel_rfl) F26.size (M10.sub (.cons_cons _ (.cons _ (.cons _ (.cons_cons _ (.cons_cons _ .slnil)))))) ?_ ?_ ?_ ?_ fun a27 w11 hI => ?_
      · intro b hb
        simp only [List.mem_cons, List.not_mem_nil, or_false] at hb
        rcases hb with rfl | rfl
        · exact ⟨M10.at 2 rfl, M10.ge 2 rfl, (fun y hy => by simp only [List.mem_cons, List.not_mem_nil, or_false] at hy; rcases hy with rfl | rfl | rfl <;> first | exact setAt_ne M10.nd (i := 0) (j := 2) rfl rfl (by decide) | exact setAt_ne M10.nd (i := 3) (j := 2) rfl rfl (by decide) | exact setAt_ne M10.nd (i := 4) (j := 2) rfl rfl (by decide))⟩
        · exact ⟨M10.at 1 rfl, M10.ge 1 rfl, (fun y hy => by simp only [List.mem_cons, List.not_mem_nil, or_false] at hy; rcases hy with rfl | rfl | rfl <;> first | exact setAt_ne M10.nd (i := 0) (j := 1) rfl rfl (by decide) | exact setAt_ne M10.nd (i := 3) (j := 1) rfl rfl (by decide) | exact setAt_ne M10.nd (i := 4) (j := 1) rfl rfl (by decide))⟩
      · intro b hb e he hne
        simp only [List.mem_cons, List.not_mem_nil, or_false] at hb he
        rcases hb with rfl | rfl <;> rcases he with rfl | rfl <;> first | exact absurd rfl hne | exact setAt_ne M10.nd (i := 2) (j := 1) rfl rfl (by decide) | exact (setAt_ne M10.nd (i := 2) (j := 1) rfl rfl (by decide)).symm
      · intro b hb
        simp only [List.mem_cons, List.not_mem_nil, or_false] at hb
        rcases hb with rfl | rfl <;> exact Nat.le_of_ble_eq_true (by kernel_rfl)
      · refine ⟨?_, ?_, ?_, trivial⟩
        · refine .val 26 (.int .i64 k2) rfl rfl (by simp) fun a W hS hh hd hO => ⟨wanted_yes rfl, ?_⟩
          exact givn_run (run_ld1 rfl (eval_tmp (hh 5 _ rfl (F26.at 5 rfl))) (hO _ (List.mem_cons_of_mem _ (List.mem_cons_self ..)) (by kernel_rfl)) (by kernel_rfl))
        · exact .put _ (List.mem_cons_self ..) rfl rfl (by simp) 1 9 _ _ (.string ⟨List.toArray []⟩) rfl (fun a hh => eval_tmp (hh 4 _ rfl (F26.at 4 rfl))) (fun a hh hd => rfl) rfl rfl szStr rfl rfl (arr_one rfl)
        · exact .put _ (List.mem_cons_of_mem _ (List.mem_cons_self ..)) rfl rfl (by simp) 1 37 _ _ (.int .i64 k2) rfl (fun a hh => eval_tmp (hh 5 _ rfl (F26.at 5 rfl))) (fun a hh hd => (eval_tmp (hd 0 26 _ (by kernel_rfl) rfl))) rfl rfl szErr rfl rfl (arr_one rfl)
      have M11 := hI.mem.put1 (cs := #[.int .i64 k2]) (M10.ge 1 rfl) (hI.blk _ (List.mem_cons_of_mem _ (List.mem_cons_self ..))) (fun y hy => by simp only [List.mem_cons, List.not_mem_nil, or_false] at hy; rcases hy with rfl | rfl | rfl <;> first | exact setAt_ne M10.nd (i := 0) (j := 1) rfl rfl (by decide) | exact setAt_ne M10.nd (i := 3) (j := 1) rfl rfl (by decide) | exact setAt_ne M10.nd (i := 4) (j := 1) rfl rfl (by decide))
      have M12 := M11.put1 (cs := #[.string ⟨List.toArray []⟩]) (M10.ge 2 rfl) (hI.blk _ (List.mem_cons_self ..)) (far_cons (setAt_ne M10.nd (i := 1) (j := 2) rfl rfl (by decide)) (fun y hy => by simp only [List.mem_cons, List.not_mem_nil, or_false] at hy; rcases hy with rfl | rfl | rfl <;> first | exact setAt_ne M10.nd (i := 0) (j := 2) rfl rfl (by decide) | exact setAt_ne M10.nd (i := 3) (j := 2) rfl rfl (by decide) | exact setAt_ne M10.nd (i := 4) (j := 2) rfl rfl (by decide)))
      have F27 : FrD [lateF 81 #[.pointer (some ⟨g3, 0, none⟩), .pointer (some ⟨g2, 0, none⟩)]] a27 57 [(0, (.agg #[v])), (1, (.agg #[.string ⟨nm.toArray⟩, .string ⟨x.toArray⟩])), (2, (.pointer (some ⟨g0, 0, none⟩))), (3, (.pointer (some ⟨g1, 0, none⟩))), (4, (.pointer (some ⟨g2, 0, none⟩))), (5, (.pointer (some ⟨g3, 0, none⟩))), (6, (.int .i64 (k0 : Int))), (7, (.pointer (some ⟨g4, 0, none⟩))), (9, (.func (.func 81) #[] #[(.pointer (some ⟨g3, 0, none⟩)), (.pointer (some ⟨g2, 0, none⟩))])), (10, (.tuple #[(.int .i64 (k0 : Int)), (.int .i64 k1)])), (11, (.agg #[.string ⟨nm.toArray⟩, .string ⟨x.toArray⟩])), (12, (.tuple #[(.int .i64 (k0 : Int)), (.int .i64 k1)])), (13, (.int .i64 (k0 : Int))), (14, (.int .i64 k1)), (15, (.int .i64 k1)), (16, (.bool false)), (18, (.tuple #[(.agg (cells8 BK)), (.int .i64 k2)])), (19, (.agg #[v])), (20, (.int .i64 (k0 : Int))), (21, (.tuple #[(.agg (cells8 BK)), (.int .i64 k2)])), (22, (.agg (cells8 BK))), (23, (.int .i64 k2)), (24, (.int .i64 k2)), (25, (.bool true)), (26, (.int .i64 k2))] := fr_of_holds hI.size (hI.defers.trans F26.defers) ⟨hI.had 0 _ rfl (F26.at 0 rfl), hI.had 1 _ rfl (F26.at 1 rfl), hI.had 2 _ rfl (F26.at 2 rfl), hI.had 3 _ rfl (F26.at 3 rfl), hI.had 4 _ rfl (F26.at 4 rfl), hI.had 5 _ rfl (F26.at 5 rfl), hI.had 6 _ rfl (F26.at 6 rfl), hI.had 7 _ rfl (F26.at 7 rfl), hI.had 9 _ rfl (F26.at 9 rfl), hI.had 10 _ rfl (F26.at 10 rfl), hI.had 11 _ rfl (F26.at 11 rfl), hI.had 12 _ rfl (F26.at 12 rfl), hI.had 13 _ rfl (F26.at 13 rfl), hI.had 14 _ rfl (F26.at 14 rfl), hI.had 15 _ rfl (F26.at 15 rfl), hI.had 16 _ rfl (F26.at 16 rfl), hI.had 18 _ rfl (F26.at 18 rfl), hI.had 19 _ rfl (F26.at 19 rfl), hI.had 20 _ rfl (F26.at 20 rfl), hI.had 21 _ rfl (F26.at 21 rfl), hI.had 22 _ rfl (F26.at 22 rfl), hI.had 23 _ rfl (F26.at 23 rfl), hI.had 24 _ rfl (F26.at 24 rfl), hI.had 25 _ rfl (F26.at 25 rfl), hI.val 0 _ 26 _ rfl rfl rfl rfl, trivial⟩
      clear hI
      clear F26 M10 M11
      refine nx ?_
      refine wp_ret ?_
      refine nxRet ?_
      exact retD1 F27 (entersF Tryd.func81 (by kernel_rfl) rfl _) (opened1_any g2 g3 [] k2 .returning w _ _ M12) fun w9 M9 => ⟨_, results_CC F27 rfl rfl rfl (M9.at 0 rfl) (M9.at 1 rfl) (by kernel_rfl) (by kernel_rfl), by first | rw [hs, if_neg (by omega)] | rw [hs, if_pos c4, c4], M9.below⟩
  · have hs := hsx
    rw [if_pos c1] at hs
    refine wp_region_lit ?_
    refine sr F13 (run_ld1 rfl (F13.ev 5 rfl) (M6.at 0 rfl) (by kernel_rfl)) rfl rfl rfl fun a14 F14 => ?_
    refine sr (v := (.bool true)) F14 (run_nei rfl (F14.ev 15 rfl) rfl (bne_iff_ne.2 (by omega))) rfl rfl rfl fun a15 F15 => ?_
    refine sn ?_
    clear F13 F14
    refine wp_cond_true (F15.ev 16 rfl) ?_
    refine wp_seq ?_
    refine wp_region_put 57 [some (.int .i64 k1), none, none] [⟨1, g2, 9, #[.string ⟨List.toArray []⟩], #[.string ⟨List.toArray []⟩]⟩, ⟨2, g3, 37, #[.int .i64 k1], #[.int .i64 k1]⟩] (by kernel_rfl) (by kernel_rfl) F15.size (M6.sub (.cons _ (.cons _ (.cons_cons _ (.cons_cons _ .slnil))))) ?_ ?_ ?_ ?_ fun a16 w7 hI => ?_
    · intro b hb
      simp only [List.mem_cons, List.not_mem_nil, or_false] at hb
      rcases hb with rfl | rfl
      · exact ⟨M6.at 1 rfl, M6.ge 1 rfl, (fun y hy => by simp only [List.mem_cons, List.not_mem_nil, or_false] at hy; rcases hy with rfl | rfl <;> first | exact setAt_ne M6.nd (i := 2) (j := 1) rfl rfl (by decide) | exact setAt_ne M6.nd (i := 3) (j := 1) rfl rfl (by decide))⟩
      · exact ⟨M6.at 0 rfl, M6.ge 0 rfl, (fun y hy => by simp only [List.mem_cons, List.not_mem_nil, or_false] at hy; rcases hy with rfl | rfl <;> first | exact setAt_ne M6.nd (i := 2) (j := 0) rfl rfl (by decide) | exact setAt_ne M6.nd (i := 3) (j := 0) rfl rfl (by decide))⟩
    · intro b hb e he hne
      simp only [List.mem_cons, List.not_mem_nil, or_false] at hb he
      rcases hb with rfl | rfl <;> rcases he with rfl | rfl <;> first | exact absurd rfl hne | exact setAt_ne M6.nd (i := 1) (j := 0) rfl rfl (by decide) | exact (setAt_ne M6.nd (i := 1) (j := 0) rfl rfl (by decide)).symm
    · intro b hb
      simp only [List.mem_cons, List.not_mem_nil, or_false] at hb
      rcases hb with rfl | rfl <;> exact Nat.le_of_ble_eq_true (by kernel_rfl)
    · refine ⟨?_, ?_, ?_, trivial⟩
      · refine .val 17 (.int .i64 k1) rfl rfl (by simp) fun a W hS hh hd hO => ⟨wanted_yes rfl, ?_⟩
        exact givn_run (run_ld1 rfl (eval_tmp (hh 5 _ rfl (F15.at 5 rfl))) (hO _ (List.mem_cons_of_mem _ (List.mem_cons_self ..)) (by kernel_rfl)) (by kernel_rfl))
      · exact .put _ (List.mem_cons_self ..) rfl rfl (by simp) 1 9 _ _ (.string ⟨List.toArray []⟩) rfl (fun a hh => eval_tmp (hh 4 _ rfl (F15.at 4 rfl))) (fun a hh hd => rfl) rfl rfl szStr rfl rfl (arr_one rfl)
      · exact .put _ (List.mem_cons_of_mem _ (List.mem_cons_self ..)) rfl rfl (by simp) 1 37 _ _ (.int .i64 k1) rfl (fun a hh => eval_tmp (hh 5 _ rfl (F15.at 5 rfl))) (fun a hh hd => (eval_tmp (hd 0 17 _ (by kernel_rfl) rfl))) rfl rfl szErr rfl rfl (arr_one rfl)
    have M7 := hI.mem.put1 (cs := #[.int .i64 k1]) (M6.ge 0 rfl) (hI.blk _ (List.mem_cons_of_mem _ (List.mem_cons_self ..))) (fun y hy => by simp only [List.mem_cons, List.not_mem_nil, or_false] at hy; rcases hy with rfl | rfl <;> first | exact setAt_ne M6.nd (i := 2) (j := 0) rfl rfl (by decide) | exact setAt_ne M6.nd (i := 3) (j := 0) rfl rfl (by decide))
    have M8 := M7.put1 (cs := #[.string ⟨List.toArray []⟩]) (M6.ge 1 rfl) (hI.blk _ (List.mem_cons_self ..)) (far_cons (setAt_ne M6.nd (i := 0) (j := 1) rfl rfl (by decide)) (fun y hy => by simp only [List.mem_cons, List.not_mem_nil, or_false] at hy; rcases hy with rfl | rfl <;> first | exact setAt_ne M6.nd (i := 2) (j := 1) rfl rfl (by decide) | exact setAt_ne M6.nd (i := 3) (j := 1) rfl rfl (by decide)))
    have F16 : FrD [lateF 81 #[.pointer (some ⟨g3, 0, none⟩), .pointer (some ⟨g2, 0, none⟩)]] a16 57 [(0, (.agg #[v])), (1, (.agg #[.string ⟨nm.toArray⟩, .string ⟨x.toArray⟩])), (2, (.pointer (some ⟨g0, 0, none⟩))), (3, (.pointer (some ⟨g1, 0, none⟩))), (4, (.pointer (some ⟨g2, 0, none⟩))), (5, (.pointer (some ⟨g3, 0, none⟩))), (6, (.int .i64 (k0 : Int))), (9, (.func (.func 81) #[] #[(.pointer (some ⟨g3, 0, none⟩)), (.pointer (some ⟨g2, 0, none⟩))])), (10, (.tuple #[(.int .i64 (k0 : Int)), (.int .i64 k1)])), (11, (.agg #[.string ⟨nm.toArray⟩, .string ⟨x.toArray⟩])), (12, (.tuple #[(.int .i64 (k0 : Int)), (.int .i64 k1)])), (13, (.int .i64 (k0 : Int))), (14, (.int .i64 k1)), (15, (.int .i64 k1)), (16, (.bool true)), (17, (.int .i64 k1))] := fr_of_holds hI.size (hI.defers.trans F15.defers) ⟨hI.had 0 _ rfl (F15.at 0 rfl), hI.had 1 _ rfl (F15.at 1 rfl), hI.had 2 _ rfl (F15.at 2 rfl), hI.had 3 _ rfl (F15.at 3 rfl), hI.had 4 _ rfl (F15.at 4 rfl), hI.had 5 _ rfl (F15.at 5 rfl), hI.had 6 _ rfl (F15.at 6 rfl), hI.had 9 _ rfl (F15.at 9 rfl), hI.had 10 _ rfl (F15.at 10 rfl), hI.had 11 _ rfl (F15.at 11 rfl), hI.had 12 _ rfl (F15.at 12 rfl), hI.had 13 _ rfl (F15.at 13 rfl), hI.had 14 _ rfl (F15.at 14 rfl), hI.had 15 _ rfl (F15.at 15 rfl), hI.had 16 _ rfl (F15.at 16 rfl), hI.val 0 _ 17 _ rfl rfl rfl rfl, trivial⟩
    clear hI
    clear F15 M6 M7
    refine nx ?_
    refine wp_ret ?_
    refine nxRet ?_
    exact retD1 F16 (entersF Tryd.func81 (by kernel_rfl) rfl _) (opened1_any g2 g3 [] k1 .returning w _ _ M8) fun w9 M9 => ⟨_, results_CC F16 rfl rfl rfl (M9.at 0 rfl) (M9.at 1 rfl) (by kernel_rfl) (by kernel_rfl), by first | rw [hs, if_neg (by omega)] | rw [hs, if_pos c4, c4], M9.below⟩
set_option maxRecDepth 100000 in
set_option maxHeartbeats 1000000 in
theorem copen_any (K : List (List UInt8)) (v : Value) (nm x : List UInt8) (w : World) (HG : Glob w) (hV : Sl w v 32 K.length (K.flatMap dgC)) (h32 : ∀ k ∈ K, k.length = 32) (hnm : nm.length < 2 ^ 28) (hx : x.length < 2 ^ 28) : Calls Tryd.prog 20 #[.agg #[v], .agg #[.string ⟨nm.toArray⟩, .string ⟨x.toArray⟩]] w fun e w' => e = .returned (.tuple #[.string ⟨(openC K nm x).1.toArray⟩, .int .i64 (openC K nm x).2]) ∧ Below w.heap.size w w' := by
  obtain ⟨R, hR⟩ : ∃ R, openC K nm x = R := ⟨_, rfl⟩
  rw [hR]
  refine walk_enter Tryd.func20 rfl rfl rfl fun a0 F0 => ?_
  have M0 := Mem.new w
  refine wsl ?_
  refine sqNew (cs := #[v]) (t := 31) F0 M0 (wantedS rfl) (run_box rfl (F0.ev 0 rfl)) rfl (by decide) fun g0 a1 w1 hgg0 hb1 F1 M1 => ?_
  refine sqNew (cs := #[.string ⟨nm.toArray⟩, .string ⟨x.toArray⟩]) (t := 36) F1 M1 (wantedS rfl) (run_box rfl (F1.ev 1 rfl)) rfl (by decide) fun g1 a2 w2 hgg1 hb2 F2 M2 => ?_
  refine sr (v := (.string ⟨List.toArray []⟩)) F2 (run_as rfl rfl) rfl rfl rfl fun a3 F3 => ?_
  refine sr (v := (.int .i64 0)) F3 (run_as rfl rfl) rfl rfl rfl fun a4 F4 => ?_
  refine sn ?_
  clear F0 F1 F2 F3 M0 M1
  refine wsl ?_
  refine sr F4 (run_ldB rfl (F4.ev 2 rfl) (M2.at 1 rfl) Tryd.underlying31 rfl szKy rfl) rfl rfl rfl fun a5 F5 => ?_
  refine sr F5 (run_ldB rfl (F5.ev 3 rfl) (M2.at 0 rfl) Tryd.underlying36 rfl szBox rfl) rfl rfl rfl fun a6 F6 => ?_
  refine sqC (v := (.tuple #[(.string ⟨R.1.toArray⟩), (.int .i64 R.2)])) F6 M2 (wantedS rfl) (run_call rfl Tryd.func47 (by kernel_rfl) rfl (mapE2 (F6.ev 6 rfl) (F6.ev 7 rfl))) rfl (by decide) ((by rw [← hR]; exact copened_any K v nm x w2 (HG.below M2.below) (hV.below M2.below) h32 hnm hx)) fun a7 w3 hb3 F7 M3 => ?_
  refine sr (v := (.string ⟨R.1.toArray⟩)) F7 (run_ext rfl (F7.ev 8 rfl) rfl) rfl rfl rfl fun a8 F8 => ?_
  refine sr (v := (.int .i64 R.2)) F8 (run_ext rfl (F8.ev 8 rfl) rfl) rfl rfl rfl fun a9 F9 => ?_
  refine asS F9 rfl rfl rfl rfl rfl fun a10 F10 => ?_
  refine asS F10 rfl rfl rfl rfl rfl fun a11 F11 => ?_
  refine sn ?_
  clear F4 F5 F6 F7 F8 F9 F10 M2
  refine wp_ret ?_
  exact ret2 F11 rfl rfl rfl ⟨rfl, M3.below⟩
end Go.Proofs.YtdjjiblijbjobaaDoor
