/- The walk of keys.Open. Printed by gen_key16.py. -/
import Derived.Test.YtconhhhggckcbaaDoorRngF
import Derived.Test.YtconhhhggckcbaaDoorShr3
import Derived.Test.YtconhhhggckcbaaDoorSealB
namespace Go.Proofs.YtconhhhggckcbaaDoor
open Go.RowKit

theorem szSlK : (Tryd.prog.info? 28).map (·.size) = some 1 := by kernel_rfl
attribute [local irreducible] sealS keyedS nonceS openS
set_option maxRecDepth 100000 in
set_option maxHeartbeats 1000000 in
theorem kopenB_any (E : List Ep) (l : List Sh) (v u : Value) (w : World) (HG : Glob w) (hV : Sl w v 33 E.length (E.flatMap epF)) (hE32 : ∀ e ∈ E, e.c.length = 32) (hEw : ∀ e ∈ E, e.wr.length ≤ 140737488351232) (hU : Sl w u 33 l.length (l.flatMap shareC)) (hEl : E.length < 2 ^ 36) (hll : l.length < 2 ^ 36) : Calls Tryd.prog 23 #[.agg #[v], u] w fun e w' => ∃ u, e = .returned u ∧ Kp.sat w.heap.size (.tup2 (.st (.row 23 32 ((opnS E l).1.length) ((opnS E l).1.flatMap dgC))) (.val (.int .i64 ((opnS E l).2)))) u w' ∧ Below w.heap.size w w' := by
  by_cases hE : E = []
  · have hl0 : E.length = 0 := by rw [hE]; rfl
    have hs : opnS E l = ([], 1) := by unfold opnS; rw [if_pos hE]
    refine walk_enterM Tryd.func23 rfl rfl rfl fun a0 F0 => ?_
    have M0 := Mem.new w
    refine wsl ?_
    refine sqNew (cs := #[v]) (t := 27) F0 M0 (wantedS rfl) (run_box rfl (F0.ev 0 rfl)) rfl (by decide) fun g0 a1 w1 hgg0 hb1 F1 M1 => ?_
    refine sqNew (cs := #[.slice none 0 0]) (t := 30) F1 M1 (wantedS rfl) (run_alloc rfl (by kernel_rfl)) rfl (by decide) fun g1 a2 w2 hgg1 hb2 F2 M2 => ?_
    refine sqNew (cs := #[.int .i64 0]) (t := 32) F2 M2 (wantedS rfl) (run_allocV (V := (.int .i64 0)) rfl (by kernel_rfl) rfl) rfl (by decide) fun g2 a3 w3 hgg2 hb3 F3 M3 => ?_
    refine sn ?_
    clear F0 F1 F2 M0 M1 M2
    refine wp_seq ?_
    refine wsl ?_
    refine sr F3 (run_fldA (m := 1) (s := 0) rfl (F3.ev 2 rfl) Tryd.underlying27 rfl rfl (by kernel_rfl) (by decide)) rfl rfl rfl fun a4 F4 => ?_
    refine sr (v := v) F4 (run_ldF rfl (F4.ev 13 rfl) (M3.at 2 rfl) rfl (by kernel_rfl)) rfl rfl rfl fun a5 F5 => ?_
    refine sr F5 (run_lenS rfl (F5.ev 14 rfl) (hV.below M3.below) rfl Tryd.underlying25) rfl rfl rfl fun a6 F6 => ?_
    refine sr (v := (.bool true)) F6 (run_eqi rfl (F6.ev 15 rfl) rfl (beq_iff_eq.2 (by omega))) rfl rfl rfl fun a7 F7 => ?_
    refine sn ?_
    clear F3 F4 F5 F6
    refine wp_cond_true (F7.ev 16 rfl) ?_
    refine wsl ?_
    refine sr (v := (.agg #[.slice none 0 0])) F7 (run_blt (vs := #[]) (cs := #[.slice none 0 0]) rfl (by simp) (by kernel_rfl)) rfl rfl rfl fun a8 F8 => ?_
    refine sqStore (i := 1) F8 M3 rfl rfl rfl (F8.ev 4 rfl) (F8.ev 17 rfl) rfl szKy rfl rfl (arr_one rfl) fun a9 w4 F9 M4 => ?_
    refine sqStoreV (i := 0) (cs := #[.int .i64 1]) F9 M4 rfl rfl rfl (F9.ev 5 rfl) rfl rfl rfl szErr rfl rfl (arr_one rfl) fun a10 w5 hgr5 F10 M5 => ?_
    refine sn ?_
    clear F7 F8 F9 M3 M4
    refine wp_ret ?_
    refine nxRet ?_
    exact retVM F10 (results_LL F10 rfl rfl rfl (loadVar_all (M5.at 1 rfl) Tryd.underlying30 rfl szKy rfl) (loadVar_one (M5.at 0 rfl) (by kernel_rfl)) ) ⟨_, rfl, by rw [hs]; exact ⟨_, _, rfl, ⟨_, rfl, ⟨rfl, .inl ⟨rfl, rfl⟩⟩⟩, rfl⟩, M5.below⟩
  have hE0 : 0 < E.length := List.length_pos_iff.2 hE
  cases hJ : joinT l with
  | none =>
    have hs : opnS E l = ([], 1) := by unfold opnS; rw [if_neg hE, hJ]
    refine walk_enterM Tryd.func23 rfl rfl rfl fun a0 F0 => ?_
    have M0 := Mem.new w
    refine wsl ?_
    refine sqNew (cs := #[v]) (t := 27) F0 M0 (wantedS rfl) (run_box rfl (F0.ev 0 rfl)) rfl (by decide) fun g0 a1 w1 hgg0 hb1 F1 M1 => ?_
    refine sqNew (cs := #[.slice none 0 0]) (t := 30) F1 M1 (wantedS rfl) (run_alloc rfl (by kernel_rfl)) rfl (by decide) fun g1 a2 w2 hgg1 hb2 F2 M2 => ?_
    refine sqNew (cs := #[.int .i64 0]) (t := 32) F2 M2 (wantedS rfl) (run_allocV (V := (.int .i64 0)) rfl (by kernel_rfl) rfl) rfl (by decide) fun g2 a3 w3 hgg2 hb3 F3 M3 => ?_
    refine sn ?_
    clear F0 F1 F2 M0 M1 M2
    refine wp_seq ?_
    refine wsl ?_
    refine sr F3 (run_fldA (m := 1) (s := 0) rfl (F3.ev 2 rfl) Tryd.underlying27 rfl rfl (by kernel_rfl) (by decide)) rfl rfl rfl fun a4 F4 => ?_
    refine sr (v := v) F4 (run_ldF rfl (F4.ev 13 rfl) (M3.at 2 rfl) rfl (by kernel_rfl)) rfl rfl rfl fun a5 F5 => ?_
    refine sr F5 (run_lenS rfl (F5.ev 14 rfl) (hV.below M3.below) rfl Tryd.underlying25) rfl rfl rfl fun a6 F6 => ?_
    refine sr (v := (.bool false)) F6 (run_eqi rfl (F6.ev 15 rfl) rfl (beq_eq_false_iff_ne.2 (by omega))) rfl rfl rfl fun a7 F7 => ?_
    refine sn ?_
    clear F3 F4 F5 F6
    refine cfs (F7.ev 16 rfl) ?_
    refine wsl ?_
    refine mvS F7 rfl rfl rfl rfl rfl fun a8 F8 => ?_
    refine sqT (T := fun u wx => Kp.sat w3.heap.size (.row 54 33 l.length (l.flatMap shareC)) u wx ∧ Below w3.heap.size w3 wx) F8 (wantedS rfl) (run_call rfl Tryd.func47 (by kernel_rfl) rfl (mapE1 (F8.ev 19 rfl))) rfl (by decide) (clone_sh l.length (l.flatMap shareC) u w3 (hU.below M3.below) (flat_one shareC_one _) hll) fun u3 a9 w4 hT4 F9 => ?_
    obtain ⟨hz4, hb4⟩ := hT4
    have hO1 := OwnR.ofCall M3 (show World.ownsRow w4 _ 54 33 u3 l.length (l.flatMap shareC) from hz4)
    have M4 := M3.grow hb4
    refine sqC (v := (.tuple #[(.agg (cells8 (List.replicate 32 0))), (.int .i64 1)])) F9 M4 (wantedS rfl) (run_call rfl Tryd.func28 (by kernel_rfl) rfl (mapE1 (F9.ev 20 rfl))) rfl (by decide) ((by have h := join_any l u3 w4 (Sl.own hO1); rw [hJ] at h; exact h)) fun a10 w5 hb5 F10 M5 => ?_
    have hO2 := hO1.grow hb5
    refine mvS F10 rfl rfl rfl rfl rfl fun a11 F11 => ?_
    refine sr (v := (.agg (cells8 (List.replicate 32 0)))) F11 (run_ext rfl (F11.ev 18 rfl) rfl) rfl rfl rfl fun a12 F12 => ?_
    refine sr (v := (.int .i64 1)) F12 (run_ext rfl (F12.ev 18 rfl) rfl) rfl rfl rfl fun a13 F13 => ?_
    refine sqNew (cs := (cells8 (List.replicate 32 0))) (t := 23) F13 M5 (wantedS rfl) (run_alloc rfl (by kernel_rfl)) rfl (by decide) fun g5 a14 w6 hgg5 hb6 F14 M6 => ?_
    have hO3 := hO2.add (S := isB 23 (cells8 (List.replicate 32 0))) hb6 hgg5
    refine sqStoreG (i := 0) F14 M6 rfl rfl rfl (F14.ev 6 rfl) (F14.ev 22 rfl) rfl sz32k (szOf List.length_replicate) (szOf List.length_replicate) (cells8_one _) fun a15 w7 hgr7 F15 M7 => ?_
    have hO4 := hO3.upd 0 (S2 := isB 23 (cells8 (List.replicate 32 0))) rfl hgr7
    refine asS F15 rfl rfl rfl rfl rfl fun a16 F16 => ?_
    refine sn ?_
    clear F7 F8 F9 F10 F11 F12 F13 F14 F15 M3 M4 M5 M6
    refine wp_seq ?_
    refine wsl ?_
    refine mvS F16 rfl rfl rfl rfl rfl fun a17 F17 => ?_
    refine sr (v := (.bool true)) F17 (run_nei rfl (F17.ev 24 rfl) rfl (bne_iff_ne.2 (by omega))) rfl rfl rfl fun a18 F18 => ?_
    refine sn ?_
    clear F16 F17
    refine wp_cond_true (F18.ev 25 rfl) ?_
    refine wsl ?_
    refine sr (v := (.agg #[.slice none 0 0])) F18 (run_blt (vs := #[]) (cs := #[.slice none 0 0]) rfl (by simp) (by kernel_rfl)) rfl rfl rfl fun a19 F19 => ?_
    refine mvS F19 rfl rfl rfl rfl rfl fun a20 F20 => ?_
    refine sqStoreG (i := 2) F20 M7 rfl rfl rfl (F20.ev 4 rfl) (F20.ev 26 rfl) rfl szKy rfl rfl (arr_one rfl) fun a21 w8 hgr8 F21 M8 => ?_
    have hO5 := hO4.upd 2 (S2 := isB 30 (#[.slice none 0 0])) rfl hgr8
    refine sqStoreV (i := 1) (cs := #[.int .i64 1]) F21 M8 rfl rfl rfl (F21.ev 5 rfl) (F21.ev 27 rfl) rfl rfl szErr rfl rfl (arr_one rfl) fun a22 w9 hgr9 F22 M9 => ?_
    have hO6 := hO5.upd 1 (S2 := isB 32 #[.int .i64 1]) rfl hgr9
    refine sn ?_
    clear F18 F19 F20 F21 M7 M8
    refine wp_ret ?_
    refine nxRet ?_
    exact retVM F22 (results_LL F22 rfl rfl rfl (loadVar_all (M9.at 2 rfl) Tryd.underlying30 rfl szKy rfl) (loadVar_one (M9.at 1 rfl) (by kernel_rfl)) ) ⟨_, rfl, by rw [hs]; exact ⟨_, _, rfl, ⟨_, rfl, ⟨rfl, .inl ⟨rfl, rfl⟩⟩⟩, rfl⟩, M9.below⟩
  | some k =>
    have hLk := joinT_len hJ
    have hs0 : opnS E l = opnK E k := by unfold opnS; rw [if_neg hE, hJ]
    refine walk_enterM Tryd.func23 rfl rfl rfl fun a0 F0 => ?_
    have M0 := Mem.new w
    refine wsl ?_
    refine sqNew (cs := #[v]) (t := 27) F0 M0 (wantedS rfl) (run_box rfl (F0.ev 0 rfl)) rfl (by decide) fun g0 a1 w1 hgg0 hb1 F1 M1 => ?_
    refine sqNew (cs := #[.slice none 0 0]) (t := 30) F1 M1 (wantedS rfl) (run_alloc rfl (by kernel_rfl)) rfl (by decide) fun g1 a2 w2 hgg1 hb2 F2 M2 => ?_
    refine sqNew (cs := #[.int .i64 0]) (t := 32) F2 M2 (wantedS rfl) (run_allocV (V := (.int .i64 0)) rfl (by kernel_rfl) rfl) rfl (by decide) fun g2 a3 w3 hgg2 hb3 F3 M3 => ?_
    refine sn ?_
    clear F0 F1 F2 M0 M1 M2
    refine wp_seq ?_
    refine wsl ?_
    refine sr F3 (run_fldA (m := 1) (s := 0) rfl (F3.ev 2 rfl) Tryd.underlying27 rfl rfl (by kernel_rfl) (by decide)) rfl rfl rfl fun a4 F4 => ?_
    refine sr (v := v) F4 (run_ldF rfl (F4.ev 13 rfl) (M3.at 2 rfl) rfl (by kernel_rfl)) rfl rfl rfl fun a5 F5 => ?_
    refine sr F5 (run_lenS rfl (F5.ev 14 rfl) (hV.below M3.below) rfl Tryd.underlying25) rfl rfl rfl fun a6 F6 => ?_
    refine sr (v := (.bool false)) F6 (run_eqi rfl (F6.ev 15 rfl) rfl (beq_eq_false_iff_ne.2 (by omega))) rfl rfl rfl fun a7 F7 => ?_
    refine sn ?_
    clear F3 F4 F5 F6
    refine cfs (F7.ev 16 rfl) ?_
    refine wsl ?_
    refine mvS F7 rfl rfl rfl rfl rfl fun a8 F8 => ?_
    refine sqT (T := fun u wx => Kp.sat w3.heap.size (.row 54 33 l.length (l.flatMap shareC)) u wx ∧ Below w3.heap.size w3 wx) F8 (wantedS rfl) (run_call rfl Tryd.func47 (by kernel_rfl) rfl (mapE1 (F8.ev 19 rfl))) rfl (by decide) (clone_sh l.length (l.flatMap shareC) u w3 (hU.below M3.below) (flat_one shareC_one _) hll) fun u3 a9 w4 hT4 F9 => ?_
    obtain ⟨hz4, hb4⟩ := hT4
    have hO1 := OwnR.ofCall M3 (show World.ownsRow w4 _ 54 33 u3 l.length (l.flatMap shareC) from hz4)
    have M4 := M3.grow hb4
    refine sqC (v := (.tuple #[(.agg (cells8 k)), (.int .i64 0)])) F9 M4 (wantedS rfl) (run_call rfl Tryd.func28 (by kernel_rfl) rfl (mapE1 (F9.ev 20 rfl))) rfl (by decide) ((by have h := join_any l u3 w4 (Sl.own hO1); rw [hJ] at h; exact h)) fun a10 w5 hb5 F10 M5 => ?_
    have hO2 := hO1.grow hb5
    refine mvS F10 rfl rfl rfl rfl rfl fun a11 F11 => ?_
    refine sr (v := (.agg (cells8 k))) F11 (run_ext rfl (F11.ev 18 rfl) rfl) rfl rfl rfl fun a12 F12 => ?_
    refine sr (v := (.int .i64 0)) F12 (run_ext rfl (F12.ev 18 rfl) rfl) rfl rfl rfl fun a13 F13 => ?_
    refine sqNew (cs := (cells8 (List.replicate 32 0))) (t := 23) F13 M5 (wantedS rfl) (run_alloc rfl (by kernel_rfl)) rfl (by decide) fun g5 a14 w6 hgg5 hb6 F14 M6 => ?_
    have hO3 := hO2.add (S := isB 23 (cells8 (List.replicate 32 0))) hb6 hgg5
    refine sqStoreG (i := 0) F14 M6 rfl rfl rfl (F14.ev 6 rfl) (F14.ev 22 rfl) rfl sz32k (szOf hLk) (szOf List.length_replicate) (cells8_one _) fun a15 w7 hgr7 F15 M7 => ?_
    have hO4 := hO3.upd 0 (S2 := isB 23 (cells8 k)) rfl hgr7
    refine asS F15 rfl rfl rfl rfl rfl fun a16 F16 => ?_
    refine sn ?_
    clear F7 F8 F9 F10 F11 F12 F13 F14 F15 M3 M4 M5 M6
    refine wp_seq ?_
    refine wsl ?_
    refine mvS F16 rfl rfl rfl rfl rfl fun a17 F17 => ?_
    refine sr (v := (.bool false)) F17 (run_nei rfl (F17.ev 24 rfl) rfl (bne_eq_false_iff_eq.2 (by omega))) rfl rfl rfl fun a18 F18 => ?_
    refine sn ?_
    clear F16 F17
    refine cfs (F18.ev 25 rfl) ?_
    refine wsl ?_
    refine sr F18 (run_fldA (m := 1) (s := 0) rfl (F18.ev 2 rfl) Tryd.underlying27 rfl rfl (by kernel_rfl) (by decide)) rfl rfl rfl fun a19 F19 => ?_
    refine sr (v := v) F19 (run_ldF rfl (F19.ev 28 rfl) (M7.at 3 rfl) rfl (by kernel_rfl)) rfl rfl rfl fun a20 F20 => ?_
    refine sr F20 (run_lenS rfl (F20.ev 29 rfl) (hV.below M7.below) rfl Tryd.underlying25) rfl rfl rfl fun a21 F21 => ?_
    refine sqMakeK (m := E.length) F21 M7 rfl rfl (F21.ev 30 rfl) (F21.ev 30 rfl) rfl rfl (by omega) rfl (by decide) fun g6 a22 w8 hgg6 hb8 F22 M8 => ?_
    have hO5 := hO4.add (S := isB 23 (kysA (List.replicate E.length (List.replicate 32 0)))) hb8 hgg6
    refine sqNew (cs := #[.slice none 0 0]) (t := 28) F22 M8 (wantedS rfl) (run_allocV (V := (.slice none 0 0)) rfl (by kernel_rfl) rfl) rfl (by decide) fun g7 a23 w9 hgg7 hb9 F23 M9 => ?_
    have hO6 := hO5.add (S := isB 28 (#[.slice none 0 0])) hb9 hgg7
    refine sqStoreV (i := 0) (cs := #[.slice (some ⟨g6, 0, none⟩) E.length E.length]) F23 M9 rfl rfl rfl (F23.ev 8 rfl) (F23.ev 31 rfl) rfl rfl szSlK rfl rfl (arr_one rfl) fun a24 w10 hgr10 F24 M10 => ?_
    have hO7 := hO6.upd 0 (S2 := isB 28 #[.slice (some ⟨g6, 0, none⟩) E.length E.length]) rfl hgr10
    refine sn ?_
    clear F18 F19 F20 F21 F22 F23 M7 M8 M9
    refine wp_seq ?_
    refine wsl ?_
    refine sr F24 (run_fldA (m := 1) (s := 0) rfl (F24.ev 2 rfl) Tryd.underlying27 rfl rfl (by kernel_rfl) (by decide)) rfl rfl rfl fun a25 F25 => ?_
    refine sr (v := v) F25 (run_ldF rfl (F25.ev 32 rfl) (M10.at 5 rfl) rfl (by kernel_rfl)) rfl rfl rfl fun a26 F26 => ?_
    refine sqT (T := fun u wx => ∃ g, u = .func (.func 72) #[] #[.pointer (some ⟨g, 0, none⟩)] ∧ w10.heap.size ≤ g ∧ Blk wx g 25 #[v] ∧ Below w10.heap.size w10 wx) F26 (wantedS rfl) (run_call rfl Tryd.func46 (by kernel_rfl) rfl (mapE1 (F26.ev 33 rfl))) rfl (by decide) (behindE_any v w10 (hV.below M10.below).sl3) fun u8 a27 w11 hT11 F27 => ?_
    obtain ⟨gk, rfl, hggk, hBgk, hb11⟩ := hT11
    have M11 := M10.add hb11 hggk hBgk
    have hO8 := hO7.add (S := isB 25 #[v]) hb11 hggk
    refine sn ?_
    clear F24 F25 F26 M10
    refine wp_block ?_
    refine wkRange (gf := 72) (lb := #[.pointer (some ⟨gk, 0, none⟩)]) (F27.ev 34 rfl) (enters_f Tryd.func72 (by kernel_rfl) rfl) M11 fun rc dd lp W1 hrec hdd hlp hb1 M1 => ?_
    have hM1p := M1.perm (perm3 _ _ _ _)
    refine (behindE1_any E hE32 v lp gk w W1 hV hEl (fun i => [(lp, isO (.loop rc)), (dd, isO (.deferred (some []))), (g7, isB 28 (#[.slice (some ⟨g6, 0, none⟩) E.length E.length])), (g6, isB 23 (kysA (fillS E k i))), (g5, isB 23 (cells8 (kyI E k (i - 1)))), (g2, isB 32 (#[.int .i64 0])), (g1, isB 30 (#[.slice none 0 0])), (g0, isB 27 (#[v]))]) (by rw [fillS_none] at hM1p; rw [kyI_last (by omega)]; exact hM1p) (fun W => ((∃ (q : Nat) (e : Ep), E[q]? = some e ∧ ¬ okE q (kyI E k q) e) ∧ Mem w [(lp, isO (.loop (leftR rc .ret))), (dd, isO (.deferred (some []))), (g2, isB 32 (#[.int .i64 21])), (g1, isB 30 (#[.slice none 0 0]))] W) ∨ ((∀ q, q < E.length → okI E k q) ∧ Mem w [(lp, isO (.loop (leftR rc (.exit 0)))), (dd, isO (.deferred (some []))), (g7, isB 28 (#[.slice (some ⟨g6, 0, none⟩) E.length E.length])), (g6, isB 23 (kysA (fillS E k 0))), (g2, isB 32 (#[.int .i64 0])), (g1, isB 30 (#[.slice none 0 0]))] W)) (fun i => 0 < i ∧ ∀ q, i ≤ q → q < E.length → okI E k q) ⟨hE0, fun q h1 h2 => by omega⟩ (fun W hok hM => absurd hok.1 (by omega)) ?_).mono ?_
    · intro i e W he hok hMW
      refine yieldW2 hrec (hMW.obj 1 rfl) F27 (by decide) (by decide) fun b0 F60 => ?_
      have M60 := hMW
      have hLe := hE32 e (List.mem_of_getElem? he)
      have hie := (List.getElem?_eq_some_iff.1 he).1
      rw [Nat.add_sub_cancel] at M60
      have hLky := kyI_len (E := E) (k := k) hLk hie (fun q h1 h2 => hok.2 q h1 h2)
      obtain ⟨ky, hky⟩ : ∃ ky, kyI E k i = ky := ⟨_, rfl⟩
      rw [hky] at M60 hLky
      have hfl := fillS_len E k (i + 1)
      refine wpIn_seq ?_
      refine wpIn_region_round (by kernel_rfl) (fun _ _ h => h) ?_
      refine asS F60 rfl rfl rfl rfl rfl fun a61 F61 => ?_
      refine sn ?_
      clear F60
      refine wpIn_region_round (by kernel_rfl) (fun _ _ h => h) ?_
      refine sqNew (cs := (epC ⟨List.replicate 32 0, []⟩)) (t := 76) F61 M60 (wantedS rfl) (run_alloc rfl (by kernel_rfl)) rfl (by decide) fun g60 a62 w61 hgg60 hb61 F62 M61 => ?_
      refine sqStore (i := 0) F62 M61 rfl rfl rfl (F62.ev 10 rfl) (F62.ev 36 rfl) rfl szEp (epC_size (e := e) hLe) (epC_size (e := ⟨List.replicate 32 0, []⟩) List.length_replicate) (epC_one e) fun a63 w62 F63 M62 => ?_
      refine sn ?_
      clear F61 F62 M60 M61
      refine begin_round (i := 2) M62 rfl hrec.state fun w63 M63 => ?_
      refine wpIn_block ?_
      refine wpIn_seq ?_
      refine wpIn_seq ?_
      by_cases hck : keyedS ky [99, 104, 101, 99, 107] = e.c
      · skip
        refine wpIn_region_p 70 [.val (.agg (cells8 ky)), .val (.agg (cells8 (keyedS ky [99, 104, 101, 99, 107]))), .val (.pointer (some ⟨g60, 0, none⟩)), .val (.agg (cells8 e.c)), .val (.bool false)] [] [] [] [] (by kernel_rfl) (by kernel_rfl) (by kernel_rfl) F63.size ?_ ?_ ?_ ?_ (by kernel_rfl) ?_ fun a64 w64 gs hI => ?_
        · intro d hd
          cases hd
        · intro b hb
          cases hb
        · intro x y b c hx hy hne
          simp at hx
        · intro r hr
          cases hr
        · refine ⟨?_, ?_, ?_, ?_, ?_, trivial⟩
          · refine .val 37 rfl (by simp) (by simp) (by simp) fun a W hK hh hd => ⟨wanted_yes rfl, ?_⟩
            exact givz_run (run_ldB rfl (eval_tmp (hh 6 _ rfl (F63.at 6 rfl))) ((M63.grow hK.below).at 6 rfl) Tryd.underlying23 rfl sz32k (szOf hLky)) rfl
          · refine .val 38 rfl (by simp) (by simp) (by simp) fun a W hK hh hd => ⟨wanted_yes rfl, ?_⟩
            exact givz_callV (run_call rfl Tryd.func39 (by kernel_rfl) rfl (mapE1 (eval_tmp (hd.valz (j := 0) (s := 37) (by kernel_rfl) (by simp) rfl rfl)))) (kcheck_any ky W (HG.below (M63.grow hK.below).below) hLky)
          · refine .val 39 rfl (by simp) (by simp) (by simp) fun a W hK hh hd => ⟨wanted_yes rfl, ?_⟩
            exact givz_run (run_fldA (m := 32) (s := 0) rfl (eval_tmp (hh 10 _ rfl (F63.at 10 rfl))) Tryd.underlying76 rfl rfl (by kernel_rfl) (by decide)) rfl
          · refine .val 40 rfl (by simp) (by simp) (by simp) fun a W hK hh hd => ⟨wanted_yes rfl, ?_⟩
            exact givz_run (run_ldEC rfl (eval_tmp (hd.valz (j := 2) (s := 39) (by kernel_rfl) (by simp) rfl rfl)) ((M63.grow hK.below).at 0 rfl) hLe) rfl
          · refine .val 41 rfl (by simp) (by simp) (by simp) fun a W hK hh hd => ⟨wanted_yes rfl, ?_⟩
            exact givz_run (run_neDB (keyedS_len _ _) hLe (beq_iff_eq.2 hck) rfl (eval_tmp (hd.valz (j := 1) (s := 38) (by kernel_rfl) (by simp) rfl rfl)) (eval_tmp (hd.valz (j := 3) (s := 40) (by kernel_rfl) (by simp) rfl rfl))) rfl
        have e41_ : a64.tmps[41]? = some (.bool false) := by
          obtain ⟨vq, hq1, hq2⟩ := hI.val 4 _ 41 rfl rfl rfl (by simp) (fun _ h => by cases h)
          rw [hq1]
          exact congrArg some hq2
        have hb64 := KeepW.below hI.keep
        have M64 := M63.grow hb64
        have F64 : Fr a64 70 [(0, (.agg #[v])), (1, u), (2, (.pointer (some ⟨g0, 0, none⟩))), (4, (.pointer (some ⟨g1, 0, none⟩))), (5, (.pointer (some ⟨g2, 0, none⟩))), (6, (.pointer (some ⟨g5, 0, none⟩))), (7, (.int .i64 0)), (8, (.pointer (some ⟨g7, 0, none⟩))), (9, (.int .i64 (i : Int))), (10, (.pointer (some ⟨g60, 0, none⟩))), (13, (.pointer (some ⟨g0, 0, none⟩))), (14, v), (15, (.int .i64 (E.length : Int))), (16, (.bool false)), (18, (.tuple #[(.agg (cells8 k)), (.int .i64 0)])), (19, u), (20, u3), (21, (.tuple #[(.agg (cells8 k)), (.int .i64 0)])), (22, (.agg (cells8 k))), (23, (.int .i64 0)), (24, (.int .i64 0)), (25, (.bool false)), (28, (.pointer (some ⟨g0, 0, none⟩))), (29, v), (30, (.int .i64 (E.length : Int))), (31, (.slice (some ⟨g6, 0, none⟩) E.length E.length)), (32, (.pointer (some ⟨g0, 0, none⟩))), (33, v), (35, (.int .i64 (i : Int))), (36, (.agg (epC e))), (41, (.bool false))] := fr_of_holds hI.tsz (hI.defers.trans F63.defers) ⟨hI.had 0 _ rfl (F63.at 0 rfl), hI.had 1 _ rfl (F63.at 1 rfl), hI.had 2 _ rfl (F63.at 2 rfl), hI.had 4 _ rfl (F63.at 4 rfl), hI.had 5 _ rfl (F63.at 5 rfl), hI.had 6 _ rfl (F63.at 6 rfl), hI.had 7 _ rfl (F63.at 7 rfl), hI.had 8 _ rfl (F63.at 8 rfl), hI.had 9 _ rfl (F63.at 9 rfl), hI.had 10 _ rfl (F63.at 10 rfl), hI.had 13 _ rfl (F63.at 13 rfl), hI.had 14 _ rfl (F63.at 14 rfl), hI.had 15 _ rfl (F63.at 15 rfl), hI.had 16 _ rfl (F63.at 16 rfl), hI.had 18 _ rfl (F63.at 18 rfl), hI.had 19 _ rfl (F63.at 19 rfl), hI.had 20 _ rfl (F63.at 20 rfl), hI.had 21 _ rfl (F63.at 21 rfl), hI.had 22 _ rfl (F63.at 22 rfl), hI.had 23 _ rfl (F63.at 23 rfl), hI.had 24 _ rfl (F63.at 24 rfl), hI.had 25 _ rfl (F63.at 25 rfl), hI.had 28 _ rfl (F63.at 28 rfl), hI.had 29 _ rfl (F63.at 29 rfl), hI.had 30 _ rfl (F63.at 30 rfl), hI.had 31 _ rfl (F63.at 31 rfl), hI.had 32 _ rfl (F63.at 32 rfl), hI.had 33 _ rfl (F63.at 33 rfl), hI.had 35 _ rfl (F63.at 35 rfl), hI.had 36 _ rfl (F63.at 36 rfl), e41_, trivial⟩
        clear F63 M63
        refine nx ?_
        refine wpIn_cond_false (F64.ev 41 rfl) ?_
        refine wpIn_skip ?_
        refine nx ?_
        refine wpIn_seq ?_
        refine wpIn_region_round (by kernel_rfl) (fun _ _ h => h) ?_
        refine sr F64 (run_ld1 rfl (F64.ev 8 rfl) (M64.at 4 rfl) (by kernel_rfl)) rfl rfl rfl fun a65 F65 => ?_
        refine mvS F65 rfl rfl rfl rfl rfl fun a66 F66 => ?_
        refine sr F66 (run_ldB rfl (F66.ev 6 rfl) (M64.at 6 rfl) Tryd.underlying23 rfl sz32k (szOf hLky)) rfl rfl rfl fun a67 F67 => ?_
        refine sr (v := (.pointer (some ⟨g6, i * 32, none⟩))) F67 (run_idxKs (i := i) rfl (F67.ev 43 rfl) (F67.ev 44 rfl) rfl (by omega)) rfl rfl rfl fun a68 F68 => ?_
        refine sqSetK (j := 5) (i := i) (l := (fillS E k (i + 1))) hLky F68 M64 rfl rfl rfl (F68.ev 46 rfl) (F68.ev 45 rfl) rfl (by omega) fun a69 w65 hgr65 F69 M65 => ?_
        refine sn ?_
        clear F64 F65 F66 F67 F68 M64
        refine wpIn_seq ?_
        refine wpIn_seq ?_
        rcases Nat.eq_zero_or_pos i with hi0 | hi0
        · subst hi0
          have hoki : okI E k 0 := (okI_at he).2 (by rw [hky]; exact ⟨hck, fun h => absurd h (by omega)⟩)
          refine wpIn_region_round (by kernel_rfl) (fun _ _ h => h) ?_
          refine mvS F69 rfl rfl rfl rfl rfl fun a70 F70 => ?_
          refine sr (v := (.bool true)) F70 (run_eqi rfl (F70.ev 47 rfl) rfl (beq_iff_eq.2 (by omega))) rfl rfl rfl fun a71 F71 => ?_
          refine sn ?_
          clear F69 F70
          refine wpIn_cond_true (F71.ev 48 rfl) ?_
          refine wpIn_exit ?_
          refine nxExit ?_
          refine bkFar (by decide) ?_
          refine round_off (i := 2) M65 rfl fun w99 M99 => .inr ⟨rfl, .inr ⟨fun q hq => ?_, ?_⟩⟩
          · rcases Nat.eq_zero_or_pos q with rfl | h1
            · exact hoki
            · exact hok.2 q h1 hq
          · have h9 := M99.sub (.cons _ (.cons _ (.cons_cons _ (.cons_cons _ (.cons_cons _ (.cons_cons _ (.cons _ (.cons_cons _ (.cons_cons _ (.cons _ .slnil))))))))))
            rw [← hky, Nat.zero_add] at h9
            have hf1 := fillS_step E k hie
            rw [Nat.zero_add] at hf1
            rw [hf1] at h9
            exact h9
        · obtain ⟨od, hod⟩ : ∃ od, openS (keyedS ky [119, 114, 97, 112]) [114, 105, 110, 103] e.wr = od := ⟨_, rfl⟩
          refine wpIn_region_round (by kernel_rfl) (fun _ _ h => h) ?_
          refine mvS F69 rfl rfl rfl rfl rfl fun a70 F70 => ?_
          refine sr (v := (.bool false)) F70 (run_eqi rfl (F70.ev 47 rfl) rfl (beq_eq_false_iff_ne.2 (by omega))) rfl rfl rfl fun a71 F71 => ?_
          refine sn ?_
          clear F69 F70
          refine wpIn_cond_false (F71.ev 48 rfl) ?_
          refine wpIn_skip ?_
          refine nx ?_
          refine wpIn_seq ?_
          refine wpIn_region_p 70 [.val (.agg (cells8 ky)), .val (.agg (cells8 (keyedS ky [119, 114, 97, 112]))), .val (.pointer (some ⟨g60, 32, none⟩)), .val (.string ⟨e.wr.toArray⟩), .val (.tuple #[(.string ⟨od.1.toArray⟩), (.int .i64 od.2)]), .val (.tuple #[(.string ⟨od.1.toArray⟩), (.int .i64 od.2)]), .val (.string ⟨od.1.toArray⟩), .val (.int .i64 od.2), .val (.string ⟨od.1.toArray⟩), .val (.int .i64 od.2)] [] [] [] [] (by kernel_rfl) (by kernel_rfl) (by kernel_rfl) F71.size ?_ ?_ ?_ ?_ (by kernel_rfl) ?_ fun a72 w66 gs hI => ?_
          · intro d hd
            cases hd
          · intro b hb
            cases hb
          · intro x y b c hx hy hne
            simp at hx
          · intro r hr
            cases hr
          · refine ⟨?_, ?_, ?_, ?_, ?_, ?_, ?_, ?_, ?_, ?_, trivial⟩
            · refine .val 50 rfl (by simp) (by simp) (by simp) fun a W hK hh hd => ⟨wanted_yes rfl, ?_⟩
              exact givz_run (run_ldB rfl (eval_tmp (hh 6 _ rfl (F71.at 6 rfl))) ((M65.grow hK.below).at 6 rfl) Tryd.underlying23 rfl sz32k (szOf hLky)) rfl
            · refine .val 51 rfl (by simp) (by simp) (by simp) fun a W hK hh hd => ⟨wanted_yes rfl, ?_⟩
              exact givz_callV (run_call rfl Tryd.func49 (by kernel_rfl) rfl (mapE1 (eval_tmp (hd.valz (j := 0) (s := 50) (by kernel_rfl) (by simp) rfl rfl)))) (kwrap_any ky W (HG.below (M65.grow hK.below).below) hLky)
            · refine .val 52 rfl (by simp) (by simp) (by simp) fun a W hK hh hd => ⟨wanted_yes rfl, ?_⟩
              exact givz_run (run_fldA (m := 1) (s := 32) rfl (eval_tmp (hh 10 _ rfl (F71.at 10 rfl))) Tryd.underlying76 rfl rfl (by kernel_rfl) (by decide)) rfl
            · refine .val 53 rfl (by simp) (by simp) (by simp) fun a W hK hh hd => ⟨wanted_yes rfl, ?_⟩
              exact givz_run (run_ldF rfl (eval_tmp (hd.valz (j := 2) (s := 52) (by kernel_rfl) (by simp) rfl rfl)) ((M65.grow hK.below).at 0 rfl) (epC_wrap (c := e.c) (wr := e.wr) hLe) (by kernel_rfl)) rfl
            · refine .val 54 rfl (by simp) (by simp) (by simp) fun a W hK hh hd => ⟨wanted_yes rfl, ?_⟩
              exact givz_callV (run_call rfl Tryd.func48 (by kernel_rfl) rfl (mapE3 (eval_tmp (hd.valz (j := 1) (s := 51) (by kernel_rfl) (by simp) rfl rfl)) rfl (eval_tmp (hd.valz (j := 3) (s := 53) (by kernel_rfl) (by simp) rfl rfl)))) ((by have h := sopen_any (keyedS ky [119, 114, 97, 112]) [114, 105, 110, 103] e.wr W (HG.below (M65.grow hK.below).below) (keyedS_len _ _) (by have := hEw e (List.mem_of_getElem? he); simp; omega); rw [hod] at h; exact h))
            · refine .val 49 rfl (by simp) (by simp) (by simp) fun a W hK hh hd => ⟨wanted_yes rfl, ?_⟩
              exact givz_run (run_mv rfl (eval_tmp (hd.valz (j := 4) (s := 54) (by kernel_rfl) (by simp) rfl rfl))) rfl
            · refine .val 55 rfl (by simp) (by simp) (by simp) fun a W hK hh hd => ⟨wanted_yes rfl, ?_⟩
              exact givz_run (run_ext rfl (eval_tmp (hd.valz (j := 5) (s := 49) (by kernel_rfl) (by simp) rfl rfl)) rfl) rfl
            · refine .val 56 rfl (by simp) (by simp) (by simp) fun a W hK hh hd => ⟨wanted_yes rfl, ?_⟩
              exact givz_run (run_ext rfl (eval_tmp (hd.valz (j := 5) (s := 49) (by kernel_rfl) (by simp) rfl rfl)) rfl) rfl
            · refine .val 11 rfl (by simp) (by simp) (by simp) fun a W hK hh hd => ⟨wanted_yes rfl, ?_⟩
              exact givz_run (run_as rfl (eval_tmp (hd.valz (j := 6) (s := 55) (by kernel_rfl) (by simp) rfl rfl))) rfl
            · refine .val 12 rfl (by simp) (by simp) (by simp) fun a W hK hh hd => ⟨wanted_yes rfl, ?_⟩
              exact givz_run (run_as rfl (eval_tmp (hd.valz (j := 7) (s := 56) (by kernel_rfl) (by simp) rfl rfl))) rfl
          have e11_ : a72.tmps[11]? = some (.string ⟨od.1.toArray⟩) := by
            obtain ⟨vq, hq1, hq2⟩ := hI.val 8 _ 11 rfl rfl rfl (by simp) (fun _ h => by cases h)
            rw [hq1]
            exact congrArg some hq2
          have e12_ : a72.tmps[12]? = some (.int .i64 od.2) := by
            obtain ⟨vq, hq1, hq2⟩ := hI.val 9 _ 12 rfl rfl rfl (by simp) (fun _ h => by cases h)
            rw [hq1]
            exact congrArg some hq2
          have hb66 := KeepW.below hI.keep
          have M66 := M65.grow hb66
          have F72 : Fr a72 70 [(0, (.agg #[v])), (1, u), (2, (.pointer (some ⟨g0, 0, none⟩))), (4, (.pointer (some ⟨g1, 0, none⟩))), (5, (.pointer (some ⟨g2, 0, none⟩))), (6, (.pointer (some ⟨g5, 0, none⟩))), (7, (.int .i64 0)), (8, (.pointer (some ⟨g7, 0, none⟩))), (9, (.int .i64 (i : Int))), (10, (.pointer (some ⟨g60, 0, none⟩))), (11, (.string ⟨od.1.toArray⟩)), (12, (.int .i64 od.2)), (13, (.pointer (some ⟨g0, 0, none⟩))), (14, v), (15, (.int .i64 (E.length : Int))), (16, (.bool false)), (18, (.tuple #[(.agg (cells8 k)), (.int .i64 0)])), (19, u), (20, u3), (21, (.tuple #[(.agg (cells8 k)), (.int .i64 0)])), (22, (.agg (cells8 k))), (23, (.int .i64 0)), (24, (.int .i64 0)), (25, (.bool false)), (28, (.pointer (some ⟨g0, 0, none⟩))), (29, v), (30, (.int .i64 (E.length : Int))), (31, (.slice (some ⟨g6, 0, none⟩) E.length E.length)), (32, (.pointer (some ⟨g0, 0, none⟩))), (33, v), (35, (.int .i64 (i : Int))), (36, (.agg (epC e))), (41, (.bool false)), (43, (.slice (some ⟨g6, 0, none⟩) E.length E.length)), (44, (.int .i64 (i : Int))), (45, (.agg (cells8 ky))), (46, (.pointer (some ⟨g6, i * 32, none⟩))), (47, (.int .i64 (i : Int))), (48, (.bool false))] := fr_of_holds hI.tsz (hI.defers.trans F71.defers) ⟨hI.had 0 _ rfl (F71.at 0 rfl), hI.had 1 _ rfl (F71.at 1 rfl), hI.had 2 _ rfl (F71.at 2 rfl), hI.had 4 _ rfl (F71.at 4 rfl), hI.had 5 _ rfl (F71.at 5 rfl), hI.had 6 _ rfl (F71.at 6 rfl), hI.had 7 _ rfl (F71.at 7 rfl), hI.had 8 _ rfl (F71.at 8 rfl), hI.had 9 _ rfl (F71.at 9 rfl), hI.had 10 _ rfl (F71.at 10 rfl), e11_, e12_, hI.had 13 _ rfl (F71.at 13 rfl), hI.had 14 _ rfl (F71.at 14 rfl), hI.had 15 _ rfl (F71.at 15 rfl), hI.had 16 _ rfl (F71.at 16 rfl), hI.had 18 _ rfl (F71.at 18 rfl), hI.had 19 _ rfl (F71.at 19 rfl), hI.had 20 _ rfl (F71.at 20 rfl), hI.had 21 _ rfl (F71.at 21 rfl), hI.had 22 _ rfl (F71.at 22 rfl), hI.had 23 _ rfl (F71.at 23 rfl), hI.had 24 _ rfl (F71.at 24 rfl), hI.had 25 _ rfl (F71.at 25 rfl), hI.had 28 _ rfl (F71.at 28 rfl), hI.had 29 _ rfl (F71.at 29 rfl), hI.had 30 _ rfl (F71.at 30 rfl), hI.had 31 _ rfl (F71.at 31 rfl), hI.had 32 _ rfl (F71.at 32 rfl), hI.had 33 _ rfl (F71.at 33 rfl), hI.had 35 _ rfl (F71.at 35 rfl), hI.had 36 _ rfl (F71.at 36 rfl), hI.had 41 _ rfl (F71.at 41 rfl), hI.had 43 _ rfl (F71.at 43 rfl), hI.had 44 _ rfl (F71.at 44 rfl), hI.had 45 _ rfl (F71.at 45 rfl), hI.had 46 _ rfl (F71.at 46 rfl), hI.had 47 _ rfl (F71.at 47 rfl), hI.had 48 _ rfl (F71.at 48 rfl), trivial⟩
          clear F71 M65
          refine nx ?_
          refine wpIn_seq ?_
          refine wpIn_seq ?_
          have hcs3 : (od.2 = 0 ∧ od.1.length = 32) ∨ (od.2 = 0 ∧ od.1.length ≠ 32) ∨ od.2 ≠ 0 := by omega
          rcases hcs3 with ⟨ho0, ho32⟩ | ⟨ho0, ho32⟩ | ho0
          · have hoki : okI E k i := (okI_at he).2 (by rw [hky]; exact ⟨hck, fun _ => by rw [show openS (keyedS ky wrapT) ringT e.wr = od from hod]; exact ⟨ho0, ho32⟩⟩)
            obtain ⟨j, rfl⟩ : ∃ j, i = j + 1 := ⟨i - 1, by omega⟩
            have hk1 : kyI E k (j + 1 - 1) = od.1 := by
              rw [Nat.add_sub_cancel, kyI_step he, hky, show openS (keyedS ky wrapT) ringT e.wr = od from hod]
            refine wpIn_region_round (by kernel_rfl) (fun _ _ h => h) ?_
            refine mvS F72 rfl rfl rfl rfl rfl fun a73 F73 => ?_
            refine sr (v := (.bool false)) F73 (run_nei rfl (F73.ev 57 rfl) rfl (bne_eq_false_iff_eq.2 ho0)) rfl rfl rfl fun a74 F74 => ?_
            refine mvS F74 rfl rfl rfl rfl rfl fun a75 F75 => ?_
            refine sq (v := (.string ⟨od.1.toArray⟩)) F75 (wantedG F75 rfl rfl rfl rfl rfl) (run_mv rfl (F75.ev 11 rfl)) rfl (by decide) fun a76 F76 => ?_
            refine sq (v := (.int .i64 (od.1.length : Int))) F76 (wantedG F76 rfl rfl rfl rfl rfl) (run_len rfl (F76.ev 60 rfl) rfl Tryd.underlying9) rfl (by decide) fun a77 F77 => ?_
            refine sq (v := (.bool false)) F77 (wantedG F77 rfl rfl rfl rfl rfl) (run_nei rfl (F77.ev 61 rfl) rfl (bne_eq_false_iff_eq.2 (by omega))) rfl (by decide) fun a78 F78 => ?_
            refine sr (v := (.bool false)) F78 (run_pick rfl (F78.ev 59 rfl) rfl (F78.ev 62 rfl)) rfl rfl rfl fun a79 F79 => ?_
            refine sn ?_
            clear F72 F73 F74 F75 F76 F77 F78
            refine wpIn_cond_false (F79.ev 63 rfl) ?_
            refine wpIn_skip ?_
            refine nx ?_
            refine wpIn_region_round (by kernel_rfl) (fun _ _ h => h) ?_
            refine sr (v := (.slice (some ⟨g5, 0, none⟩) 32 32)) F79 (run_slA rfl (F79.ev 6 rfl) (run_sliceArr_all (P := Tryd.prog) Tryd.underlying23 so8 g5 0 (by decide) _)) rfl rfl rfl fun a80 F80 => ?_
            refine mvS F80 rfl rfl rfl rfl rfl fun a81 F81 => ?_
            refine sqCopyG (j := 6) (cs2 := cells8 od.1) Tryd.underlying52 F81 M66 rfl rfl (F81.ev 65 rfl) (F81.ev 66 rfl) ho32 rfl (Nat.le_of_eq (szOf hLky).symm) (copy_key hLky) rfl (by decide) fun a82 w67 hgr67 F82 M67 => ?_
            refine sqEnd ?_
            clear F79 F80 F81 M66
            refine bkEnd ?_
            refine round_on (i := 2) M67 rfl hrec.state hrec.pending fun w99 M99 => .inl ⟨rfl, ⟨by omega, fun q h1 h2 => ?_⟩, ?_⟩
            · rcases Nat.eq_or_lt_of_le h1 with rfl | h1
              · exact hoki
              · exact hok.2 q h1 h2
            · have h9 := M99.sub (.cons _ (.cons_cons _ (.cons_cons _ (.cons_cons _ (.cons_cons _ (.cons_cons _ (.cons_cons _ (.cons_cons _ (.cons_cons _ (.cons_cons _ .slnil))))))))))
              rw [← hk1, ← hky, fillS_step E k hie] at h9
              exact h9
          · have hbad : ¬ okE i (kyI E k i) e := by
              rw [hky]
              intro h
              have h2 := (h.2 hi0).2
              rw [show openS (keyedS ky wrapT) ringT e.wr = od from hod] at h2
              exact ho32 h2
            refine wpIn_region_round (by kernel_rfl) (fun _ _ h => h) ?_
            refine mvS F72 rfl rfl rfl rfl rfl fun a73 F73 => ?_
            refine sr (v := (.bool false)) F73 (run_nei rfl (F73.ev 57 rfl) rfl (bne_eq_false_iff_eq.2 ho0)) rfl rfl rfl fun a74 F74 => ?_
            refine mvS F74 rfl rfl rfl rfl rfl fun a75 F75 => ?_
            refine sq (v := (.string ⟨od.1.toArray⟩)) F75 (wantedG F75 rfl rfl rfl rfl rfl) (run_mv rfl (F75.ev 11 rfl)) rfl (by decide) fun a76 F76 => ?_
            refine sq (v := (.int .i64 (od.1.length : Int))) F76 (wantedG F76 rfl rfl rfl rfl rfl) (run_len rfl (F76.ev 60 rfl) rfl Tryd.underlying9) rfl (by decide) fun a77 F77 => ?_
            refine sq (v := (.bool true)) F77 (wantedG F77 rfl rfl rfl rfl rfl) (run_nei rfl (F77.ev 61 rfl) rfl (bne_iff_ne.2 (by omega))) rfl (by decide) fun a78 F78 => ?_
            refine sr (v := (.bool true)) F78 (run_pick rfl (F78.ev 59 rfl) rfl (F78.ev 62 rfl)) rfl rfl rfl fun a79 F79 => ?_
            refine sn ?_
            clear F72 F73 F74 F75 F76 F77 F78
            refine wpIn_cond_true (F79.ev 63 rfl) ?_
            refine wpIn_seq ?_
            refine wpIn_region_round (by kernel_rfl) (fun _ _ h => h) ?_
            refine sr (v := (.agg #[.slice none 0 0])) F79 (run_blt (vs := #[]) (cs := #[.slice none 0 0]) rfl (by simp) (by kernel_rfl)) rfl rfl rfl fun a80 F80 => ?_
            refine sqStore (i := 8) F80 M66 rfl rfl rfl (F80.ev 4 rfl) (F80.ev 64 rfl) rfl szKy rfl rfl (arr_one rfl) fun a81 w67 F81 M67 => ?_
            refine sqStoreV (i := 7) (cs := #[.int .i64 21]) F81 M67 rfl rfl rfl (F81.ev 5 rfl) rfl rfl rfl szErr rfl rfl (arr_one rfl) fun a82 w68 hgr68 F82 M68 => ?_
            refine sn ?_
            clear F79 F80 F81 M66 M67
            refine wpIn_ret ?_
            refine nxRet ?_
            refine bkRet ?_
            refine round_ret (i := 2) M68 rfl fun w99 M99 => .inr ⟨rfl, .inl ⟨⟨i, e, he, hbad⟩, M99.sub (.cons _ (.cons _ (.cons_cons _ (.cons_cons _ (.cons _ (.cons _ (.cons _ (.cons_cons _ (.cons_cons _ (.cons _ .slnil))))))))))⟩⟩
          · have hbad : ¬ okE i (kyI E k i) e := by
              rw [hky]
              intro h
              have h2 := (h.2 hi0).1
              rw [show openS (keyedS ky wrapT) ringT e.wr = od from hod] at h2
              exact ho0 h2
            refine wpIn_region_round (by kernel_rfl) (fun _ _ h => h) ?_
            refine mvS F72 rfl rfl rfl rfl rfl fun a73 F73 => ?_
            refine sr (v := (.bool true)) F73 (run_nei rfl (F73.ev 57 rfl) rfl (bne_iff_ne.2 ho0)) rfl rfl rfl fun a74 F74 => ?_
            refine mvS F74 rfl rfl rfl rfl rfl fun a75 F75 => ?_
            refine sqSkip F75 (unwantedG F75 rfl rfl rfl rfl rfl) rfl (by decide) fun a76 F76 => ?_
            refine sqSkip F76 (unwantedG F76 rfl rfl rfl rfl rfl) rfl (by decide) fun a77 F77 => ?_
            refine sqSkip F77 (unwantedG F77 rfl rfl rfl rfl rfl) rfl (by decide) fun a78 F78 => ?_
            refine sr (v := (.bool true)) F78 (run_pick rfl (F78.ev 59 rfl) rfl (F78.ev 62 rfl)) rfl rfl rfl fun a79 F79 => ?_
            refine sn ?_
            clear F72 F73 F74 F75 F76 F77 F78
            refine wpIn_cond_true (F79.ev 63 rfl) ?_
            refine wpIn_seq ?_
            refine wpIn_region_round (by kernel_rfl) (fun _ _ h => h) ?_
            refine sr (v := (.agg #[.slice none 0 0])) F79 (run_blt (vs := #[]) (cs := #[.slice none 0 0]) rfl (by simp) (by kernel_rfl)) rfl rfl rfl fun a80 F80 => ?_
            refine sqStore (i := 8) F80 M66 rfl rfl rfl (F80.ev 4 rfl) (F80.ev 64 rfl) rfl szKy rfl rfl (arr_one rfl) fun a81 w67 F81 M67 => ?_
            refine sqStoreV (i := 7) (cs := #[.int .i64 21]) F81 M67 rfl rfl rfl (F81.ev 5 rfl) rfl rfl rfl szErr rfl rfl (arr_one rfl) fun a82 w68 hgr68 F82 M68 => ?_
            refine sn ?_
            clear F79 F80 F81 M66 M67
            refine wpIn_ret ?_
            refine nxRet ?_
            refine bkRet ?_
            refine round_ret (i := 2) M68 rfl fun w99 M99 => .inr ⟨rfl, .inl ⟨⟨i, e, he, hbad⟩, M99.sub (.cons _ (.cons _ (.cons_cons _ (.cons_cons _ (.cons _ (.cons _ (.cons _ (.cons_cons _ (.cons_cons _ (.cons _ .slnil))))))))))⟩⟩
      · have hbad : ¬ okE i (kyI E k i) e := by rw [hky]; exact fun h => hck h.1
        refine wpIn_region_p 70 [.val (.agg (cells8 ky)), .val (.agg (cells8 (keyedS ky [99, 104, 101, 99, 107]))), .val (.pointer (some ⟨g60, 0, none⟩)), .val (.agg (cells8 e.c)), .val (.bool true)] [] [] [] [] (by kernel_rfl) (by kernel_rfl) (by kernel_rfl) F63.size ?_ ?_ ?_ ?_ (by kernel_rfl) ?_ fun a64 w64 gs hI => ?_
        · intro d hd
          cases hd
        · intro b hb
          cases hb
        · intro x y b c hx hy hne
          simp at hx
        · intro r hr
          cases hr
        · refine ⟨?_, ?_, ?_, ?_, ?_, trivial⟩
          · refine .val 37 rfl (by simp) (by simp) (by simp) fun a W hK hh hd => ⟨wanted_yes rfl, ?_⟩
            exact givz_run (run_ldB rfl (eval_tmp (hh 6 _ rfl (F63.at 6 rfl))) ((M63.grow hK.below).at 6 rfl) Tryd.underlying23 rfl sz32k (szOf hLky)) rfl
          · refine .val 38 rfl (by simp) (by simp) (by simp) fun a W hK hh hd => ⟨wanted_yes rfl, ?_⟩
            exact givz_callV (run_call rfl Tryd.func39 (by kernel_rfl) rfl (mapE1 (eval_tmp (hd.valz (j := 0) (s := 37) (by kernel_rfl) (by simp) rfl rfl)))) (kcheck_any ky W (HG.below (M63.grow hK.below).below) hLky)
          · refine .val 39 rfl (by simp) (by simp) (by simp) fun a W hK hh hd => ⟨wanted_yes rfl, ?_⟩
            exact givz_run (run_fldA (m := 32) (s := 0) rfl (eval_tmp (hh 10 _ rfl (F63.at 10 rfl))) Tryd.underlying76 rfl rfl (by kernel_rfl) (by decide)) rfl
          · refine .val 40 rfl (by simp) (by simp) (by simp) fun a W hK hh hd => ⟨wanted_yes rfl, ?_⟩
            exact givz_run (run_ldEC rfl (eval_tmp (hd.valz (j := 2) (s := 39) (by kernel_rfl) (by simp) rfl rfl)) ((M63.grow hK.below).at 0 rfl) hLe) rfl
          · refine .val 41 rfl (by simp) (by simp) (by simp) fun a W hK hh hd => ⟨wanted_yes rfl, ?_⟩
            exact givz_run (run_neDB (keyedS_len _ _) hLe (beq_eq_false_iff_ne.2 hck) rfl (eval_tmp (hd.valz (j := 1) (s := 38) (by kernel_rfl) (by simp) rfl rfl)) (eval_tmp (hd.valz (j := 3) (s := 40) (by kernel_rfl) (by simp) rfl rfl))) rfl
        have e41_ : a64.tmps[41]? = some (.bool true) := by
          obtain ⟨vq, hq1, hq2⟩ := hI.val 4 _ 41 rfl rfl rfl (by simp) (fun _ h => by cases h)
          rw [hq1]
          exact congrArg some hq2
        have hb64 := KeepW.below hI.keep
        have M64 := M63.grow hb64
        have F64 : Fr a64 70 [(0, (.agg #[v])), (1, u), (2, (.pointer (some ⟨g0, 0, none⟩))), (4, (.pointer (some ⟨g1, 0, none⟩))), (5, (.pointer (some ⟨g2, 0, none⟩))), (6, (.pointer (some ⟨g5, 0, none⟩))), (7, (.int .i64 0)), (8, (.pointer (some ⟨g7, 0, none⟩))), (9, (.int .i64 (i : Int))), (10, (.pointer (some ⟨g60, 0, none⟩))), (13, (.pointer (some ⟨g0, 0, none⟩))), (14, v), (15, (.int .i64 (E.length : Int))), (16, (.bool false)), (18, (.tuple #[(.agg (cells8 k)), (.int .i64 0)])), (19, u), (20, u3), (21, (.tuple #[(.agg (cells8 k)), (.int .i64 0)])), (22, (.agg (cells8 k))), (23, (.int .i64 0)), (24, (.int .i64 0)), (25, (.bool false)), (28, (.pointer (some ⟨g0, 0, none⟩))), (29, v), (30, (.int .i64 (E.length : Int))), (31, (.slice (some ⟨g6, 0, none⟩) E.length E.length)), (32, (.pointer (some ⟨g0, 0, none⟩))), (33, v), (35, (.int .i64 (i : Int))), (36, (.agg (epC e))), (41, (.bool true))] := fr_of_holds hI.tsz (hI.defers.trans F63.defers) ⟨hI.had 0 _ rfl (F63.at 0 rfl), hI.had 1 _ rfl (F63.at 1 rfl), hI.had 2 _ rfl (F63.at 2 rfl), hI.had 4 _ rfl (F63.at 4 rfl), hI.had 5 _ rfl (F63.at 5 rfl), hI.had 6 _ rfl (F63.at 6 rfl), hI.had 7 _ rfl (F63.at 7 rfl), hI.had 8 _ rfl (F63.at 8 rfl), hI.had 9 _ rfl (F63.at 9 rfl), hI.had 10 _ rfl (F63.at 10 rfl), hI.had 13 _ rfl (F63.at 13 rfl), hI.had 14 _ rfl (F63.at 14 rfl), hI.had 15 _ rfl (F63.at 15 rfl), hI.had 16 _ rfl (F63.at 16 rfl), hI.had 18 _ rfl (F63.at 18 rfl), hI.had 19 _ rfl (F63.at 19 rfl), hI.had 20 _ rfl (F63.at 20 rfl), hI.had 21 _ rfl (F63.at 21 rfl), hI.had 22 _ rfl (F63.at 22 rfl), hI.had 23 _ rfl (F63.at 23 rfl), hI.had 24 _ rfl (F63.at 24 rfl), hI.had 25 _ rfl (F63.at 25 rfl), hI.had 28 _ rfl (F63.at 28 rfl), hI.had 29 _ rfl (F63.at 29 rfl), hI.had 30 _ rfl (F63.at 30 rfl), hI.had 31 _ rfl (F63.at 31 rfl), hI.had 32 _ rfl (F63.at 32 rfl), hI.had 33 _ rfl (F63.at 33 rfl), hI.had 35 _ rfl (F63.at 35 rfl), hI.had 36 _ rfl (F63.at 36 rfl), e41_, trivial⟩
        clear F63 M63
        refine nx ?_
        refine wpIn_cond_true (F64.ev 41 rfl) ?_
        refine wpIn_seq ?_
        refine wpIn_region_round (by kernel_rfl) (fun _ _ h => h) ?_
        refine sr (v := (.agg #[.slice none 0 0])) F64 (run_blt (vs := #[]) (cs := #[.slice none 0 0]) rfl (by simp) (by kernel_rfl)) rfl rfl rfl fun a65 F65 => ?_
        refine sqStore (i := 8) F65 M64 rfl rfl rfl (F65.ev 4 rfl) (F65.ev 42 rfl) rfl szKy rfl rfl (arr_one rfl) fun a66 w65 F66 M65 => ?_
        refine sqStoreV (i := 7) (cs := #[.int .i64 21]) F66 M65 rfl rfl rfl (F66.ev 5 rfl) rfl rfl rfl szErr rfl rfl (arr_one rfl) fun a67 w66 hgr66 F67 M66 => ?_
        refine sn ?_
        clear F64 F65 F66 M64 M65
        refine wpIn_ret ?_
        refine nxRet ?_
        refine bkRet ?_
        refine round_ret (i := 2) M66 rfl fun w99 M99 => .inr ⟨rfl, .inl ⟨⟨i, e, he, hbad⟩, M99.sub (.cons _ (.cons _ (.cons_cons _ (.cons_cons _ (.cons _ (.cons _ (.cons _ (.cons_cons _ (.cons_cons _ (.cons _ .slnil))))))))))⟩⟩
    · rintro ee W2 ⟨hu, hX⟩
      refine ⟨hu, ?_⟩
      rcases hX with ⟨⟨q, e, he, hne⟩, hX⟩ | ⟨hall, hX⟩
      · have hs : opnS E l = ([], 21) := by
          rw [hs0, opnK_bad he hne]
        refine range_left (i := 0) hX rfl fun w90 M90 => ?_
        have F90 := frMark (d := dd) F27
        refine wp_ret ?_
        refine bkRet ?_
        refine nxRet ?_
        refine retVK (j := 1) F90 M90 rfl fun w9 M9 hgr9 => ⟨(results_LL F90 rfl rfl rfl (loadVar_all (M9.at 3 rfl) Tryd.underlying30 rfl szKy rfl) (loadVar_one (M9.at 2 rfl) (by kernel_rfl)) ), ?_⟩
        exact ⟨_, rfl, by rw [hs]; exact ⟨_, _, rfl, ⟨_, rfl, ⟨rfl, .inl ⟨rfl, rfl⟩⟩⟩, rfl⟩, M9.below⟩
      · have hs : opnS E l = (allS E k, 0) := by
          rw [hs0, opnK, if_pos hall]
        refine range_left (i := 0) hX rfl fun w90 M90 => ?_
        have F90 := frMark (d := dd) F27
        refine wp_exit ?_
        refine bkHere ?_
        refine nx ?_
        refine wsl ?_
        refine sr F90 (run_ld1 rfl (F90.ev 8 rfl) (M90.at 2 rfl) (by kernel_rfl)) rfl rfl rfl fun a91 F91 => ?_
        refine sr (v := (.agg #[.slice (some ⟨g6, 0, none⟩) E.length E.length])) F91 (run_blt (vs := #[(0, .slice (some ⟨g6, 0, none⟩) E.length E.length)]) (cs := #[.slice (some ⟨g6, 0, none⟩) E.length E.length]) rfl (bltE1 (F91.ev 68 rfl)) (by kernel_rfl)) rfl rfl rfl fun a92 F92 => ?_
        refine sqStore (i := 5) F92 M90 rfl rfl rfl (F92.ev 4 rfl) (F92.ev 69 rfl) rfl szKy rfl rfl (arr_one rfl) fun a93 w91 F93 M91 => ?_
        refine sqStoreV (i := 4) (cs := #[.int .i64 0]) F93 M91 rfl rfl rfl (F93.ev 5 rfl) rfl rfl rfl szErr rfl rfl (arr_one rfl) fun a94 w92 hgr92 F94 M92 => ?_
        refine sn ?_
        clear F90 F91 F92 F93 M90 M91
        refine wp_ret ?_
        refine retVK (j := 1) F94 M92 rfl fun w9 M9 hgr9 => ⟨(results_LL F94 rfl rfl rfl (loadVar_all (M9.at 5 rfl) Tryd.underlying30 rfl szKy rfl) (loadVar_one (M9.at 4 rfl) (by kernel_rfl)) ), ?_⟩
        exact ⟨_, rfl, by rw [hs]; exact ⟨_, _, rfl, ⟨_, rfl, by have h := ownK2 (M9.at 3 rfl) (M9.ge 3 rfl) (fillS_len E k 0) (by unfold maxLen; omega); rw [fillS_all] at h; rw [allS_len]; exact h⟩, rfl⟩, M9.below⟩
theorem kopen_any (E : List Ep) (l : List Sh) (v u : Value) (w : World) (HG : Glob w) (hV : Sl w v 33 E.length (E.flatMap epF)) (hE32 : ∀ e ∈ E, e.c.length = 32) (hEw : ∀ e ∈ E, e.wr.length < 2 ^ 29) (hU : Sl w u 33 l.length (l.flatMap shareC)) (hEl : E.length < 2 ^ 36) (hll : l.length < 2 ^ 36) : Calls Tryd.prog 23 #[.agg #[v], u] w fun e w' => ∃ u, e = .returned u ∧ Kp.sat w.heap.size (.tup2 (.st (.row 23 32 ((opnS E l).1.length) ((opnS E l).1.flatMap dgC))) (.val (.int .i64 ((opnS E l).2)))) u w' ∧ Below w.heap.size w w' :=
  kopenB_any E l v u w HG hV hE32 (fun e he => Nat.le_trans (Nat.le_of_lt (hEw e he)) (by decide)) hU hEl hll
end Go.Proofs.YtconhhhggckcbaaDoor
