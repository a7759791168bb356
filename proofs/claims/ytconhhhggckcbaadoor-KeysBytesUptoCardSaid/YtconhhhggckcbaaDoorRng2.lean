/- The walk of keys.Check. Printed by gen_key15.py. -/
import Derived.Test.YtconhhhggckcbaaDoorRng1
namespace Go.Proofs.YtconhhhggckcbaaDoor
open Go.RowKit

theorem Sl.sl3 {w : World} {v : Value} {m n : Nat} {cs : List Value} (h : Sl w v m n cs) : ∃ ad n c, v = .slice ad n c := by
  obtain ⟨ad, c, h⟩ := h.len
  exact ⟨ad, n, c, h⟩
theorem szRg : (Tryd.prog.info? 27).map (·.size) = some 1 := by kernel_rfl
theorem szErr : (Tryd.prog.info? 32).map (·.size) = some 1 := by kernel_rfl
attribute [local irreducible] sealS keyedS nonceS
set_option maxRecDepth 100000 in
set_option maxHeartbeats 1000000 in
theorem kchk_any (E : List Ep) (K : List (List UInt8)) (v u : Value) (w : World) (HG : Glob w) (hV : Sl w v 33 E.length (E.flatMap epF)) (hE32 : ∀ e ∈ E, e.c.length = 32) (hU : Sl w u 32 K.length (K.flatMap dgC)) (h32 : ∀ k ∈ K, k.length = 32) (hEl : E.length < 2 ^ 36) (hKl : K.length < 2 ^ 36) : Calls Tryd.prog 21 #[.agg #[v], .agg #[u]] w fun e w' => e = .returned (.int .i64 (checkS E K)) ∧ Below w.heap.size w w' := by
  by_cases hK : K = []
  · have hl0 : K.length = 0 := by rw [hK]; rfl
    have hs : checkS E K = 1 := by unfold checkS; rw [if_pos (.inl hK)]
    refine walk_enterM Tryd.func21 rfl rfl rfl fun a0 F0 => ?_
    have M0 := Mem.new w
    refine wsl ?_
    refine sqNew (cs := #[v]) (t := 27) F0 M0 (wantedS rfl) (run_box rfl (F0.ev 0 rfl)) rfl (by decide) fun g0 a1 w1 hgg0 hb1 F1 M1 => ?_
    refine sqNew (cs := #[u]) (t := 30) F1 M1 (wantedS rfl) (run_box rfl (F1.ev 1 rfl)) rfl (by decide) fun g1 a2 w2 hgg1 hb2 F2 M2 => ?_
    refine sqNew (cs := #[.int .i64 0]) (t := 32) F2 M2 (wantedS rfl) (run_allocV (V := (.int .i64 0)) rfl (by kernel_rfl) rfl) rfl (by decide) fun g2 a3 w3 hgg2 hb3 F3 M3 => ?_
    refine sn ?_
    clear F0 F1 F2 M0 M1 M2
    refine wp_seq ?_
    refine wsl ?_
    refine sr F3 (run_fldA (m := 1) (s := 0) rfl (F3.ev 3 rfl) Tryd.underlying30 rfl rfl (by kernel_rfl) (by decide)) rfl rfl rfl fun a4 F4 => ?_
    refine sr (v := u) F4 (run_ldF rfl (F4.ev 8 rfl) (M3.at 1 rfl) rfl (by kernel_rfl)) rfl rfl rfl fun a5 F5 => ?_
    refine sr F5 (run_lenS rfl (F5.ev 9 rfl) (hU.below M3.below) rfl Tryd.underlying28) rfl rfl rfl fun a6 F6 => ?_
    refine sr (v := (.bool true)) F6 (run_eqi rfl (F6.ev 10 rfl) rfl (beq_iff_eq.2 (by omega))) rfl rfl rfl fun a7 F7 => ?_
    refine mvS F7 rfl rfl rfl rfl rfl fun a8 F8 => ?_
    refine sqSkip F8 (unwantedG F8 rfl rfl rfl rfl rfl) rfl (by decide) fun a9 F9 => ?_
    refine sqSkip F9 (unwantedG F9 rfl rfl rfl rfl rfl) rfl (by decide) fun a10 F10 => ?_
    refine sqSkip F10 (unwantedG F10 rfl rfl rfl rfl rfl) rfl (by decide) fun a11 F11 => ?_
    refine sqSkip F11 (unwantedG F11 rfl rfl rfl rfl rfl) rfl (by decide) fun a12 F12 => ?_
    refine sqSkip F12 (unwantedG F12 rfl rfl rfl rfl rfl) rfl (by decide) fun a13 F13 => ?_
    refine sqSkip F13 (unwantedG F13 rfl rfl rfl rfl rfl) rfl (by decide) fun a14 F14 => ?_
    refine sqSkip F14 (unwantedG F14 rfl rfl rfl rfl rfl) rfl (by decide) fun a15 F15 => ?_
    refine sr (v := (.bool true)) F15 (run_pick rfl (F15.ev 12 rfl) rfl (F15.ev 19 rfl)) rfl rfl rfl fun a16 F16 => ?_
    refine sn ?_
    clear F3 F4 F5 F6 F7 F8 F9 F10 F11 F12 F13 F14 F15
    refine wp_cond_true (F16.ev 20 rfl) ?_
    refine wsl ?_
    refine sqStoreV (i := 0) (cs := #[.int .i64 1]) F16 M3 rfl rfl rfl (F16.ev 4 rfl) rfl rfl rfl szErr rfl rfl (arr_one rfl) fun a17 w4 hgr4 F17 M4 => ?_
    refine sn ?_
    clear F16 M3
    refine wp_ret ?_
    refine nxRet ?_
    exact retVM F17 (results_L F17 rfl rfl (loadVar_one (M4.at 0 rfl) (by kernel_rfl)) ) ⟨by rw [hs], M4.below⟩
  have hl0 : 0 < K.length := List.length_pos_iff.2 hK
  by_cases hl : K.length = E.length
  · have hcond : ¬ (K = [] ∨ K.length ≠ E.length) := by
      rintro (h | h)
      · exact hK h
      · exact h hl
    refine walk_enterM Tryd.func21 rfl rfl rfl fun a0 F0 => ?_
    have M0 := Mem.new w
    refine wsl ?_
    refine sqNew (cs := #[v]) (t := 27) F0 M0 (wantedS rfl) (run_box rfl (F0.ev 0 rfl)) rfl (by decide) fun g0 a1 w1 hgg0 hb1 F1 M1 => ?_
    refine sqNew (cs := #[u]) (t := 30) F1 M1 (wantedS rfl) (run_box rfl (F1.ev 1 rfl)) rfl (by decide) fun g1 a2 w2 hgg1 hb2 F2 M2 => ?_
    refine sqNew (cs := #[.int .i64 0]) (t := 32) F2 M2 (wantedS rfl) (run_allocV (V := (.int .i64 0)) rfl (by kernel_rfl) rfl) rfl (by decide) fun g2 a3 w3 hgg2 hb3 F3 M3 => ?_
    refine sn ?_
    clear F0 F1 F2 M0 M1 M2
    refine wp_seq ?_
    refine wsl ?_
    refine sr F3 (run_fldA (m := 1) (s := 0) rfl (F3.ev 3 rfl) Tryd.underlying30 rfl rfl (by kernel_rfl) (by decide)) rfl rfl rfl fun a4 F4 => ?_
    refine sr (v := u) F4 (run_ldF rfl (F4.ev 8 rfl) (M3.at 1 rfl) rfl (by kernel_rfl)) rfl rfl rfl fun a5 F5 => ?_
    refine sr F5 (run_lenS rfl (F5.ev 9 rfl) (hU.below M3.below) rfl Tryd.underlying28) rfl rfl rfl fun a6 F6 => ?_
    refine sr (v := (.bool false)) F6 (run_eqi rfl (F6.ev 10 rfl) rfl (beq_eq_false_iff_ne.2 (by omega))) rfl rfl rfl fun a7 F7 => ?_
    refine mvS F7 rfl rfl rfl rfl rfl fun a8 F8 => ?_
    refine sq (v := (.pointer (some ⟨g1, 0, none⟩))) F8 (wantedG F8 rfl rfl rfl rfl rfl) (run_fldA (m := 1) (s := 0) rfl (F8.ev 3 rfl) Tryd.underlying30 rfl rfl (by kernel_rfl) (by decide)) rfl (by decide) fun a9 F9 => ?_
    refine sq (v := u) F9 (wantedG F9 rfl rfl rfl rfl rfl) (run_ldF rfl (F9.ev 13 rfl) (M3.at 1 rfl) rfl (by kernel_rfl)) rfl (by decide) fun a10 F10 => ?_
    refine sq (v := (.int .i64 (K.length : Int))) F10 (wantedG F10 rfl rfl rfl rfl rfl) (run_lenS rfl (F10.ev 14 rfl) (hU.below M3.below) rfl Tryd.underlying28) rfl (by decide) fun a11 F11 => ?_
    refine sq (v := (.pointer (some ⟨g0, 0, none⟩))) F11 (wantedG F11 rfl rfl rfl rfl rfl) (run_fldA (m := 1) (s := 0) rfl (F11.ev 2 rfl) Tryd.underlying27 rfl rfl (by kernel_rfl) (by decide)) rfl (by decide) fun a12 F12 => ?_
    refine sq (v := v) F12 (wantedG F12 rfl rfl rfl rfl rfl) (run_ldF rfl (F12.ev 16 rfl) (M3.at 2 rfl) rfl (by kernel_rfl)) rfl (by decide) fun a13 F13 => ?_
    refine sq (v := (.int .i64 (E.length : Int))) F13 (wantedG F13 rfl rfl rfl rfl rfl) (run_lenS rfl (F13.ev 17 rfl) (hV.below M3.below) rfl Tryd.underlying25) rfl (by decide) fun a14 F14 => ?_
    refine sq (v := (.bool false)) F14 (wantedG F14 rfl rfl rfl rfl rfl) (run_nei rfl (F14.ev 15 rfl) (F14.ev 18 rfl) (bne_eq_false_iff_eq.2 (by omega))) rfl (by decide) fun a15 F15 => ?_
    refine sr (v := (.bool false)) F15 (run_pick rfl (F15.ev 12 rfl) rfl (F15.ev 19 rfl)) rfl rfl rfl fun a16 F16 => ?_
    refine sn ?_
    clear F3 F4 F5 F6 F7 F8 F9 F10 F11 F12 F13 F14 F15
    refine cfs (F16.ev 20 rfl) ?_
    refine wp_seq ?_
    refine wsl ?_
    refine sr F16 (run_fldA (m := 1) (s := 0) rfl (F16.ev 2 rfl) Tryd.underlying27 rfl rfl (by kernel_rfl) (by decide)) rfl rfl rfl fun a17 F17 => ?_
    refine sr (v := v) F17 (run_ldF rfl (F17.ev 21 rfl) (M3.at 2 rfl) rfl (by kernel_rfl)) rfl rfl rfl fun a18 F18 => ?_
    refine sqT (T := fun u wx => ∃ g, u = .func (.func 72) #[] #[.pointer (some ⟨g, 0, none⟩)] ∧ w3.heap.size ≤ g ∧ Blk wx g 25 #[v] ∧ Below w3.heap.size w3 wx) F18 (wantedS rfl) (run_call rfl Tryd.func46 (by kernel_rfl) rfl (mapE1 (F18.ev 22 rfl))) rfl (by decide) (behindE_any v w3 (hV.below M3.below).sl3) fun u3 a19 w4 hT4 F19 => ?_
    obtain ⟨gk, rfl, hggk, hBgk, hb4⟩ := hT4
    have M4 := M3.add hb4 hggk hBgk
    refine sn ?_
    clear F16 F17 F18 M3
    refine wp_block ?_
    refine wkRange (gf := 72) (lb := #[.pointer (some ⟨gk, 0, none⟩)]) (F19.ev 23 rfl) (enters_f Tryd.func72 (by kernel_rfl) rfl) M4 fun rc dd lp W1 hrec hdd hlp hb1 M1 => ?_
    have hM1p := M1.perm (perm3 _ _ _ _)
    refine (behindE1_any E hE32 v lp gk w W1 hV hEl (fun i => [(lp, isO (.loop rc)), (dd, isO (.deferred (some []))), (g2, isB 32 (#[.int .i64 0])), (g1, isB 30 (#[u])), (g0, isB 27 (#[v]))]) hM1p (fun W => (∃ (q : Nat) (e : Ep), E[q]? = some e ∧ e ≠ epAt K q ∧ Mem w [(gk, isB 25 (#[v])), (lp, isO (.loop (leftR rc .ret))), (dd, isO (.deferred (some []))), (g2, isB 32 (#[.int .i64 21])), (g1, isB 30 (#[u])), (g0, isB 27 (#[v]))] W) ∨ ((∀ q, q < E.length → E[q]? = some (epAt K q)) ∧ Mem w [(gk, isB 25 (#[v])), (lp, isO (.loop rc)), (dd, isO (.deferred (some []))), (g2, isB 32 (#[.int .i64 0])), (g1, isB 30 (#[u])), (g0, isB 27 (#[v]))] W)) (fun i => ∀ q, i ≤ q → q < E.length → E[q]? = some (epAt K q)) (fun q h1 h2 => by omega) (fun W hok hM => .inr ⟨fun q h => hok q (Nat.zero_le _) h, hM⟩) ?_).mono ?_
    · intro i e W he hok hMW
      refine yieldW2 hrec (hMW.obj 1 rfl) F19 (by decide) (by decide) fun b0 F60 => ?_
      have M60 := hMW
      have hLe := hE32 e (List.mem_of_getElem? he)
      have hie := (List.getElem?_eq_some_iff.1 he).1
      obtain ⟨k, hk⟩ : ∃ k, K[i]? = some k := ⟨K[i]'(by omega), List.getElem?_eq_getElem (by omega)⟩
      have hLk := h32 k (List.mem_of_getElem? hk)
      refine wpIn_seq ?_
      refine wpIn_region_round (by kernel_rfl) (fun _ _ h => h) ?_
      refine asS F60 rfl rfl rfl rfl rfl fun a61 F61 => ?_
      refine sn ?_
      clear F60
      refine wpIn_region_round (by kernel_rfl) (fun _ _ h => h) ?_
      refine sqNew (cs := (epC ⟨List.replicate 32 0, []⟩)) (t := 76) F61 M60 (wantedS rfl) (run_alloc rfl (by kernel_rfl)) rfl (by decide) fun g60 a62 w61 hgg60 hb61 F62 M61 => ?_
      refine sqStore (i := 0) F62 M61 rfl rfl rfl (F62.ev 6 rfl) (F62.ev 25 rfl) rfl szEp (epC_size (e := e) hLe) (epC_size (e := ⟨List.replicate 32 0, []⟩) List.length_replicate) (epC_one e) fun a63 w62 F63 M62 => ?_
      refine sn ?_
      clear F61 F62 M60 M61
      refine begin_round (i := 2) M62 rfl hrec.state fun w63 M63 => ?_
      refine wpIn_block ?_
      refine wpIn_seq ?_
      refine wpIn_region_round (by kernel_rfl) (fun _ _ h => h) ?_
      refine sr F63 (run_fldA (m := 1) (s := 0) rfl (F63.ev 3 rfl) Tryd.underlying30 rfl rfl (by kernel_rfl) (by decide)) rfl rfl rfl fun a64 F64 => ?_
      refine sr (v := u) F64 (run_ldF rfl (F64.ev 26 rfl) (M63.at 5 rfl) rfl (by kernel_rfl)) rfl rfl rfl fun a65 F65 => ?_
      refine mvS F65 rfl rfl rfl rfl rfl fun a66 F66 => ?_
      refine sr (v := (slPtr u (i * 32))) F66 (run_atP (i := i) rfl (F66.ev 27 rfl) (F66.ev 28 rfl) rfl (hU.below M63.below) (by omega) elKey.un (by kernel_rfl)) rfl rfl rfl fun a67 F67 => ?_
      refine sr (v := (.agg (cells8 k))) F67 (ldKey hLk (run_ldPS (ys := dgC k) rfl (F67.ev 29 rfl) (hU.below M63.below) (by omega) (fun j u hj => flat_at dgC_len hk j hj) (by kernel_rfl) (by kernel_rfl))) rfl rfl rfl fun a68 F68 => ?_
      refine sqC (v := (.agg (cells8 (keyedS k [99, 104, 101, 99, 107])))) F68 M63 (wantedS rfl) (run_call rfl Tryd.func39 (by kernel_rfl) rfl (mapE1 (F68.ev 30 rfl))) rfl (by decide) (kcheck_any k w63 (HG.below M63.below) hLk) fun a69 w64 hb64 F69 M64 => ?_
      refine sr (v := (.agg (epC (⟨keyedS k [99, 104, 101, 99, 107], []⟩)))) F69 (run_blt (vs := #[(0, .agg (cells8 (keyedS k [99, 104, 101, 99, 107])))]) (cs := epC ⟨keyedS k [99, 104, 101, 99, 107], []⟩) rfl (bltE1 (F69.ev 31 rfl)) (built_ep1 _ (keyedS_len _ _))) rfl rfl rfl fun a70 F70 => ?_
      refine sqNew (cs := (epC ⟨List.replicate 32 0, []⟩)) (t := 76) F70 M64 (wantedS rfl) (run_alloc rfl (by kernel_rfl)) rfl (by decide) fun g61 a71 w65 hgg61 hb65 F71 M65 => ?_
      refine sqStore (i := 0) F71 M65 rfl rfl rfl (F71.ev 7 rfl) (F71.ev 32 rfl) rfl szEp (epC_size (e := ⟨keyedS k [99, 104, 101, 99, 107], []⟩) (keyedS_len _ _)) (epC_size (e := ⟨List.replicate 32 0, []⟩) List.length_replicate) (epC_one (⟨keyedS k [99, 104, 101, 99, 107], []⟩)) fun a72 w66 F72 M66 => ?_
      refine sn ?_
      clear F63 F64 F65 F66 F67 F68 F69 F70 F71 M63 M64 M65
      refine wpIn_seq ?_
      refine wpIn_seq ?_
      rcases Nat.eq_zero_or_pos i with hi0 | hi0
      · have hat : epAt K i = ⟨keyedS k checkT, []⟩ := by
          unfold epAt
          rw [if_pos hi0, List.getD_eq_getElem?_getD, ← hi0, hk]; rfl
        refine wpIn_region_round (by kernel_rfl) (fun _ _ h => h) ?_
        refine mvS F72 rfl rfl rfl rfl rfl fun a73 F73 => ?_
        refine sr (v := (.bool false)) F73 (run_gtr rfl (F73.ev 33 rfl) rfl (decide_eq_false (by omega))) rfl rfl rfl fun a74 F74 => ?_
        refine sn ?_
        clear F72 F73
        refine wpIn_cond_false (F74.ev 34 rfl) ?_
        refine wpIn_skip ?_
        refine nx ?_
        refine wpIn_seq ?_
        by_cases heq : e = epAt K i
        · skip
          refine wpIn_region_round (by kernel_rfl) (fun _ _ h => h) ?_
          refine sr F74 (run_ldB rfl (F74.ev 6 rfl) (M66.at 1 rfl) Tryd.underlying76 rfl szEp (epC_size (e := e) hLe)) rfl rfl rfl fun a75 F75 => ?_
          refine sr F75 (run_ldB rfl (F75.ev 7 rfl) (M66.at 0 rfl) Tryd.underlying76 rfl szEp (epC_size (e := ⟨keyedS k [99, 104, 101, 99, 107], []⟩) (keyedS_len _ _))) rfl rfl rfl fun a76 F76 => ?_
          refine sr (v := (.bool false)) F76 (run_neEp hLe (keyedS_len _ _) (by rw [← hat, decide_eq_true heq]; rfl) rfl (F76.ev 47 rfl) (F76.ev 48 rfl)) rfl rfl rfl fun a77 F77 => ?_
          refine sn ?_
          clear F74 F75 F76
          refine wpIn_cond_false (F77.ev 49 rfl) ?_
          refine wpIn_skip ?_
          refine bkEnd ?_
          refine round_on (i := 3) M66 rfl hrec.state hrec.pending fun w99 M99 => .inl ⟨rfl, fun q h1 h2 => ?_, M99.sub (.cons _ (.cons _ (.cons_cons _ (.cons_cons _ (.cons_cons _ (.cons_cons _ (.cons_cons _ (.cons_cons _ .slnil))))))))⟩
          rcases Nat.eq_or_lt_of_le h1 with rfl | h1
          · rw [he, heq]
          · exact hok q h1 h2
        · skip
          refine wpIn_region_round (by kernel_rfl) (fun _ _ h => h) ?_
          refine sr F74 (run_ldB rfl (F74.ev 6 rfl) (M66.at 1 rfl) Tryd.underlying76 rfl szEp (epC_size (e := e) hLe)) rfl rfl rfl fun a75 F75 => ?_
          refine sr F75 (run_ldB rfl (F75.ev 7 rfl) (M66.at 0 rfl) Tryd.underlying76 rfl szEp (epC_size (e := ⟨keyedS k [99, 104, 101, 99, 107], []⟩) (keyedS_len _ _))) rfl rfl rfl fun a76 F76 => ?_
          refine sr (v := (.bool true)) F76 (run_neEp hLe (keyedS_len _ _) (by rw [← hat, decide_eq_false heq]; rfl) rfl (F76.ev 47 rfl) (F76.ev 48 rfl)) rfl rfl rfl fun a77 F77 => ?_
          refine sn ?_
          clear F74 F75 F76
          refine wpIn_cond_true (F77.ev 49 rfl) ?_
          refine wpIn_seq ?_
          refine wpIn_region_round (by kernel_rfl) (fun _ _ h => h) ?_
          refine sqStoreV (i := 5) (cs := #[.int .i64 21]) F77 M66 rfl rfl rfl (F77.ev 4 rfl) rfl rfl rfl szErr rfl rfl (arr_one rfl) fun a78 w67 hgr67 F78 M67 => ?_
          refine sn ?_
          clear F77 M66
          refine wpIn_ret ?_
          refine bkRet ?_
          refine round_ret (i := 3) M67 rfl fun w99 M99 => .inr ⟨rfl, .inl ⟨i, e, he, heq, M99.sub (.cons _ (.cons _ (.cons_cons _ (.cons_cons _ (.cons_cons _ (.cons_cons _ (.cons_cons _ (.cons_cons _ .slnil))))))))⟩⟩
      · obtain ⟨j, hij⟩ : ∃ j, j + 1 = i := ⟨i - 1, by omega⟩
        obtain ⟨k2, hk2⟩ : ∃ k, K[j]? = some k := ⟨K[j]'(by omega), List.getElem?_eq_getElem (by omega)⟩
        have hLk2 := h32 k2 (List.mem_of_getElem? hk2)
        have hat : epAt K i = epS k k2 := by
          unfold epAt
          rw [if_neg (by omega), List.getD_eq_getElem?_getD, List.getD_eq_getElem?_getD, hk, show i - 1 = j by omega, hk2]; rfl
        refine wpIn_region_round (by kernel_rfl) (fun _ _ h => h) ?_
        refine mvS F72 rfl rfl rfl rfl rfl fun a73 F73 => ?_
        refine sr (v := (.bool true)) F73 (run_gtr rfl (F73.ev 33 rfl) rfl (decide_eq_true (by omega))) rfl rfl rfl fun a74 F74 => ?_
        refine sn ?_
        clear F72 F73
        refine wpIn_cond_true (F74.ev 34 rfl) ?_
        have hMs := M66.sub (.cons _ (.cons_cons _ (.cons_cons _ (.cons_cons _ (.cons_cons _ (.cons_cons _ (.cons_cons _ (.cons_cons _ .slnil))))))))
        have hfM : ∀ xq ∈ [(g60, isB 76 (epC e)), (gk, isB 25 (#[v])), (lp, isO (.loop (busyR rc))), (dd, isO (.deferred (some []))), (g2, isB 32 (#[.int .i64 0])), (g1, isB 30 (#[u])), (g0, isB 27 (#[v]))], xq.1 ∉ [g61] := by
          intro xq hx hg
          simp only [List.mem_cons, List.not_mem_nil, or_false] at hx hg
          rcases hx with rfl | rfl | rfl | rfl | rfl | rfl | rfl <;> rcases hg with hg <;> first | exact absurd hg (setAt_ne M66.nd (i := 1) (j := 0) rfl rfl (by decide)) | exact absurd hg (setAt_ne M66.nd (i := 2) (j := 0) rfl rfl (by decide)) | exact absurd hg (setAt_ne M66.nd (i := 3) (j := 0) rfl rfl (by decide)) | exact absurd hg (setAt_ne M66.nd (i := 4) (j := 0) rfl rfl (by decide)) | exact absurd hg (setAt_ne M66.nd (i := 5) (j := 0) rfl rfl (by decide)) | exact absurd hg (setAt_ne M66.nd (i := 6) (j := 0) rfl rfl (by decide)) | exact absurd hg (setAt_ne M66.nd (i := 7) (j := 0) rfl rfl (by decide))
        have hfG : ∀ gq ∈ [g61], w.heap.size ≤ gq := by
          intro gq hg
          simp only [List.mem_cons, List.not_mem_nil, or_false] at hg
          rcases hg with rfl
          · exact M66.ge 0 rfl
        refine wpIn_region_p 50 [.val (.pointer (some ⟨g1, 0, none⟩)), .val u, .val (.int .i64 (i : Int)), .val (slPtr u (i * 32)), .val (.agg (cells8 k)), .val (.pointer (some ⟨g1, 0, none⟩)), .val u, .val (.int .i64 (i : Int)), .val (.int .i64 (j : Int)), .val (slPtr u (j * 32)), .val (.agg (cells8 k2)), .val (.agg (epC (epS k k2))), .any] [] [] [⟨12, g61, 76, (epC (⟨keyedS k [99, 104, 101, 99, 107], []⟩)), .val (.agg (epC (epS k k2)))⟩] [] (by kernel_rfl) (by kernel_rfl) (by kernel_rfl) F74.size ?_ ?_ ?_ ?_ (by kernel_rfl) ?_ fun a75 w67 gs hI => ?_
        · intro d hd
          cases hd
        · intro b hb
          simp only [List.mem_cons, List.not_mem_nil, or_false] at hb
          rcases hb with rfl
          · exact ⟨Nat.le_of_ble_eq_true (by kernel_rfl), M66.at 0 rfl⟩
        · intro x y b c hx hy hne
          rcases x with _ | x <;> rcases y with _ | y <;> simp at hx hy hne
        · intro r hr
          cases hr
        · refine ⟨?_, ?_, ?_, ?_, ?_, ?_, ?_, ?_, ?_, ?_, ?_, ?_, ?_, trivial⟩
          · refine .val 35 rfl (by simp) (by simp) (by simp) fun a W hK hh hd => ⟨wanted_yes rfl, ?_⟩
            exact givz_run (run_fldA (m := 1) (s := 0) rfl (eval_tmp (hh 3 _ rfl (F74.at 3 rfl))) Tryd.underlying30 rfl rfl (by kernel_rfl) (by decide)) rfl
          · refine .val 36 rfl (by simp) (by simp) (by simp) fun a W hK hh hd => ⟨wanted_yes rfl, ?_⟩
            exact givz_run (run_ldF rfl (eval_tmp (hd.valz (j := 0) (s := 35) (by kernel_rfl) (by simp) rfl rfl)) ((hMs.keepW hK hfM hfG).at 5 rfl) rfl (by kernel_rfl)) rfl
          · refine .val 37 rfl (by simp) (by simp) (by simp) fun a W hK hh hd => ⟨wanted_yes rfl, ?_⟩
            exact givz_run (run_mv rfl (eval_tmp (hh 5 _ rfl (F74.at 5 rfl)))) rfl
          · refine .val 38 rfl (by simp) (by simp) (by simp) fun a W hK hh hd => ⟨wanted_yes rfl, ?_⟩
            exact givz_run (run_atP (i := i) rfl (eval_tmp (hd.valz (j := 1) (s := 36) (by kernel_rfl) (by simp) rfl rfl)) (eval_tmp (hd.valz (j := 2) (s := 37) (by kernel_rfl) (by simp) rfl rfl)) rfl (hU.below (hMs.keepW hK hfM hfG).below) (by omega) elKey.un (by kernel_rfl)) rfl
          · refine .val 39 rfl (by simp) (by simp) (by simp) fun a W hK hh hd => ⟨wanted_yes rfl, ?_⟩
            exact givz_run (ldKey hLk (run_ldPS (ys := dgC k) rfl (eval_tmp (hd.valz (j := 3) (s := 38) (by kernel_rfl) (by simp) rfl rfl)) (hU.below (hMs.keepW hK hfM hfG).below) (by omega) (fun j u hj => flat_at dgC_len hk j hj) (by kernel_rfl) (by kernel_rfl))) rfl
          · refine .val 40 rfl (by simp) (by simp) (by simp) fun a W hK hh hd => ⟨wanted_yes rfl, ?_⟩
            exact givz_run (run_fldA (m := 1) (s := 0) rfl (eval_tmp (hh 3 _ rfl (F74.at 3 rfl))) Tryd.underlying30 rfl rfl (by kernel_rfl) (by decide)) rfl
          · refine .val 41 rfl (by simp) (by simp) (by simp) fun a W hK hh hd => ⟨wanted_yes rfl, ?_⟩
            exact givz_run (run_ldF rfl (eval_tmp (hd.valz (j := 5) (s := 40) (by kernel_rfl) (by simp) rfl rfl)) ((hMs.keepW hK hfM hfG).at 5 rfl) rfl (by kernel_rfl)) rfl
          · refine .val 42 rfl (by simp) (by simp) (by simp) fun a W hK hh hd => ⟨wanted_yes rfl, ?_⟩
            exact givz_run (run_mv rfl (eval_tmp (hh 5 _ rfl (F74.at 5 rfl)))) rfl
          · refine .val 43 rfl (by simp) (by simp) (by simp) fun a W hK hh hd => ⟨wanted_yes rfl, ?_⟩
            exact givz_run (run_sub (r := (j : Int)) rfl (eval_tmp (hd.valz (j := 7) (s := 42) (by kernel_rfl) (by simp) rfl rfl)) rfl (by rw [IntKind.wrap_i64]; omega)) rfl
          · refine .val 44 rfl (by simp) (by simp) (by simp) fun a W hK hh hd => ⟨wanted_yes rfl, ?_⟩
            exact givz_run (run_atP (i := j) rfl (eval_tmp (hd.valz (j := 6) (s := 41) (by kernel_rfl) (by simp) rfl rfl)) (eval_tmp (hd.valz (j := 8) (s := 43) (by kernel_rfl) (by simp) rfl rfl)) rfl (hU.below (hMs.keepW hK hfM hfG).below) (by omega) elKey.un (by kernel_rfl)) rfl
          · refine .val 45 rfl (by simp) (by simp) (by simp) fun a W hK hh hd => ⟨wanted_yes rfl, ?_⟩
            exact givz_run (ldKey hLk2 (run_ldPS (ys := dgC k2) rfl (eval_tmp (hd.valz (j := 9) (s := 44) (by kernel_rfl) (by simp) rfl rfl)) (hU.below (hMs.keepW hK hfM hfG).below) (by omega) (fun j u hj => flat_at dgC_len hk2 j hj) (by kernel_rfl) (by kernel_rfl))) rfl
          · refine .val 46 rfl (by simp) (by simp) (by simp) fun a W hK hh hd => ⟨wanted_yes rfl, ?_⟩
            exact givz_callV (run_call rfl Tryd.func44 (by kernel_rfl) rfl (mapE2 (eval_tmp (hd.valz (j := 4) (s := 39) (by kernel_rfl) (by simp) rfl rfl)) (eval_tmp (hd.valz (j := 10) (s := 45) (by kernel_rfl) (by simp) rfl rfl)))) (kepoch_any k k2 W (HG.below (hMs.keepW hK hfM hfG).below) hLk hLk2)
          · refine .putO 0 _ rfl rfl rfl (by simp) (fun y e hy he => by rcases y with _ | _ | y <;> simp at hy <;> (try subst hy) <;> simp at he ⊢) (by simp) 33 76 _ _ rfl (fun a hh => eval_tmp (hh 7 _ rfl (F74.at 7 rfl))) (fun a W hK hh hd => ?_) rfl szEp (epC_size (e := ⟨keyedS k [99, 104, 101, 99, 107], []⟩) (keyedS_len _ _))
            rw [show a.eval _ = _ from (eval_tmp (hd.valz (j := 11) (s := 46) (by kernel_rfl) (by simp) rfl rfl))]
            exact ⟨rfl, (epC_size (e := (epS k k2)) (keyedS_len _ _)), (epC_one (epS k k2))⟩
        have fg61z := (hI.old _ (List.mem_of_getElem? (i := 0) rfl)).2 (by kernel_rfl)
        obtain ⟨_, Bg61, rfl⟩ := fg61z
        have Bg61 : Blk w67 g61 76 (epC (epS k k2)) := Bg61
        have M67 := hMs.keepW hI.keep hfM hfG
        have M68 := M67.put1 (cs := (epC (epS k k2))) (M66.ge 0 rfl) Bg61 (fun y hy hq => hfM y hy (by rw [hq]; simp))
        have F75 : Fr a75 50 [(0, (.agg #[v])), (1, (.agg #[u])), (2, (.pointer (some ⟨g0, 0, none⟩))), (3, (.pointer (some ⟨g1, 0, none⟩))), (4, (.pointer (some ⟨g2, 0, none⟩))), (5, (.int .i64 (i : Int))), (6, (.pointer (some ⟨g60, 0, none⟩))), (7, (.pointer (some ⟨g61, 0, none⟩))), (8, (.pointer (some ⟨g1, 0, none⟩))), (9, u), (10, (.int .i64 (K.length : Int))), (11, (.bool false)), (12, (.bool false)), (13, (.pointer (some ⟨g1, 0, none⟩))), (14, u), (15, (.int .i64 (K.length : Int))), (16, (.pointer (some ⟨g0, 0, none⟩))), (17, v), (18, (.int .i64 (E.length : Int))), (19, (.bool false)), (20, (.bool false)), (21, (.pointer (some ⟨g0, 0, none⟩))), (22, v), (24, (.int .i64 (i : Int))), (25, (.agg (epC e))), (26, (.pointer (some ⟨g1, 0, none⟩))), (27, u), (28, (.int .i64 (i : Int))), (29, (slPtr u (i * 32))), (30, (.agg (cells8 k))), (31, (.agg (cells8 (keyedS k [99, 104, 101, 99, 107])))), (32, (.agg (epC (⟨keyedS k [99, 104, 101, 99, 107], []⟩)))), (33, (.int .i64 (i : Int))), (34, (.bool true))] := fr_of_holds hI.tsz (hI.defers.trans F74.defers) ⟨hI.had 0 _ rfl (F74.at 0 rfl), hI.had 1 _ rfl (F74.at 1 rfl), hI.had 2 _ rfl (F74.at 2 rfl), hI.had 3 _ rfl (F74.at 3 rfl), hI.had 4 _ rfl (F74.at 4 rfl), hI.had 5 _ rfl (F74.at 5 rfl), hI.had 6 _ rfl (F74.at 6 rfl), hI.had 7 _ rfl (F74.at 7 rfl), hI.had 8 _ rfl (F74.at 8 rfl), hI.had 9 _ rfl (F74.at 9 rfl), hI.had 10 _ rfl (F74.at 10 rfl), hI.had 11 _ rfl (F74.at 11 rfl), hI.had 12 _ rfl (F74.at 12 rfl), hI.had 13 _ rfl (F74.at 13 rfl), hI.had 14 _ rfl (F74.at 14 rfl), hI.had 15 _ rfl (F74.at 15 rfl), hI.had 16 _ rfl (F74.at 16 rfl), hI.had 17 _ rfl (F74.at 17 rfl), hI.had 18 _ rfl (F74.at 18 rfl), hI.had 19 _ rfl (F74.at 19 rfl), hI.had 20 _ rfl (F74.at 20 rfl), hI.had 21 _ rfl (F74.at 21 rfl), hI.had 22 _ rfl (F74.at 22 rfl), hI.had 24 _ rfl (F74.at 24 rfl), hI.had 25 _ rfl (F74.at 25 rfl), hI.had 26 _ rfl (F74.at 26 rfl), hI.had 27 _ rfl (F74.at 27 rfl), hI.had 28 _ rfl (F74.at 28 rfl), hI.had 29 _ rfl (F74.at 29 rfl), hI.had 30 _ rfl (F74.at 30 rfl), hI.had 31 _ rfl (F74.at 31 rfl), hI.had 32 _ rfl (F74.at 32 rfl), hI.had 33 _ rfl (F74.at 33 rfl), hI.had 34 _ rfl (F74.at 34 rfl), trivial⟩
        clear F74 M66 M67
        refine nx ?_
        refine wpIn_seq ?_
        by_cases heq : e = epAt K i
        · skip
          refine wpIn_region_round (by kernel_rfl) (fun _ _ h => h) ?_
          refine sr F75 (run_ldB rfl (F75.ev 6 rfl) (M68.at 1 rfl) Tryd.underlying76 rfl szEp (epC_size (e := e) hLe)) rfl rfl rfl fun a76 F76 => ?_
          refine sr F76 (run_ldB rfl (F76.ev 7 rfl) (M68.at 0 rfl) Tryd.underlying76 rfl szEp (epC_size (e := (epS k k2)) (keyedS_len _ _))) rfl rfl rfl fun a77 F77 => ?_
          refine sr (v := (.bool false)) F77 (run_neEp hLe (keyedS_len _ _) (by rw [← hat, decide_eq_true heq]; rfl) rfl (F77.ev 47 rfl) (F77.ev 48 rfl)) rfl rfl rfl fun a78 F78 => ?_
          refine sn ?_
          clear F75 F76 F77
          refine wpIn_cond_false (F78.ev 49 rfl) ?_
          refine wpIn_skip ?_
          refine bkEnd ?_
          refine round_on (i := 3) M68 rfl hrec.state hrec.pending fun w99 M99 => .inl ⟨rfl, fun q h1 h2 => ?_, M99.sub (.cons _ (.cons _ (.cons_cons _ (.cons_cons _ (.cons_cons _ (.cons_cons _ (.cons_cons _ (.cons_cons _ .slnil))))))))⟩
          rcases Nat.eq_or_lt_of_le h1 with rfl | h1
          · rw [he, heq]
          · exact hok q h1 h2
        · skip
          refine wpIn_region_round (by kernel_rfl) (fun _ _ h => h) ?_
          refine sr F75 (run_ldB rfl (F75.ev 6 rfl) (M68.at 1 rfl) Tryd.underlying76 rfl szEp (epC_size (e := e) hLe)) rfl rfl rfl fun a76 F76 => ?_
          refine sr F76 (run_ldB rfl (F76.ev 7 rfl) (M68.at 0 rfl) Tryd.underlying76 rfl szEp (epC_size (e := (epS k k2)) (keyedS_len _ _))) rfl rfl rfl fun a77 F77 => ?_
          refine sr (v := (.bool true)) F77 (run_neEp hLe (keyedS_len _ _) (by rw [← hat, decide_eq_false heq]; rfl) rfl (F77.ev 47 rfl) (F77.ev 48 rfl)) rfl rfl rfl fun a78 F78 => ?_
          refine sn ?_
          clear F75 F76 F77
          refine wpIn_cond_true (F78.ev 49 rfl) ?_
          refine wpIn_seq ?_
          refine wpIn_region_round (by kernel_rfl) (fun _ _ h => h) ?_
          refine sqStoreV (i := 5) (cs := #[.int .i64 21]) F78 M68 rfl rfl rfl (F78.ev 4 rfl) rfl rfl rfl szErr rfl rfl (arr_one rfl) fun a79 w68 hgr68 F79 M69 => ?_
          refine sn ?_
          clear F78 M68
          refine wpIn_ret ?_
          refine bkRet ?_
          refine round_ret (i := 3) M69 rfl fun w99 M99 => .inr ⟨rfl, .inl ⟨i, e, he, heq, M99.sub (.cons _ (.cons _ (.cons_cons _ (.cons_cons _ (.cons_cons _ (.cons_cons _ (.cons_cons _ (.cons_cons _ .slnil))))))))⟩⟩
    · rintro ee W2 ⟨hu, hX⟩
      refine ⟨hu, ?_⟩
      rcases hX with ⟨q, e, he, hne, hX⟩ | ⟨hall, hX⟩
      · have hs : checkS E K = 21 := by
          unfold checkS
          rw [if_neg hcond, if_neg (ringS_ne (by have := (List.getElem?_eq_some_iff.1 he).1; omega) he hne)]
        refine range_left (i := 1) hX rfl fun w90 M90 => ?_
        have F90 := frMark (d := dd) F19
        refine wp_ret ?_
        refine bkRet ?_
        refine nxRet ?_
        refine retVK (j := 2) F90 M90 rfl fun w9 M9 hgr9 => ⟨(results_L F90 rfl rfl (loadVar_one (M9.at 3 rfl) (by kernel_rfl)) ), ?_⟩
        exact ⟨by rw [hs], M9.below⟩
      · have hs : checkS E K = 0 := by
          unfold checkS
          rw [if_neg hcond, if_pos (ringS_eq (by omega) hall)]
        refine range_done (i := 1) hX rfl hrec.state hrec.pending fun w90 M90 => ?_
        have F90 := frMark (d := dd) F19
        refine bkEnd ?_
        refine nx ?_
        refine wsl ?_
        refine sqStoreV (i := 3) (cs := #[.int .i64 0]) F90 M90 rfl rfl rfl (F90.ev 4 rfl) rfl rfl rfl szErr rfl rfl (arr_one rfl) fun a91 w91 hgr91 F91 M91 => ?_
        refine sn ?_
        clear F90 M90
        refine wp_ret ?_
        refine retVK (j := 2) F91 M91 rfl fun w9 M9 hgr9 => ⟨(results_L F91 rfl rfl (loadVar_one (M9.at 3 rfl) (by kernel_rfl)) ), ?_⟩
        exact ⟨by rw [hs], M9.below⟩
  · have hs : checkS E K = 1 := by unfold checkS; rw [if_pos (.inr hl)]
    refine walk_enterM Tryd.func21 rfl rfl rfl fun a0 F0 => ?_
    have M0 := Mem.new w
    refine wsl ?_
    refine sqNew (cs := #[v]) (t := 27) F0 M0 (wantedS rfl) (run_box rfl (F0.ev 0 rfl)) rfl (by decide) fun g0 a1 w1 hgg0 hb1 F1 M1 => ?_
    refine sqNew (cs := #[u]) (t := 30) F1 M1 (wantedS rfl) (run_box rfl (F1.ev 1 rfl)) rfl (by decide) fun g1 a2 w2 hgg1 hb2 F2 M2 => ?_
    refine sqNew (cs := #[.int .i64 0]) (t := 32) F2 M2 (wantedS rfl) (run_allocV (V := (.int .i64 0)) rfl (by kernel_rfl) rfl) rfl (by decide) fun g2 a3 w3 hgg2 hb3 F3 M3 => ?_
    refine sn ?_
    clear F0 F1 F2 M0 M1 M2
    refine wp_seq ?_
    refine wsl ?_
    refine sr F3 (run_fldA (m := 1) (s := 0) rfl (F3.ev 3 rfl) Tryd.underlying30 rfl rfl (by kernel_rfl) (by decide)) rfl rfl rfl fun a4 F4 => ?_
    refine sr (v := u) F4 (run_ldF rfl (F4.ev 8 rfl) (M3.at 1 rfl) rfl (by kernel_rfl)) rfl rfl rfl fun a5 F5 => ?_
    refine sr F5 (run_lenS rfl (F5.ev 9 rfl) (hU.below M3.below) rfl Tryd.underlying28) rfl rfl rfl fun a6 F6 => ?_
    refine sr (v := (.bool false)) F6 (run_eqi rfl (F6.ev 10 rfl) rfl (beq_eq_false_iff_ne.2 (by omega))) rfl rfl rfl fun a7 F7 => ?_
    refine mvS F7 rfl rfl rfl rfl rfl fun a8 F8 => ?_
    refine sq (v := (.pointer (some ⟨g1, 0, none⟩))) F8 (wantedG F8 rfl rfl rfl rfl rfl) (run_fldA (m := 1) (s := 0) rfl (F8.ev 3 rfl) Tryd.underlying30 rfl rfl (by kernel_rfl) (by decide)) rfl (by decide) fun a9 F9 => ?_
    refine sq (v := u) F9 (wantedG F9 rfl rfl rfl rfl rfl) (run_ldF rfl (F9.ev 13 rfl) (M3.at 1 rfl) rfl (by kernel_rfl)) rfl (by decide) fun a10 F10 => ?_
    refine sq (v := (.int .i64 (K.length : Int))) F10 (wantedG F10 rfl rfl rfl rfl rfl) (run_lenS rfl (F10.ev 14 rfl) (hU.below M3.below) rfl Tryd.underlying28) rfl (by decide) fun a11 F11 => ?_
    refine sq (v := (.pointer (some ⟨g0, 0, none⟩))) F11 (wantedG F11 rfl rfl rfl rfl rfl) (run_fldA (m := 1) (s := 0) rfl (F11.ev 2 rfl) Tryd.underlying27 rfl rfl (by kernel_rfl) (by decide)) rfl (by decide) fun a12 F12 => ?_
    refine sq (v := v) F12 (wantedG F12 rfl rfl rfl rfl rfl) (run_ldF rfl (F12.ev 16 rfl) (M3.at 2 rfl) rfl (by kernel_rfl)) rfl (by decide) fun a13 F13 => ?_
    refine sq (v := (.int .i64 (E.length : Int))) F13 (wantedG F13 rfl rfl rfl rfl rfl) (run_lenS rfl (F13.ev 17 rfl) (hV.below M3.below) rfl Tryd.underlying25) rfl (by decide) fun a14 F14 => ?_
    refine sq (v := (.bool true)) F14 (wantedG F14 rfl rfl rfl rfl rfl) (run_nei rfl (F14.ev 15 rfl) (F14.ev 18 rfl) (bne_iff_ne.2 (by omega))) rfl (by decide) fun a15 F15 => ?_
    refine sr (v := (.bool true)) F15 (run_pick rfl (F15.ev 12 rfl) rfl (F15.ev 19 rfl)) rfl rfl rfl fun a16 F16 => ?_
    refine sn ?_
    clear F3 F4 F5 F6 F7 F8 F9 F10 F11 F12 F13 F14 F15
    refine wp_cond_true (F16.ev 20 rfl) ?_
    refine wsl ?_
    refine sqStoreV (i := 0) (cs := #[.int .i64 1]) F16 M3 rfl rfl rfl (F16.ev 4 rfl) rfl rfl rfl szErr rfl rfl (arr_one rfl) fun a17 w4 hgr4 F17 M4 => ?_
    refine sn ?_
    clear F16 M3
    refine wp_ret ?_
    refine nxRet ?_
    exact retVM F17 (results_L F17 rfl rfl (loadVar_one (M4.at 0 rfl) (by kernel_rfl)) ) ⟨by rw [hs], M4.below⟩
end Go.Proofs.YtconhhhggckcbaaDoor
