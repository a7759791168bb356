/- The walks of the reference's Check and Rotate (layer 38). Printed by gen_key26.py. -/
import Derived.Test.YtconhhhggckcbaaDoorRngA
namespace Go.Proofs.YtconhhhggckcbaaDoor
open Go.RowKit

attribute [local irreducible] sealS keyedS nonceS openS
theorem givz_app0 {P : Program} {W : World} {B : Nat} {a : Act} {o : Oper} {t e : TypeId} {size bytes g m : Nat} {news : List Value} {v : Value} {x y : Operand} (E : ElT P t e size bytes) (ho : o.op = .call { callee := .builtin .append, args := #[x, y], argTypes := #[t, t] }) (hx : a.eval x = .slice (some ⟨g, 0, none⟩) 0 0) (hg : B ≤ g) (hBg : Blk W g e #[]) (hy : a.eval y = v) (hs : Sl W v size m news) (hm : 0 < m) (hB : B ≤ W.heap.size)
    (h1 : ∀ u ∈ news, u.oneCell' = true) (h63 : m ≤ maxLen) (hbytes : m * bytes ≤ 140737488355328) : GivesT P (Below W.heap.size W) (fun v W' => (Kp.row e size (0 + m) ([] ++ news)).sat B v W') ((execOp a.eval o).run P W) := by
  obtain ⟨i, z, hi, hz, hsz, hby, hzs⟩ := E.inf
  rcases hs.2 with ⟨_, h0⟩ | ⟨b, off, c, rfl, _, hc⟩
  · omega
  · have hO : W.ownsRow B e size (.slice (some ⟨g, 0, none⟩) 0 0) 0 [] := ⟨by simp, .inr ⟨g, 0, #[], rfl, hg, hBg, Nat.le_refl _, Nat.zero_le _, by simp, by simp⟩⟩
    have hnews : ∀ j u, news[j]? = some u → W.cell? ((⟨b, off, none⟩ : Addr).add j) = some u := fun j u hj => by rw [addr_add]; exact hc j u hj
    obtain ⟨v2, w2, hr, h2, h3, h4⟩ := run_append_own (P := P) W B t o.type e i z size bytes E.un hi hz hsz hby hzs E.pos (.slice (some ⟨g, 0, none⟩) 0 0) 0 [] hO ⟨b, off, none⟩ m c news hs.1 hnews h1 (by omega) (by rw [Nat.zero_add]; exact hbytes) hB
    have hcap : Builtin.nextslicecap (0 + m) 0 = 0 + m := by
      simp only [Builtin.nextslicecap]
      simp
      try omega
    have hgw := run_append_grow (P := P) W t o.type e i z E.un hi hz ⟨g, 0, none⟩ 0 0 [] (by simp) (fun j u hj => by simp at hj) ⟨b, off, none⟩ m c news (by rw [hsz]; exact hs.1) hnews (by omega) (by unfold maxLen at h63; omega) (by rw [hcap, hby, Nat.zero_add]; omega)
    rw [hgw] at hr
    injection hr with hv hw
    have hb : Below W.heap.size W w2 := by rw [← hw]; exact (Below.refl _ _).drew.alloc (Nat.le_refl _) _
    have hr2 : (execOp a.eval o).run P W = .ok (.value v2) w2 := by
      unfold execOp
      simp only [ho, resolve, invoke, builtin, Sem.run_bind, Sem.run_pure, Result.andThen_ok, List.map_toArray, List.map_cons, List.map_nil, hx, hy, hgw]
      rw [hv, hw]
    rw [hr2]
    exact ⟨hb, h2⟩
set_option maxRecDepth 100000 in
set_option maxHeartbeats 1000000 in
theorem rchk_any (E : List Ep) (K : List (List UInt8)) (v u : Value) (w : World) (hV : Sl w v 33 E.length (E.flatMap epF)) (hE32 : ∀ e ∈ E, e.c.length = 32) (hU : Sl w u 32 K.length (K.flatMap dgC)) (h32 : ∀ k ∈ K, k.length = 32) (hcap : capOk u) (_hEl : E.length < 2 ^ 36) (hKl : K.length ≤ 65536) : Calls Tryd.prog 22 #[.agg #[v], .agg #[u]] w fun e w' => e = .returned (.int .i64 (checkS E K)) ∧ Below w.heap.size w w' := by
  by_cases hl : E.length = K.length
  · by_cases hK : K = []
    · have hl0 : K.length = 0 := by rw [hK]; rfl
      have hs : checkS E K = 1 := by unfold checkS; rw [if_pos (.inl hK)]
      refine walk_enter Tryd.func22 rfl rfl rfl fun a0 F0 => ?_
      have M0 := Mem.new w
      refine wsl ?_
      refine sqNew (cs := #[v]) (t := 27) F0 M0 (wantedS rfl) (run_box rfl (F0.ev 0 rfl)) rfl (by decide) fun g0 a1 w1 hgg0 hb1 F1 M1 => ?_
      refine sqNew (cs := #[u]) (t := 30) F1 M1 (wantedS rfl) (run_box rfl (F1.ev 1 rfl)) rfl (by decide) fun g1 a2 w2 hgg1 hb2 F2 M2 => ?_
      refine sr (v := (.int .i64 0)) F2 (run_as rfl rfl) rfl rfl rfl fun a3 F3 => ?_
      refine sn ?_
      clear F0 F1 F2 M0 M1
      refine wp_seq ?_
      refine wsl ?_
      refine sr F3 (run_fldA (m := 1) (s := 0) rfl (F3.ev 2 rfl) Tryd.underlying27 rfl rfl (by kernel_rfl) (by decide)) rfl rfl rfl fun a4 F4 => ?_
      refine sr (v := v) F4 (run_ldF rfl (F4.ev 6 rfl) (M2.at 1 rfl) rfl (by kernel_rfl)) rfl rfl rfl fun a5 F5 => ?_
      refine sr F5 (run_lenS rfl (F5.ev 7 rfl) (hV.below M2.below) rfl Tryd.underlying25) rfl rfl rfl fun a6 F6 => ?_
      refine sr F6 (run_fldA (m := 1) (s := 0) rfl (F6.ev 3 rfl) Tryd.underlying30 rfl rfl (by kernel_rfl) (by decide)) rfl rfl rfl fun a7 F7 => ?_
      refine sr (v := u) F7 (run_ldF rfl (F7.ev 9 rfl) (M2.at 0 rfl) rfl (by kernel_rfl)) rfl rfl rfl fun a8 F8 => ?_
      refine sr F8 (run_lenS rfl (F8.ev 10 rfl) (hU.below M2.below) rfl Tryd.underlying28) rfl rfl rfl fun a9 F9 => ?_
      refine sr (v := (.bool false)) F9 (run_nei rfl (F9.ev 8 rfl) (F9.ev 11 rfl) (bne_eq_false_iff_eq.2 (by omega))) rfl rfl rfl fun a10 F10 => ?_
      refine mvS F10 rfl rfl rfl rfl rfl fun a11 F11 => ?_
      refine sq (v := (.pointer (some ⟨g1, 0, none⟩))) F11 (wantedG F11 rfl rfl rfl rfl rfl) (run_fldA (m := 1) (s := 0) rfl (F11.ev 3 rfl) Tryd.underlying30 rfl rfl (by kernel_rfl) (by decide)) rfl (by decide) fun a12 F12 => ?_
      refine sq (v := u) F12 (wantedG F12 rfl rfl rfl rfl rfl) (run_ldF rfl (F12.ev 14 rfl) (M2.at 0 rfl) rfl (by kernel_rfl)) rfl (by decide) fun a13 F13 => ?_
      refine sq (v := (.int .i64 (K.length : Int))) F13 (wantedG F13 rfl rfl rfl rfl rfl) (run_lenS rfl (F13.ev 15 rfl) (hU.below M2.below) rfl Tryd.underlying28) rfl (by decide) fun a14 F14 => ?_
      refine sq (v := (.bool true)) F14 (wantedG F14 rfl rfl rfl rfl rfl) (run_eqi rfl (F14.ev 16 rfl) rfl (beq_iff_eq.2 (by omega))) rfl (by decide) fun a15 F15 => ?_
      refine sr (v := (.bool true)) F15 (run_pick rfl (F15.ev 13 rfl) rfl (F15.ev 17 rfl)) rfl rfl rfl fun a16 F16 => ?_
      refine sn ?_
      clear F3 F4 F5 F6 F7 F8 F9 F10 F11 F12 F13 F14 F15
      refine wp_cond_true (F16.ev 18 rfl) ?_
      refine wsl ?_
      refine sr (v := (.int .i64 1)) F16 (run_as rfl rfl) rfl rfl rfl fun a17 F17 => ?_
      refine sn ?_
      clear F16
      refine wp_ret ?_
      refine nxRet ?_
      exact ret1 F17 rfl rfl ⟨by rw [hs], M2.below⟩
    have hl0 : 0 < K.length := List.length_pos_iff.2 hK
    have hcond : ¬ (K = [] ∨ K.length ≠ E.length) := by
      rintro (h | h)
      · exact hK h
      · exact h hl.symm
    refine walk_enter Tryd.func22 rfl rfl rfl fun a0 F0 => ?_
    have M0 := Mem.new w
    refine wsl ?_
    refine sqNew (cs := #[v]) (t := 27) F0 M0 (wantedS rfl) (run_box rfl (F0.ev 0 rfl)) rfl (by decide) fun g0 a1 w1 hgg0 hb1 F1 M1 => ?_
    refine sqNew (cs := #[u]) (t := 30) F1 M1 (wantedS rfl) (run_box rfl (F1.ev 1 rfl)) rfl (by decide) fun g1 a2 w2 hgg1 hb2 F2 M2 => ?_
    refine sr (v := (.int .i64 0)) F2 (run_as rfl rfl) rfl rfl rfl fun a3 F3 => ?_
    refine sn ?_
    clear F0 F1 F2 M0 M1
    refine wp_seq ?_
    refine wsl ?_
    refine sr F3 (run_fldA (m := 1) (s := 0) rfl (F3.ev 2 rfl) Tryd.underlying27 rfl rfl (by kernel_rfl) (by decide)) rfl rfl rfl fun a4 F4 => ?_
    refine sr (v := v) F4 (run_ldF rfl (F4.ev 6 rfl) (M2.at 1 rfl) rfl (by kernel_rfl)) rfl rfl rfl fun a5 F5 => ?_
    refine sr F5 (run_lenS rfl (F5.ev 7 rfl) (hV.below M2.below) rfl Tryd.underlying25) rfl rfl rfl fun a6 F6 => ?_
    refine sr F6 (run_fldA (m := 1) (s := 0) rfl (F6.ev 3 rfl) Tryd.underlying30 rfl rfl (by kernel_rfl) (by decide)) rfl rfl rfl fun a7 F7 => ?_
    refine sr (v := u) F7 (run_ldF rfl (F7.ev 9 rfl) (M2.at 0 rfl) rfl (by kernel_rfl)) rfl rfl rfl fun a8 F8 => ?_
    refine sr F8 (run_lenS rfl (F8.ev 10 rfl) (hU.below M2.below) rfl Tryd.underlying28) rfl rfl rfl fun a9 F9 => ?_
    refine sr (v := (.bool false)) F9 (run_nei rfl (F9.ev 8 rfl) (F9.ev 11 rfl) (bne_eq_false_iff_eq.2 (by omega))) rfl rfl rfl fun a10 F10 => ?_
    refine mvS F10 rfl rfl rfl rfl rfl fun a11 F11 => ?_
    refine sq (v := (.pointer (some ⟨g1, 0, none⟩))) F11 (wantedG F11 rfl rfl rfl rfl rfl) (run_fldA (m := 1) (s := 0) rfl (F11.ev 3 rfl) Tryd.underlying30 rfl rfl (by kernel_rfl) (by decide)) rfl (by decide) fun a12 F12 => ?_
    refine sq (v := u) F12 (wantedG F12 rfl rfl rfl rfl rfl) (run_ldF rfl (F12.ev 14 rfl) (M2.at 0 rfl) rfl (by kernel_rfl)) rfl (by decide) fun a13 F13 => ?_
    refine sq (v := (.int .i64 (K.length : Int))) F13 (wantedG F13 rfl rfl rfl rfl rfl) (run_lenS rfl (F13.ev 15 rfl) (hU.below M2.below) rfl Tryd.underlying28) rfl (by decide) fun a14 F14 => ?_
    refine sq (v := (.bool false)) F14 (wantedG F14 rfl rfl rfl rfl rfl) (run_eqi rfl (F14.ev 16 rfl) rfl (beq_eq_false_iff_ne.2 (by omega))) rfl (by decide) fun a15 F15 => ?_
    refine sr (v := (.bool false)) F15 (run_pick rfl (F15.ev 13 rfl) rfl (F15.ev 17 rfl)) rfl rfl rfl fun a16 F16 => ?_
    refine sn ?_
    clear F3 F4 F5 F6 F7 F8 F9 F10 F11 F12 F13 F14 F15
    refine cfs (F16.ev 18 rfl) ?_
    refine wp_seq ?_
    refine wsl ?_
    refine sr (v := (.int .i64 0)) F16 (run_as rfl rfl) rfl rfl rfl fun a17 F17 => ?_
    refine sn ?_
    clear F16
    refine wp_block ?_
    refine wkLoop (fun m a0 w2 => ∃ i : Nat, i ≤ K.length ∧ m = K.length - i ∧ (∀ q, q < i → E[q]? = some (epAt K q)) ∧ Fr a0 42 [(2, .pointer (some ⟨g0, 0, none⟩)), (3, .pointer (some ⟨g1, 0, none⟩)), (5, .int .i64 (i : Int))] ∧ Mem w [(g1, isB 30 #[u]), (g0, isB 27 #[v])] w2) K.length ⟨0, Nat.zero_le _, rfl, fun q h => by omega, F17.sub ⟨rfl, rfl, rfl, trivial⟩, M2⟩ ?_
    rintro m a0 w1 ⟨i, hi, rfl, hok, F0, M0⟩
    by_cases h1 : i < K.length
    · obtain ⟨e, he⟩ : ∃ e, E[i]? = some e := ⟨E[i]'(by omega), List.getElem?_eq_getElem (by omega)⟩
      have hLe := hE32 e (List.mem_of_getElem? he)
      obtain ⟨k, hk⟩ : ∃ k, K[i]? = some k := ⟨K[i], List.getElem?_eq_getElem h1⟩
      have hLk := h32 k (List.mem_of_getElem? hk)
      rcases Nat.eq_zero_or_pos i with hi0 | hi0
      · have hat : epAt K i = ⟨keyedS k checkT, []⟩ := by
          unfold epAt
          rw [if_pos hi0, List.getD_eq_getElem?_getD, ← hi0, hk]; rfl
        by_cases heq : e = epAt K i
        · skip
          refine wp_seq ?_
          refine wsl ?_
          refine mvS F0 rfl rfl rfl rfl rfl fun a1 F1 => ?_
          refine sr F1 (run_fldA (m := 1) (s := 0) rfl (F1.ev 3 rfl) Tryd.underlying30 rfl rfl (by kernel_rfl) (by decide)) rfl rfl rfl fun a2 F2 => ?_
          refine sr (v := u) F2 (run_ldF rfl (F2.ev 20 rfl) (M0.at 0 rfl) rfl (by kernel_rfl)) rfl rfl rfl fun a3 F3 => ?_
          refine sr F3 (run_lenS rfl (F3.ev 21 rfl) (hU.below M0.below) rfl Tryd.underlying28) rfl rfl rfl fun a4 F4 => ?_
          refine sr (v := (.bool true)) F4 (run_lss rfl (F4.ev 19 rfl) (F4.ev 22 rfl) (decide_eq_true (by omega))) rfl rfl rfl fun a5 F5 => ?_
          refine sn ?_
          clear F0 F1 F2 F3 F4
          refine cts (F5.ev 23 rfl) ?_
          refine wp_seq ?_
          refine wp_block ?_
          refine wp_seq ?_
          obtain ⟨KL, hKL⟩ : ∃ KL, KL = [kval (.pointer (some ⟨g0, 0, none⟩)), kval v, kval (.int .i64 (i : Int)), kval (slPtr v (i * 33)), kval (.agg (epC e)), kval (.pointer (some ⟨g1, 0, none⟩)), kval u, kval (.int .i64 (i : Int)), kval (slTo u i), kval (.pointer (some ⟨g1, 0, none⟩)), kval u, kval (.int .i64 (i : Int)), kval (slPtr u (i * 32)), kval (.agg (cells8 k)), kval (.agg (epC (⟨keyedS k [99, 104, 101, 99, 107], []⟩))), kval (.bool false)] := ⟨_, rfl⟩
          have K0 := getK hKL 0
          have K1 := getK hKL 1
          have K2 := getK hKL 2
          have K3 := getK hKL 3
          have K4 := getK hKL 4
          have K5 := getK hKL 5
          have K6 := getK hKL 6
          have K7 := getK hKL 7
          have K8 := getK hKL 8
          have K9 := getK hKL 9
          have K10 := getK hKL 10
          have K11 := getK hKL 11
          have K12 := getK hKL 12
          have K13 := getK hKL 13
          have K14 := getK hKL 14
          have K15 := getK hKL 15
          clear hKL
          refine wp_region_kd 42 (by kernel_rfl) (by kernel_rfl) (by kernel_rfl) F5.size KL ?_ ?_
          · refine ⟨?_, ?_, ?_, ?_, ?_, ?_, ?_, ?_, ?_, ?_, ?_, ?_, ?_, ?_, ?_, ?_, trivial⟩
            · exact asksY rfl fun a W hS hh hd => giv_run (run_fldA (m := 1) (s := 0) rfl (eval_tmp (hh 2 _ rfl (F5.at 2 rfl))) Tryd.underlying27 rfl rfl (by kernel_rfl) (by decide)) K0
            · exact asksY rfl fun a W hS hh hd => giv_run (run_ldF rfl (eval_tmp (hd.vl 0 26 (by kernel_rfl) K0)) ((M0.grow hS).at 1 rfl) rfl (by kernel_rfl)) K1
            · exact asksY rfl fun a W hS hh hd => giv_run (run_mv rfl (eval_tmp (hh 5 _ rfl (F5.at 5 rfl)))) K2
            · exact asksY rfl fun a W hS hh hd => giv_run (run_atP (i := i) rfl (eval_tmp (hd.vl 1 27 (by kernel_rfl) K1)) (eval_tmp (hd.vl 2 28 (by kernel_rfl) K2)) rfl (hV.below (M0.grow hS).below) (by omega) elEp.un (by kernel_rfl)) K3
            · exact asksY rfl fun a W hS hh hd => giv_run (ldEp hLe (run_ldPS (ys := epF e) rfl (eval_tmp (hd.vl 3 29 (by kernel_rfl) K3)) (hV.below (M0.grow hS).below) (by omega) (fun j u hj => flat_at epF_len he j hj) (by kernel_rfl) (by kernel_rfl))) K4
            · exact asksY rfl fun a W hS hh hd => giv_run (run_fldA (m := 1) (s := 0) rfl (eval_tmp (hh 3 _ rfl (F5.at 3 rfl))) Tryd.underlying30 rfl rfl (by kernel_rfl) (by decide)) K5
            · exact asksY rfl fun a W hS hh hd => giv_run (run_ldF rfl (eval_tmp (hd.vl 5 31 (by kernel_rfl) K5)) ((M0.grow hS).at 0 rfl) rfl (by kernel_rfl)) K6
            · exact asksY rfl fun a W hS hh hd => giv_run (run_mv rfl (eval_tmp (hh 5 _ rfl (F5.at 5 rfl)))) K7
            · exact asksY rfl fun a W hS hh hd => giv_run (run_toV (n := i) (z := 32) rfl (eval_tmp (hd.vl 6 32 (by kernel_rfl) K6)) (eval_tmp (hd.vl 7 33 (by kernel_rfl) K7)) rfl (hU.below (M0.grow hS).below) (by omega) hcap elKey.un (by kernel_rfl)) K8
            · exact asksY rfl fun a W hS hh hd => giv_run (run_fldA (m := 1) (s := 0) rfl (eval_tmp (hh 3 _ rfl (F5.at 3 rfl))) Tryd.underlying30 rfl rfl (by kernel_rfl) (by decide)) K9
            · exact asksY rfl fun a W hS hh hd => giv_run (run_ldF rfl (eval_tmp (hd.vl 9 35 (by kernel_rfl) K9)) ((M0.grow hS).at 0 rfl) rfl (by kernel_rfl)) K10
            · exact asksY rfl fun a W hS hh hd => giv_run (run_mv rfl (eval_tmp (hh 5 _ rfl (F5.at 5 rfl)))) K11
            · exact asksY rfl fun a W hS hh hd => giv_run (run_atP (i := i) rfl (eval_tmp (hd.vl 10 36 (by kernel_rfl) K10)) (eval_tmp (hd.vl 11 37 (by kernel_rfl) K11)) rfl (hU.below (M0.grow hS).below) (by omega) elKey.un (by kernel_rfl)) K12
            · exact asksY rfl fun a W hS hh hd => giv_run (ldKey hLk (run_ldPS (ys := dgC k) rfl (eval_tmp (hd.vl 12 38 (by kernel_rfl) K12)) (hU.below (M0.grow hS).below) (by omega) (fun j u hj => flat_at dgC_len hk j hj) (by kernel_rfl) (by kernel_rfl))) K13
            · exact asksY rfl fun a W hS hh hd => giv_call (run_call rfl Tryd.func41 (by kernel_rfl) rfl (mapE2 (eval_tmp (hd.vl 8 34 (by kernel_rfl) K8)) (eval_tmp (hd.vl 13 39 (by kernel_rfl) K13)))) (repoch0_any (K.take i) (slTo u i) k W (Sl.front (n := i) dgC_len (hU.below (M0.grow hS).below) (by omega)) hLk (by rw [List.length_take]; omega)) K14
            · exact asksY rfl fun a W hS hh hd => giv_run (run_neEp hLe (keyedS_len _ _) (by rw [← hat, decide_eq_true heq]; rfl) rfl (eval_tmp (hd.vl 4 30 (by kernel_rfl) K4)) (eval_tmp (hd.vl 14 40 (by kernel_rfl) K14))) K15
          · intro a6 w2 hb2 hK
            have e0 := hK.vl 0 26 (by kernel_rfl) K0
            have e1 := hK.vl 1 27 (by kernel_rfl) K1
            have e2 := hK.vl 2 28 (by kernel_rfl) K2
            have e3 := hK.vl 3 29 (by kernel_rfl) K3
            have e4 := hK.vl 4 30 (by kernel_rfl) K4
            have e5 := hK.vl 5 31 (by kernel_rfl) K5
            have e6 := hK.vl 6 32 (by kernel_rfl) K6
            have e7 := hK.vl 7 33 (by kernel_rfl) K7
            have e8 := hK.vl 8 34 (by kernel_rfl) K8
            have e9 := hK.vl 9 35 (by kernel_rfl) K9
            have e10 := hK.vl 10 36 (by kernel_rfl) K10
            have e11 := hK.vl 11 37 (by kernel_rfl) K11
            have e12 := hK.vl 12 38 (by kernel_rfl) K12
            have e13 := hK.vl 13 39 (by kernel_rfl) K13
            have e14 := hK.vl 14 40 (by kernel_rfl) K14
            have e15 := hK.vl 15 41 (by kernel_rfl) K15
            have F6 : Fr a6 42 [(2, (.pointer (some ⟨g0, 0, none⟩))), (3, (.pointer (some ⟨g1, 0, none⟩))), (5, (.int .i64 (i : Int))), (19, (.int .i64 (i : Int))), (20, (.pointer (some ⟨g1, 0, none⟩))), (21, u), (22, (.int .i64 (K.length : Int))), (23, (.bool true)), (41, (.bool false))] := (hK.fr F5 [_, _, _, _, _, _, _, _, _, _, _, _, _, _, _, _] ⟨e0, e1, e2, e3, e4, e5, e6, e7, e8, e9, e10, e11, e12, e13, e14, e15, trivial⟩).sub ⟨rfl, rfl, rfl, rfl, rfl, rfl, rfl, rfl, rfl, trivial⟩
            have M1 := M0.grow hb2
            clear hK K0 e0 K1 e1 K2 e2 K3 e3 K4 e4 K5 e5 K6 e6 K7 e7 K8 e8 K9 e9 K10 e10 K11 e11 K12 e12 K13 e13 K14 e14 K15 e15
            clear F5 M0
            refine nx ?_
            refine wp_cond_false (F6.ev 41 rfl) ?_
            refine wp_skip ?_
            refine bkEnd ?_
            refine nx ?_
            refine wp_region_lit ?_
            refine mvS F6 rfl rfl rfl rfl rfl fun a7 F7 => ?_
            refine sr F7 (run_add (r := ((i + 1 : Nat) : Int)) rfl (F7.ev 24 rfl) rfl (by rw [IntKind.wrap_i64]; omega)) rfl rfl rfl fun a8 F8 => ?_
            refine asS F8 rfl rfl rfl rfl rfl fun a9 F9 => ?_
            refine sn ?_
            clear F6 F7 F8
            have hok2 : ∀ q, q < i + 1 → E[q]? = some (epAt K q) := by
              intro q h2
              rcases Nat.lt_succ_iff_lt_or_eq.1 h2 with h3 | h3
              · exact hok q h3
              · rw [h3, he, heq]
            exact ⟨_, by omega, i + 1, by omega, rfl, hok2, F9.sub ⟨rfl, rfl, rfl, trivial⟩, M1⟩
        · have hs : checkS E K = 21 := by
            unfold checkS
            rw [if_neg hcond, if_neg (ringS_ne h1 he heq)]
          refine wp_seq ?_
          refine wsl ?_
          refine mvS F0 rfl rfl rfl rfl rfl fun a1 F1 => ?_
          refine sr F1 (run_fldA (m := 1) (s := 0) rfl (F1.ev 3 rfl) Tryd.underlying30 rfl rfl (by kernel_rfl) (by decide)) rfl rfl rfl fun a2 F2 => ?_
          refine sr (v := u) F2 (run_ldF rfl (F2.ev 20 rfl) (M0.at 0 rfl) rfl (by kernel_rfl)) rfl rfl rfl fun a3 F3 => ?_
          refine sr F3 (run_lenS rfl (F3.ev 21 rfl) (hU.below M0.below) rfl Tryd.underlying28) rfl rfl rfl fun a4 F4 => ?_
          refine sr (v := (.bool true)) F4 (run_lss rfl (F4.ev 19 rfl) (F4.ev 22 rfl) (decide_eq_true (by omega))) rfl rfl rfl fun a5 F5 => ?_
          refine sn ?_
          clear F0 F1 F2 F3 F4
          refine cts (F5.ev 23 rfl) ?_
          refine wp_seq ?_
          refine wp_block ?_
          refine wp_seq ?_
          obtain ⟨KL, hKL⟩ : ∃ KL, KL = [kval (.pointer (some ⟨g0, 0, none⟩)), kval v, kval (.int .i64 (i : Int)), kval (slPtr v (i * 33)), kval (.agg (epC e)), kval (.pointer (some ⟨g1, 0, none⟩)), kval u, kval (.int .i64 (i : Int)), kval (slTo u i), kval (.pointer (some ⟨g1, 0, none⟩)), kval u, kval (.int .i64 (i : Int)), kval (slPtr u (i * 32)), kval (.agg (cells8 k)), kval (.agg (epC (⟨keyedS k [99, 104, 101, 99, 107], []⟩))), kval (.bool true)] := ⟨_, rfl⟩
          have K0 := getK hKL 0
          have K1 := getK hKL 1
          have K2 := getK hKL 2
          have K3 := getK hKL 3
          have K4 := getK hKL 4
          have K5 := getK hKL 5
          have K6 := getK hKL 6
          have K7 := getK hKL 7
          have K8 := getK hKL 8
          have K9 := getK hKL 9
          have K10 := getK hKL 10
          have K11 := getK hKL 11
          have K12 := getK hKL 12
          have K13 := getK hKL 13
          have K14 := getK hKL 14
          have K15 := getK hKL 15
          clear hKL
          refine wp_region_kd 42 (by kernel_rfl) (by kernel_rfl) (by kernel_rfl) F5.size KL ?_ ?_
          · refine ⟨?_, ?_, ?_, ?_, ?_, ?_, ?_, ?_, ?_, ?_, ?_, ?_, ?_, ?_, ?_, ?_, trivial⟩
            · exact asksY rfl fun a W hS hh hd => giv_run (run_fldA (m := 1) (s := 0) rfl (eval_tmp (hh 2 _ rfl (F5.at 2 rfl))) Tryd.underlying27 rfl rfl (by kernel_rfl) (by decide)) K0
            · exact asksY rfl fun a W hS hh hd => giv_run (run_ldF rfl (eval_tmp (hd.vl 0 26 (by kernel_rfl) K0)) ((M0.grow hS).at 1 rfl) rfl (by kernel_rfl)) K1
            · exact asksY rfl fun a W hS hh hd => giv_run (run_mv rfl (eval_tmp (hh 5 _ rfl (F5.at 5 rfl)))) K2
            · exact asksY rfl fun a W hS hh hd => giv_run (run_atP (i := i) rfl (eval_tmp (hd.vl 1 27 (by kernel_rfl) K1)) (eval_tmp (hd.vl 2 28 (by kernel_rfl) K2)) rfl (hV.below (M0.grow hS).below) (by omega) elEp.un (by kernel_rfl)) K3
            · exact asksY rfl fun a W hS hh hd => giv_run (ldEp hLe (run_ldPS (ys := epF e) rfl (eval_tmp (hd.vl 3 29 (by kernel_rfl) K3)) (hV.below (M0.grow hS).below) (by omega) (fun j u hj => flat_at epF_len he j hj) (by kernel_rfl) (by kernel_rfl))) K4
            · exact asksY rfl fun a W hS hh hd => giv_run (run_fldA (m := 1) (s := 0) rfl (eval_tmp (hh 3 _ rfl (F5.at 3 rfl))) Tryd.underlying30 rfl rfl (by kernel_rfl) (by decide)) K5
            · exact asksY rfl fun a W hS hh hd => giv_run (run_ldF rfl (eval_tmp (hd.vl 5 31 (by kernel_rfl) K5)) ((M0.grow hS).at 0 rfl) rfl (by kernel_rfl)) K6
            · exact asksY rfl fun a W hS hh hd => giv_run (run_mv rfl (eval_tmp (hh 5 _ rfl (F5.at 5 rfl)))) K7
            · exact asksY rfl fun a W hS hh hd => giv_run (run_toV (n := i) (z := 32) rfl (eval_tmp (hd.vl 6 32 (by kernel_rfl) K6)) (eval_tmp (hd.vl 7 33 (by kernel_rfl) K7)) rfl (hU.below (M0.grow hS).below) (by omega) hcap elKey.un (by kernel_rfl)) K8
            · exact asksY rfl fun a W hS hh hd => giv_run (run_fldA (m := 1) (s := 0) rfl (eval_tmp (hh 3 _ rfl (F5.at 3 rfl))) Tryd.underlying30 rfl rfl (by kernel_rfl) (by decide)) K9
            · exact asksY rfl fun a W hS hh hd => giv_run (run_ldF rfl (eval_tmp (hd.vl 9 35 (by kernel_rfl) K9)) ((M0.grow hS).at 0 rfl) rfl (by kernel_rfl)) K10
            · exact asksY rfl fun a W hS hh hd => giv_run (run_mv rfl (eval_tmp (hh 5 _ rfl (F5.at 5 rfl)))) K11
            · exact asksY rfl fun a W hS hh hd => giv_run (run_atP (i := i) rfl (eval_tmp (hd.vl 10 36 (by kernel_rfl) K10)) (eval_tmp (hd.vl 11 37 (by kernel_rfl) K11)) rfl (hU.below (M0.grow hS).below) (by omega) elKey.un (by kernel_rfl)) K12
            · exact asksY rfl fun a W hS hh hd => giv_run (ldKey hLk (run_ldPS (ys := dgC k) rfl (eval_tmp (hd.vl 12 38 (by kernel_rfl) K12)) (hU.below (M0.grow hS).below) (by omega) (fun j u hj => flat_at dgC_len hk j hj) (by kernel_rfl) (by kernel_rfl))) K13
            · exact asksY rfl fun a W hS hh hd => giv_call (run_call rfl Tryd.func41 (by kernel_rfl) rfl (mapE2 (eval_tmp (hd.vl 8 34 (by kernel_rfl) K8)) (eval_tmp (hd.vl 13 39 (by kernel_rfl) K13)))) (repoch0_any (K.take i) (slTo u i) k W (Sl.front (n := i) dgC_len (hU.below (M0.grow hS).below) (by omega)) hLk (by rw [List.length_take]; omega)) K14
            · exact asksY rfl fun a W hS hh hd => giv_run (run_neEp hLe (keyedS_len _ _) (by rw [← hat, decide_eq_false heq]; rfl) rfl (eval_tmp (hd.vl 4 30 (by kernel_rfl) K4)) (eval_tmp (hd.vl 14 40 (by kernel_rfl) K14))) K15
          · intro a6 w2 hb2 hK
            have e0 := hK.vl 0 26 (by kernel_rfl) K0
            have e1 := hK.vl 1 27 (by kernel_rfl) K1
            have e2 := hK.vl 2 28 (by kernel_rfl) K2
            have e3 := hK.vl 3 29 (by kernel_rfl) K3
            have e4 := hK.vl 4 30 (by kernel_rfl) K4
            have e5 := hK.vl 5 31 (by kernel_rfl) K5
            have e6 := hK.vl 6 32 (by kernel_rfl) K6
            have e7 := hK.vl 7 33 (by kernel_rfl) K7
            have e8 := hK.vl 8 34 (by kernel_rfl) K8
            have e9 := hK.vl 9 35 (by kernel_rfl) K9
            have e10 := hK.vl 10 36 (by kernel_rfl) K10
            have e11 := hK.vl 11 37 (by kernel_rfl) K11
            have e12 := hK.vl 12 38 (by kernel_rfl) K12
            have e13 := hK.vl 13 39 (by kernel_rfl) K13
            have e14 := hK.vl 14 40 (by kernel_rfl) K14
            have e15 := hK.vl 15 41 (by kernel_rfl) K15
            have F6 : Fr a6 42 [(2, (.pointer (some ⟨g0, 0, none⟩))), (3, (.pointer (some ⟨g1, 0, none⟩))), (5, (.int .i64 (i : Int))), (19, (.int .i64 (i : Int))), (20, (.pointer (some ⟨g1, 0, none⟩))), (21, u), (22, (.int .i64 (K.length : Int))), (23, (.bool true)), (41, (.bool true))] := (hK.fr F5 [_, _, _, _, _, _, _, _, _, _, _, _, _, _, _, _] ⟨e0, e1, e2, e3, e4, e5, e6, e7, e8, e9, e10, e11, e12, e13, e14, e15, trivial⟩).sub ⟨rfl, rfl, rfl, rfl, rfl, rfl, rfl, rfl, rfl, trivial⟩
            have M1 := M0.grow hb2
            clear hK K0 e0 K1 e1 K2 e2 K3 e3 K4 e4 K5 e5 K6 e6 K7 e7 K8 e8 K9 e9 K10 e10 K11 e11 K12 e12 K13 e13 K14 e14 K15 e15
            clear F5 M0
            refine nx ?_
            refine wp_cond_true (F6.ev 41 rfl) ?_
            refine wsl ?_
            refine sr (v := (.int .i64 21)) F6 (run_as rfl rfl) rfl rfl rfl fun a7 F7 => ?_
            refine sn ?_
            clear F6
            refine wp_ret ?_
            refine bkRet ?_
            refine nxRet ?_
            refine nxRet ?_
            refine bkRet ?_
            refine nxRet ?_
            exact ret1 F7 rfl rfl ⟨by rw [hs], M1.below⟩
      · obtain ⟨j, hij⟩ : ∃ j, j + 1 = i := ⟨i - 1, by omega⟩
        obtain ⟨x, hx⟩ : ∃ k, K[j]? = some k := ⟨K[j]'(by omega), List.getElem?_eq_getElem (by omega)⟩
        have hLx := h32 x (List.mem_of_getElem? hx)
        have hti : (K.take i).length = i := by rw [List.length_take]; omega
        have hxt : (K.take i)[(K.take i).length - 1]? = some x := by rw [hti, List.getElem?_take_of_lt (by omega), show i - 1 = j by omega]; exact hx
        have hat : epAt K i = epS k x := by
          unfold epAt
          rw [if_neg (by omega), List.getD_eq_getElem?_getD, List.getD_eq_getElem?_getD, hk, show i - 1 = j by omega, hx]; rfl
        by_cases heq : e = epAt K i
        · skip
          refine wp_seq ?_
          refine wsl ?_
          refine mvS F0 rfl rfl rfl rfl rfl fun a1 F1 => ?_
          refine sr F1 (run_fldA (m := 1) (s := 0) rfl (F1.ev 3 rfl) Tryd.underlying30 rfl rfl (by kernel_rfl) (by decide)) rfl rfl rfl fun a2 F2 => ?_
          refine sr (v := u) F2 (run_ldF rfl (F2.ev 20 rfl) (M0.at 0 rfl) rfl (by kernel_rfl)) rfl rfl rfl fun a3 F3 => ?_
          refine sr F3 (run_lenS rfl (F3.ev 21 rfl) (hU.below M0.below) rfl Tryd.underlying28) rfl rfl rfl fun a4 F4 => ?_
          refine sr (v := (.bool true)) F4 (run_lss rfl (F4.ev 19 rfl) (F4.ev 22 rfl) (decide_eq_true (by omega))) rfl rfl rfl fun a5 F5 => ?_
          refine sn ?_
          clear F0 F1 F2 F3 F4
          refine cts (F5.ev 23 rfl) ?_
          refine wp_seq ?_
          refine wp_block ?_
          refine wp_seq ?_
          obtain ⟨KL, hKL⟩ : ∃ KL, KL = [kval (.pointer (some ⟨g0, 0, none⟩)), kval v, kval (.int .i64 (i : Int)), kval (slPtr v (i * 33)), kval (.agg (epC e)), kval (.pointer (some ⟨g1, 0, none⟩)), kval u, kval (.int .i64 (i : Int)), kval (slTo u i), kval (.pointer (some ⟨g1, 0, none⟩)), kval u, kval (.int .i64 (i : Int)), kval (slPtr u (i * 32)), kval (.agg (cells8 k)), kval (.agg (epC (epS k x))), kval (.bool false)] := ⟨_, rfl⟩
          have K0 := getK hKL 0
          have K1 := getK hKL 1
          have K2 := getK hKL 2
          have K3 := getK hKL 3
          have K4 := getK hKL 4
          have K5 := getK hKL 5
          have K6 := getK hKL 6
          have K7 := getK hKL 7
          have K8 := getK hKL 8
          have K9 := getK hKL 9
          have K10 := getK hKL 10
          have K11 := getK hKL 11
          have K12 := getK hKL 12
          have K13 := getK hKL 13
          have K14 := getK hKL 14
          have K15 := getK hKL 15
          clear hKL
          refine wp_region_kd 42 (by kernel_rfl) (by kernel_rfl) (by kernel_rfl) F5.size KL ?_ ?_
          · refine ⟨?_, ?_, ?_, ?_, ?_, ?_, ?_, ?_, ?_, ?_, ?_, ?_, ?_, ?_, ?_, ?_, trivial⟩
            · exact asksY rfl fun a W hS hh hd => giv_run (run_fldA (m := 1) (s := 0) rfl (eval_tmp (hh 2 _ rfl (F5.at 2 rfl))) Tryd.underlying27 rfl rfl (by kernel_rfl) (by decide)) K0
            · exact asksY rfl fun a W hS hh hd => giv_run (run_ldF rfl (eval_tmp (hd.vl 0 26 (by kernel_rfl) K0)) ((M0.grow hS).at 1 rfl) rfl (by kernel_rfl)) K1
            · exact asksY rfl fun a W hS hh hd => giv_run (run_mv rfl (eval_tmp (hh 5 _ rfl (F5.at 5 rfl)))) K2
            · exact asksY rfl fun a W hS hh hd => giv_run (run_atP (i := i) rfl (eval_tmp (hd.vl 1 27 (by kernel_rfl) K1)) (eval_tmp (hd.vl 2 28 (by kernel_rfl) K2)) rfl (hV.below (M0.grow hS).below) (by omega) elEp.un (by kernel_rfl)) K3
            · exact asksY rfl fun a W hS hh hd => giv_run (ldEp hLe (run_ldPS (ys := epF e) rfl (eval_tmp (hd.vl 3 29 (by kernel_rfl) K3)) (hV.below (M0.grow hS).below) (by omega) (fun j u hj => flat_at epF_len he j hj) (by kernel_rfl) (by kernel_rfl))) K4
            · exact asksY rfl fun a W hS hh hd => giv_run (run_fldA (m := 1) (s := 0) rfl (eval_tmp (hh 3 _ rfl (F5.at 3 rfl))) Tryd.underlying30 rfl rfl (by kernel_rfl) (by decide)) K5
            · exact asksY rfl fun a W hS hh hd => giv_run (run_ldF rfl (eval_tmp (hd.vl 5 31 (by kernel_rfl) K5)) ((M0.grow hS).at 0 rfl) rfl (by kernel_rfl)) K6
            · exact asksY rfl fun a W hS hh hd => giv_run (run_mv rfl (eval_tmp (hh 5 _ rfl (F5.at 5 rfl)))) K7
            · exact asksY rfl fun a W hS hh hd => giv_run (run_toV (n := i) (z := 32) rfl (eval_tmp (hd.vl 6 32 (by kernel_rfl) K6)) (eval_tmp (hd.vl 7 33 (by kernel_rfl) K7)) rfl (hU.below (M0.grow hS).below) (by omega) hcap elKey.un (by kernel_rfl)) K8
            · exact asksY rfl fun a W hS hh hd => giv_run (run_fldA (m := 1) (s := 0) rfl (eval_tmp (hh 3 _ rfl (F5.at 3 rfl))) Tryd.underlying30 rfl rfl (by kernel_rfl) (by decide)) K9
            · exact asksY rfl fun a W hS hh hd => giv_run (run_ldF rfl (eval_tmp (hd.vl 9 35 (by kernel_rfl) K9)) ((M0.grow hS).at 0 rfl) rfl (by kernel_rfl)) K10
            · exact asksY rfl fun a W hS hh hd => giv_run (run_mv rfl (eval_tmp (hh 5 _ rfl (F5.at 5 rfl)))) K11
            · exact asksY rfl fun a W hS hh hd => giv_run (run_atP (i := i) rfl (eval_tmp (hd.vl 10 36 (by kernel_rfl) K10)) (eval_tmp (hd.vl 11 37 (by kernel_rfl) K11)) rfl (hU.below (M0.grow hS).below) (by omega) elKey.un (by kernel_rfl)) K12
            · exact asksY rfl fun a W hS hh hd => giv_run (ldKey hLk (run_ldPS (ys := dgC k) rfl (eval_tmp (hd.vl 12 38 (by kernel_rfl) K12)) (hU.below (M0.grow hS).below) (by omega) (fun j u hj => flat_at dgC_len hk j hj) (by kernel_rfl) (by kernel_rfl))) K13
            · exact asksY rfl fun a W hS hh hd => giv_call (run_call rfl Tryd.func41 (by kernel_rfl) rfl (mapE2 (eval_tmp (hd.vl 8 34 (by kernel_rfl) K8)) (eval_tmp (hd.vl 13 39 (by kernel_rfl) K13)))) (repoch_any (K.take i) (slTo u i) k x W (Sl.front (n := i) dgC_len (hU.below (M0.grow hS).below) (by omega)) hLk hxt hLx (by omega) (by omega)) K14
            · exact asksY rfl fun a W hS hh hd => giv_run (run_neEp hLe (keyedS_len _ _) (by rw [← hat, decide_eq_true heq]; rfl) rfl (eval_tmp (hd.vl 4 30 (by kernel_rfl) K4)) (eval_tmp (hd.vl 14 40 (by kernel_rfl) K14))) K15
          · intro a6 w2 hb2 hK
            have e0 := hK.vl 0 26 (by kernel_rfl) K0
            have e1 := hK.vl 1 27 (by kernel_rfl) K1
            have e2 := hK.vl 2 28 (by kernel_rfl) K2
            have e3 := hK.vl 3 29 (by kernel_rfl) K3
            have e4 := hK.vl 4 30 (by kernel_rfl) K4
            have e5 := hK.vl 5 31 (by kernel_rfl) K5
            have e6 := hK.vl 6 32 (by kernel_rfl) K6
            have e7 := hK.vl 7 33 (by kernel_rfl) K7
            have e8 := hK.vl 8 34 (by kernel_rfl) K8
            have e9 := hK.vl 9 35 (by kernel_rfl) K9
            have e10 := hK.vl 10 36 (by kernel_rfl) K10
            have e11 := hK.vl 11 37 (by kernel_rfl) K11
            have e12 := hK.vl 12 38 (by kernel_rfl) K12
            have e13 := hK.vl 13 39 (by kernel_rfl) K13
            have e14 := hK.vl 14 40 (by kernel_rfl) K14
            have e15 := hK.vl 15 41 (by kernel_rfl) K15
            have F6 : Fr a6 42 [(2, (.pointer (some ⟨g0, 0, none⟩))), (3, (.pointer (some ⟨g1, 0, none⟩))), (5, (.int .i64 (i : Int))), (19, (.int .i64 (i : Int))), (20, (.pointer (some ⟨g1, 0, none⟩))), (21, u), (22, (.int .i64 (K.length : Int))), (23, (.bool true)), (41, (.bool false))] := (hK.fr F5 [_, _, _, _, _, _, _, _, _, _, _, _, _, _, _, _] ⟨e0, e1, e2, e3, e4, e5, e6, e7, e8, e9, e10, e11, e12, e13, e14, e15, trivial⟩).sub ⟨rfl, rfl, rfl, rfl, rfl, rfl, rfl, rfl, rfl, trivial⟩
            have M1 := M0.grow hb2
            clear hK K0 e0 K1 e1 K2 e2 K3 e3 K4 e4 K5 e5 K6 e6 K7 e7 K8 e8 K9 e9 K10 e10 K11 e11 K12 e12 K13 e13 K14 e14 K15 e15
            clear F5 M0
            refine nx ?_
            refine wp_cond_false (F6.ev 41 rfl) ?_
            refine wp_skip ?_
            refine bkEnd ?_
            refine nx ?_
            refine wp_region_lit ?_
            refine mvS F6 rfl rfl rfl rfl rfl fun a7 F7 => ?_
            refine sr F7 (run_add (r := ((i + 1 : Nat) : Int)) rfl (F7.ev 24 rfl) rfl (by rw [IntKind.wrap_i64]; omega)) rfl rfl rfl fun a8 F8 => ?_
            refine asS F8 rfl rfl rfl rfl rfl fun a9 F9 => ?_
            refine sn ?_
            clear F6 F7 F8
            have hok2 : ∀ q, q < i + 1 → E[q]? = some (epAt K q) := by
              intro q h2
              rcases Nat.lt_succ_iff_lt_or_eq.1 h2 with h3 | h3
              · exact hok q h3
              · rw [h3, he, heq]
            exact ⟨_, by omega, i + 1, by omega, rfl, hok2, F9.sub ⟨rfl, rfl, rfl, trivial⟩, M1⟩
        · have hs : checkS E K = 21 := by
            unfold checkS
            rw [if_neg hcond, if_neg (ringS_ne h1 he heq)]
          refine wp_seq ?_
          refine wsl ?_
          refine mvS F0 rfl rfl rfl rfl rfl fun a1 F1 => ?_
          refine sr F1 (run_fldA (m := 1) (s := 0) rfl (F1.ev 3 rfl) Tryd.underlying30 rfl rfl (by kernel_rfl) (by decide)) rfl rfl rfl fun a2 F2 => ?_
          refine sr (v := u) F2 (run_ldF rfl (F2.ev 20 rfl) (M0.at 0 rfl) rfl (by kernel_rfl)) rfl rfl rfl fun a3 F3 => ?_
          refine sr F3 (run_lenS rfl (F3.ev 21 rfl) (hU.below M0.below) rfl Tryd.underlying28) rfl rfl rfl fun a4 F4 => ?_
          refine sr (v := (.bool true)) F4 (run_lss rfl (F4.ev 19 rfl) (F4.ev 22 rfl) (decide_eq_true (by omega))) rfl rfl rfl fun a5 F5 => ?_
          refine sn ?_
          clear F0 F1 F2 F3 F4
          refine cts (F5.ev 23 rfl) ?_
          refine wp_seq ?_
          refine wp_block ?_
          refine wp_seq ?_
          obtain ⟨KL, hKL⟩ : ∃ KL, KL = [kval (.pointer (some ⟨g0, 0, none⟩)), kval v, kval (.int .i64 (i : Int)), kval (slPtr v (i * 33)), kval (.agg (epC e)), kval (.pointer (some ⟨g1, 0, none⟩)), kval u, kval (.int .i64 (i : Int)), kval (slTo u i), kval (.pointer (some ⟨g1, 0, none⟩)), kval u, kval (.int .i64 (i : Int)), kval (slPtr u (i * 32)), kval (.agg (cells8 k)), kval (.agg (epC (epS k x))), kval (.bool true)] := ⟨_, rfl⟩
          have K0 := getK hKL 0
          have K1 := getK hKL 1
          have K2 := getK hKL 2
          have K3 := getK hKL 3
          have K4 := getK hKL 4
          have K5 := getK hKL 5
          have K6 := getK hKL 6
          have K7 := getK hKL 7
          have K8 := getK hKL 8
          have K9 := getK hKL 9
          have K10 := getK hKL 10
          have K11 := getK hKL 11
          have K12 := getK hKL 12
          have K13 := getK hKL 13
          have K14 := getK hKL 14
          have K15 := getK hKL 15
          clear hKL
          refine wp_region_kd 42 (by kernel_rfl) (by kernel_rfl) (by kernel_rfl) F5.size KL ?_ ?_
          · refine ⟨?_, ?_, ?_, ?_, ?_, ?_, ?_, ?_, ?_, ?_, ?_, ?_, ?_, ?_, ?_, ?_, trivial⟩
            · exact asksY rfl fun a W hS hh hd => giv_run (run_fldA (m := 1) (s := 0) rfl (eval_tmp (hh 2 _ rfl (F5.at 2 rfl))) Tryd.underlying27 rfl rfl (by kernel_rfl) (by decide)) K0
            · exact asksY rfl fun a W hS hh hd => giv_run (run_ldF rfl (eval_tmp (hd.vl 0 26 (by kernel_rfl) K0)) ((M0.grow hS).at 1 rfl) rfl (by kernel_rfl)) K1
            · exact asksY rfl fun a W hS hh hd => giv_run (run_mv rfl (eval_tmp (hh 5 _ rfl (F5.at 5 rfl)))) K2
            · exact asksY rfl fun a W hS hh hd => giv_run (run_atP (i := i) rfl (eval_tmp (hd.vl 1 27 (by kernel_rfl) K1)) (eval_tmp (hd.vl 2 28 (by kernel_rfl) K2)) rfl (hV.below (M0.grow hS).below) (by omega) elEp.un (by kernel_rfl)) K3
            · exact asksY rfl fun a W hS hh hd => giv_run (ldEp hLe (run_ldPS (ys := epF e) rfl (eval_tmp (hd.vl 3 29 (by kernel_rfl) K3)) (hV.below (M0.grow hS).below) (by omega) (fun j u hj => flat_at epF_len he j hj) (by kernel_rfl) (by kernel_rfl))) K4
            · exact asksY rfl fun a W hS hh hd => giv_run (run_fldA (m := 1) (s := 0) rfl (eval_tmp (hh 3 _ rfl (F5.at 3 rfl))) Tryd.underlying30 rfl rfl (by kernel_rfl) (by decide)) K5
            · exact asksY rfl fun a W hS hh hd => giv_run (run_ldF rfl (eval_tmp (hd.vl 5 31 (by kernel_rfl) K5)) ((M0.grow hS).at 0 rfl) rfl (by kernel_rfl)) K6
            · exact asksY rfl fun a W hS hh hd => giv_run (run_mv rfl (eval_tmp (hh 5 _ rfl (F5.at 5 rfl)))) K7
            · exact asksY rfl fun a W hS hh hd => giv_run (run_toV (n := i) (z := 32) rfl (eval_tmp (hd.vl 6 32 (by kernel_rfl) K6)) (eval_tmp (hd.vl 7 33 (by kernel_rfl) K7)) rfl (hU.below (M0.grow hS).below) (by omega) hcap elKey.un (by kernel_rfl)) K8
            · exact asksY rfl fun a W hS hh hd => giv_run (run_fldA (m := 1) (s := 0) rfl (eval_tmp (hh 3 _ rfl (F5.at 3 rfl))) Tryd.underlying30 rfl rfl (by kernel_rfl) (by decide)) K9
            · exact asksY rfl fun a W hS hh hd => giv_run (run_ldF rfl (eval_tmp (hd.vl 9 35 (by kernel_rfl) K9)) ((M0.grow hS).at 0 rfl) rfl (by kernel_rfl)) K10
            · exact asksY rfl fun a W hS hh hd => giv_run (run_mv rfl (eval_tmp (hh 5 _ rfl (F5.at 5 rfl)))) K11
            · exact asksY rfl fun a W hS hh hd => giv_run (run_atP (i := i) rfl (eval_tmp (hd.vl 10 36 (by kernel_rfl) K10)) (eval_tmp (hd.vl 11 37 (by kernel_rfl) K11)) rfl (hU.below (M0.grow hS).below) (by omega) elKey.un (by kernel_rfl)) K12
            · exact asksY rfl fun a W hS hh hd => giv_run (ldKey hLk (run_ldPS (ys := dgC k) rfl (eval_tmp (hd.vl 12 38 (by kernel_rfl) K12)) (hU.below (M0.grow hS).below) (by omega) (fun j u hj => flat_at dgC_len hk j hj) (by kernel_rfl) (by kernel_rfl))) K13
            · exact asksY rfl fun a W hS hh hd => giv_call (run_call rfl Tryd.func41 (by kernel_rfl) rfl (mapE2 (eval_tmp (hd.vl 8 34 (by kernel_rfl) K8)) (eval_tmp (hd.vl 13 39 (by kernel_rfl) K13)))) (repoch_any (K.take i) (slTo u i) k x W (Sl.front (n := i) dgC_len (hU.below (M0.grow hS).below) (by omega)) hLk hxt hLx (by omega) (by omega)) K14
            · exact asksY rfl fun a W hS hh hd => giv_run (run_neEp hLe (keyedS_len _ _) (by rw [← hat, decide_eq_false heq]; rfl) rfl (eval_tmp (hd.vl 4 30 (by kernel_rfl) K4)) (eval_tmp (hd.vl 14 40 (by kernel_rfl) K14))) K15
          · intro a6 w2 hb2 hK
            have e0 := hK.vl 0 26 (by kernel_rfl) K0
            have e1 := hK.vl 1 27 (by kernel_rfl) K1
            have e2 := hK.vl 2 28 (by kernel_rfl) K2
            have e3 := hK.vl 3 29 (by kernel_rfl) K3
            have e4 := hK.vl 4 30 (by kernel_rfl) K4
            have e5 := hK.vl 5 31 (by kernel_rfl) K5
            have e6 := hK.vl 6 32 (by kernel_rfl) K6
            have e7 := hK.vl 7 33 (by kernel_rfl) K7
            have e8 := hK.vl 8 34 (by kernel_rfl) K8
            have e9 := hK.vl 9 35 (by kernel_rfl) K9
            have e10 := hK.vl 10 36 (by kernel_rfl) K10
            have e11 := hK.vl 11 37 (by kernel_rfl) K11
            have e12 := hK.vl 12 38 (by kernel_rfl) K12
            have e13 := hK.vl 13 39 (by kernel_rfl) K13
            have e14 := hK.vl 14 40 (by kernel_rfl) K14
            have e15 := hK.vl 15 41 (by kernel_rfl) K15
            have F6 : Fr a6 42 [(2, (.pointer (some ⟨g0, 0, none⟩))), (3, (.pointer (some ⟨g1, 0, none⟩))), (5, (.int .i64 (i : Int))), (19, (.int .i64 (i : Int))), (20, (.pointer (some ⟨g1, 0, none⟩))), (21, u), (22, (.int .i64 (K.length : Int))), (23, (.bool true)), (41, (.bool true))] := (hK.fr F5 [_, _, _, _, _, _, _, _, _, _, _, _, _, _, _, _] ⟨e0, e1, e2, e3, e4, e5, e6, e7, e8, e9, e10, e11, e12, e13, e14, e15, trivial⟩).sub ⟨rfl, rfl, rfl, rfl, rfl, rfl, rfl, rfl, rfl, trivial⟩
            have M1 := M0.grow hb2
            clear hK K0 e0 K1 e1 K2 e2 K3 e3 K4 e4 K5 e5 K6 e6 K7 e7 K8 e8 K9 e9 K10 e10 K11 e11 K12 e12 K13 e13 K14 e14 K15 e15
            clear F5 M0
            refine nx ?_
            refine wp_cond_true (F6.ev 41 rfl) ?_
            refine wsl ?_
            refine sr (v := (.int .i64 21)) F6 (run_as rfl rfl) rfl rfl rfl fun a7 F7 => ?_
            refine sn ?_
            clear F6
            refine wp_ret ?_
            refine bkRet ?_
            refine nxRet ?_
            refine nxRet ?_
            refine bkRet ?_
            refine nxRet ?_
            exact ret1 F7 rfl rfl ⟨by rw [hs], M1.below⟩
    · have hs : checkS E K = 0 := by
        unfold checkS
        rw [if_neg hcond, if_pos (ringS_eq (by omega) (fun q h => hok q (by omega)))]
      refine wp_seq ?_
      refine wsl ?_
      refine mvS F0 rfl rfl rfl rfl rfl fun a1 F1 => ?_
      refine sr F1 (run_fldA (m := 1) (s := 0) rfl (F1.ev 3 rfl) Tryd.underlying30 rfl rfl (by kernel_rfl) (by decide)) rfl rfl rfl fun a2 F2 => ?_
      refine sr (v := u) F2 (run_ldF rfl (F2.ev 20 rfl) (M0.at 0 rfl) rfl (by kernel_rfl)) rfl rfl rfl fun a3 F3 => ?_
      refine sr F3 (run_lenS rfl (F3.ev 21 rfl) (hU.below M0.below) rfl Tryd.underlying28) rfl rfl rfl fun a4 F4 => ?_
      refine sr (v := (.bool false)) F4 (run_lss rfl (F4.ev 19 rfl) (F4.ev 22 rfl) (decide_eq_false (by omega))) rfl rfl rfl fun a5 F5 => ?_
      refine sn ?_
      clear F0 F1 F2 F3 F4
      refine wp_cond_false (F5.ev 23 rfl) ?_
      refine wp_exit ?_
      refine nxExit ?_
      refine nxExit ?_
      refine bkHere ?_
      refine nx ?_
      refine wsl ?_
      refine sr (v := (.int .i64 0)) F5 (run_as rfl rfl) rfl rfl rfl fun a6 F6 => ?_
      refine sn ?_
      clear F5
      refine wp_ret ?_
      exact ret1 F6 rfl rfl ⟨by rw [hs], M0.below⟩
  · have hs : checkS E K = 1 := by unfold checkS; rw [if_pos (.inr (fun h => hl h.symm))]
    refine walk_enter Tryd.func22 rfl rfl rfl fun a0 F0 => ?_
    have M0 := Mem.new w
    refine wsl ?_
    refine sqNew (cs := #[v]) (t := 27) F0 M0 (wantedS rfl) (run_box rfl (F0.ev 0 rfl)) rfl (by decide) fun g0 a1 w1 hgg0 hb1 F1 M1 => ?_
    refine sqNew (cs := #[u]) (t := 30) F1 M1 (wantedS rfl) (run_box rfl (F1.ev 1 rfl)) rfl (by decide) fun g1 a2 w2 hgg1 hb2 F2 M2 => ?_
    refine sr (v := (.int .i64 0)) F2 (run_as rfl rfl) rfl rfl rfl fun a3 F3 => ?_
    refine sn ?_
    clear F0 F1 F2 M0 M1
    refine wp_seq ?_
    refine wsl ?_
    refine sr F3 (run_fldA (m := 1) (s := 0) rfl (F3.ev 2 rfl) Tryd.underlying27 rfl rfl (by kernel_rfl) (by decide)) rfl rfl rfl fun a4 F4 => ?_
    refine sr (v := v) F4 (run_ldF rfl (F4.ev 6 rfl) (M2.at 1 rfl) rfl (by kernel_rfl)) rfl rfl rfl fun a5 F5 => ?_
    refine sr F5 (run_lenS rfl (F5.ev 7 rfl) (hV.below M2.below) rfl Tryd.underlying25) rfl rfl rfl fun a6 F6 => ?_
    refine sr F6 (run_fldA (m := 1) (s := 0) rfl (F6.ev 3 rfl) Tryd.underlying30 rfl rfl (by kernel_rfl) (by decide)) rfl rfl rfl fun a7 F7 => ?_
    refine sr (v := u) F7 (run_ldF rfl (F7.ev 9 rfl) (M2.at 0 rfl) rfl (by kernel_rfl)) rfl rfl rfl fun a8 F8 => ?_
    refine sr F8 (run_lenS rfl (F8.ev 10 rfl) (hU.below M2.below) rfl Tryd.underlying28) rfl rfl rfl fun a9 F9 => ?_
    refine sr (v := (.bool true)) F9 (run_nei rfl (F9.ev 8 rfl) (F9.ev 11 rfl) (bne_iff_ne.2 (by omega))) rfl rfl rfl fun a10 F10 => ?_
    refine mvS F10 rfl rfl rfl rfl rfl fun a11 F11 => ?_
    refine sqSkip F11 (unwantedG F11 rfl rfl rfl rfl rfl) rfl (by decide) fun a12 F12 => ?_
    refine sqSkip F12 (unwantedG F12 rfl rfl rfl rfl rfl) rfl (by decide) fun a13 F13 => ?_
    refine sqSkip F13 (unwantedG F13 rfl rfl rfl rfl rfl) rfl (by decide) fun a14 F14 => ?_
    refine sqSkip F14 (unwantedG F14 rfl rfl rfl rfl rfl) rfl (by decide) fun a15 F15 => ?_
    refine sr (v := (.bool true)) F15 (run_pick rfl (F15.ev 13 rfl) rfl (F15.ev 17 rfl)) rfl rfl rfl fun a16 F16 => ?_
    refine sn ?_
    clear F3 F4 F5 F6 F7 F8 F9 F10 F11 F12 F13 F14 F15
    refine wp_cond_true (F16.ev 18 rfl) ?_
    refine wsl ?_
    refine sr (v := (.int .i64 1)) F16 (run_as rfl rfl) rfl rfl rfl fun a17 F17 => ?_
    refine sn ?_
    clear F16
    refine wp_ret ?_
    refine nxRet ?_
    exact ret1 F17 rfl rfl ⟨by rw [hs], M2.below⟩
end Go.Proofs.YtconhhhggckcbaaDoor
