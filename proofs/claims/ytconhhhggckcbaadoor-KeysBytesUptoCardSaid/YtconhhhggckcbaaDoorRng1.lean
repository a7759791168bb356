/- slices.Index and Contains of keys; keys.fromBehind. Printed by gen_key14.py. -/
import Derived.Test.YtconhhhggckcbaaDoorClnQ
import Derived.Test.YtconhhhggckcbaaDoorRange
namespace Go.Proofs.YtconhhhggckcbaaDoor
open Go.RowKit

set_option maxRecDepth 100000 in
set_option maxHeartbeats 1000000 in
theorem index_key (K : List (List UInt8)) (v : Value) (x : List UInt8) (w : World) (hV : Sl w v 32 K.length (K.flatMap dgC)) (h32 : ∀ k ∈ K, k.length = 32) (hLx : x.length = 32) (hKl : K.length < 2 ^ 36) : Calls Tryd.prog 69 #[v, .agg (cells8 x)] w fun e w' => (∃ r : Int, e = .returned (.int .i64 r) ∧ (0 ≤ r ↔ x ∈ K)) ∧ Below w.heap.size w w' := by
  refine walk_enter Tryd.func69 rfl rfl rfl fun a0 F0 => ?_
  have M0 := Mem.new w
  refine wsl ?_
  refine sqNew (cs := (cells8 x)) (t := 23) F0 M0 (wantedS rfl) (run_box rfl (F0.ev 1 rfl)) rfl (by decide) fun g0 a1 w1 hgg0 hb1 F1 M1 => ?_
  refine sr (v := (.int .i64 0)) F1 (run_as rfl rfl) rfl rfl rfl fun a2 F2 => ?_
  refine sn ?_
  clear F0 F1 M0
  refine wp_seq ?_
  refine wsl ?_
  refine mvS F2 rfl rfl rfl rfl rfl fun a3 F3 => ?_
  refine sr F3 (run_lenS rfl (F3.ev 6 rfl) (hV.below M1.below) rfl Tryd.underlying28) rfl rfl rfl fun a4 F4 => ?_
  refine sr (v := (.int .i64 0)) F4 (run_mv rfl rfl) rfl rfl rfl fun a5 F5 => ?_
  refine sn ?_
  clear F2 F3 F4
  refine wp_block ?_
  refine wkLoop (fun m a0 w2 => ∃ i : Nat, i ≤ K.length ∧ m = K.length - i ∧ x ∉ K.take i ∧ Fr a0 19 [(0, v), (3, .pointer (some ⟨g0, 0, none⟩)), (7, .int .i64 (K.length : Int)), (8, .int .i64 (i : Int))] ∧ Mem w [(g0, isB 23 (cells8 x))] w2) K.length ⟨0, Nat.zero_le _, rfl, by simp, F5.sub ⟨rfl, rfl, rfl, rfl, trivial⟩, M1⟩ ?_
  rintro m a0 w1 ⟨i, hi, rfl, hni, F0, M0⟩
  by_cases h1 : i < K.length
  · obtain ⟨y, hy⟩ : ∃ y, K[i]? = some y := ⟨K[i], List.getElem?_eq_getElem h1⟩
    have hLy := h32 y (List.mem_of_getElem? hy)
    by_cases hxy : x = y
    · skip
      refine wsl ?_
      refine sr (v := (.bool true)) F0 (run_lss rfl (F0.ev 8 rfl) (F0.ev 7 rfl) (decide_eq_true (by omega))) rfl rfl rfl fun a1 F1 => ?_
      refine sn ?_
      clear F0
      refine wp_seq ?_
      refine cts (F1.ev 9 rfl) ?_
      refine wp_seq ?_
      refine wp_block ?_
      refine wsl ?_
      refine mvS F1 rfl rfl rfl rfl rfl fun a2 F2 => ?_
      refine asS F2 rfl rfl rfl rfl rfl fun a3 F3 => ?_
      refine sn ?_
      clear F1 F2
      refine wp_seq ?_
      obtain ⟨KL, hKL⟩ : ∃ KL, KL = [kval (.agg (cells8 x)), kval v, kval (.int .i64 (i : Int)), kval (slPtr v (i * 32)), kval (.agg (cells8 y)), kval (.bool true)] := ⟨_, rfl⟩
      have K0 := getK hKL 0
      have K1 := getK hKL 1
      have K2 := getK hKL 2
      have K3 := getK hKL 3
      have K4 := getK hKL 4
      have K5 := getK hKL 5
      clear hKL
      refine wp_region_kd 19 (by kernel_rfl) (by kernel_rfl) (by kernel_rfl) F3.size KL ?_ ?_
      · refine ⟨?_, ?_, ?_, ?_, ?_, ?_, trivial⟩
        · exact asksY rfl fun a W hS hh hd => giv_run (run_ldB rfl (eval_tmp (hh 3 _ rfl (F3.at 3 rfl))) ((M0.grow hS).at 0 rfl) Tryd.underlying23 rfl sz32k (szOf hLx)) K0
        · exact asksY rfl fun a W hS hh hd => giv_run (run_mv rfl (eval_tmp (hh 0 _ rfl (F3.at 0 rfl)))) K1
        · exact asksY rfl fun a W hS hh hd => giv_run (run_mv rfl (eval_tmp (hh 5 _ rfl (F3.at 5 rfl)))) K2
        · exact asksY rfl fun a W hS hh hd => giv_run (run_atP (i := i) rfl (eval_tmp (hd.vl 1 12 (by kernel_rfl) K1)) (eval_tmp (hd.vl 2 13 (by kernel_rfl) K2)) rfl (hV.below (M0.grow hS).below) (by omega) elKey.un (by kernel_rfl)) K3
        · exact asksY rfl fun a W hS hh hd => giv_run (ldKey hLy (run_ldPS (ys := dgC y) rfl (eval_tmp (hd.vl 3 14 (by kernel_rfl) K3)) (hV.below (M0.grow hS).below) (by omega) (fun j u hj => flat_at dgC_len hy j hj) (by kernel_rfl) (by kernel_rfl))) K4
        · exact asksY rfl fun a W hS hh hd => giv_run (run_eqKB hLx hLy (by rw [hxy]; exact beq_self_eq_true _) rfl (eval_tmp (hd.vl 0 11 (by kernel_rfl) K0)) (eval_tmp (hd.vl 4 15 (by kernel_rfl) K4))) K5
      · intro a4 w2 hb2 hK
        have e0 := hK.vl 0 11 (by kernel_rfl) K0
        have e1 := hK.vl 1 12 (by kernel_rfl) K1
        have e2 := hK.vl 2 13 (by kernel_rfl) K2
        have e3 := hK.vl 3 14 (by kernel_rfl) K3
        have e4 := hK.vl 4 15 (by kernel_rfl) K4
        have e5 := hK.vl 5 16 (by kernel_rfl) K5
        have F4 : Fr a4 19 [(0, v), (3, (.pointer (some ⟨g0, 0, none⟩))), (5, (.int .i64 (i : Int))), (7, (.int .i64 (K.length : Int))), (8, (.int .i64 (i : Int))), (9, (.bool true)), (10, (.int .i64 (i : Int))), (16, (.bool true))] := (hK.fr F3 [_, _, _, _, _, _] ⟨e0, e1, e2, e3, e4, e5, trivial⟩).sub ⟨rfl, rfl, rfl, rfl, rfl, rfl, rfl, rfl, trivial⟩
        have M1 := M0.grow hb2
        clear hK K0 e0 K1 e1 K2 e2 K3 e3 K4 e4 K5 e5
        clear F3 M0
        refine nx ?_
        refine wp_cond_true (F4.ev 16 rfl) ?_
        refine wsl ?_
        refine mvS F4 rfl rfl rfl rfl rfl fun a5 F5 => ?_
        refine asS F5 rfl rfl rfl rfl rfl fun a6 F6 => ?_
        refine sn ?_
        clear F4 F5
        refine wp_ret ?_
        refine bkRet ?_
        refine nxRet ?_
        refine nxRet ?_
        refine bkRet ?_
        refine nxRet ?_
        exact ret1 F6 rfl rfl ⟨⟨_, rfl, iff_of_true (by omega) (by rw [hxy]; exact List.mem_of_getElem? hy)⟩, M1.below⟩
    · skip
      refine wsl ?_
      refine sr (v := (.bool true)) F0 (run_lss rfl (F0.ev 8 rfl) (F0.ev 7 rfl) (decide_eq_true (by omega))) rfl rfl rfl fun a1 F1 => ?_
      refine sn ?_
      clear F0
      refine wp_seq ?_
      refine cts (F1.ev 9 rfl) ?_
      refine wp_seq ?_
      refine wp_block ?_
      refine wsl ?_
      refine mvS F1 rfl rfl rfl rfl rfl fun a2 F2 => ?_
      refine asS F2 rfl rfl rfl rfl rfl fun a3 F3 => ?_
      refine sn ?_
      clear F1 F2
      refine wp_seq ?_
      obtain ⟨KL, hKL⟩ : ∃ KL, KL = [kval (.agg (cells8 x)), kval v, kval (.int .i64 (i : Int)), kval (slPtr v (i * 32)), kval (.agg (cells8 y)), kval (.bool false)] := ⟨_, rfl⟩
      have K0 := getK hKL 0
      have K1 := getK hKL 1
      have K2 := getK hKL 2
      have K3 := getK hKL 3
      have K4 := getK hKL 4
      have K5 := getK hKL 5
      clear hKL
      refine wp_region_kd 19 (by kernel_rfl) (by kernel_rfl) (by kernel_rfl) F3.size KL ?_ ?_
      · refine ⟨?_, ?_, ?_, ?_, ?_, ?_, trivial⟩
        · exact asksY rfl fun a W hS hh hd => giv_run (run_ldB rfl (eval_tmp (hh 3 _ rfl (F3.at 3 rfl))) ((M0.grow hS).at 0 rfl) Tryd.underlying23 rfl sz32k (szOf hLx)) K0
        · exact asksY rfl fun a W hS hh hd => giv_run (run_mv rfl (eval_tmp (hh 0 _ rfl (F3.at 0 rfl)))) K1
        · exact asksY rfl fun a W hS hh hd => giv_run (run_mv rfl (eval_tmp (hh 5 _ rfl (F3.at 5 rfl)))) K2
        · exact asksY rfl fun a W hS hh hd => giv_run (run_atP (i := i) rfl (eval_tmp (hd.vl 1 12 (by kernel_rfl) K1)) (eval_tmp (hd.vl 2 13 (by kernel_rfl) K2)) rfl (hV.below (M0.grow hS).below) (by omega) elKey.un (by kernel_rfl)) K3
        · exact asksY rfl fun a W hS hh hd => giv_run (ldKey hLy (run_ldPS (ys := dgC y) rfl (eval_tmp (hd.vl 3 14 (by kernel_rfl) K3)) (hV.below (M0.grow hS).below) (by omega) (fun j u hj => flat_at dgC_len hy j hj) (by kernel_rfl) (by kernel_rfl))) K4
        · exact asksY rfl fun a W hS hh hd => giv_run (run_eqKB hLx hLy (beq_eq_false_iff_ne.2 hxy) rfl (eval_tmp (hd.vl 0 11 (by kernel_rfl) K0)) (eval_tmp (hd.vl 4 15 (by kernel_rfl) K4))) K5
      · intro a4 w2 hb2 hK
        have e0 := hK.vl 0 11 (by kernel_rfl) K0
        have e1 := hK.vl 1 12 (by kernel_rfl) K1
        have e2 := hK.vl 2 13 (by kernel_rfl) K2
        have e3 := hK.vl 3 14 (by kernel_rfl) K3
        have e4 := hK.vl 4 15 (by kernel_rfl) K4
        have e5 := hK.vl 5 16 (by kernel_rfl) K5
        have F4 : Fr a4 19 [(0, v), (3, (.pointer (some ⟨g0, 0, none⟩))), (5, (.int .i64 (i : Int))), (7, (.int .i64 (K.length : Int))), (8, (.int .i64 (i : Int))), (9, (.bool true)), (10, (.int .i64 (i : Int))), (16, (.bool false))] := (hK.fr F3 [_, _, _, _, _, _] ⟨e0, e1, e2, e3, e4, e5, trivial⟩).sub ⟨rfl, rfl, rfl, rfl, rfl, rfl, rfl, rfl, trivial⟩
        have M1 := M0.grow hb2
        clear hK K0 e0 K1 e1 K2 e2 K3 e3 K4 e4 K5 e5
        clear F3 M0
        refine nx ?_
        refine wp_cond_false (F4.ev 16 rfl) ?_
        refine wp_skip ?_
        refine bkEnd ?_
        refine nx ?_
        refine wp_region_lit ?_
        refine sr F4 (run_add (r := ((i + 1 : Nat) : Int)) rfl (F4.ev 8 rfl) rfl (by rw [IntKind.wrap_i64]; omega)) rfl rfl rfl fun a5 F5 => ?_
        refine mvS F5 rfl rfl rfl rfl rfl fun a6 F6 => ?_
        refine sn ?_
        clear F4 F5
        exact ⟨_, by omega, i + 1, by omega, rfl, by rw [List.take_add_one, hy]; simp [hni, hxy], F6.sub ⟨rfl, rfl, rfl, rfl, trivial⟩, M1⟩
  · skip
    refine wsl ?_
    refine sr (v := (.bool false)) F0 (run_lss rfl (F0.ev 8 rfl) (F0.ev 7 rfl) (decide_eq_false (by omega))) rfl rfl rfl fun a1 F1 => ?_
    refine sn ?_
    clear F0
    refine wp_seq ?_
    refine wp_cond_false (F1.ev 9 rfl) ?_
    refine wp_exit ?_
    refine nxExit ?_
    refine nxExit ?_
    refine bkHere ?_
    refine nx ?_
    refine wsl ?_
    refine sr (v := (.int .i64 (-1))) F1 (run_as rfl rfl) rfl rfl rfl fun a2 F2 => ?_
    refine sn ?_
    clear F1
    refine wp_ret ?_
    exact ret1 F2 rfl rfl ⟨⟨_, rfl, iff_of_false (by omega) (by rw [List.take_of_length_le (by omega)] at hni; exact hni)⟩, M0.below⟩
set_option maxRecDepth 100000 in
set_option maxHeartbeats 1000000 in
theorem contains_key (K : List (List UInt8)) (v : Value) (x : List UInt8) (w : World) (hV : Sl w v 32 K.length (K.flatMap dgC)) (h32 : ∀ k ∈ K, k.length = 32) (hLx : x.length = 32) (hKl : K.length < 2 ^ 36) : Calls Tryd.prog 42 #[v, .agg (cells8 x)] w fun e w' => e = .returned (.bool (decide (x ∈ K))) ∧ Below w.heap.size w w' := by
  refine walk_enter Tryd.func42 rfl rfl rfl fun a0 F0 => ?_
  have M0 := Mem.new w
  refine wsl ?_
  refine sqNew (cs := (cells8 x)) (t := 23) F0 M0 (wantedS rfl) (run_box rfl (F0.ev 1 rfl)) rfl (by decide) fun g0 a1 w1 hgg0 hb1 F1 M1 => ?_
  refine sr (v := (.bool false)) F1 (run_as rfl rfl) rfl rfl rfl fun a2 F2 => ?_
  refine sn ?_
  clear F0 F1 M0
  refine wsl ?_
  refine mvS F2 rfl rfl rfl rfl rfl fun a3 F3 => ?_
  refine sr F3 (run_ldB rfl (F3.ev 3 rfl) (M1.at 0 rfl) Tryd.underlying23 rfl sz32k (szOf hLx)) rfl rfl rfl fun a4 F4 => ?_
  refine sqT (T := fun u wx => (∃ r : Int, u = .int .i64 r ∧ (0 ≤ r ↔ x ∈ K)) ∧ Below w1.heap.size w1 wx) F4 (wantedS rfl) (run_call rfl Tryd.func69 (by kernel_rfl) rfl (mapE2 (F4.ev 5 rfl) (F4.ev 6 rfl))) rfl (by decide) ((index_key K v x w1 (hV.below M1.below) h32 hLx hKl).mono fun e w2 ⟨⟨r, h1, h2⟩, h3⟩ => ⟨_, h1, ⟨r, rfl, h2⟩, h3⟩) fun u1 a5 w2 hT2 F5 => ?_
  obtain ⟨⟨r, rfl, hr⟩, hb2⟩ := hT2
  have M2 := M1.grow hb2
  refine sr (v := (.bool (decide (x ∈ K)))) F5 (run_geq rfl (F5.ev 7 rfl) rfl (by rw [decide_eq_decide]; exact hr)) rfl rfl rfl fun a6 F6 => ?_
  refine asS F6 rfl rfl rfl rfl rfl fun a7 F7 => ?_
  refine sn ?_
  clear F2 F3 F4 F5 F6 M1
  refine wp_ret ?_
  exact ret1 F7 rfl rfl ⟨rfl, M2.below⟩
theorem run_boxV {a : Act} {o : Oper} {w : World} {x : Operand} {t : TypeId} {v : Value} (hv : ∃ ad n c, v = .slice ad n c) (ho : o.op = .box t x) (hx : a.eval x = v) : (execOp a.eval o).run Tryd.prog w = .ok (.value (.pointer (some ⟨w.heap.size, 0, none⟩))) (w.alloc (.cells #[v] t)) := by
  obtain ⟨ad, n, c, rfl⟩ := hv
  unfold execOp
  simp only [ho, hx]
  simp [go_sem]
set_option maxRecDepth 100000 in
set_option maxHeartbeats 1000000 in
theorem behindE_any (v : Value) (w : World) (hsl : ∃ ad n c, v = .slice ad n c) : Calls Tryd.prog 46 #[v] w fun e w' => ∃ u, e = .returned u ∧ ∃ g, u = .func (.func 72) #[] #[.pointer (some ⟨g, 0, none⟩)] ∧ w.heap.size ≤ g ∧ Blk w' g 25 #[v] ∧ Below w.heap.size w w' := by
  refine walk_enter Tryd.func46 rfl rfl rfl fun a0 F0 => ?_
  have M0 := Mem.new w
  refine wsl ?_
  refine sqNew (cs := #[v]) (t := 25) F0 M0 (wantedS rfl) (run_boxV hsl rfl (F0.ev 0 rfl)) rfl (by decide) fun g0 a1 w1 hgg0 hb1 F1 M1 => ?_
  refine sr (v := .nilFunc) F1 (run_as rfl rfl) rfl rfl rfl fun a2 F2 => ?_
  refine sn ?_
  refine wsl ?_
  refine sr (v := (.func (.func 72) #[] #[(.pointer (some ⟨g0, 0, none⟩))])) F2 (run_mkFn1 rfl (F2.ev 1 rfl)) rfl rfl rfl fun a3 F3 => ?_
  refine asS F3 rfl rfl rfl rfl rfl fun a4 F4 => ?_
  refine sn ?_
  clear F2 F3
  refine wp_ret ?_
  exact ret1 F4 rfl rfl ⟨_, rfl, g0, rfl, hgg0, M1.at 0 rfl, M1.below⟩
theorem ldEp {e : Ep} (h : e.c.length = 32) {r : Result Next} {w : World} (hr : r = .ok (.value (.agg (epF e).toArray)) w) : r = .ok (.value (.agg (epC e))) w := by
  rw [epF_of h] at hr; exact hr
theorem sqIN {P : Program} {a : Act} {o : Oper} {w w2 : World} {n s m : Nat} {L : List (Nat × Value)} {v : Value} {ops : Array Oper} {rest : List Oper} {Q : Exit → Act → World → Prop} {D : List Deferred} (hF : FrD D a n L) (hw : Region.wanted o (yielded ops a.tmps) = true) (hrun : (execOp a.eval o).run P w = .ok (.value v) w2) (hd : o.dst = some s) (hs : s < n)
    (h : ∀ a2, FrD D a2 n ((s, v) :: L) → wpListIn Fence.wide m P ops Q rest a2 w2) : wpListIn Fence.wide m P ops Q (o :: rest) a w := sqI hF hw hrun hd hs h
set_option maxRecDepth 100000 in
set_option maxHeartbeats 1000000 in
theorem behindE1_any (E : List Ep) (hE32 : ∀ e ∈ E, e.c.length = 32) (v : Value) (lp gk : Nat) (w0 w : World) (hV : Sl w0 v 33 E.length (E.flatMap epF)) (hEl : E.length < 2 ^ 36) (MS : Nat → List (Nat × (Obj → Prop))) (hM : Mem w0 ((gk, isB 25 #[v]) :: MS E.length) w) (X : World → Prop) (Ok : Nat → Prop) (hOk : Ok E.length) (hX0 : ∀ W, Ok 0 → Mem w0 ((gk, isB 25 #[v]) :: MS 0) W → X W)
    (hY : ∀ (i : Nat) (e : Ep) (W : World), E[i]? = some e → Ok (i + 1) → Mem w0 ((gk, isB 25 #[v]) :: MS (i + 1)) W → YieldW Tryd.prog lp #[.int .i64 (i : Int), .agg (epC e)] W fun b W' => (b = true ∧ Ok i ∧ Mem w0 ((gk, isB 25 #[v]) :: MS i) W') ∨ (b = false ∧ X W')) :
    Calls Tryd.prog 72 #[.func (.yield lp) #[] #[], .pointer (some ⟨gk, 0, none⟩)] w fun e w' => (∃ u, e = .returned u) ∧ X w' := by
  refine walk_enter Tryd.func72 rfl rfl rfl fun a0 F0 => ?_
  have M0 := hM
  refine wsl ?_
  refine sr F0 (run_ld1 rfl (F0.ev 1 rfl) (M0.at 0 rfl) (by kernel_rfl)) rfl rfl rfl fun a1 F1 => ?_
  refine sr F1 (run_lenS rfl (F1.ev 4 rfl) (hV.below M0.below) rfl Tryd.underlying25) rfl rfl rfl fun a2 F2 => ?_
  refine sr F2 (run_sub (r := ((E.length : Int) - 1)) rfl (F2.ev 5 rfl) rfl (by rw [IntKind.wrap_i64]; omega)) rfl rfl rfl fun a3 F3 => ?_
  refine asS F3 rfl rfl rfl rfl rfl fun a4 F4 => ?_
  refine sn ?_
  clear F0 F1 F2 F3
  refine wp_block ?_
  refine wkLoop (fun m a w2 => ∃ i : Nat, i ≤ E.length ∧ m = i ∧ Ok i ∧ Fr a 19 [(0, .func (.yield lp) #[] #[]), (1, .pointer (some ⟨gk, 0, none⟩)), (3, .int .i64 ((i : Int) - 1))] ∧ Mem w0 ((gk, isB 25 #[v]) :: MS i) w2) E.length ⟨E.length, Nat.le_refl _, rfl, hOk, F4.sub ⟨rfl, rfl, rfl, trivial⟩, M0⟩ ?_
  rintro m a0 w1 ⟨i, hi, rfl, hok, F0, M0⟩
  by_cases h1 : 1 ≤ m
  · obtain ⟨q, rfl⟩ : ∃ q, m = q + 1 := ⟨m - 1, by omega⟩
    obtain ⟨e, he⟩ : ∃ e, E[q]? = some e := ⟨E[q], List.getElem?_eq_getElem (by omega)⟩
    have hqe : ((q + 1 : Nat) : Int) - 1 = (q : Int) := by omega
    rw [hqe] at F0
    have hLe := hE32 e (List.mem_of_getElem? he)
    refine wp_seq ?_
    refine wsl ?_
    refine mvS F0 rfl rfl rfl rfl rfl fun a1 F1 => ?_
    refine sr (v := (.bool true)) F1 (run_geq rfl (F1.ev 7 rfl) rfl (decide_eq_true (by omega))) rfl rfl rfl fun a2 F2 => ?_
    refine sn ?_
    clear F0 F1
    refine cts (F2.ev 8 rfl) ?_
    refine wp_seq ?_
    refine wp_block ?_
    refine wp_seq ?_
    refine (wpIn_wide (n := 0)).1 (wpIn_region_lit ?_)
    refine sqI (v := (.func (.yield lp) #[] #[])) F2 (wantedS rfl) (run_mv rfl (F2.ev 0 rfl)) rfl (by decide) fun a3 F3 => ?_
    refine sqI (v := (.int .i64 (q : Int))) F3 (wantedS rfl) (run_mv rfl (F3.ev 3 rfl)) rfl (by decide) fun a4 F4 => ?_
    refine sqI (v := v) F4 (wantedS rfl) (run_ld1 rfl (F4.ev 1 rfl) (M0.at 0 rfl) (by kernel_rfl)) rfl (by decide) fun a5 F5 => ?_
    refine sqI (v := (.int .i64 (q : Int))) F5 (wantedS rfl) (run_mv rfl (F5.ev 3 rfl)) rfl (by decide) fun a6 F6 => ?_
    refine sqI (v := (slPtr v (q * 33))) F6 (wantedS rfl) (run_atP (i := q) rfl (F6.ev 13 rfl) (F6.ev 14 rfl) rfl (hV.below M0.below) (by omega) elEp.un (by kernel_rfl)) rfl (by decide) fun a7 F7 => ?_
    refine sqI (v := (.agg (epC e))) F7 (wantedS rfl) (ldEp hLe (run_ldPS (ys := epF e) rfl (F7.ev 15 rfl) (hV.below M0.below) (by omega) (fun j u hj => flat_at epF_len he j hj) (by kernel_rfl) (by kernel_rfl))) rfl (by decide) fun a8 F8 => ?_
    refine sqY F8 (wantedS rfl) (run_callY rfl (F8.ev 11 rfl) (mapE2 (F8.ev 12 rfl) (F8.ev 16 rfl))) (hY q e w1 he hok M0) rfl (by decide) fun b a9 w2 hR F9 => ?_
    rcases hR with ⟨rfl, hok2, M1⟩ | ⟨rfl, hX⟩
    · skip
      refine sqIN (v := (.bool false)) F9 (wantedS rfl) (run_not rfl (F9.ev 17 rfl)) rfl (by decide) fun a10 F10 => ?_
      refine sqYEnd ?_
      refine nx ?_
      refine wp_cond_false (F10.ev 18 rfl) ?_
      refine wp_skip ?_
      refine bkEnd ?_
      refine nx ?_
      refine wp_region_lit ?_
      refine mvS F10 rfl rfl rfl rfl rfl fun a11 F11 => ?_
      refine sr F11 (run_sub (r := ((q : Int) - 1)) rfl (F11.ev 9 rfl) rfl (by rw [IntKind.wrap_i64]; omega)) rfl rfl rfl fun a12 F12 => ?_
      refine asS F12 rfl rfl rfl rfl rfl fun a13 F13 => ?_
      refine sn ?_
      clear F10 F11 F12
      exact ⟨_, by omega, q, by omega, rfl, hok2, F13.sub ⟨rfl, rfl, rfl, trivial⟩, M1⟩
    · skip
      refine sqIN (v := (.bool true)) F9 (wantedS rfl) (run_not rfl (F9.ev 17 rfl)) rfl (by decide) fun a10 F10 => ?_
      refine sqYEnd ?_
      refine nx ?_
      refine wp_cond_true (F10.ev 18 rfl) ?_
      refine wp_ret ?_
      refine bkRet ?_
      refine nxRet ?_
      refine nxRet ?_
      refine bkRet ?_
      exact ret0 F10 rfl ⟨⟨_, rfl⟩, hX⟩
  · obtain rfl : m = 0 := by omega
    refine wp_seq ?_
    refine wsl ?_
    refine mvS F0 rfl rfl rfl rfl rfl fun a1 F1 => ?_
    refine sr (v := (.bool false)) F1 (run_geq rfl (F1.ev 7 rfl) rfl (decide_eq_false (by omega))) rfl rfl rfl fun a2 F2 => ?_
    refine sn ?_
    clear F0 F1
    refine wp_cond_false (F2.ev 8 rfl) ?_
    refine wp_exit ?_
    refine nxExit ?_
    refine nxExit ?_
    refine bkHere ?_
    exact end0 F2 rfl ⟨⟨_, rfl⟩, hX0 _ hok M0⟩
end Go.Proofs.YtconhhhggckcbaaDoor
