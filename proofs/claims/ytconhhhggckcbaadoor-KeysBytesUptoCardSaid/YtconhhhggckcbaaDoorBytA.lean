/- The walks of keys.mayBe and of the reference's right. Printed by gen_key31.py. -/
import Derived.Test.YtconhhhggckcbaaDoorBytS
import Derived.Test.YtconhhhggckcbaaDoorRngA
namespace Go.Proofs.YtconhhhggckcbaaDoor
open Go.RowKit

attribute [local irreducible] sealS keyedS nonceS openS
theorem run_neb {P : Program} {W : World} {a : Act} {o : Oper} {x y : Operand} {t t2 : TypeId} {b c d : Bool} (ho : o.op = .binOp .neq t x y t2) (hx : a.eval x = .bool c) (hy : a.eval y = .bool d) (hu : P.underlying t = some .bool) (h : (!(c == d)) = b) : (execOp a.eval o).run P W = .ok (.value (.bool b)) W :=
  run_bin ho hx hy (guard_bool _ _ _) (by simp [binOp, h, run_equal_bool W t c d hu])
set_option maxRecDepth 100000 in
set_option maxHeartbeats 1000000 in
theorem kmay_any (E : List Ep) (v : Value) (w : World) (hV : Sl w v 33 E.length (E.flatMap epF)) (hE32 : ∀ e ∈ E, e.c.length = 32) : Calls Tryd.prog 58 #[.agg #[v]] w fun e w' => e = .returned (.bool (decide (mayP E))) ∧ Below w.heap.size w w' := by
  by_cases h0 : E.length = 0
  · have hs : decide (mayP E) = false := decide_eq_false fun h => by have := h.1; have := h.2.1; omega
    refine walk_enter Tryd.func58 rfl rfl rfl fun a0 F0 => ?_
    have M0 := Mem.new w
    refine wsl ?_
    refine sqNew (cs := #[v]) (t := 27) F0 M0 (wantedS rfl) (run_box rfl (F0.ev 0 rfl)) rfl (by decide) fun g0 a1 w1 hgg0 hb1 F1 M1 => ?_
    refine sr (v := (.bool false)) F1 (run_as rfl rfl) rfl rfl rfl fun a2 F2 => ?_
    refine sn ?_
    clear F0 F1 M0
    refine wp_seq ?_
    refine wsl ?_
    refine sr F2 (run_fldA (m := 1) (s := 0) rfl (F2.ev 1 rfl) Tryd.underlying27 rfl rfl (by kernel_rfl) (by decide)) rfl rfl rfl fun a3 F3 => ?_
    refine sr (v := v) F3 (run_ldF rfl (F3.ev 5 rfl) (M1.at 0 rfl) rfl (by kernel_rfl)) rfl rfl rfl fun a4 F4 => ?_
    refine sr F4 (run_lenS rfl (F4.ev 6 rfl) (hV.below M1.below) rfl Tryd.underlying25) rfl rfl rfl fun a5 F5 => ?_
    refine sr (v := (.bool true)) F5 (run_lss rfl (F5.ev 7 rfl) rfl (decide_eq_true (by omega))) rfl rfl rfl fun a6 F6 => ?_
    refine mvS F6 rfl rfl rfl rfl rfl fun a7 F7 => ?_
    refine sqSkip F7 (unwantedG F7 rfl rfl rfl rfl rfl) rfl (by decide) fun a8 F8 => ?_
    refine sqSkip F8 (unwantedG F8 rfl rfl rfl rfl rfl) rfl (by decide) fun a9 F9 => ?_
    refine sqSkip F9 (unwantedG F9 rfl rfl rfl rfl rfl) rfl (by decide) fun a10 F10 => ?_
    refine sqSkip F10 (unwantedG F10 rfl rfl rfl rfl rfl) rfl (by decide) fun a11 F11 => ?_
    refine sr (v := (.bool true)) F11 (run_pick rfl (F11.ev 9 rfl) rfl (F11.ev 13 rfl)) rfl rfl rfl fun a12 F12 => ?_
    refine sn ?_
    clear F2 F3 F4 F5 F6 F7 F8 F9 F10 F11
    refine wp_cond_true (F12.ev 14 rfl) ?_
    refine wsl ?_
    refine sr (v := (.bool false)) F12 (run_as rfl rfl) rfl rfl rfl fun a13 F13 => ?_
    refine sn ?_
    clear F12
    refine wp_ret ?_
    refine nxRet ?_
    exact ret1 F13 rfl rfl ⟨by rw [hs], M1.below⟩
  by_cases h100 : 100 < E.length
  · have hs : decide (mayP E) = false := decide_eq_false fun h => by have := h.1; have := h.2.1; omega
    refine walk_enter Tryd.func58 rfl rfl rfl fun a0 F0 => ?_
    have M0 := Mem.new w
    refine wsl ?_
    refine sqNew (cs := #[v]) (t := 27) F0 M0 (wantedS rfl) (run_box rfl (F0.ev 0 rfl)) rfl (by decide) fun g0 a1 w1 hgg0 hb1 F1 M1 => ?_
    refine sr (v := (.bool false)) F1 (run_as rfl rfl) rfl rfl rfl fun a2 F2 => ?_
    refine sn ?_
    clear F0 F1 M0
    refine wp_seq ?_
    refine wsl ?_
    refine sr F2 (run_fldA (m := 1) (s := 0) rfl (F2.ev 1 rfl) Tryd.underlying27 rfl rfl (by kernel_rfl) (by decide)) rfl rfl rfl fun a3 F3 => ?_
    refine sr (v := v) F3 (run_ldF rfl (F3.ev 5 rfl) (M1.at 0 rfl) rfl (by kernel_rfl)) rfl rfl rfl fun a4 F4 => ?_
    refine sr F4 (run_lenS rfl (F4.ev 6 rfl) (hV.below M1.below) rfl Tryd.underlying25) rfl rfl rfl fun a5 F5 => ?_
    refine sr (v := (.bool false)) F5 (run_lss rfl (F5.ev 7 rfl) rfl (decide_eq_false (by omega))) rfl rfl rfl fun a6 F6 => ?_
    refine mvS F6 rfl rfl rfl rfl rfl fun a7 F7 => ?_
    refine sq (v := (.pointer (some ⟨g0, 0, none⟩))) F7 (wantedG F7 rfl rfl rfl rfl rfl) (run_fldA (m := 1) (s := 0) rfl (F7.ev 1 rfl) Tryd.underlying27 rfl rfl (by kernel_rfl) (by decide)) rfl (by decide) fun a8 F8 => ?_
    refine sq (v := v) F8 (wantedG F8 rfl rfl rfl rfl rfl) (run_ldF rfl (F8.ev 10 rfl) (M1.at 0 rfl) rfl (by kernel_rfl)) rfl (by decide) fun a9 F9 => ?_
    refine sq (v := (.int .i64 (E.length : Int))) F9 (wantedG F9 rfl rfl rfl rfl rfl) (run_lenS rfl (F9.ev 11 rfl) (hV.below M1.below) rfl Tryd.underlying25) rfl (by decide) fun a10 F10 => ?_
    refine sq (v := (.bool true)) F10 (wantedG F10 rfl rfl rfl rfl rfl) (run_gtr rfl (F10.ev 12 rfl) rfl (decide_eq_true (by omega))) rfl (by decide) fun a11 F11 => ?_
    refine sr (v := (.bool true)) F11 (run_pick rfl (F11.ev 9 rfl) rfl (F11.ev 13 rfl)) rfl rfl rfl fun a12 F12 => ?_
    refine sn ?_
    clear F2 F3 F4 F5 F6 F7 F8 F9 F10 F11
    refine wp_cond_true (F12.ev 14 rfl) ?_
    refine wsl ?_
    refine sr (v := (.bool false)) F12 (run_as rfl rfl) rfl rfl rfl fun a13 F13 => ?_
    refine sn ?_
    clear F12
    refine wp_ret ?_
    refine nxRet ?_
    exact ret1 F13 rfl rfl ⟨by rw [hs], M1.below⟩
  refine walk_enter Tryd.func58 rfl rfl rfl fun a0 F0 => ?_
  have M0 := Mem.new w
  refine wsl ?_
  refine sqNew (cs := #[v]) (t := 27) F0 M0 (wantedS rfl) (run_box rfl (F0.ev 0 rfl)) rfl (by decide) fun g0 a1 w1 hgg0 hb1 F1 M1 => ?_
  refine sr (v := (.bool false)) F1 (run_as rfl rfl) rfl rfl rfl fun a2 F2 => ?_
  refine sn ?_
  clear F0 F1 M0
  refine wp_seq ?_
  refine wsl ?_
  refine sr F2 (run_fldA (m := 1) (s := 0) rfl (F2.ev 1 rfl) Tryd.underlying27 rfl rfl (by kernel_rfl) (by decide)) rfl rfl rfl fun a3 F3 => ?_
  refine sr (v := v) F3 (run_ldF rfl (F3.ev 5 rfl) (M1.at 0 rfl) rfl (by kernel_rfl)) rfl rfl rfl fun a4 F4 => ?_
  refine sr F4 (run_lenS rfl (F4.ev 6 rfl) (hV.below M1.below) rfl Tryd.underlying25) rfl rfl rfl fun a5 F5 => ?_
  refine sr (v := (.bool false)) F5 (run_lss rfl (F5.ev 7 rfl) rfl (decide_eq_false (by omega))) rfl rfl rfl fun a6 F6 => ?_
  refine mvS F6 rfl rfl rfl rfl rfl fun a7 F7 => ?_
  refine sq (v := (.pointer (some ⟨g0, 0, none⟩))) F7 (wantedG F7 rfl rfl rfl rfl rfl) (run_fldA (m := 1) (s := 0) rfl (F7.ev 1 rfl) Tryd.underlying27 rfl rfl (by kernel_rfl) (by decide)) rfl (by decide) fun a8 F8 => ?_
  refine sq (v := v) F8 (wantedG F8 rfl rfl rfl rfl rfl) (run_ldF rfl (F8.ev 10 rfl) (M1.at 0 rfl) rfl (by kernel_rfl)) rfl (by decide) fun a9 F9 => ?_
  refine sq (v := (.int .i64 (E.length : Int))) F9 (wantedG F9 rfl rfl rfl rfl rfl) (run_lenS rfl (F9.ev 11 rfl) (hV.below M1.below) rfl Tryd.underlying25) rfl (by decide) fun a10 F10 => ?_
  refine sq (v := (.bool false)) F10 (wantedG F10 rfl rfl rfl rfl rfl) (run_gtr rfl (F10.ev 12 rfl) rfl (decide_eq_false (by omega))) rfl (by decide) fun a11 F11 => ?_
  refine sr (v := (.bool false)) F11 (run_pick rfl (F11.ev 9 rfl) rfl (F11.ev 13 rfl)) rfl rfl rfl fun a12 F12 => ?_
  refine sn ?_
  clear F2 F3 F4 F5 F6 F7 F8 F9 F10 F11
  refine cfs (F12.ev 14 rfl) ?_
  refine wp_seq ?_
  refine wsl ?_
  refine sr F12 (run_fldA (m := 1) (s := 0) rfl (F12.ev 1 rfl) Tryd.underlying27 rfl rfl (by kernel_rfl) (by decide)) rfl rfl rfl fun a13 F13 => ?_
  refine sr (v := v) F13 (run_ldF rfl (F13.ev 15 rfl) (M1.at 0 rfl) rfl (by kernel_rfl)) rfl rfl rfl fun a14 F14 => ?_
  refine sr F14 (run_lenS rfl (F14.ev 16 rfl) (hV.below M1.below) rfl Tryd.underlying25) rfl rfl rfl fun a15 F15 => ?_
  refine sr (v := (.int .i64 0)) F15 (run_mv rfl rfl) rfl rfl rfl fun a16 F16 => ?_
  refine sn ?_
  clear F12 F13 F14 F15
  refine wp_block ?_
  refine wkLoop (fun m a0 w2 => ∃ i : Nat, i ≤ E.length ∧ m = E.length - i ∧ (∀ q, q < i → (q = 0 ↔ (E.getD q noEp).wr = [])) ∧ Fr a0 30 [(1, .pointer (some ⟨g0, 0, none⟩)), (16, v), (17, .int .i64 (E.length : Int)), (18, .int .i64 (i : Int))] ∧ Mem w [(g0, isB 27 #[v])] w2) E.length ⟨0, Nat.zero_le _, rfl, fun q hq => by omega, F16.sub ⟨rfl, rfl, rfl, rfl, trivial⟩, M1.sub (.cons_cons _ .slnil)⟩ ?_
  rintro m a0 w1 ⟨i, hi, rfl, hok, F0, M0⟩
  by_cases h1 : i < E.length
  · obtain ⟨e, he⟩ : ∃ e, E[i]? = some e := ⟨E[i], List.getElem?_eq_getElem h1⟩
    have hLe := hE32 e (List.mem_of_getElem? he)
    refine wsl ?_
    refine sr (v := (.bool true)) F0 (run_lss rfl (F0.ev 18 rfl) (F0.ev 17 rfl) (decide_eq_true (by omega))) rfl rfl rfl fun a1 F1 => ?_
    refine sn ?_
    clear F0
    refine wp_seq ?_
    refine cts (F1.ev 19 rfl) ?_
    refine wp_seq ?_
    refine wp_block ?_
    refine wsl ?_
    refine mvS F1 rfl rfl rfl rfl rfl fun a2 F2 => ?_
    refine sr (v := (slPtr v (i * 33))) F2 (run_atP (i := i) rfl (F2.ev 16 rfl) (F2.ev 18 rfl) rfl (hV.below M0.below) (by omega) elEp.un (by kernel_rfl)) rfl rfl rfl fun a3 F3 => ?_
    refine sr (v := (.agg (epC e))) F3 (ldEp hLe (run_ldPS (ys := epF e) rfl (F3.ev 21 rfl) (hV.below M0.below) (by omega) (fun j u hj => flat_at epF_len he j hj) (by kernel_rfl) (by kernel_rfl))) rfl rfl rfl fun a4 F4 => ?_
    refine sqNew (cs := (epC ⟨List.replicate 32 0, []⟩)) (t := 76) F4 M0 (wantedS rfl) (run_alloc rfl (by kernel_rfl)) rfl (by decide) fun g1 a5 w2 hgg1 hb2 F5 M1 => ?_
    refine asS F5 rfl rfl rfl rfl rfl fun a6 F6 => ?_
    refine sqStore (i := 0) F6 M1 rfl rfl rfl (F6.ev 4 rfl) (F6.ev 22 rfl) rfl szEp (epC_size (e := e) hLe) (epC_size (e := ⟨List.replicate 32 0, []⟩) List.length_replicate) (epC_one e) fun a7 w3 F7 M2 => ?_
    refine sn ?_
    clear F1 F2 F3 F4 F5 F6 M0 M1
    refine wp_seq ?_
    rcases Nat.eq_zero_or_pos i with hi0 | hi0 <;> rcases Classical.em (e.wr = []) with hw | hw
    · have hiff : (i = 0 ↔ e.wr = []) := iff_of_true hi0 hw
      refine wp_region_lit ?_
      refine mvS F7 rfl rfl rfl rfl rfl fun a8 F8 => ?_
      refine sr (v := (.bool true)) F8 (run_eqi rfl (F8.ev 23 rfl) rfl (beq_iff_eq.2 (by omega))) rfl rfl rfl fun a9 F9 => ?_
      refine sr F9 (run_fldA (m := 1) (s := 32) rfl (F9.ev 4 rfl) Tryd.underlying76 rfl rfl (by kernel_rfl) (by decide)) rfl rfl rfl fun a10 F10 => ?_
      refine sr (v := (.string ⟨e.wr.toArray⟩)) F10 (run_ldF rfl (F10.ev 25 rfl) (M2.at 0 rfl) (epC_wrap (c := e.c) (wr := e.wr) hLe) (by kernel_rfl)) rfl rfl rfl fun a11 F11 => ?_
      refine sr (v := (.bool true)) F11 (run_eqs rfl (F11.ev 26 rfl) rfl (by rw [hw]; rfl)) rfl rfl rfl fun a12 F12 => ?_
      refine sr (v := (.bool false)) F12 (run_neb rfl (F12.ev 24 rfl) (F12.ev 27 rfl) Tryd.underlying4 rfl) rfl rfl rfl fun a13 F13 => ?_
      refine sn ?_
      clear F7 F8 F9 F10 F11 F12
      refine wp_cond_false (F13.ev 28 rfl) ?_
      refine wp_skip ?_
      refine bkEnd ?_
      refine nx ?_
      refine wp_region_lit ?_
      refine sr F13 (run_add (r := ((i + 1 : Nat) : Int)) rfl (F13.ev 18 rfl) rfl (by rw [IntKind.wrap_i64]; omega)) rfl rfl rfl fun a14 F14 => ?_
      refine mvS F14 rfl rfl rfl rfl rfl fun a15 F15 => ?_
      refine sn ?_
      clear F13 F14
      exact ⟨_, by omega, i + 1, by omega, rfl, fun q hq => by
          rcases Nat.lt_succ_iff_lt_or_eq.1 hq with h | h
          · exact hok q h
          · rw [h, List.getD_eq_getElem?_getD, he]; exact hiff, F15.sub ⟨rfl, rfl, rfl, rfl, trivial⟩, M2.sub (.cons _ (.cons_cons _ .slnil))⟩
    · have hs : decide (mayP E) = false := decide_eq_false (mayP_bad he fun h => hw (h.1 hi0))
      refine wp_region_lit ?_
      refine mvS F7 rfl rfl rfl rfl rfl fun a8 F8 => ?_
      refine sr (v := (.bool true)) F8 (run_eqi rfl (F8.ev 23 rfl) rfl (beq_iff_eq.2 (by omega))) rfl rfl rfl fun a9 F9 => ?_
      refine sr F9 (run_fldA (m := 1) (s := 32) rfl (F9.ev 4 rfl) Tryd.underlying76 rfl rfl (by kernel_rfl) (by decide)) rfl rfl rfl fun a10 F10 => ?_
      refine sr (v := (.string ⟨e.wr.toArray⟩)) F10 (run_ldF rfl (F10.ev 25 rfl) (M2.at 0 rfl) (epC_wrap (c := e.c) (wr := e.wr) hLe) (by kernel_rfl)) rfl rfl rfl fun a11 F11 => ?_
      refine sr (v := (.bool false)) F11 (run_eqs rfl (F11.ev 26 rfl) rfl (beq_eq_false_iff_ne.2 hw)) rfl rfl rfl fun a12 F12 => ?_
      refine sr (v := (.bool true)) F12 (run_neb rfl (F12.ev 24 rfl) (F12.ev 27 rfl) Tryd.underlying4 rfl) rfl rfl rfl fun a13 F13 => ?_
      refine sn ?_
      clear F7 F8 F9 F10 F11 F12
      refine wp_cond_true (F13.ev 28 rfl) ?_
      refine wsl ?_
      refine sr (v := (.bool false)) F13 (run_as rfl rfl) rfl rfl rfl fun a14 F14 => ?_
      refine sn ?_
      clear F13
      refine wp_ret ?_
      refine bkRet ?_
      refine nxRet ?_
      refine nxRet ?_
      refine bkRet ?_
      refine nxRet ?_
      exact ret1 F14 rfl rfl ⟨by rw [hs], M2.below⟩
    · have hs : decide (mayP E) = false := decide_eq_false (mayP_bad he fun h => absurd (h.2 hw) (by omega))
      refine wp_region_lit ?_
      refine mvS F7 rfl rfl rfl rfl rfl fun a8 F8 => ?_
      refine sr (v := (.bool false)) F8 (run_eqi rfl (F8.ev 23 rfl) rfl (beq_eq_false_iff_ne.2 (by omega))) rfl rfl rfl fun a9 F9 => ?_
      refine sr F9 (run_fldA (m := 1) (s := 32) rfl (F9.ev 4 rfl) Tryd.underlying76 rfl rfl (by kernel_rfl) (by decide)) rfl rfl rfl fun a10 F10 => ?_
      refine sr (v := (.string ⟨e.wr.toArray⟩)) F10 (run_ldF rfl (F10.ev 25 rfl) (M2.at 0 rfl) (epC_wrap (c := e.c) (wr := e.wr) hLe) (by kernel_rfl)) rfl rfl rfl fun a11 F11 => ?_
      refine sr (v := (.bool true)) F11 (run_eqs rfl (F11.ev 26 rfl) rfl (by rw [hw]; rfl)) rfl rfl rfl fun a12 F12 => ?_
      refine sr (v := (.bool true)) F12 (run_neb rfl (F12.ev 24 rfl) (F12.ev 27 rfl) Tryd.underlying4 rfl) rfl rfl rfl fun a13 F13 => ?_
      refine sn ?_
      clear F7 F8 F9 F10 F11 F12
      refine wp_cond_true (F13.ev 28 rfl) ?_
      refine wsl ?_
      refine sr (v := (.bool false)) F13 (run_as rfl rfl) rfl rfl rfl fun a14 F14 => ?_
      refine sn ?_
      clear F13
      refine wp_ret ?_
      refine bkRet ?_
      refine nxRet ?_
      refine nxRet ?_
      refine bkRet ?_
      refine nxRet ?_
      exact ret1 F14 rfl rfl ⟨by rw [hs], M2.below⟩
    · have hiff : (i = 0 ↔ e.wr = []) := iff_of_false (by omega) hw
      refine wp_region_lit ?_
      refine mvS F7 rfl rfl rfl rfl rfl fun a8 F8 => ?_
      refine sr (v := (.bool false)) F8 (run_eqi rfl (F8.ev 23 rfl) rfl (beq_eq_false_iff_ne.2 (by omega))) rfl rfl rfl fun a9 F9 => ?_
      refine sr F9 (run_fldA (m := 1) (s := 32) rfl (F9.ev 4 rfl) Tryd.underlying76 rfl rfl (by kernel_rfl) (by decide)) rfl rfl rfl fun a10 F10 => ?_
      refine sr (v := (.string ⟨e.wr.toArray⟩)) F10 (run_ldF rfl (F10.ev 25 rfl) (M2.at 0 rfl) (epC_wrap (c := e.c) (wr := e.wr) hLe) (by kernel_rfl)) rfl rfl rfl fun a11 F11 => ?_
      refine sr (v := (.bool false)) F11 (run_eqs rfl (F11.ev 26 rfl) rfl (beq_eq_false_iff_ne.2 hw)) rfl rfl rfl fun a12 F12 => ?_
      refine sr (v := (.bool false)) F12 (run_neb rfl (F12.ev 24 rfl) (F12.ev 27 rfl) Tryd.underlying4 rfl) rfl rfl rfl fun a13 F13 => ?_
      refine sn ?_
      clear F7 F8 F9 F10 F11 F12
      refine wp_cond_false (F13.ev 28 rfl) ?_
      refine wp_skip ?_
      refine bkEnd ?_
      refine nx ?_
      refine wp_region_lit ?_
      refine sr F13 (run_add (r := ((i + 1 : Nat) : Int)) rfl (F13.ev 18 rfl) rfl (by rw [IntKind.wrap_i64]; omega)) rfl rfl rfl fun a14 F14 => ?_
      refine mvS F14 rfl rfl rfl rfl rfl fun a15 F15 => ?_
      refine sn ?_
      clear F13 F14
      exact ⟨_, by omega, i + 1, by omega, rfl, fun q hq => by
          rcases Nat.lt_succ_iff_lt_or_eq.1 hq with h | h
          · exact hok q h
          · rw [h, List.getD_eq_getElem?_getD, he]; exact hiff, F15.sub ⟨rfl, rfl, rfl, rfl, trivial⟩, M2.sub (.cons _ (.cons_cons _ .slnil))⟩
  · obtain rfl : i = E.length := by omega
    have hs : decide (mayP E) = true := decide_eq_true ⟨by omega, by omega, hok⟩
    refine wsl ?_
    refine sr (v := (.bool false)) F0 (run_lss rfl (F0.ev 18 rfl) (F0.ev 17 rfl) (decide_eq_false (by omega))) rfl rfl rfl fun a1 F1 => ?_
    refine sn ?_
    clear F0
    refine wp_seq ?_
    refine wp_cond_false (F1.ev 19 rfl) ?_
    refine wp_exit ?_
    refine nxExit ?_
    refine nxExit ?_
    refine bkHere ?_
    refine nx ?_
    refine wsl ?_
    refine sr (v := (.bool true)) F1 (run_as rfl rfl) rfl rfl rfl fun a2 F2 => ?_
    refine sn ?_
    clear F1
    refine wp_ret ?_
    exact ret1 F2 rfl rfl ⟨by rw [hs], M0.below⟩
set_option maxRecDepth 100000 in
set_option maxHeartbeats 1000000 in
theorem rright38_any (E : List Ep) (v : Value) (w : World) (hV : Sl w v 33 E.length (E.flatMap epF)) (hE32 : ∀ e ∈ E, e.c.length = 32) : Calls Tryd.prog 60 #[.agg #[v]] w fun e w' => e = .returned (.bool (decide (mayP E))) ∧ Below w.heap.size w w' := by
  by_cases h0 : E.length = 0
  · have hs : decide (mayP E) = false := decide_eq_false fun h => by have := h.1; have := h.2.1; omega
    refine walk_enter Tryd.func60 rfl rfl rfl fun a0 F0 => ?_
    have M0 := Mem.new w
    refine wsl ?_
    refine sqNew (cs := #[v]) (t := 27) F0 M0 (wantedS rfl) (run_box rfl (F0.ev 0 rfl)) rfl (by decide) fun g0 a1 w1 hgg0 hb1 F1 M1 => ?_
    refine sr (v := (.bool false)) F1 (run_as rfl rfl) rfl rfl rfl fun a2 F2 => ?_
    refine sn ?_
    clear F0 F1 M0
    refine wp_seq ?_
    refine wsl ?_
    refine sr F2 (run_fldA (m := 1) (s := 0) rfl (F2.ev 1 rfl) Tryd.underlying27 rfl rfl (by kernel_rfl) (by decide)) rfl rfl rfl fun a3 F3 => ?_
    refine sr (v := v) F3 (run_ldF rfl (F3.ev 4 rfl) (M1.at 0 rfl) rfl (by kernel_rfl)) rfl rfl rfl fun a4 F4 => ?_
    refine sr F4 (run_lenS rfl (F4.ev 5 rfl) (hV.below M1.below) rfl Tryd.underlying25) rfl rfl rfl fun a5 F5 => ?_
    refine sr (v := (.bool true)) F5 (run_eqi rfl (F5.ev 6 rfl) rfl (beq_iff_eq.2 (by omega))) rfl rfl rfl fun a6 F6 => ?_
    refine mvS F6 rfl rfl rfl rfl rfl fun a7 F7 => ?_
    refine sqSkip F7 (unwantedG F7 rfl rfl rfl rfl rfl) rfl (by decide) fun a8 F8 => ?_
    refine sqSkip F8 (unwantedG F8 rfl rfl rfl rfl rfl) rfl (by decide) fun a9 F9 => ?_
    refine sqSkip F9 (unwantedG F9 rfl rfl rfl rfl rfl) rfl (by decide) fun a10 F10 => ?_
    refine sqSkip F10 (unwantedG F10 rfl rfl rfl rfl rfl) rfl (by decide) fun a11 F11 => ?_
    refine sr (v := (.bool true)) F11 (run_pick rfl (F11.ev 8 rfl) rfl (F11.ev 12 rfl)) rfl rfl rfl fun a12 F12 => ?_
    refine sn ?_
    clear F2 F3 F4 F5 F6 F7 F8 F9 F10 F11
    refine wp_cond_true (F12.ev 13 rfl) ?_
    refine wsl ?_
    refine sr (v := (.bool false)) F12 (run_as rfl rfl) rfl rfl rfl fun a13 F13 => ?_
    refine sn ?_
    clear F12
    refine wp_ret ?_
    refine nxRet ?_
    exact ret1 F13 rfl rfl ⟨by rw [hs], M1.below⟩
  by_cases h100 : 100 < E.length
  · have hs : decide (mayP E) = false := decide_eq_false fun h => by have := h.1; have := h.2.1; omega
    refine walk_enter Tryd.func60 rfl rfl rfl fun a0 F0 => ?_
    have M0 := Mem.new w
    refine wsl ?_
    refine sqNew (cs := #[v]) (t := 27) F0 M0 (wantedS rfl) (run_box rfl (F0.ev 0 rfl)) rfl (by decide) fun g0 a1 w1 hgg0 hb1 F1 M1 => ?_
    refine sr (v := (.bool false)) F1 (run_as rfl rfl) rfl rfl rfl fun a2 F2 => ?_
    refine sn ?_
    clear F0 F1 M0
    refine wp_seq ?_
    refine wsl ?_
    refine sr F2 (run_fldA (m := 1) (s := 0) rfl (F2.ev 1 rfl) Tryd.underlying27 rfl rfl (by kernel_rfl) (by decide)) rfl rfl rfl fun a3 F3 => ?_
    refine sr (v := v) F3 (run_ldF rfl (F3.ev 4 rfl) (M1.at 0 rfl) rfl (by kernel_rfl)) rfl rfl rfl fun a4 F4 => ?_
    refine sr F4 (run_lenS rfl (F4.ev 5 rfl) (hV.below M1.below) rfl Tryd.underlying25) rfl rfl rfl fun a5 F5 => ?_
    refine sr (v := (.bool false)) F5 (run_eqi rfl (F5.ev 6 rfl) rfl (beq_eq_false_iff_ne.2 (by omega))) rfl rfl rfl fun a6 F6 => ?_
    refine mvS F6 rfl rfl rfl rfl rfl fun a7 F7 => ?_
    refine sq (v := (.pointer (some ⟨g0, 0, none⟩))) F7 (wantedG F7 rfl rfl rfl rfl rfl) (run_fldA (m := 1) (s := 0) rfl (F7.ev 1 rfl) Tryd.underlying27 rfl rfl (by kernel_rfl) (by decide)) rfl (by decide) fun a8 F8 => ?_
    refine sq (v := v) F8 (wantedG F8 rfl rfl rfl rfl rfl) (run_ldF rfl (F8.ev 9 rfl) (M1.at 0 rfl) rfl (by kernel_rfl)) rfl (by decide) fun a9 F9 => ?_
    refine sq (v := (.int .i64 (E.length : Int))) F9 (wantedG F9 rfl rfl rfl rfl rfl) (run_lenS rfl (F9.ev 10 rfl) (hV.below M1.below) rfl Tryd.underlying25) rfl (by decide) fun a10 F10 => ?_
    refine sq (v := (.bool true)) F10 (wantedG F10 rfl rfl rfl rfl rfl) (run_gtr rfl (F10.ev 11 rfl) rfl (decide_eq_true (by omega))) rfl (by decide) fun a11 F11 => ?_
    refine sr (v := (.bool true)) F11 (run_pick rfl (F11.ev 8 rfl) rfl (F11.ev 12 rfl)) rfl rfl rfl fun a12 F12 => ?_
    refine sn ?_
    clear F2 F3 F4 F5 F6 F7 F8 F9 F10 F11
    refine wp_cond_true (F12.ev 13 rfl) ?_
    refine wsl ?_
    refine sr (v := (.bool false)) F12 (run_as rfl rfl) rfl rfl rfl fun a13 F13 => ?_
    refine sn ?_
    clear F12
    refine wp_ret ?_
    refine nxRet ?_
    exact ret1 F13 rfl rfl ⟨by rw [hs], M1.below⟩
  refine walk_enter Tryd.func60 rfl rfl rfl fun a0 F0 => ?_
  have M0 := Mem.new w
  refine wsl ?_
  refine sqNew (cs := #[v]) (t := 27) F0 M0 (wantedS rfl) (run_box rfl (F0.ev 0 rfl)) rfl (by decide) fun g0 a1 w1 hgg0 hb1 F1 M1 => ?_
  refine sr (v := (.bool false)) F1 (run_as rfl rfl) rfl rfl rfl fun a2 F2 => ?_
  refine sn ?_
  clear F0 F1 M0
  refine wp_seq ?_
  refine wsl ?_
  refine sr F2 (run_fldA (m := 1) (s := 0) rfl (F2.ev 1 rfl) Tryd.underlying27 rfl rfl (by kernel_rfl) (by decide)) rfl rfl rfl fun a3 F3 => ?_
  refine sr (v := v) F3 (run_ldF rfl (F3.ev 4 rfl) (M1.at 0 rfl) rfl (by kernel_rfl)) rfl rfl rfl fun a4 F4 => ?_
  refine sr F4 (run_lenS rfl (F4.ev 5 rfl) (hV.below M1.below) rfl Tryd.underlying25) rfl rfl rfl fun a5 F5 => ?_
  refine sr (v := (.bool false)) F5 (run_eqi rfl (F5.ev 6 rfl) rfl (beq_eq_false_iff_ne.2 (by omega))) rfl rfl rfl fun a6 F6 => ?_
  refine mvS F6 rfl rfl rfl rfl rfl fun a7 F7 => ?_
  refine sq (v := (.pointer (some ⟨g0, 0, none⟩))) F7 (wantedG F7 rfl rfl rfl rfl rfl) (run_fldA (m := 1) (s := 0) rfl (F7.ev 1 rfl) Tryd.underlying27 rfl rfl (by kernel_rfl) (by decide)) rfl (by decide) fun a8 F8 => ?_
  refine sq (v := v) F8 (wantedG F8 rfl rfl rfl rfl rfl) (run_ldF rfl (F8.ev 9 rfl) (M1.at 0 rfl) rfl (by kernel_rfl)) rfl (by decide) fun a9 F9 => ?_
  refine sq (v := (.int .i64 (E.length : Int))) F9 (wantedG F9 rfl rfl rfl rfl rfl) (run_lenS rfl (F9.ev 10 rfl) (hV.below M1.below) rfl Tryd.underlying25) rfl (by decide) fun a10 F10 => ?_
  refine sq (v := (.bool false)) F10 (wantedG F10 rfl rfl rfl rfl rfl) (run_gtr rfl (F10.ev 11 rfl) rfl (decide_eq_false (by omega))) rfl (by decide) fun a11 F11 => ?_
  refine sr (v := (.bool false)) F11 (run_pick rfl (F11.ev 8 rfl) rfl (F11.ev 12 rfl)) rfl rfl rfl fun a12 F12 => ?_
  refine sn ?_
  clear F2 F3 F4 F5 F6 F7 F8 F9 F10 F11
  refine cfs (F12.ev 13 rfl) ?_
  refine wp_seq ?_
  refine wsl ?_
  refine sr (v := (.int .i64 0)) F12 (run_as rfl rfl) rfl rfl rfl fun a13 F13 => ?_
  refine sn ?_
  clear F12
  refine wp_block ?_
  refine wkLoop (fun m a0 w2 => ∃ i : Nat, i ≤ E.length ∧ m = E.length - i ∧ (∀ q, q < i → (q = 0 ↔ (E.getD q noEp).wr = [])) ∧ Fr a0 31 [(1, .pointer (some ⟨g0, 0, none⟩)), (3, .int .i64 (i : Int))] ∧ Mem w [(g0, isB 27 #[v])] w2) E.length ⟨0, Nat.zero_le _, rfl, fun q hq => by omega, F13.sub ⟨rfl, rfl, trivial⟩, M1.sub (.cons_cons _ .slnil)⟩ ?_
  rintro m a0 w1 ⟨i, hi, rfl, hok, F0, M0⟩
  by_cases h1 : i < E.length
  · obtain ⟨e, he⟩ : ∃ e, E[i]? = some e := ⟨E[i], List.getElem?_eq_getElem h1⟩
    have hLe := hE32 e (List.mem_of_getElem? he)
    refine wp_seq ?_
    refine wsl ?_
    refine mvS F0 rfl rfl rfl rfl rfl fun a1 F1 => ?_
    refine sr F1 (run_fldA (m := 1) (s := 0) rfl (F1.ev 1 rfl) Tryd.underlying27 rfl rfl (by kernel_rfl) (by decide)) rfl rfl rfl fun a2 F2 => ?_
    refine sr (v := v) F2 (run_ldF rfl (F2.ev 15 rfl) (M0.at 0 rfl) rfl (by kernel_rfl)) rfl rfl rfl fun a3 F3 => ?_
    refine sr F3 (run_lenS rfl (F3.ev 16 rfl) (hV.below M0.below) rfl Tryd.underlying25) rfl rfl rfl fun a4 F4 => ?_
    refine sr (v := (.bool true)) F4 (run_lss rfl (F4.ev 14 rfl) (F4.ev 17 rfl) (decide_eq_true (by omega))) rfl rfl rfl fun a5 F5 => ?_
    refine sn ?_
    clear F0 F1 F2 F3 F4
    refine cts (F5.ev 18 rfl) ?_
    refine wp_seq ?_
    refine wp_block ?_
    refine wp_seq ?_
    rcases Nat.eq_zero_or_pos i with hi0 | hi0 <;> rcases Classical.em (e.wr = []) with hw | hw
    · have hiff : (i = 0 ↔ e.wr = []) := iff_of_true hi0 hw
      refine wp_region_lit ?_
      refine sr F5 (run_fldA (m := 1) (s := 0) rfl (F5.ev 1 rfl) Tryd.underlying27 rfl rfl (by kernel_rfl) (by decide)) rfl rfl rfl fun a6 F6 => ?_
      refine sr (v := v) F6 (run_ldF rfl (F6.ev 21 rfl) (M0.at 0 rfl) rfl (by kernel_rfl)) rfl rfl rfl fun a7 F7 => ?_
      refine mvS F7 rfl rfl rfl rfl rfl fun a8 F8 => ?_
      refine sr (v := (slPtr v (i * 33))) F8 (run_atP (i := i) rfl (F8.ev 22 rfl) (F8.ev 23 rfl) rfl (hV.below M0.below) (by omega) elEp.un (by kernel_rfl)) rfl rfl rfl fun a9 F9 => ?_
      refine sr (v := (slPtr v (i * 33 + 32))) F9 (run_fldP (m2 := 1) (s := 32) rfl (F9.ev 24 rfl) (hV.below M0.below) (by omega) Tryd.underlying76 rfl rfl (by kernel_rfl) (by decide)) rfl rfl rfl fun a10 F10 => ?_
      refine sr (v := (.string ⟨e.wr.toArray⟩)) F10 (run_ldP rfl (F10.ev 25 rfl) (hV.below M0.below) (flat_at epF_len he 32 rfl) (by kernel_rfl)) rfl rfl rfl fun a11 F11 => ?_
      refine sr (v := (.bool true)) F11 (run_eqs rfl (F11.ev 26 rfl) rfl (by rw [hw]; rfl)) rfl rfl rfl fun a12 F12 => ?_
      refine mvS F12 rfl rfl rfl rfl rfl fun a13 F13 => ?_
      refine sr (v := (.bool true)) F13 (run_eqi rfl (F13.ev 28 rfl) rfl (beq_iff_eq.2 (by omega))) rfl rfl rfl fun a14 F14 => ?_
      refine sr (v := (.bool false)) F14 (run_neb rfl (F14.ev 27 rfl) (F14.ev 29 rfl) Tryd.underlying4 rfl) rfl rfl rfl fun a15 F15 => ?_
      refine sn ?_
      clear F5 F6 F7 F8 F9 F10 F11 F12 F13 F14
      refine wp_cond_false (F15.ev 30 rfl) ?_
      refine wp_skip ?_
      refine bkEnd ?_
      refine nx ?_
      refine wp_region_lit ?_
      refine mvS F15 rfl rfl rfl rfl rfl fun a16 F16 => ?_
      refine sr F16 (run_add (r := ((i + 1 : Nat) : Int)) rfl (F16.ev 19 rfl) rfl (by rw [IntKind.wrap_i64]; omega)) rfl rfl rfl fun a17 F17 => ?_
      refine asS F17 rfl rfl rfl rfl rfl fun a18 F18 => ?_
      refine sn ?_
      clear F15 F16 F17
      exact ⟨_, by omega, i + 1, by omega, rfl, fun q hq => by
          rcases Nat.lt_succ_iff_lt_or_eq.1 hq with h | h
          · exact hok q h
          · rw [h, List.getD_eq_getElem?_getD, he]; exact hiff, F18.sub ⟨rfl, rfl, trivial⟩, M0.sub (.cons_cons _ .slnil)⟩
    · have hs : decide (mayP E) = false := decide_eq_false (mayP_bad he fun h => hw (h.1 hi0))
      refine wp_region_lit ?_
      refine sr F5 (run_fldA (m := 1) (s := 0) rfl (F5.ev 1 rfl) Tryd.underlying27 rfl rfl (by kernel_rfl) (by decide)) rfl rfl rfl fun a6 F6 => ?_
      refine sr (v := v) F6 (run_ldF rfl (F6.ev 21 rfl) (M0.at 0 rfl) rfl (by kernel_rfl)) rfl rfl rfl fun a7 F7 => ?_
      refine mvS F7 rfl rfl rfl rfl rfl fun a8 F8 => ?_
      refine sr (v := (slPtr v (i * 33))) F8 (run_atP (i := i) rfl (F8.ev 22 rfl) (F8.ev 23 rfl) rfl (hV.below M0.below) (by omega) elEp.un (by kernel_rfl)) rfl rfl rfl fun a9 F9 => ?_
      refine sr (v := (slPtr v (i * 33 + 32))) F9 (run_fldP (m2 := 1) (s := 32) rfl (F9.ev 24 rfl) (hV.below M0.below) (by omega) Tryd.underlying76 rfl rfl (by kernel_rfl) (by decide)) rfl rfl rfl fun a10 F10 => ?_
      refine sr (v := (.string ⟨e.wr.toArray⟩)) F10 (run_ldP rfl (F10.ev 25 rfl) (hV.below M0.below) (flat_at epF_len he 32 rfl) (by kernel_rfl)) rfl rfl rfl fun a11 F11 => ?_
      refine sr (v := (.bool false)) F11 (run_eqs rfl (F11.ev 26 rfl) rfl (beq_eq_false_iff_ne.2 hw)) rfl rfl rfl fun a12 F12 => ?_
      refine mvS F12 rfl rfl rfl rfl rfl fun a13 F13 => ?_
      refine sr (v := (.bool true)) F13 (run_eqi rfl (F13.ev 28 rfl) rfl (beq_iff_eq.2 (by omega))) rfl rfl rfl fun a14 F14 => ?_
      refine sr (v := (.bool true)) F14 (run_neb rfl (F14.ev 27 rfl) (F14.ev 29 rfl) Tryd.underlying4 rfl) rfl rfl rfl fun a15 F15 => ?_
      refine sn ?_
      clear F5 F6 F7 F8 F9 F10 F11 F12 F13 F14
      refine wp_cond_true (F15.ev 30 rfl) ?_
      refine wsl ?_
      refine sr (v := (.bool false)) F15 (run_as rfl rfl) rfl rfl rfl fun a16 F16 => ?_
      refine sn ?_
      clear F15
      refine wp_ret ?_
      refine bkRet ?_
      refine nxRet ?_
      refine nxRet ?_
      refine bkRet ?_
      refine nxRet ?_
      exact ret1 F16 rfl rfl ⟨by rw [hs], M0.below⟩
    · have hs : decide (mayP E) = false := decide_eq_false (mayP_bad he fun h => absurd (h.2 hw) (by omega))
      refine wp_region_lit ?_
      refine sr F5 (run_fldA (m := 1) (s := 0) rfl (F5.ev 1 rfl) Tryd.underlying27 rfl rfl (by kernel_rfl) (by decide)) rfl rfl rfl fun a6 F6 => ?_
      refine sr (v := v) F6 (run_ldF rfl (F6.ev 21 rfl) (M0.at 0 rfl) rfl (by kernel_rfl)) rfl rfl rfl fun a7 F7 => ?_
      refine mvS F7 rfl rfl rfl rfl rfl fun a8 F8 => ?_
      refine sr (v := (slPtr v (i * 33))) F8 (run_atP (i := i) rfl (F8.ev 22 rfl) (F8.ev 23 rfl) rfl (hV.below M0.below) (by omega) elEp.un (by kernel_rfl)) rfl rfl rfl fun a9 F9 => ?_
      refine sr (v := (slPtr v (i * 33 + 32))) F9 (run_fldP (m2 := 1) (s := 32) rfl (F9.ev 24 rfl) (hV.below M0.below) (by omega) Tryd.underlying76 rfl rfl (by kernel_rfl) (by decide)) rfl rfl rfl fun a10 F10 => ?_
      refine sr (v := (.string ⟨e.wr.toArray⟩)) F10 (run_ldP rfl (F10.ev 25 rfl) (hV.below M0.below) (flat_at epF_len he 32 rfl) (by kernel_rfl)) rfl rfl rfl fun a11 F11 => ?_
      refine sr (v := (.bool true)) F11 (run_eqs rfl (F11.ev 26 rfl) rfl (by rw [hw]; rfl)) rfl rfl rfl fun a12 F12 => ?_
      refine mvS F12 rfl rfl rfl rfl rfl fun a13 F13 => ?_
      refine sr (v := (.bool false)) F13 (run_eqi rfl (F13.ev 28 rfl) rfl (beq_eq_false_iff_ne.2 (by omega))) rfl rfl rfl fun a14 F14 => ?_
      refine sr (v := (.bool true)) F14 (run_neb rfl (F14.ev 27 rfl) (F14.ev 29 rfl) Tryd.underlying4 rfl) rfl rfl rfl fun a15 F15 => ?_
      refine sn ?_
      clear F5 F6 F7 F8 F9 F10 F11 F12 F13 F14
      refine wp_cond_true (F15.ev 30 rfl) ?_
      refine wsl ?_
      refine sr (v := (.bool false)) F15 (run_as rfl rfl) rfl rfl rfl fun a16 F16 => ?_
      refine sn ?_
      clear F15
      refine wp_ret ?_
      refine bkRet ?_
      refine nxRet ?_
      refine nxRet ?_
      refine bkRet ?_
      refine nxRet ?_
      exact ret1 F16 rfl rfl ⟨by rw [hs], M0.below⟩
    · have hiff : (i = 0 ↔ e.wr = []) := iff_of_false (by omega) hw
      refine wp_region_lit ?_
      refine sr F5 (run_fldA (m := 1) (s := 0) rfl (F5.ev 1 rfl) Tryd.underlying27 rfl rfl (by kernel_rfl) (by decide)) rfl rfl rfl fun a6 F6 => ?_
      refine sr (v := v) F6 (run_ldF rfl (F6.ev 21 rfl) (M0.at 0 rfl) rfl (by kernel_rfl)) rfl rfl rfl fun a7 F7 => ?_
      refine mvS F7 rfl rfl rfl rfl rfl fun a8 F8 => ?_
      refine sr (v := (slPtr v (i * 33))) F8 (run_atP (i := i) rfl (F8.ev 22 rfl) (F8.ev 23 rfl) rfl (hV.below M0.below) (by omega) elEp.un (by kernel_rfl)) rfl rfl rfl fun a9 F9 => ?_
      refine sr (v := (slPtr v (i * 33 + 32))) F9 (run_fldP (m2 := 1) (s := 32) rfl (F9.ev 24 rfl) (hV.below M0.below) (by omega) Tryd.underlying76 rfl rfl (by kernel_rfl) (by decide)) rfl rfl rfl fun a10 F10 => ?_
      refine sr (v := (.string ⟨e.wr.toArray⟩)) F10 (run_ldP rfl (F10.ev 25 rfl) (hV.below M0.below) (flat_at epF_len he 32 rfl) (by kernel_rfl)) rfl rfl rfl fun a11 F11 => ?_
      refine sr (v := (.bool false)) F11 (run_eqs rfl (F11.ev 26 rfl) rfl (beq_eq_false_iff_ne.2 hw)) rfl rfl rfl fun a12 F12 => ?_
      refine mvS F12 rfl rfl rfl rfl rfl fun a13 F13 => ?_
      refine sr (v := (.bool false)) F13 (run_eqi rfl (F13.ev 28 rfl) rfl (beq_eq_false_iff_ne.2 (by omega))) rfl rfl rfl fun a14 F14 => ?_
      refine sr (v := (.bool false)) F14 (run_neb rfl (F14.ev 27 rfl) (F14.ev 29 rfl) Tryd.underlying4 rfl) rfl rfl rfl fun a15 F15 => ?_
      refine sn ?_
      clear F5 F6 F7 F8 F9 F10 F11 F12 F13 F14
      refine wp_cond_false (F15.ev 30 rfl) ?_
      refine wp_skip ?_
      refine bkEnd ?_
      refine nx ?_
      refine wp_region_lit ?_
      refine mvS F15 rfl rfl rfl rfl rfl fun a16 F16 => ?_
      refine sr F16 (run_add (r := ((i + 1 : Nat) : Int)) rfl (F16.ev 19 rfl) rfl (by rw [IntKind.wrap_i64]; omega)) rfl rfl rfl fun a17 F17 => ?_
      refine asS F17 rfl rfl rfl rfl rfl fun a18 F18 => ?_
      refine sn ?_
      clear F15 F16 F17
      exact ⟨_, by omega, i + 1, by omega, rfl, fun q hq => by
          rcases Nat.lt_succ_iff_lt_or_eq.1 hq with h | h
          · exact hok q h
          · rw [h, List.getD_eq_getElem?_getD, he]; exact hiff, F18.sub ⟨rfl, rfl, trivial⟩, M0.sub (.cons_cons _ .slnil)⟩
  · obtain rfl : i = E.length := by omega
    have hs : decide (mayP E) = true := decide_eq_true ⟨by omega, by omega, hok⟩
    refine wp_seq ?_
    refine wsl ?_
    refine mvS F0 rfl rfl rfl rfl rfl fun a1 F1 => ?_
    refine sr F1 (run_fldA (m := 1) (s := 0) rfl (F1.ev 1 rfl) Tryd.underlying27 rfl rfl (by kernel_rfl) (by decide)) rfl rfl rfl fun a2 F2 => ?_
    refine sr (v := v) F2 (run_ldF rfl (F2.ev 15 rfl) (M0.at 0 rfl) rfl (by kernel_rfl)) rfl rfl rfl fun a3 F3 => ?_
    refine sr F3 (run_lenS rfl (F3.ev 16 rfl) (hV.below M0.below) rfl Tryd.underlying25) rfl rfl rfl fun a4 F4 => ?_
    refine sr (v := (.bool false)) F4 (run_lss rfl (F4.ev 14 rfl) (F4.ev 17 rfl) (decide_eq_false (by omega))) rfl rfl rfl fun a5 F5 => ?_
    refine sn ?_
    clear F0 F1 F2 F3 F4
    refine wp_cond_false (F5.ev 18 rfl) ?_
    refine wp_exit ?_
    refine nxExit ?_
    refine nxExit ?_
    refine bkHere ?_
    refine nx ?_
    refine wsl ?_
    refine sr (v := (.bool true)) F5 (run_as rfl rfl) rfl rfl rfl fun a6 F6 => ?_
    refine sn ?_
    clear F5
    refine wp_ret ?_
    exact ret1 F6 rfl rfl ⟨by rw [hs], M0.below⟩
end Go.Proofs.YtconhhhggckcbaaDoor
