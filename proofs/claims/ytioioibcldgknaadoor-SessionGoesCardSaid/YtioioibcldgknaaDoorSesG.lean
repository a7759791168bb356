/- The walk of the law SessionGoes. Printed by gen_ses7.py. -/
import Derived.Test.YtioioibcldgknaaDoorSes5
import Derived.Test.YtioioibcldgknaaDoorSesF
namespace Go.Proofs.YtioioibcldgknaaDoor
open Go.RowKit

attribute [local simp] xorS_len tagS_len keyedS_len nonceS_len
theorem nxS_add (k : List UInt8) (i : Nat) : ∀ j, nxS (nxS k i) j = nxS k (i + j)
  | 0 => by rw [nxS, Nat.add_zero]
  | j + 1 => by rw [nxS, nxS_add k i j, Nat.add_succ, nxS]
theorem itS_far (c : Ch) (j i : Nat) (h : j ≤ i) : nxS (itS c j).k ((itS c i).n - (itS c j).n) = (itS c i).k := by
  rw [itS_k, itS_k, itS_n, itS_n, nxS_add]
  congr 1
  omega
theorem run_neKey2 {a : Act} {o : Oper} {w : World} {x y : Operand} {t2 : TypeId} {C C2 : List UInt8} (e : C = C2) (h : C2.length = 32) (ho : o.op = .binOp .neq 24 x y t2) (hx : a.eval x = .agg (cells8 C)) (hy : a.eval y = .agg (cells8 C2)) : (execOp a.eval o).run Tryd.prog w = .ok (.value (.bool false)) w := by
  subst e
  exact run_neKey h ho hx hy
theorem itS_next (c : Ch) (i : Nat) : (itS c (i + 1)).k = nextS (itS c i).k := by rw [itS, goS_k]
set_option maxRecDepth 100000 in
set_option maxHeartbeats 1000000 in
theorem lawSGoes_any (c : Ch) (l : List (List UInt8)) (v : Value) (q : Nat) (w : World) (HG : Glob w) (hLc : c.k.length = 32) (hcn : c.n < 2 ^ 64) (hl : Strs w v l ∧ l.length ≤ maxLen) (_hq : q < 2 ^ 32) : Calls Tryd.prog 9 #[.agg (chA c), v, .int .u32 (q : Int)] w fun e w' => e = .returned (.bool true) ∧ Below w.heap.size w w' := by
  have hV := Strs.sl hl.1
  by_cases h1 : 30 < l.length
  · skip
    refine walk_enter Tryd.func9 rfl rfl rfl fun a0 hF0 => ?_
    have hM0 := Mem.new w
    refine wp_seq ?_
    refine wp_region_lit ?_
    refine sqNew (cs := (chA c)) (t := 26) hF0 hM0 (wantedS rfl) (run_box rfl (hF0.ev 0 rfl)) rfl (by decide) fun g0 a1 w1 hgg0 hb1 hF1 hM1 => ?_
    refine sq (v := (.bool false)) hF1 (wantedS rfl) (run_as rfl rfl) rfl (by decide) fun a2 hF2 => ?_
    refine sqEnd ?_
    clear hF0 hF1 hM0
    refine nx ?_
    refine wp_seq ?_
    refine wp_seq ?_
    refine wp_region_lit ?_
    refine sq (v := v) hF2 (wantedS rfl) (run_mv rfl (hF2.ev 1 rfl)) rfl (by decide) fun a3 hF3 => ?_
    refine sq (v := (.int .i64 (l.length : Int))) hF3 (wantedS rfl) (run_lenS rfl (hF3.ev 21 rfl) (hV.below hM1.below) rfl Tryd.underlying34) rfl (by decide) fun a4 hF4 => ?_
    refine sq (v := (.bool true)) hF4 (wantedS rfl) (run_gtr rfl (hF4.ev 22 rfl) rfl (decide_eq_true (by omega))) rfl (by decide) fun a5 hF5 => ?_
    refine sq (v := (.bool true)) hF5 (wantedS rfl) (run_mv rfl (hF5.ev 23 rfl)) rfl (by decide) fun a6 hF6 => ?_
    refine sqSkip hF6 (unwantedG hF6 rfl rfl rfl rfl rfl) rfl (by decide) fun a7 hF7 => ?_
    refine sqSkip hF7 (unwantedG hF7 rfl rfl rfl rfl rfl) rfl (by decide) fun a8 hF8 => ?_
    refine sqSkip hF8 (unwantedG hF8 rfl rfl rfl rfl rfl) rfl (by decide) fun a9 hF9 => ?_
    refine sqSkip hF9 (unwantedG hF9 rfl rfl rfl rfl rfl) rfl (by decide) fun a10 hF10 => ?_
    refine sq (v := (.bool true)) hF10 (wantedS rfl) (run_pick rfl (hF10.ev 24 rfl) rfl (hF10.ev 28 rfl)) rfl (by decide) fun a11 hF11 => ?_
    refine sq (v := (.bool true)) hF11 (wantedS rfl) (run_mv rfl (hF11.ev 29 rfl)) rfl (by decide) fun a12 hF12 => ?_
    refine sqSkip hF12 (unwantedG hF12 rfl rfl rfl rfl rfl) rfl (by decide) fun a13 hF13 => ?_
    refine sqSkip hF13 (unwantedG hF13 rfl rfl rfl rfl rfl) rfl (by decide) fun a14 hF14 => ?_
    refine sqSkip hF14 (unwantedG hF14 rfl rfl rfl rfl rfl) rfl (by decide) fun a15 hF15 => ?_
    refine sq (v := (.bool true)) hF15 (wantedS rfl) (run_pick rfl (hF15.ev 30 rfl) rfl (hF15.ev 33 rfl)) rfl (by decide) fun a16 hF16 => ?_
    refine sqEnd ?_
    clear hF2 hF3 hF4 hF5 hF6 hF7 hF8 hF9 hF10 hF11 hF12 hF13 hF14 hF15
    refine nx ?_
    refine wp_cond_true (hF16.ev 34 rfl) ?_
    refine wp_seq ?_
    refine wp_region_lit ?_
    refine sqC (v := (.bool true)) hF16 hM1 (wantedS rfl) (run_call rfl Tryd.func11 (by kernel_rfl) rfl (mapE0 )) rfl (by decide) (sfix_any w1 (HG.below hM1.below)) fun a17 w2 hb2 hF17 hM2 => ?_
    refine sq (v := (.bool true)) hF17 (wantedS rfl) (run_as rfl (hF17.ev 35 rfl)) rfl (by decide) fun a18 hF18 => ?_
    refine sqEnd ?_
    clear hF16 hF17 hM1
    refine nx ?_
    refine wp_ret ?_
    refine nxRet ?_
    exact ret1 hF18 rfl rfl ⟨rfl, hM2.below⟩
  by_cases h2 : 100 < c.m.length
  · skip
    refine walk_enter Tryd.func9 rfl rfl rfl fun a0 hF0 => ?_
    have hM0 := Mem.new w
    refine wp_seq ?_
    refine wp_region_lit ?_
    refine sqNew (cs := (chA c)) (t := 26) hF0 hM0 (wantedS rfl) (run_box rfl (hF0.ev 0 rfl)) rfl (by decide) fun g0 a1 w1 hgg0 hb1 hF1 hM1 => ?_
    refine sq (v := (.bool false)) hF1 (wantedS rfl) (run_as rfl rfl) rfl (by decide) fun a2 hF2 => ?_
    refine sqEnd ?_
    clear hF0 hF1 hM0
    refine nx ?_
    refine wp_seq ?_
    refine wp_seq ?_
    refine wp_region_lit ?_
    refine sq (v := v) hF2 (wantedS rfl) (run_mv rfl (hF2.ev 1 rfl)) rfl (by decide) fun a3 hF3 => ?_
    refine sq (v := (.int .i64 (l.length : Int))) hF3 (wantedS rfl) (run_lenS rfl (hF3.ev 21 rfl) (hV.below hM1.below) rfl Tryd.underlying34) rfl (by decide) fun a4 hF4 => ?_
    refine sq (v := (.bool false)) hF4 (wantedS rfl) (run_gtr rfl (hF4.ev 22 rfl) rfl (decide_eq_false (by omega))) rfl (by decide) fun a5 hF5 => ?_
    refine sq (v := (.bool false)) hF5 (wantedS rfl) (run_mv rfl (hF5.ev 23 rfl)) rfl (by decide) fun a6 hF6 => ?_
    refine sq (v := (.pointer (some ⟨g0, 0, none⟩))) hF6 (wantedG hF6 rfl rfl rfl rfl rfl) (run_fldA (m := 1) (s := 0) rfl (hF6.ev 3 rfl) Tryd.underlying26 rfl rfl (by kernel_rfl) (by decide)) rfl (by decide) fun a7 hF7 => ?_
    refine sq (v := (.string ⟨c.m.toArray⟩)) hF7 (wantedG hF7 rfl rfl rfl rfl rfl) (run_ldF rfl (hF7.ev 25 rfl) (hM1.at 0 rfl) rfl (by kernel_rfl)) rfl (by decide) fun a8 hF8 => ?_
    refine sq (v := (.int .i64 (c.m.length : Int))) hF8 (wantedG hF8 rfl rfl rfl rfl rfl) (run_len rfl (hF8.ev 26 rfl) rfl Tryd.underlying9) rfl (by decide) fun a9 hF9 => ?_
    refine sq (v := (.bool true)) hF9 (wantedG hF9 rfl rfl rfl rfl rfl) (run_gtr rfl (hF9.ev 27 rfl) rfl (decide_eq_true (by omega))) rfl (by decide) fun a10 hF10 => ?_
    refine sq (v := (.bool true)) hF10 (wantedS rfl) (run_pick rfl (hF10.ev 24 rfl) rfl (hF10.ev 28 rfl)) rfl (by decide) fun a11 hF11 => ?_
    refine sq (v := (.bool true)) hF11 (wantedS rfl) (run_mv rfl (hF11.ev 29 rfl)) rfl (by decide) fun a12 hF12 => ?_
    refine sqSkip hF12 (unwantedG hF12 rfl rfl rfl rfl rfl) rfl (by decide) fun a13 hF13 => ?_
    refine sqSkip hF13 (unwantedG hF13 rfl rfl rfl rfl rfl) rfl (by decide) fun a14 hF14 => ?_
    refine sqSkip hF14 (unwantedG hF14 rfl rfl rfl rfl rfl) rfl (by decide) fun a15 hF15 => ?_
    refine sq (v := (.bool true)) hF15 (wantedS rfl) (run_pick rfl (hF15.ev 30 rfl) rfl (hF15.ev 33 rfl)) rfl (by decide) fun a16 hF16 => ?_
    refine sqEnd ?_
    clear hF2 hF3 hF4 hF5 hF6 hF7 hF8 hF9 hF10 hF11 hF12 hF13 hF14 hF15
    refine nx ?_
    refine wp_cond_true (hF16.ev 34 rfl) ?_
    refine wp_seq ?_
    refine wp_region_lit ?_
    refine sqC (v := (.bool true)) hF16 hM1 (wantedS rfl) (run_call rfl Tryd.func11 (by kernel_rfl) rfl (mapE0 )) rfl (by decide) (sfix_any w1 (HG.below hM1.below)) fun a17 w2 hb2 hF17 hM2 => ?_
    refine sq (v := (.bool true)) hF17 (wantedS rfl) (run_as rfl (hF17.ev 35 rfl)) rfl (by decide) fun a18 hF18 => ?_
    refine sqEnd ?_
    clear hF16 hF17 hM1
    refine nx ?_
    refine wp_ret ?_
    refine nxRet ?_
    exact ret1 hF18 rfl rfl ⟨rfl, hM2.below⟩
  by_cases h3 : 1152921504606846976 < c.n
  · skip
    refine walk_enter Tryd.func9 rfl rfl rfl fun a0 hF0 => ?_
    have hM0 := Mem.new w
    refine wp_seq ?_
    refine wp_region_lit ?_
    refine sqNew (cs := (chA c)) (t := 26) hF0 hM0 (wantedS rfl) (run_box rfl (hF0.ev 0 rfl)) rfl (by decide) fun g0 a1 w1 hgg0 hb1 hF1 hM1 => ?_
    refine sq (v := (.bool false)) hF1 (wantedS rfl) (run_as rfl rfl) rfl (by decide) fun a2 hF2 => ?_
    refine sqEnd ?_
    clear hF0 hF1 hM0
    refine nx ?_
    refine wp_seq ?_
    refine wp_seq ?_
    refine wp_region_lit ?_
    refine sq (v := v) hF2 (wantedS rfl) (run_mv rfl (hF2.ev 1 rfl)) rfl (by decide) fun a3 hF3 => ?_
    refine sq (v := (.int .i64 (l.length : Int))) hF3 (wantedS rfl) (run_lenS rfl (hF3.ev 21 rfl) (hV.below hM1.below) rfl Tryd.underlying34) rfl (by decide) fun a4 hF4 => ?_
    refine sq (v := (.bool false)) hF4 (wantedS rfl) (run_gtr rfl (hF4.ev 22 rfl) rfl (decide_eq_false (by omega))) rfl (by decide) fun a5 hF5 => ?_
    refine sq (v := (.bool false)) hF5 (wantedS rfl) (run_mv rfl (hF5.ev 23 rfl)) rfl (by decide) fun a6 hF6 => ?_
    refine sq (v := (.pointer (some ⟨g0, 0, none⟩))) hF6 (wantedG hF6 rfl rfl rfl rfl rfl) (run_fldA (m := 1) (s := 0) rfl (hF6.ev 3 rfl) Tryd.underlying26 rfl rfl (by kernel_rfl) (by decide)) rfl (by decide) fun a7 hF7 => ?_
    refine sq (v := (.string ⟨c.m.toArray⟩)) hF7 (wantedG hF7 rfl rfl rfl rfl rfl) (run_ldF rfl (hF7.ev 25 rfl) (hM1.at 0 rfl) rfl (by kernel_rfl)) rfl (by decide) fun a8 hF8 => ?_
    refine sq (v := (.int .i64 (c.m.length : Int))) hF8 (wantedG hF8 rfl rfl rfl rfl rfl) (run_len rfl (hF8.ev 26 rfl) rfl Tryd.underlying9) rfl (by decide) fun a9 hF9 => ?_
    refine sq (v := (.bool false)) hF9 (wantedG hF9 rfl rfl rfl rfl rfl) (run_gtr rfl (hF9.ev 27 rfl) rfl (decide_eq_false (by omega))) rfl (by decide) fun a10 hF10 => ?_
    refine sq (v := (.bool false)) hF10 (wantedS rfl) (run_pick rfl (hF10.ev 24 rfl) rfl (hF10.ev 28 rfl)) rfl (by decide) fun a11 hF11 => ?_
    refine sq (v := (.bool false)) hF11 (wantedS rfl) (run_mv rfl (hF11.ev 29 rfl)) rfl (by decide) fun a12 hF12 => ?_
    refine sq (v := (.pointer (some ⟨g0, 1, none⟩))) hF12 (wantedG hF12 rfl rfl rfl rfl rfl) (run_fldA (m := 1) (s := 1) rfl (hF12.ev 3 rfl) Tryd.underlying26 rfl rfl (by kernel_rfl) (by decide)) rfl (by decide) fun a13 hF13 => ?_
    refine sq (v := (.int .u64 (c.n : Int))) hF13 (wantedG hF13 rfl rfl rfl rfl rfl) (run_ldF rfl (hF13.ev 31 rfl) (hM1.at 0 rfl) rfl (by kernel_rfl)) rfl (by decide) fun a14 hF14 => ?_
    refine sq (v := (.bool true)) hF14 (wantedG hF14 rfl rfl rfl rfl rfl) (run_gtr rfl (hF14.ev 32 rfl) rfl (decide_eq_true (by omega))) rfl (by decide) fun a15 hF15 => ?_
    refine sq (v := (.bool true)) hF15 (wantedS rfl) (run_pick rfl (hF15.ev 30 rfl) rfl (hF15.ev 33 rfl)) rfl (by decide) fun a16 hF16 => ?_
    refine sqEnd ?_
    clear hF2 hF3 hF4 hF5 hF6 hF7 hF8 hF9 hF10 hF11 hF12 hF13 hF14 hF15
    refine nx ?_
    refine wp_cond_true (hF16.ev 34 rfl) ?_
    refine wp_seq ?_
    refine wp_region_lit ?_
    refine sqC (v := (.bool true)) hF16 hM1 (wantedS rfl) (run_call rfl Tryd.func11 (by kernel_rfl) rfl (mapE0 )) rfl (by decide) (sfix_any w1 (HG.below hM1.below)) fun a17 w2 hb2 hF17 hM2 => ?_
    refine sq (v := (.bool true)) hF17 (wantedS rfl) (run_as rfl (hF17.ev 35 rfl)) rfl (by decide) fun a18 hF18 => ?_
    refine sqEnd ?_
    clear hF16 hF17 hM1
    refine nx ?_
    refine wp_ret ?_
    refine nxRet ?_
    exact ret1 hF18 rfl rfl ⟨rfl, hM2.below⟩
  refine walk_enter Tryd.func9 rfl rfl rfl fun a0 hF0 => ?_
  have hM0 := Mem.new w
  refine wp_seq ?_
  refine wp_region_lit ?_
  refine sqNew (cs := (chA c)) (t := 26) hF0 hM0 (wantedS rfl) (run_box rfl (hF0.ev 0 rfl)) rfl (by decide) fun g0 a1 w1 hgg0 hb1 hF1 hM1 => ?_
  refine sq (v := (.bool false)) hF1 (wantedS rfl) (run_as rfl rfl) rfl (by decide) fun a2 hF2 => ?_
  refine sqEnd ?_
  clear hF0 hF1 hM0
  refine nx ?_
  refine wp_seq ?_
  refine wp_seq ?_
  refine wp_region_lit ?_
  refine sq (v := v) hF2 (wantedS rfl) (run_mv rfl (hF2.ev 1 rfl)) rfl (by decide) fun a3 hF3 => ?_
  refine sq (v := (.int .i64 (l.length : Int))) hF3 (wantedS rfl) (run_lenS rfl (hF3.ev 21 rfl) (hV.below hM1.below) rfl Tryd.underlying34) rfl (by decide) fun a4 hF4 => ?_
  refine sq (v := (.bool false)) hF4 (wantedS rfl) (run_gtr rfl (hF4.ev 22 rfl) rfl (decide_eq_false (by omega))) rfl (by decide) fun a5 hF5 => ?_
  refine sq (v := (.bool false)) hF5 (wantedS rfl) (run_mv rfl (hF5.ev 23 rfl)) rfl (by decide) fun a6 hF6 => ?_
  refine sq (v := (.pointer (some ⟨g0, 0, none⟩))) hF6 (wantedG hF6 rfl rfl rfl rfl rfl) (run_fldA (m := 1) (s := 0) rfl (hF6.ev 3 rfl) Tryd.underlying26 rfl rfl (by kernel_rfl) (by decide)) rfl (by decide) fun a7 hF7 => ?_
  refine sq (v := (.string ⟨c.m.toArray⟩)) hF7 (wantedG hF7 rfl rfl rfl rfl rfl) (run_ldF rfl (hF7.ev 25 rfl) (hM1.at 0 rfl) rfl (by kernel_rfl)) rfl (by decide) fun a8 hF8 => ?_
  refine sq (v := (.int .i64 (c.m.length : Int))) hF8 (wantedG hF8 rfl rfl rfl rfl rfl) (run_len rfl (hF8.ev 26 rfl) rfl Tryd.underlying9) rfl (by decide) fun a9 hF9 => ?_
  refine sq (v := (.bool false)) hF9 (wantedG hF9 rfl rfl rfl rfl rfl) (run_gtr rfl (hF9.ev 27 rfl) rfl (decide_eq_false (by omega))) rfl (by decide) fun a10 hF10 => ?_
  refine sq (v := (.bool false)) hF10 (wantedS rfl) (run_pick rfl (hF10.ev 24 rfl) rfl (hF10.ev 28 rfl)) rfl (by decide) fun a11 hF11 => ?_
  refine sq (v := (.bool false)) hF11 (wantedS rfl) (run_mv rfl (hF11.ev 29 rfl)) rfl (by decide) fun a12 hF12 => ?_
  refine sq (v := (.pointer (some ⟨g0, 1, none⟩))) hF12 (wantedG hF12 rfl rfl rfl rfl rfl) (run_fldA (m := 1) (s := 1) rfl (hF12.ev 3 rfl) Tryd.underlying26 rfl rfl (by kernel_rfl) (by decide)) rfl (by decide) fun a13 hF13 => ?_
  refine sq (v := (.int .u64 (c.n : Int))) hF13 (wantedG hF13 rfl rfl rfl rfl rfl) (run_ldF rfl (hF13.ev 31 rfl) (hM1.at 0 rfl) rfl (by kernel_rfl)) rfl (by decide) fun a14 hF14 => ?_
  refine sq (v := (.bool false)) hF14 (wantedG hF14 rfl rfl rfl rfl rfl) (run_gtr rfl (hF14.ev 32 rfl) rfl (decide_eq_false (by omega))) rfl (by decide) fun a15 hF15 => ?_
  refine sq (v := (.bool false)) hF15 (wantedS rfl) (run_pick rfl (hF15.ev 30 rfl) rfl (hF15.ev 33 rfl)) rfl (by decide) fun a16 hF16 => ?_
  refine sqEnd ?_
  clear hF2 hF3 hF4 hF5 hF6 hF7 hF8 hF9 hF10 hF11 hF12 hF13 hF14 hF15
  refine nx ?_
  refine wp_cond_false (hF16.ev 34 rfl) ?_
  refine wp_skip ?_
  refine nx ?_
  refine wp_seq ?_
  refine wp_region_new 126 [some (.agg (chA c)), some (.agg (chA c)), none, none, none, none] [⟨2, 7, 4, 26, (chA noCh), (chA c)⟩, ⟨3, 8, 5, 26, (chA noCh), (chA c)⟩] (by kernel_rfl) (by kernel_rfl) hF16.size hM1 ?_ ?_ fun a17 w2 gs hI => ?_
  · intro d hd
    simp only [List.mem_cons, List.not_mem_nil, or_false] at hd
    rcases hd with rfl | rfl <;> exact ⟨Nat.le_of_ble_eq_true (by kernel_rfl), _, rfl, rfl⟩
  · refine ⟨?_, ?_, ?_, ?_, ?_, ?_, trivial⟩
    · refine .val 36 (.agg (chA c)) rfl rfl (by simp) fun a W hS hh hd => ⟨wanted_yes rfl, ?_⟩
      exact givn_run (run_ldB rfl (eval_tmp (hh 3 _ rfl (hF16.at 3 rfl))) (hS.at 0 rfl) Tryd.underlying26 rfl szCh (chA_size hLc))
    · refine .val 37 (.agg (chA c)) rfl rfl (by simp) fun a W hS hh hd => ⟨wanted_yes rfl, ?_⟩
      exact givn_run (run_ldB rfl (eval_tmp (hh 3 _ rfl (hF16.at 3 rfl))) (hS.at 0 rfl) Tryd.underlying26 rfl szCh (chA_size hLc))
    · exact .new 0 _ rfl rfl rfl rfl (by simp) (fun y e hy he => by rcases y with _ | _ | y <;> simp at hy <;> (try subst hy) <;> simp at he ⊢) fun a W => ⟨wanted_yes rfl, run_alloc rfl (by kernel_rfl)⟩
    · exact .new 1 _ rfl rfl rfl rfl (by simp) (fun y e hy he => by rcases y with _ | _ | y <;> simp at hy <;> (try subst hy) <;> simp at he ⊢) fun a W => ⟨wanted_yes rfl, run_alloc rfl (by kernel_rfl)⟩
    · exact .put 0 _ rfl rfl rfl (by simp) (fun y e hy he => by rcases y with _ | _ | y <;> simp at hy <;> (try subst hy) <;> simp at he ⊢) (by kernel_rfl) 34 26 _ _ rfl rfl (fun a hh hd => (eval_tmp (hd 0 36 _ (by kernel_rfl) rfl))) rfl szCh (chA_size hLc) (chA_size noCh_len) (chA_one _)
    · exact .put 1 _ rfl rfl rfl (by simp) (fun y e hy he => by rcases y with _ | _ | y <;> simp at hy <;> (try subst hy) <;> simp at he ⊢) (by kernel_rfl) 34 26 _ _ rfl rfl (fun a hh hd => (eval_tmp (hd 1 37 _ (by kernel_rfl) rfl))) rfl szCh (chA_size hLc) (chA_size noCh_len) (chA_one _)
  obtain ⟨pg1, qg1, Bg1, fg1⟩ := hI.blk 0 _ rfl rfl
  obtain ⟨pg2, qg2, Bg2, fg2⟩ := hI.blk 1 _ rfl rfl
  have neg2 := hI.apart 0 1 _ _ rfl rfl (by decide) rfl rfl
  generalize gs 0 = g1 at pg1 qg1 Bg1 fg1 neg2
  generalize gs 1 = g2 at pg2 qg2 Bg2 fg2 neg2
  have hM2 := hI.mem.put1 (cs := (chA c)) qg1 Bg1 fg1
  have hM3 := hM2.put1 (cs := (chA c)) qg2 Bg2 (far_cons neg2 fg2)
  have hF17 : Fr a17 126 [(0, (.agg (chA c))), (1, v), (2, (.int .u32 (q : Int))), (3, (.pointer (some ⟨g0, 0, none⟩))), (6, (.bool false)), (7, (.pointer (some ⟨g1, 0, none⟩))), (8, (.pointer (some ⟨g2, 0, none⟩))), (21, v), (22, (.int .i64 (l.length : Int))), (23, (.bool false)), (24, (.bool false)), (25, (.pointer (some ⟨g0, 0, none⟩))), (26, (.string ⟨c.m.toArray⟩)), (27, (.int .i64 (c.m.length : Int))), (28, (.bool false)), (29, (.bool false)), (30, (.bool false)), (31, (.pointer (some ⟨g0, 1, none⟩))), (32, (.int .u64 (c.n : Int))), (33, (.bool false)), (34, (.bool false)), (36, (.agg (chA c))), (37, (.agg (chA c)))] := fr_of_holds hI.size (hI.defers.trans hF16.defers) ⟨hI.had 0 _ rfl (hF16.at 0 rfl), hI.had 1 _ rfl (hF16.at 1 rfl), hI.had 2 _ rfl (hF16.at 2 rfl), hI.had 3 _ rfl (hF16.at 3 rfl), hI.had 6 _ rfl (hF16.at 6 rfl), pg1, pg2, hI.had 21 _ rfl (hF16.at 21 rfl), hI.had 22 _ rfl (hF16.at 22 rfl), hI.had 23 _ rfl (hF16.at 23 rfl), hI.had 24 _ rfl (hF16.at 24 rfl), hI.had 25 _ rfl (hF16.at 25 rfl), hI.had 26 _ rfl (hF16.at 26 rfl), hI.had 27 _ rfl (hF16.at 27 rfl), hI.had 28 _ rfl (hF16.at 28 rfl), hI.had 29 _ rfl (hF16.at 29 rfl), hI.had 30 _ rfl (hF16.at 30 rfl), hI.had 31 _ rfl (hF16.at 31 rfl), hI.had 32 _ rfl (hF16.at 32 rfl), hI.had 33 _ rfl (hF16.at 33 rfl), hI.had 34 _ rfl (hF16.at 34 rfl), hI.val 0 _ 36 _ rfl rfl rfl rfl, hI.val 1 _ 37 _ rfl rfl rfl rfl, trivial⟩
  clear hI pg1 Bg1 fg1 pg2 Bg2 fg2 neg2
  clear hF16 hM1 hM2
  refine nx ?_
  refine wp_seq ?_
  refine wp_seq ?_
  refine wp_region_lit ?_
  refine sq (v := v) hF17 (wantedS rfl) (run_mv rfl (hF17.ev 1 rfl)) rfl (by decide) fun a18 hF18 => ?_
  refine sq (v := (.int .i64 (l.length : Int))) hF18 (wantedS rfl) (run_lenS rfl (hF18.ev 38 rfl) (hV.below hM3.below) rfl Tryd.underlying34) rfl (by decide) fun a19 hF19 => ?_
  refine sq (v := (.int .i64 0)) hF19 (wantedS rfl) (run_mv rfl rfl) rfl (by decide) fun a20 hF20 => ?_
  refine sqEnd ?_
  clear hF17 hF18 hF19
  refine nx ?_
  refine wp_block ?_
  refine wkLoop (fun m a w2 => ∃ i j : Nat, j ≤ i ∧ i ≤ l.length ∧ m = l.length - i ∧ Fr a 126 [(2, .int .u32 (q : Int)), (7, .pointer (some ⟨g1, 0, none⟩)), (8, .pointer (some ⟨g2, 0, none⟩)), (38, v), (39, .int .i64 (l.length : Int)), (40, .int .i64 (i : Int))] ∧ Mem w [(g2, isB 26 (chA (itS c j))), (g1, isB 26 (chA (itS c i))), (g0, isB 26 (chA c))] w2) l.length ⟨0, 0, Nat.le_refl _, Nat.zero_le _, rfl, hF20.sub ⟨rfl, rfl, rfl, rfl, rfl, rfl, trivial⟩, hM3⟩ ?_
  rintro m a0 w40 ⟨i, j, hji, hi, rfl, hF40, hM40⟩
  have him := itS_m c i
  have hin := itS_n c i
  have himl : (itS c i).m.length ≤ 100 := by rw [him]; omega
  have hjm := itS_m c j
  have hjn := itS_n c j
  have hjml : (itS c j).m.length ≤ 100 := by rw [hjm]; omega
  have hin1 := itS_n c (i + 1)
  by_cases hil : i < l.length
  · obtain ⟨x, hx⟩ : ∃ x, l[i]? = some x := ⟨l[i], by simp [hil]⟩
    by_cases hxl : 100 < x.length
    · skip
      refine wp_seq ?_
      refine wp_region_lit ?_
      refine sq (v := (.bool true)) hF40 (wantedS rfl) (run_lss rfl (hF40.ev 40 rfl) (hF40.ev 39 rfl) (decide_eq_true (by omega))) rfl (by decide) fun a41 hF41 => ?_
      refine sqEnd ?_
      clear hF40
      refine nx ?_
      refine wp_seq ?_
      refine wp_cond_true (hF41.ev 41 rfl) ?_
      refine wp_skip ?_
      refine nx ?_
      refine wp_seq ?_
      refine wp_block ?_
      refine wp_seq ?_
      refine wp_region_lit ?_
      refine sq (v := (.int .i64 (i : Int))) hF41 (wantedS rfl) (run_mv rfl (hF41.ev 40 rfl)) rfl (by decide) fun a42 hF42 => ?_
      refine sq (v := (slPtr v (i * 1))) hF42 (wantedS rfl) (run_atP (i := i) rfl (hF42.ev 38 rfl) (hF42.ev 40 rfl) rfl (hV.below hM40.below) (by omega) elStr.un (by kernel_rfl)) rfl (by decide) fun a43 hF43 => ?_
      refine sq (v := (.string ⟨x.toArray⟩)) hF43 (wantedS rfl) (run_ldP rfl (hF43.ev 43 rfl) (hV.below hM40.below) (map_at hx) (by kernel_rfl)) rfl (by decide) fun a44 hF44 => ?_
      refine sq (v := (.int .i64 (i : Int))) hF44 (wantedS rfl) (run_as rfl (hF44.ev 42 rfl)) rfl (by decide) fun a45 hF45 => ?_
      refine sq (v := (.string ⟨x.toArray⟩)) hF45 (wantedS rfl) (run_as rfl (hF45.ev 44 rfl)) rfl (by decide) fun a46 hF46 => ?_
      refine sqEnd ?_
      clear hF41 hF42 hF43 hF44 hF45
      refine nx ?_
      refine wp_seq ?_
      refine wp_seq ?_
      refine wp_region_lit ?_
      refine sq (v := (.string ⟨x.toArray⟩)) hF46 (wantedS rfl) (run_mv rfl (hF46.ev 10 rfl)) rfl (by decide) fun a47 hF47 => ?_
      refine sq (v := (.int .i64 (x.length : Int))) hF47 (wantedS rfl) (run_len rfl (hF47.ev 45 rfl) rfl Tryd.underlying9) rfl (by decide) fun a48 hF48 => ?_
      refine sq (v := (.bool true)) hF48 (wantedS rfl) (run_gtr rfl (hF48.ev 46 rfl) rfl (decide_eq_true (by omega))) rfl (by decide) fun a49 hF49 => ?_
      refine sqEnd ?_
      clear hF46 hF47 hF48
      refine nx ?_
      refine wp_cond_true (hF49.ev 47 rfl) ?_
      refine wp_seq ?_
      refine wp_region_lit ?_
      refine sqC (v := (.bool true)) hF49 hM40 (wantedS rfl) (run_call rfl Tryd.func11 (by kernel_rfl) rfl (mapE0 )) rfl (by decide) (sfix_any w40 (HG.below hM40.below)) fun a50 w41 hb41 hF50 hM41 => ?_
      refine sq (v := (.bool true)) hF50 (wantedS rfl) (run_as rfl (hF50.ev 48 rfl)) rfl (by decide) fun a51 hF51 => ?_
      refine sqEnd ?_
      clear hF49 hF50 hM40
      refine nx ?_
      refine wp_ret ?_
      refine nxRet ?_
      refine bkRet ?_
      refine nxRet ?_
      refine nxRet ?_
      refine bkRet ?_
      refine nxRet ?_
      exact ret1 hF51 rfl rfl ⟨rfl, hM41.below⟩
    have hS : sendS (itS c i) x = (itS c (i + 1), (frameS (itS c i) x), 0) := sendS_ok _ _ (by omega) (by unfold mostN; omega)
    have hfl := frameS_len (itS c i) x (by omega) (by omega)
    have hT : takeS (itS c j) (frameS (itS c i) x) = (itS c (i + 1), x, 0) := take_sent _ _ _ (by rw [him, hjm]) (by omega) (by omega) (by unfold mostN; omega) (by omega) (by omega) (itS_far c j i hji)
    generalize (frameS (itS c i) x) = fr at hS hT hfl
    have hrl := reply_len (itS c i).k (itS c i).n ([111, 107, 32] ++ x)
    have hokl : ([111, 107, 32] ++ x).length ≤ 103 := by simp; omega
    have hA := answer_reply (itS c i).k (itS c i).n ([111, 107, 32] ++ x)
    have hR := reply_any (itS c i).k (itS c i).n ([111, 107, 32] ++ x)
    generalize replyS (itS c i).k (itS c i).n ([111, 107, 32] ++ x) = rp at hrl hA hR
    obtain ⟨z80, hz80⟩ : ∃ z, (q : Int) / 2 ^ (i : Int).toNat = z := ⟨_, rfl⟩
    obtain ⟨r, hr⟩ : ∃ r, bits .and .u32 z80 1 = r := ⟨_, rfl⟩
    by_cases hlost : r = 1
    · skip
      refine wp_seq ?_
      refine wp_region_lit ?_
      refine sq (v := (.bool true)) hF40 (wantedS rfl) (run_lss rfl (hF40.ev 40 rfl) (hF40.ev 39 rfl) (decide_eq_true (by omega))) rfl (by decide) fun a41 hF41 => ?_
      refine sqEnd ?_
      clear hF40
      refine nx ?_
      refine wp_seq ?_
      refine wp_cond_true (hF41.ev 41 rfl) ?_
      refine wp_skip ?_
      refine nx ?_
      refine wp_seq ?_
      refine wp_block ?_
      refine wp_seq ?_
      refine wp_region_lit ?_
      refine sq (v := (.int .i64 (i : Int))) hF41 (wantedS rfl) (run_mv rfl (hF41.ev 40 rfl)) rfl (by decide) fun a42 hF42 => ?_
      refine sq (v := (slPtr v (i * 1))) hF42 (wantedS rfl) (run_atP (i := i) rfl (hF42.ev 38 rfl) (hF42.ev 40 rfl) rfl (hV.below hM40.below) (by omega) elStr.un (by kernel_rfl)) rfl (by decide) fun a43 hF43 => ?_
      refine sq (v := (.string ⟨x.toArray⟩)) hF43 (wantedS rfl) (run_ldP rfl (hF43.ev 43 rfl) (hV.below hM40.below) (map_at hx) (by kernel_rfl)) rfl (by decide) fun a44 hF44 => ?_
      refine sq (v := (.int .i64 (i : Int))) hF44 (wantedS rfl) (run_as rfl (hF44.ev 42 rfl)) rfl (by decide) fun a45 hF45 => ?_
      refine sq (v := (.string ⟨x.toArray⟩)) hF45 (wantedS rfl) (run_as rfl (hF45.ev 44 rfl)) rfl (by decide) fun a46 hF46 => ?_
      refine sqEnd ?_
      clear hF41 hF42 hF43 hF44 hF45
      refine nx ?_
      refine wp_seq ?_
      refine wp_seq ?_
      refine wp_region_lit ?_
      refine sq (v := (.string ⟨x.toArray⟩)) hF46 (wantedS rfl) (run_mv rfl (hF46.ev 10 rfl)) rfl (by decide) fun a47 hF47 => ?_
      refine sq (v := (.int .i64 (x.length : Int))) hF47 (wantedS rfl) (run_len rfl (hF47.ev 45 rfl) rfl Tryd.underlying9) rfl (by decide) fun a48 hF48 => ?_
      refine sq (v := (.bool false)) hF48 (wantedS rfl) (run_gtr rfl (hF48.ev 46 rfl) rfl (decide_eq_false (by omega))) rfl (by decide) fun a49 hF49 => ?_
      refine sqEnd ?_
      clear hF46 hF47 hF48
      refine nx ?_
      refine wp_cond_false (hF49.ev 47 rfl) ?_
      refine wp_skip ?_
      refine nx ?_
      refine wp_seq ?_
      refine wp_region_new 126 [some (.pointer (some ⟨g1, 2, none⟩)), some (.agg (cells8 ((itS c i).k))), some (.pointer (some ⟨g1, 1, none⟩)), some (.int .u64 ((itS c i).n : Int)), none, none, some (.int .u64 ((itS c i).n : Int))] [⟨4, 11, 5, 24, (cells8 (List.replicate 32 0)), (cells8 ((itS c i).k))⟩] (by kernel_rfl) (by kernel_rfl) hF49.size hM40 ?_ ?_ fun a50 w41 gs hI => ?_
      · intro d hd
        simp only [List.mem_cons, List.not_mem_nil, or_false] at hd
        rcases hd with rfl <;> exact ⟨Nat.le_of_ble_eq_true (by kernel_rfl), _, rfl, rfl⟩
      · refine ⟨?_, ?_, ?_, ?_, ?_, ?_, ?_, trivial⟩
        · refine .val 49 (.pointer (some ⟨g1, 2, none⟩)) rfl rfl (by simp) fun a W hS hh hd => ⟨wanted_yes rfl, ?_⟩
          exact givn_run (run_fldA (m := 32) (s := 2) rfl (eval_tmp (hh 7 _ rfl (hF49.at 7 rfl))) Tryd.underlying26 rfl rfl (by kernel_rfl) (by decide))
        · refine .val 50 (.agg (cells8 ((itS c i).k))) rfl rfl (by simp) fun a W hS hh hd => ⟨wanted_yes rfl, ?_⟩
          exact givn_run (run_ldK rfl (eval_tmp (hd 0 49 _ (by kernel_rfl) rfl)) (hS.at 1 rfl) (itS_len hLc i))
        · refine .val 51 (.pointer (some ⟨g1, 1, none⟩)) rfl rfl (by simp) fun a W hS hh hd => ⟨wanted_yes rfl, ?_⟩
          exact givn_run (run_fldA (m := 1) (s := 1) rfl (eval_tmp (hh 7 _ rfl (hF49.at 7 rfl))) Tryd.underlying26 rfl rfl (by kernel_rfl) (by decide))
        · refine .val 52 (.int .u64 ((itS c i).n : Int)) rfl rfl (by simp) fun a W hS hh hd => ⟨wanted_yes rfl, ?_⟩
          exact givn_run (run_ldF rfl (eval_tmp (hd 2 51 _ (by kernel_rfl) rfl)) (hS.at 1 rfl) rfl (by kernel_rfl))
        · exact .new 0 _ rfl rfl rfl rfl (by simp) (fun y e hy he => by rcases y with _ | _ | y <;> simp at hy <;> (try subst hy) <;> simp at he ⊢) fun a W => ⟨wanted_yes rfl, run_alloc rfl (by kernel_rfl)⟩
        · exact .put 0 _ rfl rfl rfl (by simp) (fun y e hy he => by rcases y with _ | _ | y <;> simp at hy <;> (try subst hy) <;> simp at he ⊢) (by kernel_rfl) 32 24 _ _ rfl rfl (fun a hh hd => (eval_tmp (hd 1 50 _ (by kernel_rfl) rfl))) rfl sz32k (szOf (itS_len hLc i)) (szOf List.length_replicate) (cells8_one _)
        · refine .val 12 (.int .u64 ((itS c i).n : Int)) rfl rfl (by simp) fun a W hS hh hd => ⟨wanted_yes rfl, ?_⟩
          exact givn_run (run_as rfl (eval_tmp (hd 3 52 _ (by kernel_rfl) rfl)))
      obtain ⟨pg3, qg3, Bg3, fg3⟩ := hI.blk 0 _ rfl rfl
      generalize gs 0 = g3 at pg3 qg3 Bg3 fg3
      have hM41 := hI.mem.put1 (cs := (cells8 ((itS c i).k))) qg3 Bg3 fg3
      have hF50 : Fr a50 126 [(2, (.int .u32 (q : Int))), (7, (.pointer (some ⟨g1, 0, none⟩))), (8, (.pointer (some ⟨g2, 0, none⟩))), (9, (.int .i64 (i : Int))), (10, (.string ⟨x.toArray⟩)), (11, (.pointer (some ⟨g3, 0, none⟩))), (12, (.int .u64 ((itS c i).n : Int))), (38, v), (39, (.int .i64 (l.length : Int))), (40, (.int .i64 (i : Int))), (41, (.bool true)), (42, (.int .i64 (i : Int))), (43, (slPtr v (i * 1))), (44, (.string ⟨x.toArray⟩)), (45, (.string ⟨x.toArray⟩)), (46, (.int .i64 (x.length : Int))), (47, (.bool false)), (50, (.agg (cells8 ((itS c i).k)))), (52, (.int .u64 ((itS c i).n : Int)))] := fr_of_holds hI.size (hI.defers.trans hF49.defers) ⟨hI.had 2 _ rfl (hF49.at 2 rfl), hI.had 7 _ rfl (hF49.at 7 rfl), hI.had 8 _ rfl (hF49.at 8 rfl), hI.had 9 _ rfl (hF49.at 9 rfl), hI.had 10 _ rfl (hF49.at 10 rfl), pg3, hI.val 6 _ 12 _ rfl rfl rfl rfl, hI.had 38 _ rfl (hF49.at 38 rfl), hI.had 39 _ rfl (hF49.at 39 rfl), hI.had 40 _ rfl (hF49.at 40 rfl), hI.had 41 _ rfl (hF49.at 41 rfl), hI.had 42 _ rfl (hF49.at 42 rfl), hI.had 43 _ rfl (hF49.at 43 rfl), hI.had 44 _ rfl (hF49.at 44 rfl), hI.had 45 _ rfl (hF49.at 45 rfl), hI.had 46 _ rfl (hF49.at 46 rfl), hI.had 47 _ rfl (hF49.at 47 rfl), hI.val 1 _ 50 _ rfl rfl rfl rfl, hI.val 3 _ 52 _ rfl rfl rfl rfl, trivial⟩
      clear hI pg3 Bg3 fg3
      clear hF49 hM40
      refine nx ?_
      refine wp_seq ?_
      refine wp_region_lit ?_
      refine sq (v := (.agg (chA (itS c i)))) hF50 (wantedS rfl) (run_ldB rfl (hF50.ev 7 rfl) (hM41.at 2 rfl) Tryd.underlying26 rfl szCh (chA_size (itS_len hLc i))) rfl (by decide) fun a51 hF51 => ?_
      refine sq (v := (.string ⟨x.toArray⟩)) hF51 (wantedS rfl) (run_mv rfl (hF51.ev 10 rfl)) rfl (by decide) fun a52 hF52 => ?_
      refine sqC (v := (.tuple #[(.agg (chA (itS c (i + 1)))), (.string ⟨fr.toArray⟩), (.int .i64 0)])) hF52 hM41 (wantedS rfl) (run_call rfl Tryd.func12 (by kernel_rfl) rfl (mapE2 (hF52.ev 54 rfl) (hF52.ev 55 rfl))) rfl (by decide) (send_eq hS w41 (HG.below hM41.below) (itS_len hLc i) (by first | omega | decide | (simp; done) | (simp; omega)) (by first | omega | decide | (simp; done) | (simp; omega))) fun a53 w42 hb42 hF53 hM42 => ?_
      refine sq (v := (.tuple #[(.agg (chA (itS c (i + 1)))), (.string ⟨fr.toArray⟩), (.int .i64 0)])) hF53 (wantedS rfl) (run_mv rfl (hF53.ev 56 rfl)) rfl (by decide) fun a54 hF54 => ?_
      refine sq (v := (.agg (chA (itS c (i + 1))))) hF54 (wantedS rfl) (run_ext rfl (hF54.ev 53 rfl) rfl) rfl (by decide) fun a55 hF55 => ?_
      refine sq (v := (.string ⟨fr.toArray⟩)) hF55 (wantedS rfl) (run_ext rfl (hF55.ev 53 rfl) rfl) rfl (by decide) fun a56 hF56 => ?_
      refine sq (v := (.int .i64 0)) hF56 (wantedS rfl) (run_ext rfl (hF56.ev 53 rfl) rfl) rfl (by decide) fun a57 hF57 => ?_
      refine sqNew (cs := (chA noCh)) (t := 26) hF57 hM42 (wantedS rfl) (run_alloc rfl (by kernel_rfl)) rfl (by decide) fun g4 a58 w43 hgg4 hb43 hF58 hM43 => ?_
      refine sqStore (i := 0) hF58 hM43 rfl rfl rfl (hF58.ev 13 rfl) (hF58.ev 57 rfl) rfl szCh (chA_size (itS_len hLc (i + 1))) (chA_size noCh_len) (chA_one _) fun a59 w44 hF59 hM44 => ?_
      refine sq (v := (.string ⟨fr.toArray⟩)) hF59 (wantedS rfl) (run_as rfl (hF59.ev 58 rfl)) rfl (by decide) fun a60 hF60 => ?_
      refine sq (v := (.int .i64 0)) hF60 (wantedS rfl) (run_as rfl (hF60.ev 59 rfl)) rfl (by decide) fun a61 hF61 => ?_
      refine sqEnd ?_
      clear hF50 hF51 hF52 hF53 hF54 hF55 hF56 hF57 hF58 hF59 hF60 hM41 hM42 hM43
      refine nx ?_
      refine wp_seq ?_
      refine wp_seq ?_
      obtain ⟨KL, hKL⟩ : ∃ KL, KL = [kval (.int .i64 0), kval (.bool false), kval (.bool false), kval (.pointer (some ⟨g4, 1, none⟩)), kval (.int .u64 ((itS c (i + 1)).n : Int)), kval (.int .u64 ((itS c i).n : Int)), kval (.int .u64 ((itS c (i + 1)).n : Int)), kval (.bool false), kval (.bool false), kval (.bool false), kval (.pointer (some ⟨g4, 2, none⟩)), kval (.agg (cells8 ((itS c (i + 1)).k))), kval (.agg (cells8 ((itS c i).k))), kval (.agg (cells8 (nextS ((itS c i).k)))), kval (.bool false), kval (.bool false)] := ⟨_, rfl⟩
      have K0 : KL.getD 0 kany = kval (.int .i64 0) := by rw [hKL]; rfl
      have K1 : KL.getD 1 kany = kval (.bool false) := by rw [hKL]; rfl
      have K2 : KL.getD 2 kany = kval (.bool false) := by rw [hKL]; rfl
      have K3 : KL.getD 3 kany = kval (.pointer (some ⟨g4, 1, none⟩)) := by rw [hKL]; rfl
      have K4 : KL.getD 4 kany = kval (.int .u64 ((itS c (i + 1)).n : Int)) := by rw [hKL]; rfl
      have K5 : KL.getD 5 kany = kval (.int .u64 ((itS c i).n : Int)) := by rw [hKL]; rfl
      have K6 : KL.getD 6 kany = kval (.int .u64 ((itS c (i + 1)).n : Int)) := by rw [hKL]; rfl
      have K7 : KL.getD 7 kany = kval (.bool false) := by rw [hKL]; rfl
      have K8 : KL.getD 8 kany = kval (.bool false) := by rw [hKL]; rfl
      have K9 : KL.getD 9 kany = kval (.bool false) := by rw [hKL]; rfl
      have K10 : KL.getD 10 kany = kval (.pointer (some ⟨g4, 2, none⟩)) := by rw [hKL]; rfl
      have K11 : KL.getD 11 kany = kval (.agg (cells8 ((itS c (i + 1)).k))) := by rw [hKL]; rfl
      have K12 : KL.getD 12 kany = kval (.agg (cells8 ((itS c i).k))) := by rw [hKL]; rfl
      have K13 : KL.getD 13 kany = kval (.agg (cells8 (nextS ((itS c i).k)))) := by rw [hKL]; rfl
      have K14 : KL.getD 14 kany = kval (.bool false) := by rw [hKL]; rfl
      have K15 : KL.getD 15 kany = kval (.bool false) := by rw [hKL]; rfl
      clear hKL
      refine wp_region_kd 126 (by kernel_rfl) (by kernel_rfl) (by kernel_rfl) hF61.size KL ?_ ?_
      · refine ⟨?_, ?_, ?_, ?_, ?_, ?_, ?_, ?_, ?_, ?_, ?_, ?_, ?_, ?_, ?_, ?_, trivial⟩
        · refine asks_mk fun a W hS hh hd => ⟨wanted_yes rfl, ?_⟩
          exact giv_run (run_mv rfl (eval_tmp (hh 15 _ rfl (hF61.at 15 rfl)))) K0
        · refine asks_mk fun a W hS hh hd => ⟨wanted_yes rfl, ?_⟩
          exact giv_run (run_nei rfl (eval_tmp (hd.val (j := 0) (s := 60) (by kernel_rfl) K0)) rfl (bne_self_eq_false _)) K1
        · refine asks_mk fun a W hS hh hd => ⟨wanted_yes rfl, ?_⟩
          exact giv_run (run_mv rfl (eval_tmp (hd.val (j := 1) (s := 61) (by kernel_rfl) K1))) K2
        · refine asks_mk fun a W hS hh hd => ⟨wanted_of (j := 2) (s := 62) (by kernel_rfl) (hd.val (j := 2) (s := 62) (by kernel_rfl) K2), ?_⟩
          exact giv_run (run_fldA (m := 1) (s := 1) rfl (eval_tmp (hh 13 _ rfl (hF61.at 13 rfl))) Tryd.underlying26 rfl rfl (by kernel_rfl) (by decide)) K3
        · refine asks_mk fun a W hS hh hd => ⟨wanted_of (j := 2) (s := 62) (by kernel_rfl) (hd.val (j := 2) (s := 62) (by kernel_rfl) K2), ?_⟩
          exact giv_run (run_ldF rfl (eval_tmp (hd.val (j := 3) (s := 63) (by kernel_rfl) K3)) ((hM44.grow hS).at 0 rfl) rfl (by kernel_rfl)) K4
        · refine asks_mk fun a W hS hh hd => ⟨wanted_of (j := 2) (s := 62) (by kernel_rfl) (hd.val (j := 2) (s := 62) (by kernel_rfl) K2), ?_⟩
          exact giv_run (run_mv rfl (eval_tmp (hh 12 _ rfl (hF61.at 12 rfl)))) K5
        · refine asks_mk fun a W hS hh hd => ⟨wanted_of (j := 2) (s := 62) (by kernel_rfl) (hd.val (j := 2) (s := 62) (by kernel_rfl) K2), ?_⟩
          exact giv_run (run_add (r := ((itS c (i + 1)).n : Int)) rfl (eval_tmp (hd.val (j := 5) (s := 65) (by kernel_rfl) K5)) rfl (by rw [IntKind.wrap_u64]; omega)) K6
        · refine asks_mk fun a W hS hh hd => ⟨wanted_of (j := 2) (s := 62) (by kernel_rfl) (hd.val (j := 2) (s := 62) (by kernel_rfl) K2), ?_⟩
          exact giv_run (run_nei rfl (eval_tmp (hd.val (j := 4) (s := 64) (by kernel_rfl) K4)) (eval_tmp (hd.val (j := 6) (s := 66) (by kernel_rfl) K6)) (bne_self_eq_false _)) K7
        · refine asks_mk fun a W hS hh hd => ⟨wanted_yes rfl, ?_⟩
          exact giv_run (run_pick rfl (eval_tmp (hd.val (j := 2) (s := 62) (by kernel_rfl) K2)) rfl (eval_tmp (hd.val (j := 7) (s := 67) (by kernel_rfl) K7))) K8
        · refine asks_mk fun a W hS hh hd => ⟨wanted_yes rfl, ?_⟩
          exact giv_run (run_mv rfl (eval_tmp (hd.val (j := 8) (s := 68) (by kernel_rfl) K8))) K9
        · refine asks_mk fun a W hS hh hd => ⟨wanted_of (j := 9) (s := 69) (by kernel_rfl) (hd.val (j := 9) (s := 69) (by kernel_rfl) K9), ?_⟩
          exact giv_run (run_fldA (m := 32) (s := 2) rfl (eval_tmp (hh 13 _ rfl (hF61.at 13 rfl))) Tryd.underlying26 rfl rfl (by kernel_rfl) (by decide)) K10
        · refine asks_mk fun a W hS hh hd => ⟨wanted_of (j := 9) (s := 69) (by kernel_rfl) (hd.val (j := 9) (s := 69) (by kernel_rfl) K9), ?_⟩
          exact giv_run (run_ldK rfl (eval_tmp (hd.val (j := 10) (s := 70) (by kernel_rfl) K10)) ((hM44.grow hS).at 0 rfl) (itS_len hLc (i + 1))) K11
        · refine asks_mk fun a W hS hh hd => ⟨wanted_of (j := 9) (s := 69) (by kernel_rfl) (hd.val (j := 9) (s := 69) (by kernel_rfl) K9), ?_⟩
          exact giv_run (run_ldB rfl (eval_tmp (hh 11 _ rfl (hF61.at 11 rfl))) ((hM44.grow hS).at 1 rfl) Tryd.underlying24 rfl sz32k (szOf (itS_len hLc i))) K12
        · refine asks_mk fun a W hS hh hd => ⟨wanted_of (j := 9) (s := 69) (by kernel_rfl) (hd.val (j := 9) (s := 69) (by kernel_rfl) K9), ?_⟩
          exact giv_call (run_call rfl Tryd.func21 (by kernel_rfl) rfl (mapE1 (eval_tmp (hd.val (j := 12) (s := 72) (by kernel_rfl) K12)))) (next_any ((itS c i).k) W (HG.below (hM44.grow hS).below) (itS_len hLc i)) K13
        · refine asks_mk fun a W hS hh hd => ⟨wanted_of (j := 9) (s := 69) (by kernel_rfl) (hd.val (j := 9) (s := 69) (by kernel_rfl) K9), ?_⟩
          exact giv_run (run_neKey2 (itS_next c i) (nextS_len _) rfl (eval_tmp (hd.val (j := 11) (s := 71) (by kernel_rfl) K11)) (eval_tmp (hd.val (j := 13) (s := 73) (by kernel_rfl) K13))) K14
        · refine asks_mk fun a W hS hh hd => ⟨wanted_yes rfl, ?_⟩
          exact giv_run (run_pick rfl (eval_tmp (hd.val (j := 9) (s := 69) (by kernel_rfl) K9)) rfl (eval_tmp (hd.val (j := 14) (s := 74) (by kernel_rfl) K14))) K15
      · intro a62 w45 hb45 hK
        have e0 := hK.val (i := 0) (s := 60) (by kernel_rfl) K0
        have e1 := hK.val (i := 1) (s := 61) (by kernel_rfl) K1
        have e2 := hK.val (i := 2) (s := 62) (by kernel_rfl) K2
        have e3 := hK.val (i := 3) (s := 63) (by kernel_rfl) K3
        have e4 := hK.val (i := 4) (s := 64) (by kernel_rfl) K4
        have e5 := hK.val (i := 5) (s := 65) (by kernel_rfl) K5
        have e6 := hK.val (i := 6) (s := 66) (by kernel_rfl) K6
        have e7 := hK.val (i := 7) (s := 67) (by kernel_rfl) K7
        have e8 := hK.val (i := 8) (s := 68) (by kernel_rfl) K8
        have e9 := hK.val (i := 9) (s := 69) (by kernel_rfl) K9
        have e10 := hK.val (i := 10) (s := 70) (by kernel_rfl) K10
        have e11 := hK.val (i := 11) (s := 71) (by kernel_rfl) K11
        have e12 := hK.val (i := 12) (s := 72) (by kernel_rfl) K12
        have e13 := hK.val (i := 13) (s := 73) (by kernel_rfl) K13
        have e14 := hK.val (i := 14) (s := 74) (by kernel_rfl) K14
        have e15 := hK.val (i := 15) (s := 75) (by kernel_rfl) K15
        have hF62 : Fr a62 126 [(2, (.int .u32 (q : Int))), (7, (.pointer (some ⟨g1, 0, none⟩))), (8, (.pointer (some ⟨g2, 0, none⟩))), (9, (.int .i64 (i : Int))), (10, (.string ⟨x.toArray⟩)), (11, (.pointer (some ⟨g3, 0, none⟩))), (12, (.int .u64 ((itS c i).n : Int))), (13, (.pointer (some ⟨g4, 0, none⟩))), (14, (.string ⟨fr.toArray⟩)), (15, (.int .i64 0)), (38, v), (39, (.int .i64 (l.length : Int))), (40, (.int .i64 (i : Int))), (41, (.bool true)), (42, (.int .i64 (i : Int))), (43, (slPtr v (i * 1))), (44, (.string ⟨x.toArray⟩)), (45, (.string ⟨x.toArray⟩)), (46, (.int .i64 (x.length : Int))), (47, (.bool false)), (50, (.agg (cells8 ((itS c i).k)))), (52, (.int .u64 ((itS c i).n : Int))), (53, (.tuple #[(.agg (chA (itS c (i + 1)))), (.string ⟨fr.toArray⟩), (.int .i64 0)])), (54, (.agg (chA (itS c i)))), (55, (.string ⟨x.toArray⟩)), (56, (.tuple #[(.agg (chA (itS c (i + 1)))), (.string ⟨fr.toArray⟩), (.int .i64 0)])), (57, (.agg (chA (itS c (i + 1))))), (58, (.string ⟨fr.toArray⟩)), (59, (.int .i64 0)), (75, (.bool false))] := (hK.fr hF61 [(.int .i64 0), (.bool false), (.bool false), (.pointer (some ⟨g4, 1, none⟩)), (.int .u64 ((itS c (i + 1)).n : Int)), (.int .u64 ((itS c i).n : Int)), (.int .u64 ((itS c (i + 1)).n : Int)), (.bool false), (.bool false), (.bool false), (.pointer (some ⟨g4, 2, none⟩)), (.agg (cells8 ((itS c (i + 1)).k))), (.agg (cells8 ((itS c i).k))), (.agg (cells8 (nextS ((itS c i).k)))), (.bool false), (.bool false)] ⟨e0, e1, e2, e3, e4, e5, e6, e7, e8, e9, e10, e11, e12, e13, e14, e15, trivial⟩).sub ⟨rfl, rfl, rfl, rfl, rfl, rfl, rfl, rfl, rfl, rfl, rfl, rfl, rfl, rfl, rfl, rfl, rfl, rfl, rfl, rfl, rfl, rfl, rfl, rfl, rfl, rfl, rfl, rfl, rfl, rfl, trivial⟩
        have hM45 := hM44.grow hb45
        clear hK K0 e0 K1 e1 K2 e2 K3 e3 K4 e4 K5 e5 K6 e6 K7 e7 K8 e8 K9 e9 K10 e10 K11 e11 K12 e12 K13 e13 K14 e14 K15 e15
        clear hF61 hM44
        refine nx ?_
        refine wp_cond_false (hF62.ev 75 rfl) ?_
        refine wp_skip ?_
        refine nx ?_
        refine wp_seq ?_
        refine wp_region_lit ?_
        refine sq (v := (.agg (chA (itS c (i + 1))))) hF62 (wantedS rfl) (run_ldB rfl (hF62.ev 13 rfl) (hM45.at 0 rfl) Tryd.underlying26 rfl szCh (chA_size (itS_len hLc (i + 1)))) rfl (by decide) fun a63 hF63 => ?_
        refine sqStore (i := 3) hF63 hM45 rfl rfl rfl (hF63.ev 7 rfl) (hF63.ev 76 rfl) rfl szCh (chA_size (itS_len hLc (i + 1))) (chA_size (itS_len hLc i)) (chA_one _) fun a64 w46 hF64 hM46 => ?_
        refine sqEnd ?_
        clear hF62 hF63 hM45
        refine nx ?_
        refine wp_seq ?_
        refine wp_seq ?_
        refine wp_region_lit ?_
        refine sq (v := (.int .u32 (q : Int))) hF64 (wantedS rfl) (run_mv rfl (hF64.ev 2 rfl)) rfl (by decide) fun a65 hF65 => ?_
        refine sq (v := (.int .i64 (i : Int))) hF65 (wantedS rfl) (run_mv rfl (hF65.ev 9 rfl)) rfl (by decide) fun a66 hF66 => ?_
        refine sq (v := (.int .u64 (i : Int))) hF66 (wantedS rfl) (run_cvI (r := (i : Int)) rfl (hF66.ev 78 rfl) Tryd.underlying3 Tryd.underlying51 (by rw [IntKind.wrap_u64]; omega)) rfl (by decide) fun a67 hF67 => ?_
        refine sq (v := (.int .u32 z80)) hF67 (wantedS rfl) (run_shr (r := z80) rfl (hF67.ev 77 rfl) (hF67.ev 79 rfl) (by omega) (by first | decide | (simp [IntKind.bits]; omega)) hz80) rfl (by decide) fun a68 hF68 => ?_
        refine sq (v := (.int .u32 r)) hF68 (wantedS rfl) (run_and (r := r) rfl (hF68.ev 80 rfl) rfl hr) rfl (by decide) fun a69 hF69 => ?_
        refine sq (v := (.bool true)) hF69 (wantedS rfl) (run_eqi rfl (hF69.ev 81 rfl) rfl (beq_iff_eq.2 hlost)) rfl (by decide) fun a70 hF70 => ?_
        refine sqEnd ?_
        clear hF64 hF65 hF66 hF67 hF68 hF69
        refine nx ?_
        refine wp_cond_true (hF70.ev 82 rfl) ?_
        refine wp_exit ?_
        refine nxExit ?_
        refine bkHere ?_
        refine nx ?_
        refine wp_region_lit ?_
        refine sq (v := (.int .i64 ((i + 1 : Nat) : Int))) hF70 (wantedS rfl) (run_add (r := ((i + 1 : Nat) : Int)) rfl (hF70.ev 40 rfl) rfl (by rw [IntKind.wrap_i64]; omega)) rfl (by decide) fun a71 hF71 => ?_
        refine sq (v := (.int .i64 ((i + 1 : Nat) : Int))) hF71 (wantedS rfl) (run_mv rfl (hF71.ev 124 rfl)) rfl (by decide) fun a72 hF72 => ?_
        refine sqEnd ?_
        clear hF70 hF71
        refine nx ?_
        exact ⟨_, by omega, i + 1, j, by omega, by omega, rfl, hF72.sub ⟨rfl, rfl, rfl, rfl, rfl, rfl, trivial⟩, hM46.sub (.cons _ (.cons _ (.cons_cons _ (.cons_cons _ (.cons_cons _ .slnil)))))⟩
    · skip
      refine wp_seq ?_
      refine wp_region_lit ?_
      refine sq (v := (.bool true)) hF40 (wantedS rfl) (run_lss rfl (hF40.ev 40 rfl) (hF40.ev 39 rfl) (decide_eq_true (by omega))) rfl (by decide) fun a41 hF41 => ?_
      refine sqEnd ?_
      clear hF40
      refine nx ?_
      refine wp_seq ?_
      refine wp_cond_true (hF41.ev 41 rfl) ?_
      refine wp_skip ?_
      refine nx ?_
      refine wp_seq ?_
      refine wp_block ?_
      refine wp_seq ?_
      refine wp_region_lit ?_
      refine sq (v := (.int .i64 (i : Int))) hF41 (wantedS rfl) (run_mv rfl (hF41.ev 40 rfl)) rfl (by decide) fun a42 hF42 => ?_
      refine sq (v := (slPtr v (i * 1))) hF42 (wantedS rfl) (run_atP (i := i) rfl (hF42.ev 38 rfl) (hF42.ev 40 rfl) rfl (hV.below hM40.below) (by omega) elStr.un (by kernel_rfl)) rfl (by decide) fun a43 hF43 => ?_
      refine sq (v := (.string ⟨x.toArray⟩)) hF43 (wantedS rfl) (run_ldP rfl (hF43.ev 43 rfl) (hV.below hM40.below) (map_at hx) (by kernel_rfl)) rfl (by decide) fun a44 hF44 => ?_
      refine sq (v := (.int .i64 (i : Int))) hF44 (wantedS rfl) (run_as rfl (hF44.ev 42 rfl)) rfl (by decide) fun a45 hF45 => ?_
      refine sq (v := (.string ⟨x.toArray⟩)) hF45 (wantedS rfl) (run_as rfl (hF45.ev 44 rfl)) rfl (by decide) fun a46 hF46 => ?_
      refine sqEnd ?_
      clear hF41 hF42 hF43 hF44 hF45
      refine nx ?_
      refine wp_seq ?_
      refine wp_seq ?_
      refine wp_region_lit ?_
      refine sq (v := (.string ⟨x.toArray⟩)) hF46 (wantedS rfl) (run_mv rfl (hF46.ev 10 rfl)) rfl (by decide) fun a47 hF47 => ?_
      refine sq (v := (.int .i64 (x.length : Int))) hF47 (wantedS rfl) (run_len rfl (hF47.ev 45 rfl) rfl Tryd.underlying9) rfl (by decide) fun a48 hF48 => ?_
      refine sq (v := (.bool false)) hF48 (wantedS rfl) (run_gtr rfl (hF48.ev 46 rfl) rfl (decide_eq_false (by omega))) rfl (by decide) fun a49 hF49 => ?_
      refine sqEnd ?_
      clear hF46 hF47 hF48
      refine nx ?_
      refine wp_cond_false (hF49.ev 47 rfl) ?_
      refine wp_skip ?_
      refine nx ?_
      refine wp_seq ?_
      refine wp_region_new 126 [some (.pointer (some ⟨g1, 2, none⟩)), some (.agg (cells8 ((itS c i).k))), some (.pointer (some ⟨g1, 1, none⟩)), some (.int .u64 ((itS c i).n : Int)), none, none, some (.int .u64 ((itS c i).n : Int))] [⟨4, 11, 5, 24, (cells8 (List.replicate 32 0)), (cells8 ((itS c i).k))⟩] (by kernel_rfl) (by kernel_rfl) hF49.size hM40 ?_ ?_ fun a50 w41 gs hI => ?_
      · intro d hd
        simp only [List.mem_cons, List.not_mem_nil, or_false] at hd
        rcases hd with rfl <;> exact ⟨Nat.le_of_ble_eq_true (by kernel_rfl), _, rfl, rfl⟩
      · refine ⟨?_, ?_, ?_, ?_, ?_, ?_, ?_, trivial⟩
        · refine .val 49 (.pointer (some ⟨g1, 2, none⟩)) rfl rfl (by simp) fun a W hS hh hd => ⟨wanted_yes rfl, ?_⟩
          exact givn_run (run_fldA (m := 32) (s := 2) rfl (eval_tmp (hh 7 _ rfl (hF49.at 7 rfl))) Tryd.underlying26 rfl rfl (by kernel_rfl) (by decide))
        · refine .val 50 (.agg (cells8 ((itS c i).k))) rfl rfl (by simp) fun a W hS hh hd => ⟨wanted_yes rfl, ?_⟩
          exact givn_run (run_ldK rfl (eval_tmp (hd 0 49 _ (by kernel_rfl) rfl)) (hS.at 1 rfl) (itS_len hLc i))
        · refine .val 51 (.pointer (some ⟨g1, 1, none⟩)) rfl rfl (by simp) fun a W hS hh hd => ⟨wanted_yes rfl, ?_⟩
          exact givn_run (run_fldA (m := 1) (s := 1) rfl (eval_tmp (hh 7 _ rfl (hF49.at 7 rfl))) Tryd.underlying26 rfl rfl (by kernel_rfl) (by decide))
        · refine .val 52 (.int .u64 ((itS c i).n : Int)) rfl rfl (by simp) fun a W hS hh hd => ⟨wanted_yes rfl, ?_⟩
          exact givn_run (run_ldF rfl (eval_tmp (hd 2 51 _ (by kernel_rfl) rfl)) (hS.at 1 rfl) rfl (by kernel_rfl))
        · exact .new 0 _ rfl rfl rfl rfl (by simp) (fun y e hy he => by rcases y with _ | _ | y <;> simp at hy <;> (try subst hy) <;> simp at he ⊢) fun a W => ⟨wanted_yes rfl, run_alloc rfl (by kernel_rfl)⟩
        · exact .put 0 _ rfl rfl rfl (by simp) (fun y e hy he => by rcases y with _ | _ | y <;> simp at hy <;> (try subst hy) <;> simp at he ⊢) (by kernel_rfl) 32 24 _ _ rfl rfl (fun a hh hd => (eval_tmp (hd 1 50 _ (by kernel_rfl) rfl))) rfl sz32k (szOf (itS_len hLc i)) (szOf List.length_replicate) (cells8_one _)
        · refine .val 12 (.int .u64 ((itS c i).n : Int)) rfl rfl (by simp) fun a W hS hh hd => ⟨wanted_yes rfl, ?_⟩
          exact givn_run (run_as rfl (eval_tmp (hd 3 52 _ (by kernel_rfl) rfl)))
      obtain ⟨pg5, qg5, Bg5, fg5⟩ := hI.blk 0 _ rfl rfl
      generalize gs 0 = g5 at pg5 qg5 Bg5 fg5
      have hM41 := hI.mem.put1 (cs := (cells8 ((itS c i).k))) qg5 Bg5 fg5
      have hF50 : Fr a50 126 [(2, (.int .u32 (q : Int))), (7, (.pointer (some ⟨g1, 0, none⟩))), (8, (.pointer (some ⟨g2, 0, none⟩))), (9, (.int .i64 (i : Int))), (10, (.string ⟨x.toArray⟩)), (11, (.pointer (some ⟨g5, 0, none⟩))), (12, (.int .u64 ((itS c i).n : Int))), (38, v), (39, (.int .i64 (l.length : Int))), (40, (.int .i64 (i : Int))), (41, (.bool true)), (42, (.int .i64 (i : Int))), (43, (slPtr v (i * 1))), (44, (.string ⟨x.toArray⟩)), (45, (.string ⟨x.toArray⟩)), (46, (.int .i64 (x.length : Int))), (47, (.bool false)), (50, (.agg (cells8 ((itS c i).k)))), (52, (.int .u64 ((itS c i).n : Int)))] := fr_of_holds hI.size (hI.defers.trans hF49.defers) ⟨hI.had 2 _ rfl (hF49.at 2 rfl), hI.had 7 _ rfl (hF49.at 7 rfl), hI.had 8 _ rfl (hF49.at 8 rfl), hI.had 9 _ rfl (hF49.at 9 rfl), hI.had 10 _ rfl (hF49.at 10 rfl), pg5, hI.val 6 _ 12 _ rfl rfl rfl rfl, hI.had 38 _ rfl (hF49.at 38 rfl), hI.had 39 _ rfl (hF49.at 39 rfl), hI.had 40 _ rfl (hF49.at 40 rfl), hI.had 41 _ rfl (hF49.at 41 rfl), hI.had 42 _ rfl (hF49.at 42 rfl), hI.had 43 _ rfl (hF49.at 43 rfl), hI.had 44 _ rfl (hF49.at 44 rfl), hI.had 45 _ rfl (hF49.at 45 rfl), hI.had 46 _ rfl (hF49.at 46 rfl), hI.had 47 _ rfl (hF49.at 47 rfl), hI.val 1 _ 50 _ rfl rfl rfl rfl, hI.val 3 _ 52 _ rfl rfl rfl rfl, trivial⟩
      clear hI pg5 Bg5 fg5
      clear hF49 hM40
      refine nx ?_
      refine wp_seq ?_
      refine wp_region_lit ?_
      refine sq (v := (.agg (chA (itS c i)))) hF50 (wantedS rfl) (run_ldB rfl (hF50.ev 7 rfl) (hM41.at 2 rfl) Tryd.underlying26 rfl szCh (chA_size (itS_len hLc i))) rfl (by decide) fun a51 hF51 => ?_
      refine sq (v := (.string ⟨x.toArray⟩)) hF51 (wantedS rfl) (run_mv rfl (hF51.ev 10 rfl)) rfl (by decide) fun a52 hF52 => ?_
      refine sqC (v := (.tuple #[(.agg (chA (itS c (i + 1)))), (.string ⟨fr.toArray⟩), (.int .i64 0)])) hF52 hM41 (wantedS rfl) (run_call rfl Tryd.func12 (by kernel_rfl) rfl (mapE2 (hF52.ev 54 rfl) (hF52.ev 55 rfl))) rfl (by decide) (send_eq hS w41 (HG.below hM41.below) (itS_len hLc i) (by first | omega | decide | (simp; done) | (simp; omega)) (by first | omega | decide | (simp; done) | (simp; omega))) fun a53 w42 hb42 hF53 hM42 => ?_
      refine sq (v := (.tuple #[(.agg (chA (itS c (i + 1)))), (.string ⟨fr.toArray⟩), (.int .i64 0)])) hF53 (wantedS rfl) (run_mv rfl (hF53.ev 56 rfl)) rfl (by decide) fun a54 hF54 => ?_
      refine sq (v := (.agg (chA (itS c (i + 1))))) hF54 (wantedS rfl) (run_ext rfl (hF54.ev 53 rfl) rfl) rfl (by decide) fun a55 hF55 => ?_
      refine sq (v := (.string ⟨fr.toArray⟩)) hF55 (wantedS rfl) (run_ext rfl (hF55.ev 53 rfl) rfl) rfl (by decide) fun a56 hF56 => ?_
      refine sq (v := (.int .i64 0)) hF56 (wantedS rfl) (run_ext rfl (hF56.ev 53 rfl) rfl) rfl (by decide) fun a57 hF57 => ?_
      refine sqNew (cs := (chA noCh)) (t := 26) hF57 hM42 (wantedS rfl) (run_alloc rfl (by kernel_rfl)) rfl (by decide) fun g6 a58 w43 hgg6 hb43 hF58 hM43 => ?_
      refine sqStore (i := 0) hF58 hM43 rfl rfl rfl (hF58.ev 13 rfl) (hF58.ev 57 rfl) rfl szCh (chA_size (itS_len hLc (i + 1))) (chA_size noCh_len) (chA_one _) fun a59 w44 hF59 hM44 => ?_
      refine sq (v := (.string ⟨fr.toArray⟩)) hF59 (wantedS rfl) (run_as rfl (hF59.ev 58 rfl)) rfl (by decide) fun a60 hF60 => ?_
      refine sq (v := (.int .i64 0)) hF60 (wantedS rfl) (run_as rfl (hF60.ev 59 rfl)) rfl (by decide) fun a61 hF61 => ?_
      refine sqEnd ?_
      clear hF50 hF51 hF52 hF53 hF54 hF55 hF56 hF57 hF58 hF59 hF60 hM41 hM42 hM43
      refine nx ?_
      refine wp_seq ?_
      refine wp_seq ?_
      obtain ⟨KL, hKL⟩ : ∃ KL, KL = [kval (.int .i64 0), kval (.bool false), kval (.bool false), kval (.pointer (some ⟨g6, 1, none⟩)), kval (.int .u64 ((itS c (i + 1)).n : Int)), kval (.int .u64 ((itS c i).n : Int)), kval (.int .u64 ((itS c (i + 1)).n : Int)), kval (.bool false), kval (.bool false), kval (.bool false), kval (.pointer (some ⟨g6, 2, none⟩)), kval (.agg (cells8 ((itS c (i + 1)).k))), kval (.agg (cells8 ((itS c i).k))), kval (.agg (cells8 (nextS ((itS c i).k)))), kval (.bool false), kval (.bool false)] := ⟨_, rfl⟩
      have K0 : KL.getD 0 kany = kval (.int .i64 0) := by rw [hKL]; rfl
      have K1 : KL.getD 1 kany = kval (.bool false) := by rw [hKL]; rfl
      have K2 : KL.getD 2 kany = kval (.bool false) := by rw [hKL]; rfl
      have K3 : KL.getD 3 kany = kval (.pointer (some ⟨g6, 1, none⟩)) := by rw [hKL]; rfl
      have K4 : KL.getD 4 kany = kval (.int .u64 ((itS c (i + 1)).n : Int)) := by rw [hKL]; rfl
      have K5 : KL.getD 5 kany = kval (.int .u64 ((itS c i).n : Int)) := by rw [hKL]; rfl
      have K6 : KL.getD 6 kany = kval (.int .u64 ((itS c (i + 1)).n : Int)) := by rw [hKL]; rfl
      have K7 : KL.getD 7 kany = kval (.bool false) := by rw [hKL]; rfl
      have K8 : KL.getD 8 kany = kval (.bool false) := by rw [hKL]; rfl
      have K9 : KL.getD 9 kany = kval (.bool false) := by rw [hKL]; rfl
      have K10 : KL.getD 10 kany = kval (.pointer (some ⟨g6, 2, none⟩)) := by rw [hKL]; rfl
      have K11 : KL.getD 11 kany = kval (.agg (cells8 ((itS c (i + 1)).k))) := by rw [hKL]; rfl
      have K12 : KL.getD 12 kany = kval (.agg (cells8 ((itS c i).k))) := by rw [hKL]; rfl
      have K13 : KL.getD 13 kany = kval (.agg (cells8 (nextS ((itS c i).k)))) := by rw [hKL]; rfl
      have K14 : KL.getD 14 kany = kval (.bool false) := by rw [hKL]; rfl
      have K15 : KL.getD 15 kany = kval (.bool false) := by rw [hKL]; rfl
      clear hKL
      refine wp_region_kd 126 (by kernel_rfl) (by kernel_rfl) (by kernel_rfl) hF61.size KL ?_ ?_
      · refine ⟨?_, ?_, ?_, ?_, ?_, ?_, ?_, ?_, ?_, ?_, ?_, ?_, ?_, ?_, ?_, ?_, trivial⟩
        · refine asks_mk fun a W hS hh hd => ⟨wanted_yes rfl, ?_⟩
          exact giv_run (run_mv rfl (eval_tmp (hh 15 _ rfl (hF61.at 15 rfl)))) K0
        · refine asks_mk fun a W hS hh hd => ⟨wanted_yes rfl, ?_⟩
          exact giv_run (run_nei rfl (eval_tmp (hd.val (j := 0) (s := 60) (by kernel_rfl) K0)) rfl (bne_self_eq_false _)) K1
        · refine asks_mk fun a W hS hh hd => ⟨wanted_yes rfl, ?_⟩
          exact giv_run (run_mv rfl (eval_tmp (hd.val (j := 1) (s := 61) (by kernel_rfl) K1))) K2
        · refine asks_mk fun a W hS hh hd => ⟨wanted_of (j := 2) (s := 62) (by kernel_rfl) (hd.val (j := 2) (s := 62) (by kernel_rfl) K2), ?_⟩
          exact giv_run (run_fldA (m := 1) (s := 1) rfl (eval_tmp (hh 13 _ rfl (hF61.at 13 rfl))) Tryd.underlying26 rfl rfl (by kernel_rfl) (by decide)) K3
        · refine asks_mk fun a W hS hh hd => ⟨wanted_of (j := 2) (s := 62) (by kernel_rfl) (hd.val (j := 2) (s := 62) (by kernel_rfl) K2), ?_⟩
          exact giv_run (run_ldF rfl (eval_tmp (hd.val (j := 3) (s := 63) (by kernel_rfl) K3)) ((hM44.grow hS).at 0 rfl) rfl (by kernel_rfl)) K4
        · refine asks_mk fun a W hS hh hd => ⟨wanted_of (j := 2) (s := 62) (by kernel_rfl) (hd.val (j := 2) (s := 62) (by kernel_rfl) K2), ?_⟩
          exact giv_run (run_mv rfl (eval_tmp (hh 12 _ rfl (hF61.at 12 rfl)))) K5
        · refine asks_mk fun a W hS hh hd => ⟨wanted_of (j := 2) (s := 62) (by kernel_rfl) (hd.val (j := 2) (s := 62) (by kernel_rfl) K2), ?_⟩
          exact giv_run (run_add (r := ((itS c (i + 1)).n : Int)) rfl (eval_tmp (hd.val (j := 5) (s := 65) (by kernel_rfl) K5)) rfl (by rw [IntKind.wrap_u64]; omega)) K6
        · refine asks_mk fun a W hS hh hd => ⟨wanted_of (j := 2) (s := 62) (by kernel_rfl) (hd.val (j := 2) (s := 62) (by kernel_rfl) K2), ?_⟩
          exact giv_run (run_nei rfl (eval_tmp (hd.val (j := 4) (s := 64) (by kernel_rfl) K4)) (eval_tmp (hd.val (j := 6) (s := 66) (by kernel_rfl) K6)) (bne_self_eq_false _)) K7
        · refine asks_mk fun a W hS hh hd => ⟨wanted_yes rfl, ?_⟩
          exact giv_run (run_pick rfl (eval_tmp (hd.val (j := 2) (s := 62) (by kernel_rfl) K2)) rfl (eval_tmp (hd.val (j := 7) (s := 67) (by kernel_rfl) K7))) K8
        · refine asks_mk fun a W hS hh hd => ⟨wanted_yes rfl, ?_⟩
          exact giv_run (run_mv rfl (eval_tmp (hd.val (j := 8) (s := 68) (by kernel_rfl) K8))) K9
        · refine asks_mk fun a W hS hh hd => ⟨wanted_of (j := 9) (s := 69) (by kernel_rfl) (hd.val (j := 9) (s := 69) (by kernel_rfl) K9), ?_⟩
          exact giv_run (run_fldA (m := 32) (s := 2) rfl (eval_tmp (hh 13 _ rfl (hF61.at 13 rfl))) Tryd.underlying26 rfl rfl (by kernel_rfl) (by decide)) K10
        · refine asks_mk fun a W hS hh hd => ⟨wanted_of (j := 9) (s := 69) (by kernel_rfl) (hd.val (j := 9) (s := 69) (by kernel_rfl) K9), ?_⟩
          exact giv_run (run_ldK rfl (eval_tmp (hd.val (j := 10) (s := 70) (by kernel_rfl) K10)) ((hM44.grow hS).at 0 rfl) (itS_len hLc (i + 1))) K11
        · refine asks_mk fun a W hS hh hd => ⟨wanted_of (j := 9) (s := 69) (by kernel_rfl) (hd.val (j := 9) (s := 69) (by kernel_rfl) K9), ?_⟩
          exact giv_run (run_ldB rfl (eval_tmp (hh 11 _ rfl (hF61.at 11 rfl))) ((hM44.grow hS).at 1 rfl) Tryd.underlying24 rfl sz32k (szOf (itS_len hLc i))) K12
        · refine asks_mk fun a W hS hh hd => ⟨wanted_of (j := 9) (s := 69) (by kernel_rfl) (hd.val (j := 9) (s := 69) (by kernel_rfl) K9), ?_⟩
          exact giv_call (run_call rfl Tryd.func21 (by kernel_rfl) rfl (mapE1 (eval_tmp (hd.val (j := 12) (s := 72) (by kernel_rfl) K12)))) (next_any ((itS c i).k) W (HG.below (hM44.grow hS).below) (itS_len hLc i)) K13
        · refine asks_mk fun a W hS hh hd => ⟨wanted_of (j := 9) (s := 69) (by kernel_rfl) (hd.val (j := 9) (s := 69) (by kernel_rfl) K9), ?_⟩
          exact giv_run (run_neKey2 (itS_next c i) (nextS_len _) rfl (eval_tmp (hd.val (j := 11) (s := 71) (by kernel_rfl) K11)) (eval_tmp (hd.val (j := 13) (s := 73) (by kernel_rfl) K13))) K14
        · refine asks_mk fun a W hS hh hd => ⟨wanted_yes rfl, ?_⟩
          exact giv_run (run_pick rfl (eval_tmp (hd.val (j := 9) (s := 69) (by kernel_rfl) K9)) rfl (eval_tmp (hd.val (j := 14) (s := 74) (by kernel_rfl) K14))) K15
      · intro a62 w45 hb45 hK
        have e0 := hK.val (i := 0) (s := 60) (by kernel_rfl) K0
        have e1 := hK.val (i := 1) (s := 61) (by kernel_rfl) K1
        have e2 := hK.val (i := 2) (s := 62) (by kernel_rfl) K2
        have e3 := hK.val (i := 3) (s := 63) (by kernel_rfl) K3
        have e4 := hK.val (i := 4) (s := 64) (by kernel_rfl) K4
        have e5 := hK.val (i := 5) (s := 65) (by kernel_rfl) K5
        have e6 := hK.val (i := 6) (s := 66) (by kernel_rfl) K6
        have e7 := hK.val (i := 7) (s := 67) (by kernel_rfl) K7
        have e8 := hK.val (i := 8) (s := 68) (by kernel_rfl) K8
        have e9 := hK.val (i := 9) (s := 69) (by kernel_rfl) K9
        have e10 := hK.val (i := 10) (s := 70) (by kernel_rfl) K10
        have e11 := hK.val (i := 11) (s := 71) (by kernel_rfl) K11
        have e12 := hK.val (i := 12) (s := 72) (by kernel_rfl) K12
        have e13 := hK.val (i := 13) (s := 73) (by kernel_rfl) K13
        have e14 := hK.val (i := 14) (s := 74) (by kernel_rfl) K14
        have e15 := hK.val (i := 15) (s := 75) (by kernel_rfl) K15
        have hF62 : Fr a62 126 [(2, (.int .u32 (q : Int))), (7, (.pointer (some ⟨g1, 0, none⟩))), (8, (.pointer (some ⟨g2, 0, none⟩))), (9, (.int .i64 (i : Int))), (10, (.string ⟨x.toArray⟩)), (11, (.pointer (some ⟨g5, 0, none⟩))), (12, (.int .u64 ((itS c i).n : Int))), (13, (.pointer (some ⟨g6, 0, none⟩))), (14, (.string ⟨fr.toArray⟩)), (15, (.int .i64 0)), (38, v), (39, (.int .i64 (l.length : Int))), (40, (.int .i64 (i : Int))), (41, (.bool true)), (42, (.int .i64 (i : Int))), (43, (slPtr v (i * 1))), (44, (.string ⟨x.toArray⟩)), (45, (.string ⟨x.toArray⟩)), (46, (.int .i64 (x.length : Int))), (47, (.bool false)), (50, (.agg (cells8 ((itS c i).k)))), (52, (.int .u64 ((itS c i).n : Int))), (53, (.tuple #[(.agg (chA (itS c (i + 1)))), (.string ⟨fr.toArray⟩), (.int .i64 0)])), (54, (.agg (chA (itS c i)))), (55, (.string ⟨x.toArray⟩)), (56, (.tuple #[(.agg (chA (itS c (i + 1)))), (.string ⟨fr.toArray⟩), (.int .i64 0)])), (57, (.agg (chA (itS c (i + 1))))), (58, (.string ⟨fr.toArray⟩)), (59, (.int .i64 0)), (75, (.bool false))] := (hK.fr hF61 [(.int .i64 0), (.bool false), (.bool false), (.pointer (some ⟨g6, 1, none⟩)), (.int .u64 ((itS c (i + 1)).n : Int)), (.int .u64 ((itS c i).n : Int)), (.int .u64 ((itS c (i + 1)).n : Int)), (.bool false), (.bool false), (.bool false), (.pointer (some ⟨g6, 2, none⟩)), (.agg (cells8 ((itS c (i + 1)).k))), (.agg (cells8 ((itS c i).k))), (.agg (cells8 (nextS ((itS c i).k)))), (.bool false), (.bool false)] ⟨e0, e1, e2, e3, e4, e5, e6, e7, e8, e9, e10, e11, e12, e13, e14, e15, trivial⟩).sub ⟨rfl, rfl, rfl, rfl, rfl, rfl, rfl, rfl, rfl, rfl, rfl, rfl, rfl, rfl, rfl, rfl, rfl, rfl, rfl, rfl, rfl, rfl, rfl, rfl, rfl, rfl, rfl, rfl, rfl, rfl, trivial⟩
        have hM45 := hM44.grow hb45
        clear hK K0 e0 K1 e1 K2 e2 K3 e3 K4 e4 K5 e5 K6 e6 K7 e7 K8 e8 K9 e9 K10 e10 K11 e11 K12 e12 K13 e13 K14 e14 K15 e15
        clear hF61 hM44
        refine nx ?_
        refine wp_cond_false (hF62.ev 75 rfl) ?_
        refine wp_skip ?_
        refine nx ?_
        refine wp_seq ?_
        refine wp_region_lit ?_
        refine sq (v := (.agg (chA (itS c (i + 1))))) hF62 (wantedS rfl) (run_ldB rfl (hF62.ev 13 rfl) (hM45.at 0 rfl) Tryd.underlying26 rfl szCh (chA_size (itS_len hLc (i + 1)))) rfl (by decide) fun a63 hF63 => ?_
        refine sqStore (i := 3) hF63 hM45 rfl rfl rfl (hF63.ev 7 rfl) (hF63.ev 76 rfl) rfl szCh (chA_size (itS_len hLc (i + 1))) (chA_size (itS_len hLc i)) (chA_one _) fun a64 w46 hF64 hM46 => ?_
        refine sqEnd ?_
        clear hF62 hF63 hM45
        refine nx ?_
        refine wp_seq ?_
        refine wp_seq ?_
        refine wp_region_lit ?_
        refine sq (v := (.int .u32 (q : Int))) hF64 (wantedS rfl) (run_mv rfl (hF64.ev 2 rfl)) rfl (by decide) fun a65 hF65 => ?_
        refine sq (v := (.int .i64 (i : Int))) hF65 (wantedS rfl) (run_mv rfl (hF65.ev 9 rfl)) rfl (by decide) fun a66 hF66 => ?_
        refine sq (v := (.int .u64 (i : Int))) hF66 (wantedS rfl) (run_cvI (r := (i : Int)) rfl (hF66.ev 78 rfl) Tryd.underlying3 Tryd.underlying51 (by rw [IntKind.wrap_u64]; omega)) rfl (by decide) fun a67 hF67 => ?_
        refine sq (v := (.int .u32 z80)) hF67 (wantedS rfl) (run_shr (r := z80) rfl (hF67.ev 77 rfl) (hF67.ev 79 rfl) (by omega) (by first | decide | (simp [IntKind.bits]; omega)) hz80) rfl (by decide) fun a68 hF68 => ?_
        refine sq (v := (.int .u32 r)) hF68 (wantedS rfl) (run_and (r := r) rfl (hF68.ev 80 rfl) rfl hr) rfl (by decide) fun a69 hF69 => ?_
        refine sq (v := (.bool false)) hF69 (wantedS rfl) (run_eqi rfl (hF69.ev 81 rfl) rfl (beq_eq_false_iff_ne.2 hlost)) rfl (by decide) fun a70 hF70 => ?_
        refine sqEnd ?_
        clear hF64 hF65 hF66 hF67 hF68 hF69
        refine nx ?_
        refine wp_cond_false (hF70.ev 82 rfl) ?_
        refine wp_skip ?_
        refine nx ?_
        refine wp_seq ?_
        refine wp_region_lit ?_
        refine sq (v := (.agg (chA (itS c j)))) hF70 (wantedS rfl) (run_ldB rfl (hF70.ev 8 rfl) (hM46.at 2 rfl) Tryd.underlying26 rfl szCh (chA_size (itS_len hLc j))) rfl (by decide) fun a71 hF71 => ?_
        refine sq (v := (.string ⟨fr.toArray⟩)) hF71 (wantedS rfl) (run_mv rfl (hF71.ev 14 rfl)) rfl (by decide) fun a72 hF72 => ?_
        refine sqC (v := (.tuple #[(.agg (chA (itS c (i + 1)))), (.string ⟨x.toArray⟩), (.int .i64 0)])) hF72 hM46 (wantedS rfl) (run_call rfl Tryd.func13 (by kernel_rfl) rfl (mapE2 (hF72.ev 84 rfl) (hF72.ev 85 rfl))) rfl (by decide) (take_eq hT w46 (HG.below hM46.below) (itS_len hLc j) (by first | omega | decide | (simp; done) | (simp; omega)) (by first | omega | decide | (simp; done) | (simp; omega)) (by first | omega | decide | (simp; done) | (simp; omega))) fun a73 w47 hb47 hF73 hM47 => ?_
        refine sq (v := (.tuple #[(.agg (chA (itS c (i + 1)))), (.string ⟨x.toArray⟩), (.int .i64 0)])) hF73 (wantedS rfl) (run_mv rfl (hF73.ev 86 rfl)) rfl (by decide) fun a74 hF74 => ?_
        refine sq (v := (.agg (chA (itS c (i + 1))))) hF74 (wantedS rfl) (run_ext rfl (hF74.ev 83 rfl) rfl) rfl (by decide) fun a75 hF75 => ?_
        refine sq (v := (.string ⟨x.toArray⟩)) hF75 (wantedS rfl) (run_ext rfl (hF75.ev 83 rfl) rfl) rfl (by decide) fun a76 hF76 => ?_
        refine sq (v := (.int .i64 0)) hF76 (wantedS rfl) (run_ext rfl (hF76.ev 83 rfl) rfl) rfl (by decide) fun a77 hF77 => ?_
        refine sqNew (cs := (chA noCh)) (t := 26) hF77 hM47 (wantedS rfl) (run_alloc rfl (by kernel_rfl)) rfl (by decide) fun g7 a78 w48 hgg7 hb48 hF78 hM48 => ?_
        refine sqStore (i := 0) hF78 hM48 rfl rfl rfl (hF78.ev 16 rfl) (hF78.ev 87 rfl) rfl szCh (chA_size (itS_len hLc (i + 1))) (chA_size noCh_len) (chA_one _) fun a79 w49 hF79 hM49 => ?_
        refine sq (v := (.string ⟨x.toArray⟩)) hF79 (wantedS rfl) (run_as rfl (hF79.ev 88 rfl)) rfl (by decide) fun a80 hF80 => ?_
        refine sq (v := (.int .i64 0)) hF80 (wantedS rfl) (run_as rfl (hF80.ev 89 rfl)) rfl (by decide) fun a81 hF81 => ?_
        refine sqEnd ?_
        clear hF70 hF71 hF72 hF73 hF74 hF75 hF76 hF77 hF78 hF79 hF80 hM46 hM47 hM48
        refine nx ?_
        refine wp_seq ?_
        obtain ⟨KL, hKL⟩ : ∃ KL, KL = [kval (.agg (cells8 ((itS c i).k))), kval (.int .u64 ((itS c i).n : Int)), kval (.agg (cells8 ((itS c i).k))), kval (.int .u64 ((itS c i).n : Int)), kval (.string ⟨x.toArray⟩), kval (.string ⟨([111, 107, 32] ++ x).toArray⟩), kval (.string ⟨rp.toArray⟩), kval (.tuple #[(.string ⟨([111, 107, 32] ++ x).toArray⟩), (.int .i64 0)]), kval (.tuple #[(.string ⟨([111, 107, 32] ++ x).toArray⟩), (.int .i64 0)]), kval (.string ⟨([111, 107, 32] ++ x).toArray⟩), kval (.int .i64 0), kval (.string ⟨([111, 107, 32] ++ x).toArray⟩), kval (.int .i64 0)] := ⟨_, rfl⟩
        have K0 : KL.getD 0 kany = kval (.agg (cells8 ((itS c i).k))) := by rw [hKL]; rfl
        have K1 : KL.getD 1 kany = kval (.int .u64 ((itS c i).n : Int)) := by rw [hKL]; rfl
        have K2 : KL.getD 2 kany = kval (.agg (cells8 ((itS c i).k))) := by rw [hKL]; rfl
        have K3 : KL.getD 3 kany = kval (.int .u64 ((itS c i).n : Int)) := by rw [hKL]; rfl
        have K4 : KL.getD 4 kany = kval (.string ⟨x.toArray⟩) := by rw [hKL]; rfl
        have K5 : KL.getD 5 kany = kval (.string ⟨([111, 107, 32] ++ x).toArray⟩) := by rw [hKL]; rfl
        have K6 : KL.getD 6 kany = kval (.string ⟨rp.toArray⟩) := by rw [hKL]; rfl
        have K7 : KL.getD 7 kany = kval (.tuple #[(.string ⟨([111, 107, 32] ++ x).toArray⟩), (.int .i64 0)]) := by rw [hKL]; rfl
        have K8 : KL.getD 8 kany = kval (.tuple #[(.string ⟨([111, 107, 32] ++ x).toArray⟩), (.int .i64 0)]) := by rw [hKL]; rfl
        have K9 : KL.getD 9 kany = kval (.string ⟨([111, 107, 32] ++ x).toArray⟩) := by rw [hKL]; rfl
        have K10 : KL.getD 10 kany = kval (.int .i64 0) := by rw [hKL]; rfl
        have K11 : KL.getD 11 kany = kval (.string ⟨([111, 107, 32] ++ x).toArray⟩) := by rw [hKL]; rfl
        have K12 : KL.getD 12 kany = kval (.int .i64 0) := by rw [hKL]; rfl
        clear hKL
        refine wp_region_kd 126 (by kernel_rfl) (by kernel_rfl) (by kernel_rfl) hF81.size KL ?_ ?_
        · refine ⟨?_, ?_, ?_, ?_, ?_, ?_, ?_, ?_, ?_, ?_, ?_, ?_, ?_, trivial⟩
          · refine asks_mk fun a W hS hh hd => ⟨wanted_yes rfl, ?_⟩
            exact giv_run (run_ldB rfl (eval_tmp (hh 11 _ rfl (hF81.at 11 rfl))) ((hM49.grow hS).at 2 rfl) Tryd.underlying24 rfl sz32k (szOf (itS_len hLc i))) K0
          · refine asks_mk fun a W hS hh hd => ⟨wanted_yes rfl, ?_⟩
            exact giv_run (run_mv rfl (eval_tmp (hh 12 _ rfl (hF81.at 12 rfl)))) K1
          · refine asks_mk fun a W hS hh hd => ⟨wanted_yes rfl, ?_⟩
            exact giv_run (run_ldB rfl (eval_tmp (hh 11 _ rfl (hF81.at 11 rfl))) ((hM49.grow hS).at 2 rfl) Tryd.underlying24 rfl sz32k (szOf (itS_len hLc i))) K2
          · refine asks_mk fun a W hS hh hd => ⟨wanted_yes rfl, ?_⟩
            exact giv_run (run_mv rfl (eval_tmp (hh 12 _ rfl (hF81.at 12 rfl)))) K3
          · refine asks_mk fun a W hS hh hd => ⟨wanted_yes rfl, ?_⟩
            exact giv_run (run_mv rfl (eval_tmp (hh 10 _ rfl (hF81.at 10 rfl)))) K4
          · refine asks_mk fun a W hS hh hd => ⟨wanted_yes rfl, ?_⟩
            exact giv_run (run_cat rfl rfl (eval_tmp (hd.val (j := 4) (s := 95) (by kernel_rfl) K4)) (by first | omega | decide | (simp; done) | (simp; omega))) K5
          · refine asks_mk fun a W hS hh hd => ⟨wanted_yes rfl, ?_⟩
            exact giv_call (run_call rfl Tryd.func23 (by kernel_rfl) rfl (mapE3 (eval_tmp (hd.val (j := 2) (s := 93) (by kernel_rfl) K2)) (eval_tmp (hd.val (j := 3) (s := 94) (by kernel_rfl) K3)) (eval_tmp (hd.val (j := 5) (s := 96) (by kernel_rfl) K5)))) (hR W (HG.below (hM49.grow hS).below) (itS_len hLc i) (by omega)) K6
          · refine asks_mk fun a W hS hh hd => ⟨wanted_yes rfl, ?_⟩
            exact giv_call (run_call rfl Tryd.func25 (by kernel_rfl) rfl (mapE3 (eval_tmp (hd.val (j := 0) (s := 91) (by kernel_rfl) K0)) (eval_tmp (hd.val (j := 1) (s := 92) (by kernel_rfl) K1)) (eval_tmp (hd.val (j := 6) (s := 97) (by kernel_rfl) K6)))) (answer_eq hA W (HG.below (hM49.grow hS).below) (itS_len hLc i) (by omega)) K7
          · refine asks_mk fun a W hS hh hd => ⟨wanted_yes rfl, ?_⟩
            exact giv_run (run_mv rfl (eval_tmp (hd.val (j := 7) (s := 98) (by kernel_rfl) K7))) K8
          · refine asks_mk fun a W hS hh hd => ⟨wanted_yes rfl, ?_⟩
            exact giv_run (run_ext rfl (eval_tmp (hd.val (j := 8) (s := 90) (by kernel_rfl) K8)) rfl) K9
          · refine asks_mk fun a W hS hh hd => ⟨wanted_yes rfl, ?_⟩
            exact giv_run (run_ext rfl (eval_tmp (hd.val (j := 8) (s := 90) (by kernel_rfl) K8)) rfl) K10
          · refine asks_mk fun a W hS hh hd => ⟨wanted_yes rfl, ?_⟩
            exact giv_run (run_as rfl (eval_tmp (hd.val (j := 9) (s := 99) (by kernel_rfl) K9))) K11
          · refine asks_mk fun a W hS hh hd => ⟨wanted_yes rfl, ?_⟩
            exact giv_run (run_as rfl (eval_tmp (hd.val (j := 10) (s := 100) (by kernel_rfl) K10))) K12
        · intro a82 w50 hb50 hK
          have e0 := hK.val (i := 0) (s := 91) (by kernel_rfl) K0
          have e1 := hK.val (i := 1) (s := 92) (by kernel_rfl) K1
          have e2 := hK.val (i := 2) (s := 93) (by kernel_rfl) K2
          have e3 := hK.val (i := 3) (s := 94) (by kernel_rfl) K3
          have e4 := hK.val (i := 4) (s := 95) (by kernel_rfl) K4
          have e5 := hK.val (i := 5) (s := 96) (by kernel_rfl) K5
          have e6 := hK.val (i := 6) (s := 97) (by kernel_rfl) K6
          have e7 := hK.val (i := 7) (s := 98) (by kernel_rfl) K7
          have e8 := hK.val (i := 8) (s := 90) (by kernel_rfl) K8
          have e9 := hK.val (i := 9) (s := 99) (by kernel_rfl) K9
          have e10 := hK.val (i := 10) (s := 100) (by kernel_rfl) K10
          have e11 := hK.val (i := 11) (s := 19) (by kernel_rfl) K11
          have e12 := hK.val (i := 12) (s := 20) (by kernel_rfl) K12
          have hF82 : Fr a82 126 [(2, (.int .u32 (q : Int))), (7, (.pointer (some ⟨g1, 0, none⟩))), (8, (.pointer (some ⟨g2, 0, none⟩))), (9, (.int .i64 (i : Int))), (10, (.string ⟨x.toArray⟩)), (11, (.pointer (some ⟨g5, 0, none⟩))), (12, (.int .u64 ((itS c i).n : Int))), (13, (.pointer (some ⟨g6, 0, none⟩))), (14, (.string ⟨fr.toArray⟩)), (15, (.int .i64 0)), (16, (.pointer (some ⟨g7, 0, none⟩))), (17, (.string ⟨x.toArray⟩)), (18, (.int .i64 0)), (19, (.string ⟨([111, 107, 32] ++ x).toArray⟩)), (20, (.int .i64 0)), (38, v), (39, (.int .i64 (l.length : Int))), (40, (.int .i64 (i : Int))), (41, (.bool true)), (42, (.int .i64 (i : Int))), (43, (slPtr v (i * 1))), (44, (.string ⟨x.toArray⟩)), (45, (.string ⟨x.toArray⟩)), (46, (.int .i64 (x.length : Int))), (47, (.bool false)), (50, (.agg (cells8 ((itS c i).k)))), (52, (.int .u64 ((itS c i).n : Int))), (53, (.tuple #[(.agg (chA (itS c (i + 1)))), (.string ⟨fr.toArray⟩), (.int .i64 0)])), (54, (.agg (chA (itS c i)))), (55, (.string ⟨x.toArray⟩)), (56, (.tuple #[(.agg (chA (itS c (i + 1)))), (.string ⟨fr.toArray⟩), (.int .i64 0)])), (57, (.agg (chA (itS c (i + 1))))), (58, (.string ⟨fr.toArray⟩)), (59, (.int .i64 0)), (75, (.bool false)), (76, (.agg (chA (itS c (i + 1))))), (77, (.int .u32 (q : Int))), (78, (.int .i64 (i : Int))), (79, (.int .u64 (i : Int))), (80, (.int .u32 z80)), (81, (.int .u32 r)), (82, (.bool false)), (83, (.tuple #[(.agg (chA (itS c (i + 1)))), (.string ⟨x.toArray⟩), (.int .i64 0)])), (84, (.agg (chA (itS c j)))), (85, (.string ⟨fr.toArray⟩)), (86, (.tuple #[(.agg (chA (itS c (i + 1)))), (.string ⟨x.toArray⟩), (.int .i64 0)])), (87, (.agg (chA (itS c (i + 1))))), (88, (.string ⟨x.toArray⟩)), (89, (.int .i64 0))] := (hK.fr hF81 [(.agg (cells8 ((itS c i).k))), (.int .u64 ((itS c i).n : Int)), (.agg (cells8 ((itS c i).k))), (.int .u64 ((itS c i).n : Int)), (.string ⟨x.toArray⟩), (.string ⟨([111, 107, 32] ++ x).toArray⟩), (.string ⟨rp.toArray⟩), (.tuple #[(.string ⟨([111, 107, 32] ++ x).toArray⟩), (.int .i64 0)]), (.tuple #[(.string ⟨([111, 107, 32] ++ x).toArray⟩), (.int .i64 0)]), (.string ⟨([111, 107, 32] ++ x).toArray⟩), (.int .i64 0), (.string ⟨([111, 107, 32] ++ x).toArray⟩), (.int .i64 0)] ⟨e0, e1, e2, e3, e4, e5, e6, e7, e8, e9, e10, e11, e12, trivial⟩).sub ⟨rfl, rfl, rfl, rfl, rfl, rfl, rfl, rfl, rfl, rfl, rfl, rfl, rfl, rfl, rfl, rfl, rfl, rfl, rfl, rfl, rfl, rfl, rfl, rfl, rfl, rfl, rfl, rfl, rfl, rfl, rfl, rfl, rfl, rfl, rfl, rfl, rfl, rfl, rfl, rfl, rfl, rfl, rfl, rfl, rfl, rfl, rfl, rfl, rfl, trivial⟩
          have hM50 := hM49.grow hb50
          clear hK K0 e0 K1 e1 K2 e2 K3 e3 K4 e4 K5 e5 K6 e6 K7 e7 K8 e8 K9 e9 K10 e10 K11 e11 K12 e12
          clear hF81 hM49
          refine nx ?_
          refine wp_seq ?_
          refine wp_seq ?_
          refine wp_region_lit ?_
          refine sq (v := (.int .i64 0)) hF82 (wantedS rfl) (run_mv rfl (hF82.ev 18 rfl)) rfl (by decide) fun a83 hF83 => ?_
          refine sq (v := (.bool false)) hF83 (wantedS rfl) (run_nei rfl (hF83.ev 101 rfl) rfl (bne_self_eq_false _)) rfl (by decide) fun a84 hF84 => ?_
          refine sq (v := (.bool false)) hF84 (wantedS rfl) (run_mv rfl (hF84.ev 102 rfl)) rfl (by decide) fun a85 hF85 => ?_
          refine sq (v := (.string ⟨x.toArray⟩)) hF85 (wantedG hF85 rfl rfl rfl rfl rfl) (run_mv rfl (hF85.ev 17 rfl)) rfl (by decide) fun a86 hF86 => ?_
          refine sq (v := (.string ⟨x.toArray⟩)) hF86 (wantedG hF86 rfl rfl rfl rfl rfl) (run_mv rfl (hF86.ev 10 rfl)) rfl (by decide) fun a87 hF87 => ?_
          refine sq (v := (.bool false)) hF87 (wantedG hF87 rfl rfl rfl rfl rfl) (run_nes rfl (hF87.ev 104 rfl) (hF87.ev 105 rfl) (by rw [beq_self_eq_true]; rfl)) rfl (by decide) fun a88 hF88 => ?_
          refine sq (v := (.bool false)) hF88 (wantedS rfl) (run_pick rfl (hF88.ev 103 rfl) rfl (hF88.ev 106 rfl)) rfl (by decide) fun a89 hF89 => ?_
          refine sq (v := (.bool false)) hF89 (wantedS rfl) (run_mv rfl (hF89.ev 107 rfl)) rfl (by decide) fun a90 hF90 => ?_
          refine sq (v := (.agg (chA (itS c (i + 1))))) hF90 (wantedG hF90 rfl rfl rfl rfl rfl) (run_ldB rfl (hF90.ev 16 rfl) (hM50.at 0 rfl) Tryd.underlying26 rfl szCh (chA_size (itS_len hLc (i + 1)))) rfl (by decide) fun a91 hF91 => ?_
          refine sq (v := (.agg (chA (itS c (i + 1))))) hF91 (wantedG hF91 rfl rfl rfl rfl rfl) (run_ldB rfl (hF91.ev 7 rfl) (hM50.at 4 rfl) Tryd.underlying26 rfl szCh (chA_size (itS_len hLc (i + 1)))) rfl (by decide) fun a92 hF92 => ?_
          refine sq (v := (.bool false)) hF92 (wantedG hF92 rfl rfl rfl rfl rfl) (run_neCh (itS_len hLc (i + 1)) rfl (hF92.ev 109 rfl) (hF92.ev 110 rfl)) rfl (by decide) fun a93 hF93 => ?_
          refine sq (v := (.bool false)) hF93 (wantedS rfl) (run_pick rfl (hF93.ev 108 rfl) rfl (hF93.ev 111 rfl)) rfl (by decide) fun a94 hF94 => ?_
          refine sq (v := (.bool false)) hF94 (wantedS rfl) (run_mv rfl (hF94.ev 112 rfl)) rfl (by decide) fun a95 hF95 => ?_
          refine sq (v := (.int .i64 0)) hF95 (wantedG hF95 rfl rfl rfl rfl rfl) (run_mv rfl (hF95.ev 20 rfl)) rfl (by decide) fun a96 hF96 => ?_
          refine sq (v := (.bool false)) hF96 (wantedG hF96 rfl rfl rfl rfl rfl) (run_nei rfl (hF96.ev 114 rfl) rfl (bne_self_eq_false _)) rfl (by decide) fun a97 hF97 => ?_
          refine sq (v := (.bool false)) hF97 (wantedS rfl) (run_pick rfl (hF97.ev 113 rfl) rfl (hF97.ev 115 rfl)) rfl (by decide) fun a98 hF98 => ?_
          refine sq (v := (.bool false)) hF98 (wantedS rfl) (run_mv rfl (hF98.ev 116 rfl)) rfl (by decide) fun a99 hF99 => ?_
          refine sq (v := (.string ⟨([111, 107, 32] ++ x).toArray⟩)) hF99 (wantedG hF99 rfl rfl rfl rfl rfl) (run_mv rfl (hF99.ev 19 rfl)) rfl (by decide) fun a100 hF100 => ?_
          refine sq (v := (.string ⟨x.toArray⟩)) hF100 (wantedG hF100 rfl rfl rfl rfl rfl) (run_mv rfl (hF100.ev 10 rfl)) rfl (by decide) fun a101 hF101 => ?_
          refine sq (v := (.string ⟨([111, 107, 32] ++ x).toArray⟩)) hF101 (wantedG hF101 rfl rfl rfl rfl rfl) (run_cat rfl rfl (hF101.ev 119 rfl) (by first | omega | decide | (simp; done) | (simp; omega))) rfl (by decide) fun a102 hF102 => ?_
          refine sq (v := (.bool false)) hF102 (wantedG hF102 rfl rfl rfl rfl rfl) (run_nes rfl (hF102.ev 118 rfl) (hF102.ev 120 rfl) (by rw [beq_self_eq_true]; rfl)) rfl (by decide) fun a103 hF103 => ?_
          refine sq (v := (.bool false)) hF103 (wantedS rfl) (run_pick rfl (hF103.ev 117 rfl) rfl (hF103.ev 121 rfl)) rfl (by decide) fun a104 hF104 => ?_
          refine sqEnd ?_
          clear hF82 hF83 hF84 hF85 hF86 hF87 hF88 hF89 hF90 hF91 hF92 hF93 hF94 hF95 hF96 hF97 hF98 hF99 hF100 hF101 hF102 hF103
          refine nx ?_
          refine wp_cond_false (hF104.ev 122 rfl) ?_
          refine wp_skip ?_
          refine nx ?_
          refine wp_region_lit ?_
          refine sq (v := (.agg (chA (itS c (i + 1))))) hF104 (wantedS rfl) (run_ldB rfl (hF104.ev 16 rfl) (hM50.at 0 rfl) Tryd.underlying26 rfl szCh (chA_size (itS_len hLc (i + 1)))) rfl (by decide) fun a105 hF105 => ?_
          refine sqStore (i := 3) hF105 hM50 rfl rfl rfl (hF105.ev 8 rfl) (hF105.ev 123 rfl) rfl szCh (chA_size (itS_len hLc (i + 1))) (chA_size (itS_len hLc j)) (chA_one _) fun a106 w51 hF106 hM51 => ?_
          refine sqEnd ?_
          clear hF104 hF105 hM50
          refine bkEnd ?_
          refine nx ?_
          refine wp_region_lit ?_
          refine sq (v := (.int .i64 ((i + 1 : Nat) : Int))) hF106 (wantedS rfl) (run_add (r := ((i + 1 : Nat) : Int)) rfl (hF106.ev 40 rfl) rfl (by rw [IntKind.wrap_i64]; omega)) rfl (by decide) fun a107 hF107 => ?_
          refine sq (v := (.int .i64 ((i + 1 : Nat) : Int))) hF107 (wantedS rfl) (run_mv rfl (hF107.ev 124 rfl)) rfl (by decide) fun a108 hF108 => ?_
          refine sqEnd ?_
          clear hF106 hF107
          refine nx ?_
          exact ⟨_, by omega, i + 1, (i + 1), by omega, by omega, rfl, hF108.sub ⟨rfl, rfl, rfl, rfl, rfl, rfl, trivial⟩, hM51.sub (.cons _ (.cons _ (.cons _ (.cons_cons _ (.cons_cons _ (.cons_cons _ .slnil))))))⟩
  · skip
    refine wp_seq ?_
    refine wp_region_lit ?_
    refine sq (v := (.bool false)) hF40 (wantedS rfl) (run_lss rfl (hF40.ev 40 rfl) (hF40.ev 39 rfl) (decide_eq_false (by omega))) rfl (by decide) fun a41 hF41 => ?_
    refine sqEnd ?_
    clear hF40
    refine nx ?_
    refine wp_seq ?_
    refine wp_cond_false (hF41.ev 41 rfl) ?_
    refine wp_exit ?_
    refine nxExit ?_
    refine nxExit ?_
    refine bkHere ?_
    refine nx ?_
    refine wp_seq ?_
    refine wp_region_lit ?_
    refine sqC (v := (.bool true)) hF41 hM40 (wantedS rfl) (run_call rfl Tryd.func11 (by kernel_rfl) rfl (mapE0 )) rfl (by decide) (sfix_any w40 (HG.below hM40.below)) fun a42 w41 hb41 hF42 hM41 => ?_
    refine sq (v := (.bool true)) hF42 (wantedS rfl) (run_as rfl (hF42.ev 125 rfl)) rfl (by decide) fun a43 hF43 => ?_
    refine sqEnd ?_
    clear hF41 hF42 hM40
    refine nx ?_
    refine wp_ret ?_
    exact ret1 hF43 rfl rfl ⟨rfl, hM41.below⟩
end Go.Proofs.YtioioibcldgknaaDoor
