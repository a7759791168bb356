/- The walks of package roll (a window of 16 bytes) and of chunk.Cut. Printed by gen_roll1.py. -/
import Derived.Test.YtdjjiblijbjobaaDoorRollT
import Derived.Test.YtdjjiblijbjobaaDoorOps3
import Derived.Test.YtdjjiblijbjobaaDoorTailW
import Derived.Test.YtdjjiblijbjobaaDoorNumTexts
namespace Go.Proofs.YtdjjiblijbjobaaDoor
open Go.RowKit

theorem szCuts : (Tryd.prog.info? 67).map (·.size) = some 4 := by kernel_rfl
section
variable {D : List Deferred} {a : Act} {o : Oper} {w w0 : World} {n s : Nat} {L : List (Nat × Value)} {v : Value} {ops : Array Oper} {rest : List Oper} {Q : Exit → Act → World → Prop} {M : List (Nat × (Obj → Prop))} {x y z : Operand} {g m : Nat}
theorem run_mkFn3 {f : FuncId} {c1 c2 c3 : Value} (ho : o.op = .makeFunc (.func f) #[] #[x, y, z]) (hx : a.eval x = c1) (hy : a.eval y = c2) (hz : a.eval z = c3) : (execOp a.eval o).run Tryd.prog w = .ok (.value (.func (.func f) #[] #[c1, c2, c3])) w := by
  unfold execOp
  simp only [ho, List.map_toArray, List.map_cons, List.map_nil, hx, hy, hz]
  rfl
theorem bltE4 {z2 : Operand} {i j k l : Nat} {u v r q : Value} (h : a.eval x = u) (h2 : a.eval y = v) (h3 : a.eval z = r) (h4 : a.eval z2 = q) : (#[(i, x), (j, y), (k, z), (l, z2)].map fun ((i, x) : Nat × Operand) => (i, a.eval x)) = #[(i, u), (j, v), (k, r), (l, q)] := by simp [h, h2, h3, h4]
theorem run_boxI {ty : TypeId} {k : IntKind} {q : Int} (ho : o.op = .box ty x) (hx : a.eval x = .int k q) : (execOp a.eval o).run Tryd.prog w = .ok (.value (.pointer (some ⟨w.heap.size, 0, none⟩))) (w.alloc (.cells #[.int k q] ty)) := by
  unfold execOp
  simp only [ho, hx]
  simp [go_sem]
theorem sqSet1W {j : Nat} {u old : Int} {t : TypeId} (hF : FrD D a n L) (hM : Mem w0 M w) (hgd : o.guard = none) (ho : o.op = .store 65 x y) (hd : o.dst = none) (hx : a.eval x = .pointer (some ⟨g, 0, none⟩)) (hy : a.eval y = .int .u32 u)
    (e : M[j]? = some (g, isB t #[.int .u32 old])) (h : ∀ a2 w2, w.grownBy w2 (some g) → FrD D a2 n L → Mem w0 (M.set j (g, isB t #[.int .u32 u])) w2 → wpList Tryd.prog ops Q rest a2 w2) : wpList Tryd.prog ops Q (o :: rest) a w := by
  have hB := hM.at j e
  have hc : w.cell? ⟨g, 0, none⟩ = some (.int .u32 old) := by rw [hB.cell]; rfl
  have hf := hB.frozen 0
  have hg : w.grownBy (w.setCell ⟨g, 0, none⟩ (.int .u32 u)) (some g) := grown_setCell w g 0 _
  refine sqN hF (wantedS hgd) (w2 := w.setCell ⟨g, 0, none⟩ (.int .u32 u)) ?_ hd fun a2 hF2 => h a2 _ hg hF2 (hM.upd j e hg ⟨_, ?_, rfl⟩)
  · unfold execOp
    simp only [ho, hx, hy]
    simp [go_sem, hc, hf]
  · unfold Blk at hB
    simp [World.setCell, Array.getElem?_modify, hB]
end
theorem and255 (s : Nat) (h : s < 2 ^ 32) : bits .and .u32 (s : Int) 255 = ((s % 256 : Nat) : Int) := by
  show IntKind.u32.wrap ((BitVec.ofInt 32 (s : Int) &&& BitVec.ofInt 32 255).toNat : Int) = _
  have e : (BitVec.ofInt 32 (s : Int)).toNat = s := by rw [BitVec.toNat_ofInt]; omega
  have e2 : (BitVec.ofInt 32 255).toNat = 2 ^ 8 - 1 := by decide
  rw [BitVec.toNat_and, e, e2, Nat.and_two_pow_sub_one_eq_mod, IntKind.wrap_u32]
  omega
theorem wrap_mul32 (a b : Nat) : IntKind.u32.wrap ((a : Int) * (b : Int)) = ((a * b % 2 ^ 32 : Nat) : Int) := by
  rw [IntKind.wrap_u32, ← Int.natCast_mul]
  generalize a * b = c
  omega
theorem wrap_sub32 (q p : Nat) (_hq : q < 2 ^ 32) (hp : p < 2 ^ 32) : IntKind.u32.wrap ((q : Int) - (p : Int)) = (((q + (2 ^ 32 - p)) % 2 ^ 32 : Nat) : Int) := by
  rw [IntKind.wrap_u32]
  omega
theorem rsm_low (b : List UInt8) (i : Nat) (h : i < 16) : rsm b (i + 1) = (rsm b i * 69069 + (bt b i).toNat + 1) % 2 ^ 32 := by
  rw [rsm, if_neg (by omega)]
  show ((rsm b i * 69069 + (bt b i).toNat + 1) % 2 ^ 32 + (2 ^ 32 - 0)) % 2 ^ 32 = _
  omega
theorem rsm_high (b : List UInt8) (i : Nat) (h : 16 ≤ i) : rsm b (i + 1) = ((rsm b i * 69069 + (bt b i).toNat + 1) % 2 ^ 32 + (2 ^ 32 - ((bt b (i - 16)).toNat + 1) * powW % 2 ^ 32)) % 2 ^ 32 := by
  rw [rsm, if_pos h]
  rfl
theorem hno2 {b : List UInt8} {i : Nat} (hno : ∀ j, j < i → hitB b j = false) (hh : hitB b i = false) : ∀ j, j < i + 1 → hitB b j = false := by
  intro j hj
  rcases Nat.lt_or_ge j i with h | h
  · exact hno j h
  · obtain rfl : j = i := by omega
    exact hh
set_option maxRecDepth 100000 in
set_option maxHeartbeats 1000000 in
theorem rcheck_any (w : World) : Calls Tryd.prog 63 #[.agg #[.int .i64 16, .int .i64 64, .int .i64 1024, .int .u32 255]] w fun e w' => e = .returned (.int .i64 0) ∧ Below w.heap.size w w' := by
  refine walk_enter Tryd.func63 rfl rfl rfl fun a0 hF0 => ?_
  have hM0 := Mem.new w
  refine wp_seq ?_
  refine wp_region_lit ?_
  refine sqNew (cs := #[.int .i64 16, .int .i64 64, .int .i64 1024, .int .u32 255]) (t := 67) hF0 hM0 (wantedS rfl) (run_box rfl (hF0.ev 0 rfl)) rfl (by decide) fun g0 a1 w1 hgg0 hb1 hF1 hM1 => ?_
  refine sq (v := (.int .i64 0)) hF1 (wantedS rfl) (run_as rfl rfl) rfl (by decide) fun a2 hF2 => ?_
  refine sqEnd ?_
  clear hF0 hF1 hM0
  refine nx ?_
  refine wp_seq ?_
  refine wp_seq ?_
  refine wp_region_lit ?_
  refine sq (v := (.pointer (some ⟨g0, 0, none⟩))) hF2 (wantedS rfl) (run_fldA (m := 1) (s := 0) rfl (hF2.ev 1 rfl) Tryd.underlying67 rfl rfl (by kernel_rfl) (by decide)) rfl (by decide) fun a3 hF3 => ?_
  refine sq (v := (.int .i64 16)) hF3 (wantedS rfl) (run_ldF rfl (hF3.ev 3 rfl) (hM1.at 0 rfl) rfl (by kernel_rfl)) rfl (by decide) fun a4 hF4 => ?_
  refine sq (v := (.bool false)) hF4 (wantedS rfl) (run_lss rfl (hF4.ev 4 rfl) rfl (by decide)) rfl (by decide) fun a5 hF5 => ?_
  refine sq (v := (.bool false)) hF5 (wantedS rfl) (run_mv rfl (hF5.ev 5 rfl)) rfl (by decide) fun a6 hF6 => ?_
  refine sq (v := (.pointer (some ⟨g0, 0, none⟩))) hF6 (wantedG hF6 rfl rfl rfl rfl rfl) (run_fldA (m := 1) (s := 0) rfl (hF6.ev 1 rfl) Tryd.underlying67 rfl rfl (by kernel_rfl) (by decide)) rfl (by decide) fun a7 hF7 => ?_
  refine sq (v := (.int .i64 16)) hF7 (wantedG hF7 rfl rfl rfl rfl rfl) (run_ldF rfl (hF7.ev 7 rfl) (hM1.at 0 rfl) rfl (by kernel_rfl)) rfl (by decide) fun a8 hF8 => ?_
  refine sq (v := (.bool false)) hF8 (wantedG hF8 rfl rfl rfl rfl rfl) (run_gtr rfl (hF8.ev 8 rfl) rfl (by decide)) rfl (by decide) fun a9 hF9 => ?_
  refine sq (v := (.bool false)) hF9 (wantedS rfl) (run_pick rfl (hF9.ev 6 rfl) rfl (hF9.ev 9 rfl)) rfl (by decide) fun a10 hF10 => ?_
  refine sq (v := (.bool false)) hF10 (wantedS rfl) (run_mv rfl (hF10.ev 10 rfl)) rfl (by decide) fun a11 hF11 => ?_
  refine sq (v := (.pointer (some ⟨g0, 1, none⟩))) hF11 (wantedG hF11 rfl rfl rfl rfl rfl) (run_fldA (m := 1) (s := 1) rfl (hF11.ev 1 rfl) Tryd.underlying67 rfl rfl (by kernel_rfl) (by decide)) rfl (by decide) fun a12 hF12 => ?_
  refine sq (v := (.int .i64 64)) hF12 (wantedG hF12 rfl rfl rfl rfl rfl) (run_ldF rfl (hF12.ev 12 rfl) (hM1.at 0 rfl) rfl (by kernel_rfl)) rfl (by decide) fun a13 hF13 => ?_
  refine sq (v := (.pointer (some ⟨g0, 0, none⟩))) hF13 (wantedG hF13 rfl rfl rfl rfl rfl) (run_fldA (m := 1) (s := 0) rfl (hF13.ev 1 rfl) Tryd.underlying67 rfl rfl (by kernel_rfl) (by decide)) rfl (by decide) fun a14 hF14 => ?_
  refine sq (v := (.int .i64 16)) hF14 (wantedG hF14 rfl rfl rfl rfl rfl) (run_ldF rfl (hF14.ev 14 rfl) (hM1.at 0 rfl) rfl (by kernel_rfl)) rfl (by decide) fun a15 hF15 => ?_
  refine sq (v := (.bool false)) hF15 (wantedG hF15 rfl rfl rfl rfl rfl) (run_lss rfl (hF15.ev 13 rfl) (hF15.ev 15 rfl) (by decide)) rfl (by decide) fun a16 hF16 => ?_
  refine sq (v := (.bool false)) hF16 (wantedS rfl) (run_pick rfl (hF16.ev 11 rfl) rfl (hF16.ev 16 rfl)) rfl (by decide) fun a17 hF17 => ?_
  refine sq (v := (.bool false)) hF17 (wantedS rfl) (run_mv rfl (hF17.ev 17 rfl)) rfl (by decide) fun a18 hF18 => ?_
  refine sq (v := (.pointer (some ⟨g0, 1, none⟩))) hF18 (wantedG hF18 rfl rfl rfl rfl rfl) (run_fldA (m := 1) (s := 1) rfl (hF18.ev 1 rfl) Tryd.underlying67 rfl rfl (by kernel_rfl) (by decide)) rfl (by decide) fun a19 hF19 => ?_
  refine sq (v := (.int .i64 64)) hF19 (wantedG hF19 rfl rfl rfl rfl rfl) (run_ldF rfl (hF19.ev 19 rfl) (hM1.at 0 rfl) rfl (by kernel_rfl)) rfl (by decide) fun a20 hF20 => ?_
  refine sq (v := (.pointer (some ⟨g0, 2, none⟩))) hF20 (wantedG hF20 rfl rfl rfl rfl rfl) (run_fldA (m := 1) (s := 2) rfl (hF20.ev 1 rfl) Tryd.underlying67 rfl rfl (by kernel_rfl) (by decide)) rfl (by decide) fun a21 hF21 => ?_
  refine sq (v := (.int .i64 1024)) hF21 (wantedG hF21 rfl rfl rfl rfl rfl) (run_ldF rfl (hF21.ev 21 rfl) (hM1.at 0 rfl) rfl (by kernel_rfl)) rfl (by decide) fun a22 hF22 => ?_
  refine sq (v := (.bool false)) hF22 (wantedG hF22 rfl rfl rfl rfl rfl) (run_gtr rfl (hF22.ev 20 rfl) (hF22.ev 22 rfl) (by decide)) rfl (by decide) fun a23 hF23 => ?_
  refine sq (v := (.bool false)) hF23 (wantedS rfl) (run_pick rfl (hF23.ev 18 rfl) rfl (hF23.ev 23 rfl)) rfl (by decide) fun a24 hF24 => ?_
  refine sq (v := (.bool false)) hF24 (wantedS rfl) (run_mv rfl (hF24.ev 24 rfl)) rfl (by decide) fun a25 hF25 => ?_
  refine sq (v := (.pointer (some ⟨g0, 2, none⟩))) hF25 (wantedG hF25 rfl rfl rfl rfl rfl) (run_fldA (m := 1) (s := 2) rfl (hF25.ev 1 rfl) Tryd.underlying67 rfl rfl (by kernel_rfl) (by decide)) rfl (by decide) fun a26 hF26 => ?_
  refine sq (v := (.int .i64 1024)) hF26 (wantedG hF26 rfl rfl rfl rfl rfl) (run_ldF rfl (hF26.ev 26 rfl) (hM1.at 0 rfl) rfl (by kernel_rfl)) rfl (by decide) fun a27 hF27 => ?_
  refine sq (v := (.bool false)) hF27 (wantedG hF27 rfl rfl rfl rfl rfl) (run_gtr rfl (hF27.ev 27 rfl) rfl (by decide)) rfl (by decide) fun a28 hF28 => ?_
  refine sq (v := (.bool false)) hF28 (wantedS rfl) (run_pick rfl (hF28.ev 25 rfl) rfl (hF28.ev 28 rfl)) rfl (by decide) fun a29 hF29 => ?_
  refine sqEnd ?_
  clear hF2 hF3 hF4 hF5 hF6 hF7 hF8 hF9 hF10 hF11 hF12 hF13 hF14 hF15 hF16 hF17 hF18 hF19 hF20 hF21 hF22 hF23 hF24 hF25 hF26 hF27 hF28
  refine nx ?_
  refine wp_cond_false (hF29.ev 29 rfl) ?_
  refine wp_skip ?_
  refine nx ?_
  refine wp_seq ?_
  refine wp_region_lit ?_
  refine sq (v := (.int .i64 0)) hF29 (wantedS rfl) (run_as rfl rfl) rfl (by decide) fun a30 hF30 => ?_
  refine sqEnd ?_
  clear hF29
  refine nx ?_
  refine wp_ret ?_
  exact ret1 hF30 rfl rfl ⟨rfl, hM1.below⟩
set_option maxRecDepth 100000 in
set_option maxHeartbeats 1000000 in
theorem roller_any (w0 w : World) (M : List (Nat × (Obj → Prop))) (hM : Mem w0 M w) : Calls Tryd.prog 93 #[.int .i64 16] w fun e w' => ∃ u, e = .returned u ∧ ∃ gs gp gw, u = .func (.func 108) #[] #[.pointer (some ⟨gs, 0, none⟩), .pointer (some ⟨gw, 0, none⟩), .pointer (some ⟨gp, 0, none⟩)] ∧ Mem w0 ((gs, isB 65 #[.int .u32 (0 : Int)]) :: (gp, isB 65 #[.int .u32 (powW : Int)]) :: (gw, isB 3 #[.int .i64 16]) :: M) w' := by
  refine walk_enter Tryd.func93 rfl rfl rfl fun a0 hF0 => ?_
  have hM0 := hM
  refine wp_seq ?_
  refine wp_region_lit ?_
  refine sqNew (cs := #[(.int .i64 16)]) (t := 3) hF0 hM0 (wantedS rfl) (run_boxI rfl (hF0.ev 0 rfl)) rfl (by decide) fun g0 a1 w1 hgg0 hb1 hF1 hM1 => ?_
  refine sq (v := .nilFunc) hF1 (wantedS rfl) (run_as rfl rfl) rfl (by decide) fun a2 hF2 => ?_
  refine sqEnd ?_
  clear hF0 hF1 hM0
  refine nx ?_
  refine wp_seq ?_
  refine wp_region_lit ?_
  refine sqNew (cs := #[(.int .u32 0)]) (t := 65) hF2 hM1 (wantedS rfl) (run_alloc1 rfl (by kernel_rfl)) rfl (by decide) fun g1 a3 w2 hgg1 hb2 hF3 hM2 => ?_
  refine sqSet1W (j := 0) hF3 hM2 rfl rfl rfl (hF3.ev 3 rfl) rfl rfl fun a4 w3 hgr3 hF4 hM3 => ?_
  refine sqEnd ?_
  clear hF2 hF3 hM1 hM2
  refine nx ?_
  refine wp_seq ?_
  refine wp_seq ?_
  refine wp_region_lit ?_
  refine sq (v := (.int .i64 16)) hF4 (wantedS rfl) (run_ld1 rfl (hF4.ev 1 rfl) (hM3.at 1 rfl) (by kernel_rfl)) rfl (by decide) fun a5 hF5 => ?_
  refine sq (v := (.int .i64 0)) hF5 (wantedS rfl) (run_mv rfl rfl) rfl (by decide) fun a6 hF6 => ?_
  refine sqEnd ?_
  clear hF4 hF5
  refine nx ?_
  refine wp_block ?_
  refine wkLoop (fun m a w2 => ∃ i : Nat, i ≤ 16 ∧ m = 16 - i ∧ Fr a 12 [(1, .pointer (some ⟨g0, 0, none⟩)), (3, .pointer (some ⟨g1, 0, none⟩)), (5, .int .i64 16), (6, .int .i64 (i : Int))] ∧ Mem w0 ((g1, isB 65 #[.int .u32 ((69069 ^ i % 2 ^ 32 : Nat) : Int)]) :: (g0, isB 3 #[.int .i64 16]) :: M) w2) 16 ⟨0, Nat.zero_le _, rfl, hF6.sub ⟨rfl, rfl, rfl, rfl, trivial⟩, by rw [show 69069 ^ 0 % 2 ^ 32 = 1 from rfl]; exact hM3⟩ ?_
  rintro m a0 w1 ⟨i, hi, rfl, hF0, hM0⟩
  obtain ⟨q, hq⟩ : ∃ q, 69069 ^ i % 2 ^ 32 = q := ⟨_, rfl⟩
  have hql : q < 2 ^ 32 := by rw [← hq]; exact Nat.mod_lt _ (by decide)
  rw [hq] at hM0
  by_cases h1 : i < 16
  · have hst : 69069 ^ (i + 1) % 2 ^ 32 = q * 69069 % 2 ^ 32 := by
      rw [← hq, Nat.pow_succ]
      generalize 69069 ^ i = z
      omega
    refine wp_seq ?_
    refine wp_region_lit ?_
    refine sq (v := (.bool true)) hF0 (wantedS rfl) (run_lss rfl (hF0.ev 6 rfl) (hF0.ev 5 rfl) (decide_eq_true (by omega))) rfl (by decide) fun a1 hF1 => ?_
    refine sqEnd ?_
    clear hF0
    refine nx ?_
    refine wp_seq ?_
    refine wp_cond_true (hF1.ev 7 rfl) ?_
    refine wp_skip ?_
    refine nx ?_
    refine wp_seq ?_
    refine wp_block ?_
    refine wp_region_lit ?_
    refine sq (v := (.int .u32 (q : Int))) hF1 (wantedS rfl) (run_ld1 rfl (hF1.ev 3 rfl) (hM0.at 0 rfl) (by kernel_rfl)) rfl (by decide) fun a2 hF2 => ?_
    refine sq (v := (.int .u32 ((q * 69069 % 2 ^ 32 : Nat) : Int))) hF2 (wantedS rfl) (run_mul (r := ((q * 69069 % 2 ^ 32 : Nat) : Int)) rfl (hF2.ev 8 rfl) rfl (by rw [IntKind.wrap_u32]; omega)) rfl (by decide) fun a3 hF3 => ?_
    refine sqSet1W (j := 0) hF3 hM0 rfl rfl rfl (hF3.ev 3 rfl) (hF3.ev 9 rfl) rfl fun a4 w2 hgr2 hF4 hM1 => ?_
    refine sqEnd ?_
    clear hF1 hF2 hF3 hM0
    refine bkEnd ?_
    refine nx ?_
    refine wp_region_lit ?_
    refine sq (v := (.int .i64 ((i + 1 : Nat) : Int))) hF4 (wantedS rfl) (run_add (r := ((i + 1 : Nat) : Int)) rfl (hF4.ev 6 rfl) rfl (by rw [IntKind.wrap_i64]; omega)) rfl (by decide) fun a5 hF5 => ?_
    refine sq (v := (.int .i64 ((i + 1 : Nat) : Int))) hF5 (wantedS rfl) (run_mv rfl (hF5.ev 10 rfl)) rfl (by decide) fun a6 hF6 => ?_
    refine sqEnd ?_
    clear hF4 hF5
    refine nx ?_
    exact ⟨_, by omega, i + 1, by omega, rfl, hF6.sub ⟨rfl, rfl, rfl, rfl, trivial⟩, by rw [hst]; exact hM1⟩
  · have hie : i = 16 := by omega
    have hpe : q = powW := by rw [← hq, hie]; rfl
    clear hq
    subst hpe
    refine wp_seq ?_
    refine wp_region_lit ?_
    refine sq (v := (.bool false)) hF0 (wantedS rfl) (run_lss rfl (hF0.ev 6 rfl) (hF0.ev 5 rfl) (decide_eq_false (by omega))) rfl (by decide) fun a1 hF1 => ?_
    refine sqEnd ?_
    clear hF0
    refine nx ?_
    refine wp_seq ?_
    refine wp_cond_false (hF1.ev 7 rfl) ?_
    refine wp_exit ?_
    refine nxExit ?_
    refine nxExit ?_
    refine bkHere ?_
    refine nx ?_
    refine wp_seq ?_
    refine wp_region_lit ?_
    refine sqNew (cs := #[(.int .u32 0)]) (t := 65) hF1 hM0 (wantedS rfl) (run_alloc1 rfl (by kernel_rfl)) rfl (by decide) fun g2 a2 w2 hgg2 hb2 hF2 hM1 => ?_
    refine sqEnd ?_
    clear hF1 hM0
    refine nx ?_
    refine wp_seq ?_
    refine wp_region_lit ?_
    refine sq (v := (.func (.func 108) #[] #[(.pointer (some ⟨g2, 0, none⟩)), (.pointer (some ⟨g0, 0, none⟩)), (.pointer (some ⟨g1, 0, none⟩))])) hF2 (wantedS rfl) (run_mkFn3 rfl (hF2.ev 4 rfl) (hF2.ev 1 rfl) (hF2.ev 3 rfl)) rfl (by decide) fun a3 hF3 => ?_
    refine sq (v := (.func (.func 108) #[] #[(.pointer (some ⟨g2, 0, none⟩)), (.pointer (some ⟨g0, 0, none⟩)), (.pointer (some ⟨g1, 0, none⟩))])) hF3 (wantedS rfl) (run_as rfl (hF3.ev 11 rfl)) rfl (by decide) fun a4 hF4 => ?_
    refine sqEnd ?_
    clear hF2 hF3
    refine nx ?_
    refine wp_ret ?_
    exact ret1 hF4 rfl rfl ⟨_, rfl, g2, g1, g0, rfl, hM1⟩
set_option maxRecDepth 100000 in
set_option maxHeartbeats 1000000 in
theorem roll1_any (b : List UInt8) (i gs gp gw : Nat) (w0 w : World) (M : List (Nat × (Obj → Prop))) (hM : Mem w0 ((gs, isB 65 #[.int .u32 (rsm b i : Int)]) :: (gp, isB 65 #[.int .u32 (powW : Int)]) :: (gw, isB 3 #[.int .i64 16]) :: M) w) (hi : i < b.length) (hb : b.length < 2 ^ 40) : Calls Tryd.prog 108 #[.string ⟨b.toArray⟩, .int .i64 (i : Int), .pointer (some ⟨gs, 0, none⟩), .pointer (some ⟨gw, 0, none⟩), .pointer (some ⟨gp, 0, none⟩)] w fun e w' => ∃ u, e = .returned u ∧ u = .int .u32 (rsm b (i + 1) : Int) ∧ Mem w0 ((gs, isB 65 #[.int .u32 (rsm b (i + 1) : Int)]) :: (gp, isB 65 #[.int .u32 (powW : Int)]) :: (gw, isB 3 #[.int .i64 16]) :: M) w' := by
  have hsl := rsm_lt b i
  have hx := (bt b i).toNat_lt
  by_cases h16 : i < 16
  · have hr := rsm_low b i h16
    obtain ⟨s, hs⟩ : ∃ s, rsm b i = s := ⟨_, rfl⟩
    rw [hs] at hr hsl hM
    refine walk_enter Tryd.func108 rfl rfl rfl fun a0 hF0 => ?_
    have hM0 := hM
    refine wp_seq ?_
    refine wp_region_lit ?_
    refine sq (v := (.int .u32 0)) hF0 (wantedS rfl) (run_as rfl rfl) rfl (by decide) fun a1 hF1 => ?_
    refine sqEnd ?_
    clear hF0
    refine nx ?_
    refine wp_seq ?_
    obtain ⟨KL, hKL⟩ : ∃ KL, KL = [kval (.int .u32 (s : Int)), kval (.int .u32 ((s * 69069 % 2 ^ 32 : Nat) : Int)), kval (.string ⟨b.toArray⟩), kval (.int .i64 (i : Int)), kval (.int .u8 ((bt b i).toNat : Int)), kval (.int .u32 ((bt b i).toNat : Int)), kval (.int .u32 (((s * 69069 + (bt b i).toNat) % 2 ^ 32 : Nat) : Int)), kval (.int .u32 (((s * 69069 + (bt b i).toNat + 1) % 2 ^ 32 : Nat) : Int))] := ⟨_, rfl⟩
    have K0 : KL.getD 0 kany = kval (.int .u32 (s : Int)) := by rw [hKL]; rfl
    have K1 : KL.getD 1 kany = kval (.int .u32 ((s * 69069 % 2 ^ 32 : Nat) : Int)) := by rw [hKL]; rfl
    have K2 : KL.getD 2 kany = kval (.string ⟨b.toArray⟩) := by rw [hKL]; rfl
    have K3 : KL.getD 3 kany = kval (.int .i64 (i : Int)) := by rw [hKL]; rfl
    have K4 : KL.getD 4 kany = kval (.int .u8 ((bt b i).toNat : Int)) := by rw [hKL]; rfl
    have K5 : KL.getD 5 kany = kval (.int .u32 ((bt b i).toNat : Int)) := by rw [hKL]; rfl
    have K6 : KL.getD 6 kany = kval (.int .u32 (((s * 69069 + (bt b i).toNat) % 2 ^ 32 : Nat) : Int)) := by rw [hKL]; rfl
    have K7 : KL.getD 7 kany = kval (.int .u32 (((s * 69069 + (bt b i).toNat + 1) % 2 ^ 32 : Nat) : Int)) := by rw [hKL]; rfl
    have HKL : KL.length ≤ 8 := by rw [hKL]; exact Nat.le_refl _
    clear hKL
    refine wp_region_kdTail2 31 8 (by kernel_rfl) (by kernel_rfl) (by kernel_rfl) (by kernel_rfl) hF1.size KL HKL ?_ ?_
    · refine ⟨?_, ?_, ?_, ?_, ?_, ?_, ?_, ?_, trivial⟩
      · refine asksH_mk fun a W hS hh hd => ⟨wanted_yes rfl, ?_⟩
        exact giv_run (run_ld1 rfl (eval_tmp (hh 2 _ rfl (hF1.at 2 rfl))) ((hM0.grow hS).at 0 rfl) (by kernel_rfl)) K0
      · refine asksH_mk fun a W hS hh hd => ⟨wanted_yes rfl, ?_⟩
        exact giv_run (run_mul (r := ((s * 69069 % 2 ^ 32 : Nat) : Int)) rfl (eval_tmp (hd.val (j := 0) (s := 8) (by kernel_rfl) K0)) rfl (by rw [IntKind.wrap_u32]; omega)) K1
      · refine asksH_mk fun a W hS hh hd => ⟨wanted_yes rfl, ?_⟩
        exact giv_run (run_mv rfl (eval_tmp (hh 0 _ rfl (hF1.at 0 rfl)))) K2
      · refine asksH_mk fun a W hS hh hd => ⟨wanted_yes rfl, ?_⟩
        exact giv_run (run_mv rfl (eval_tmp (hh 1 _ rfl (hF1.at 1 rfl)))) K3
      · refine asksH_mk fun a W hS hh hd => ⟨wanted_yes rfl, ?_⟩
        exact giv_run (run_sAt (n := i) rfl (eval_tmp (hd.val (j := 2) (s := 10) (by kernel_rfl) K2)) (eval_tmp (hd.val (j := 3) (s := 11) (by kernel_rfl) K3)) Tryd.underlying9 rfl (by omega)) K4
      · refine asksH_mk fun a W hS hh hd => ⟨wanted_yes rfl, ?_⟩
        exact giv_run (run_cvI (r := ((bt b i).toNat : Int)) rfl (eval_tmp (hd.val (j := 4) (s := 12) (by kernel_rfl) K4)) Tryd.underlying5 Tryd.underlying65 (by rw [IntKind.wrap_u32]; omega)) K5
      · refine asksH_mk fun a W hS hh hd => ⟨wanted_yes rfl, ?_⟩
        exact giv_run (run_add (r := (((s * 69069 + (bt b i).toNat) % 2 ^ 32 : Nat) : Int)) rfl (eval_tmp (hd.val (j := 1) (s := 9) (by kernel_rfl) K1)) (eval_tmp (hd.val (j := 5) (s := 13) (by kernel_rfl) K5)) (by rw [IntKind.wrap_u32]; omega)) K6
      · refine asksH_mk fun a W hS hh hd => ⟨wanted_yes rfl, ?_⟩
        exact giv_run (run_add (r := (((s * 69069 + (bt b i).toNat + 1) % 2 ^ 32 : Nat) : Int)) rfl (eval_tmp (hd.val (j := 6) (s := 14) (by kernel_rfl) K6)) rfl (by rw [IntKind.wrap_u32]; omega)) K7
    · intro a2 w1 hb1 hK
      have e0 := hK.hval (i := 0) (s := 8) rfl (by kernel_rfl) K0
      have e1 := hK.hval (i := 1) (s := 9) rfl (by kernel_rfl) K1
      have e2 := hK.hval (i := 2) (s := 10) rfl (by kernel_rfl) K2
      have e3 := hK.hval (i := 3) (s := 11) rfl (by kernel_rfl) K3
      have e4 := hK.hval (i := 4) (s := 12) rfl (by kernel_rfl) K4
      have e5 := hK.hval (i := 5) (s := 13) rfl (by kernel_rfl) K5
      have e6 := hK.hval (i := 6) (s := 14) rfl (by kernel_rfl) K6
      have e7 := hK.hval (i := 7) (s := 15) rfl (by kernel_rfl) K7
      have hF2 : Fr a2 31 [(0, (.string ⟨b.toArray⟩)), (1, (.int .i64 (i : Int))), (2, (.pointer (some ⟨gs, 0, none⟩))), (3, (.pointer (some ⟨gw, 0, none⟩))), (4, (.pointer (some ⟨gp, 0, none⟩))), (7, (.int .u32 0)), (15, (.int .u32 (((s * 69069 + (bt b i).toNat + 1) % 2 ^ 32 : Nat) : Int)))] := (hK.hfr hF1 [(.int .u32 (s : Int)), (.int .u32 ((s * 69069 % 2 ^ 32 : Nat) : Int)), (.string ⟨b.toArray⟩), (.int .i64 (i : Int)), (.int .u8 ((bt b i).toNat : Int)), (.int .u32 ((bt b i).toNat : Int)), (.int .u32 (((s * 69069 + (bt b i).toNat) % 2 ^ 32 : Nat) : Int)), (.int .u32 (((s * 69069 + (bt b i).toNat + 1) % 2 ^ 32 : Nat) : Int))] ⟨e0, e1, e2, e3, e4, e5, e6, e7, trivial⟩).sub ⟨rfl, rfl, rfl, rfl, rfl, rfl, rfl, trivial⟩
      have hM1 := hM0.grow hb1
      clear hK K0 e0 K1 e1 K2 e2 K3 e3 K4 e4 K5 e5 K6 e6 K7 e7 HKL
      simp only [List.drop_succ_cons, List.drop_zero]
      refine sqSet1W (j := 0) hF2 hM1 rfl rfl rfl (hF2.ev 2 rfl) (hF2.ev 15 rfl) rfl fun a3 w2 hgr2 hF3 hM2 => ?_
      refine sqEnd ?_
      clear hF1 hF2 hM0 hM1
      refine nx ?_
      refine wp_seq ?_
      refine wp_seq ?_
      refine wp_region_lit ?_
      refine sq (v := (.int .i64 (i : Int))) hF3 (wantedS rfl) (run_mv rfl (hF3.ev 1 rfl)) rfl (by decide) fun a4 hF4 => ?_
      refine sq (v := (.int .i64 16)) hF4 (wantedS rfl) (run_ld1 rfl (hF4.ev 3 rfl) (hM2.at 2 rfl) (by kernel_rfl)) rfl (by decide) fun a5 hF5 => ?_
      refine sq (v := (.bool false)) hF5 (wantedS rfl) (run_geq rfl (hF5.ev 16 rfl) (hF5.ev 17 rfl) (decide_eq_false (by omega))) rfl (by decide) fun a6 hF6 => ?_
      refine sqEnd ?_
      clear hF3 hF4 hF5
      refine nx ?_
      refine wp_cond_false (hF6.ev 18 rfl) ?_
      refine wp_skip ?_
      refine nx ?_
      refine wp_seq ?_
      refine wp_region_lit ?_
      refine sq (v := (.int .u32 (((s * 69069 + (bt b i).toNat + 1) % 2 ^ 32 : Nat) : Int))) hF6 (wantedS rfl) (run_ld1 rfl (hF6.ev 2 rfl) (hM2.at 0 rfl) (by kernel_rfl)) rfl (by decide) fun a7 hF7 => ?_
      refine sq (v := (.int .u32 (((s * 69069 + (bt b i).toNat + 1) % 2 ^ 32 : Nat) : Int))) hF7 (wantedS rfl) (run_as rfl (hF7.ev 30 rfl)) rfl (by decide) fun a8 hF8 => ?_
      refine sqEnd ?_
      clear hF6 hF7
      refine nx ?_
      refine wp_ret ?_
      exact ret1 hF8 rfl rfl ⟨_, rfl, by rw [hr], by rw [hr]; exact hM2⟩
  · have hr := rsm_high b i (by omega)
    have hy := (bt b (i - 16)).toNat_lt
    obtain ⟨s, hs⟩ : ∃ s, rsm b i = s := ⟨_, rfl⟩
    rw [hs] at hr hsl hM
    obtain ⟨p, hp⟩ : ∃ p, ((bt b (i - 16)).toNat + 1) * powW % 2 ^ 32 = p := ⟨_, rfl⟩
    have hpl : p < 2 ^ 32 := by rw [← hp]; exact Nat.mod_lt _ (by decide)
    have hpw : IntKind.u32.wrap ((((bt b (i - 16)).toNat + 1 : Nat) : Int) * (powW : Int)) = (p : Int) := by rw [wrap_mul32, hp]
    rw [hp] at hr
    obtain ⟨q, hq⟩ : ∃ q, (s * 69069 + (bt b i).toNat + 1) % 2 ^ 32 = q := ⟨_, rfl⟩
    have hql : q < 2 ^ 32 := by rw [← hq]; exact Nat.mod_lt _ (by decide)
    rw [hq] at hr
    refine walk_enter Tryd.func108 rfl rfl rfl fun a0 hF0 => ?_
    have hM0 := hM
    refine wp_seq ?_
    refine wp_region_lit ?_
    refine sq (v := (.int .u32 0)) hF0 (wantedS rfl) (run_as rfl rfl) rfl (by decide) fun a1 hF1 => ?_
    refine sqEnd ?_
    clear hF0
    refine nx ?_
    refine wp_seq ?_
    obtain ⟨KL, hKL⟩ : ∃ KL, KL = [kval (.int .u32 (s : Int)), kval (.int .u32 ((s * 69069 % 2 ^ 32 : Nat) : Int)), kval (.string ⟨b.toArray⟩), kval (.int .i64 (i : Int)), kval (.int .u8 ((bt b i).toNat : Int)), kval (.int .u32 ((bt b i).toNat : Int)), kval (.int .u32 (((s * 69069 + (bt b i).toNat) % 2 ^ 32 : Nat) : Int)), kval (.int .u32 (q : Int))] := ⟨_, rfl⟩
    have K0 : KL.getD 0 kany = kval (.int .u32 (s : Int)) := by rw [hKL]; rfl
    have K1 : KL.getD 1 kany = kval (.int .u32 ((s * 69069 % 2 ^ 32 : Nat) : Int)) := by rw [hKL]; rfl
    have K2 : KL.getD 2 kany = kval (.string ⟨b.toArray⟩) := by rw [hKL]; rfl
    have K3 : KL.getD 3 kany = kval (.int .i64 (i : Int)) := by rw [hKL]; rfl
    have K4 : KL.getD 4 kany = kval (.int .u8 ((bt b i).toNat : Int)) := by rw [hKL]; rfl
    have K5 : KL.getD 5 kany = kval (.int .u32 ((bt b i).toNat : Int)) := by rw [hKL]; rfl
    have K6 : KL.getD 6 kany = kval (.int .u32 (((s * 69069 + (bt b i).toNat) % 2 ^ 32 : Nat) : Int)) := by rw [hKL]; rfl
    have K7 : KL.getD 7 kany = kval (.int .u32 (q : Int)) := by rw [hKL]; rfl
    have HKL : KL.length ≤ 8 := by rw [hKL]; exact Nat.le_refl _
    clear hKL
    refine wp_region_kdTail2 31 8 (by kernel_rfl) (by kernel_rfl) (by kernel_rfl) (by kernel_rfl) hF1.size KL HKL ?_ ?_
    · refine ⟨?_, ?_, ?_, ?_, ?_, ?_, ?_, ?_, trivial⟩
      · refine asksH_mk fun a W hS hh hd => ⟨wanted_yes rfl, ?_⟩
        exact giv_run (run_ld1 rfl (eval_tmp (hh 2 _ rfl (hF1.at 2 rfl))) ((hM0.grow hS).at 0 rfl) (by kernel_rfl)) K0
      · refine asksH_mk fun a W hS hh hd => ⟨wanted_yes rfl, ?_⟩
        exact giv_run (run_mul (r := ((s * 69069 % 2 ^ 32 : Nat) : Int)) rfl (eval_tmp (hd.val (j := 0) (s := 8) (by kernel_rfl) K0)) rfl (by rw [IntKind.wrap_u32]; omega)) K1
      · refine asksH_mk fun a W hS hh hd => ⟨wanted_yes rfl, ?_⟩
        exact giv_run (run_mv rfl (eval_tmp (hh 0 _ rfl (hF1.at 0 rfl)))) K2
      · refine asksH_mk fun a W hS hh hd => ⟨wanted_yes rfl, ?_⟩
        exact giv_run (run_mv rfl (eval_tmp (hh 1 _ rfl (hF1.at 1 rfl)))) K3
      · refine asksH_mk fun a W hS hh hd => ⟨wanted_yes rfl, ?_⟩
        exact giv_run (run_sAt (n := i) rfl (eval_tmp (hd.val (j := 2) (s := 10) (by kernel_rfl) K2)) (eval_tmp (hd.val (j := 3) (s := 11) (by kernel_rfl) K3)) Tryd.underlying9 rfl (by omega)) K4
      · refine asksH_mk fun a W hS hh hd => ⟨wanted_yes rfl, ?_⟩
        exact giv_run (run_cvI (r := ((bt b i).toNat : Int)) rfl (eval_tmp (hd.val (j := 4) (s := 12) (by kernel_rfl) K4)) Tryd.underlying5 Tryd.underlying65 (by rw [IntKind.wrap_u32]; omega)) K5
      · refine asksH_mk fun a W hS hh hd => ⟨wanted_yes rfl, ?_⟩
        exact giv_run (run_add (r := (((s * 69069 + (bt b i).toNat) % 2 ^ 32 : Nat) : Int)) rfl (eval_tmp (hd.val (j := 1) (s := 9) (by kernel_rfl) K1)) (eval_tmp (hd.val (j := 5) (s := 13) (by kernel_rfl) K5)) (by rw [IntKind.wrap_u32]; omega)) K6
      · refine asksH_mk fun a W hS hh hd => ⟨wanted_yes rfl, ?_⟩
        exact giv_run (run_add (r := (q : Int)) rfl (eval_tmp (hd.val (j := 6) (s := 14) (by kernel_rfl) K6)) rfl (by rw [IntKind.wrap_u32]; omega)) K7
    · intro a2 w1 hb1 hK
      have e0 := hK.hval (i := 0) (s := 8) rfl (by kernel_rfl) K0
      have e1 := hK.hval (i := 1) (s := 9) rfl (by kernel_rfl) K1
      have e2 := hK.hval (i := 2) (s := 10) rfl (by kernel_rfl) K2
      have e3 := hK.hval (i := 3) (s := 11) rfl (by kernel_rfl) K3
      have e4 := hK.hval (i := 4) (s := 12) rfl (by kernel_rfl) K4
      have e5 := hK.hval (i := 5) (s := 13) rfl (by kernel_rfl) K5
      have e6 := hK.hval (i := 6) (s := 14) rfl (by kernel_rfl) K6
      have e7 := hK.hval (i := 7) (s := 15) rfl (by kernel_rfl) K7
      have hF2 : Fr a2 31 [(0, (.string ⟨b.toArray⟩)), (1, (.int .i64 (i : Int))), (2, (.pointer (some ⟨gs, 0, none⟩))), (3, (.pointer (some ⟨gw, 0, none⟩))), (4, (.pointer (some ⟨gp, 0, none⟩))), (7, (.int .u32 0)), (15, (.int .u32 (q : Int)))] := (hK.hfr hF1 [(.int .u32 (s : Int)), (.int .u32 ((s * 69069 % 2 ^ 32 : Nat) : Int)), (.string ⟨b.toArray⟩), (.int .i64 (i : Int)), (.int .u8 ((bt b i).toNat : Int)), (.int .u32 ((bt b i).toNat : Int)), (.int .u32 (((s * 69069 + (bt b i).toNat) % 2 ^ 32 : Nat) : Int)), (.int .u32 (q : Int))] ⟨e0, e1, e2, e3, e4, e5, e6, e7, trivial⟩).sub ⟨rfl, rfl, rfl, rfl, rfl, rfl, rfl, trivial⟩
      have hM1 := hM0.grow hb1
      clear hK K0 e0 K1 e1 K2 e2 K3 e3 K4 e4 K5 e5 K6 e6 K7 e7 HKL
      simp only [List.drop_succ_cons, List.drop_zero]
      refine sqSet1W (j := 0) hF2 hM1 rfl rfl rfl (hF2.ev 2 rfl) (hF2.ev 15 rfl) rfl fun a3 w2 hgr2 hF3 hM2 => ?_
      refine sqEnd ?_
      clear hF1 hF2 hM0 hM1
      refine nx ?_
      refine wp_seq ?_
      refine wp_seq ?_
      refine wp_region_lit ?_
      refine sq (v := (.int .i64 (i : Int))) hF3 (wantedS rfl) (run_mv rfl (hF3.ev 1 rfl)) rfl (by decide) fun a4 hF4 => ?_
      refine sq (v := (.int .i64 16)) hF4 (wantedS rfl) (run_ld1 rfl (hF4.ev 3 rfl) (hM2.at 2 rfl) (by kernel_rfl)) rfl (by decide) fun a5 hF5 => ?_
      refine sq (v := (.bool true)) hF5 (wantedS rfl) (run_geq rfl (hF5.ev 16 rfl) (hF5.ev 17 rfl) (decide_eq_true (by omega))) rfl (by decide) fun a6 hF6 => ?_
      refine sqEnd ?_
      clear hF3 hF4 hF5
      refine nx ?_
      refine wp_cond_true (hF6.ev 18 rfl) ?_
      obtain ⟨KL, hKL⟩ : ∃ KL, KL = [kval (.int .u32 (q : Int)), kval (.string ⟨b.toArray⟩), kval (.int .i64 (i : Int)), kval (.int .i64 16), kval (.int .i64 ((i - 16 : Nat) : Int)), kval (.int .u8 ((bt b (i - 16)).toNat : Int)), kval (.int .u32 ((bt b (i - 16)).toNat : Int)), kval (.int .u32 (((bt b (i - 16)).toNat + 1 : Nat) : Int)), kval (.int .u32 (powW : Int)), kval (.int .u32 (p : Int)), kval (.int .u32 (((q + (2 ^ 32 - p)) % 2 ^ 32 : Nat) : Int))] := ⟨_, rfl⟩
      have K0 : KL.getD 0 kany = kval (.int .u32 (q : Int)) := by rw [hKL]; rfl
      have K1 : KL.getD 1 kany = kval (.string ⟨b.toArray⟩) := by rw [hKL]; rfl
      have K2 : KL.getD 2 kany = kval (.int .i64 (i : Int)) := by rw [hKL]; rfl
      have K3 : KL.getD 3 kany = kval (.int .i64 16) := by rw [hKL]; rfl
      have K4 : KL.getD 4 kany = kval (.int .i64 ((i - 16 : Nat) : Int)) := by rw [hKL]; rfl
      have K5 : KL.getD 5 kany = kval (.int .u8 ((bt b (i - 16)).toNat : Int)) := by rw [hKL]; rfl
      have K6 : KL.getD 6 kany = kval (.int .u32 ((bt b (i - 16)).toNat : Int)) := by rw [hKL]; rfl
      have K7 : KL.getD 7 kany = kval (.int .u32 (((bt b (i - 16)).toNat + 1 : Nat) : Int)) := by rw [hKL]; rfl
      have K8 : KL.getD 8 kany = kval (.int .u32 (powW : Int)) := by rw [hKL]; rfl
      have K9 : KL.getD 9 kany = kval (.int .u32 (p : Int)) := by rw [hKL]; rfl
      have K10 : KL.getD 10 kany = kval (.int .u32 (((q + (2 ^ 32 - p)) % 2 ^ 32 : Nat) : Int)) := by rw [hKL]; rfl
      have HKL : KL.length ≤ 11 := by rw [hKL]; exact Nat.le_refl _
      clear hKL
      refine wp_region_kdTail2 31 11 (by kernel_rfl) (by kernel_rfl) (by kernel_rfl) (by kernel_rfl) hF6.size KL HKL ?_ ?_
      · refine ⟨?_, ?_, ?_, ?_, ?_, ?_, ?_, ?_, ?_, ?_, ?_, trivial⟩
        · refine asksH_mk fun a W hS hh hd => ⟨wanted_yes rfl, ?_⟩
          exact giv_run (run_ld1 rfl (eval_tmp (hh 2 _ rfl (hF6.at 2 rfl))) ((hM2.grow hS).at 0 rfl) (by kernel_rfl)) K0
        · refine asksH_mk fun a W hS hh hd => ⟨wanted_yes rfl, ?_⟩
          exact giv_run (run_mv rfl (eval_tmp (hh 0 _ rfl (hF6.at 0 rfl)))) K1
        · refine asksH_mk fun a W hS hh hd => ⟨wanted_yes rfl, ?_⟩
          exact giv_run (run_mv rfl (eval_tmp (hh 1 _ rfl (hF6.at 1 rfl)))) K2
        · refine asksH_mk fun a W hS hh hd => ⟨wanted_yes rfl, ?_⟩
          exact giv_run (run_ld1 rfl (eval_tmp (hh 3 _ rfl (hF6.at 3 rfl))) ((hM2.grow hS).at 2 rfl) (by kernel_rfl)) K3
        · refine asksH_mk fun a W hS hh hd => ⟨wanted_yes rfl, ?_⟩
          exact giv_run (run_sub (r := ((i - 16 : Nat) : Int)) rfl (eval_tmp (hd.val (j := 2) (s := 21) (by kernel_rfl) K2)) (eval_tmp (hd.val (j := 3) (s := 22) (by kernel_rfl) K3)) (by rw [IntKind.wrap_i64]; omega)) K4
        · refine asksH_mk fun a W hS hh hd => ⟨wanted_yes rfl, ?_⟩
          exact giv_run (run_sAt (n := (i - 16)) rfl (eval_tmp (hd.val (j := 1) (s := 20) (by kernel_rfl) K1)) (eval_tmp (hd.val (j := 4) (s := 23) (by kernel_rfl) K4)) Tryd.underlying9 rfl (by omega)) K5
        · refine asksH_mk fun a W hS hh hd => ⟨wanted_yes rfl, ?_⟩
          exact giv_run (run_cvI (r := ((bt b (i - 16)).toNat : Int)) rfl (eval_tmp (hd.val (j := 5) (s := 24) (by kernel_rfl) K5)) Tryd.underlying5 Tryd.underlying65 (by rw [IntKind.wrap_u32]; omega)) K6
        · refine asksH_mk fun a W hS hh hd => ⟨wanted_yes rfl, ?_⟩
          exact giv_run (run_add (r := (((bt b (i - 16)).toNat + 1 : Nat) : Int)) rfl (eval_tmp (hd.val (j := 6) (s := 25) (by kernel_rfl) K6)) rfl (by rw [IntKind.wrap_u32]; omega)) K7
        · refine asksH_mk fun a W hS hh hd => ⟨wanted_yes rfl, ?_⟩
          exact giv_run (run_ld1 rfl (eval_tmp (hh 4 _ rfl (hF6.at 4 rfl))) ((hM2.grow hS).at 1 rfl) (by kernel_rfl)) K8
        · refine asksH_mk fun a W hS hh hd => ⟨wanted_yes rfl, ?_⟩
          exact giv_run (run_mul (r := (p : Int)) rfl (eval_tmp (hd.val (j := 7) (s := 26) (by kernel_rfl) K7)) (eval_tmp (hd.val (j := 8) (s := 27) (by kernel_rfl) K8)) hpw) K9
        · refine asksH_mk fun a W hS hh hd => ⟨wanted_yes rfl, ?_⟩
          exact giv_run (run_sub (r := (((q + (2 ^ 32 - p)) % 2 ^ 32 : Nat) : Int)) rfl (eval_tmp (hd.val (j := 0) (s := 19) (by kernel_rfl) K0)) (eval_tmp (hd.val (j := 9) (s := 28) (by kernel_rfl) K9)) (wrap_sub32 q p hql hpl)) K10
      · intro a7 w3 hb3 hK
        have e0 := hK.hval (i := 0) (s := 19) rfl (by kernel_rfl) K0
        have e1 := hK.hval (i := 1) (s := 20) rfl (by kernel_rfl) K1
        have e2 := hK.hval (i := 2) (s := 21) rfl (by kernel_rfl) K2
        have e3 := hK.hval (i := 3) (s := 22) rfl (by kernel_rfl) K3
        have e4 := hK.hval (i := 4) (s := 23) rfl (by kernel_rfl) K4
        have e5 := hK.hval (i := 5) (s := 24) rfl (by kernel_rfl) K5
        have e6 := hK.hval (i := 6) (s := 25) rfl (by kernel_rfl) K6
        have e7 := hK.hval (i := 7) (s := 26) rfl (by kernel_rfl) K7
        have e8 := hK.hval (i := 8) (s := 27) rfl (by kernel_rfl) K8
        have e9 := hK.hval (i := 9) (s := 28) rfl (by kernel_rfl) K9
        have e10 := hK.hval (i := 10) (s := 29) rfl (by kernel_rfl) K10
        have hF7 : Fr a7 31 [(0, (.string ⟨b.toArray⟩)), (1, (.int .i64 (i : Int))), (2, (.pointer (some ⟨gs, 0, none⟩))), (3, (.pointer (some ⟨gw, 0, none⟩))), (7, (.int .u32 0)), (15, (.int .u32 (q : Int))), (16, (.int .i64 (i : Int))), (17, (.int .i64 16)), (18, (.bool true)), (29, (.int .u32 (((q + (2 ^ 32 - p)) % 2 ^ 32 : Nat) : Int)))] := (hK.hfr hF6 [(.int .u32 (q : Int)), (.string ⟨b.toArray⟩), (.int .i64 (i : Int)), (.int .i64 16), (.int .i64 ((i - 16 : Nat) : Int)), (.int .u8 ((bt b (i - 16)).toNat : Int)), (.int .u32 ((bt b (i - 16)).toNat : Int)), (.int .u32 (((bt b (i - 16)).toNat + 1 : Nat) : Int)), (.int .u32 (powW : Int)), (.int .u32 (p : Int)), (.int .u32 (((q + (2 ^ 32 - p)) % 2 ^ 32 : Nat) : Int))] ⟨e0, e1, e2, e3, e4, e5, e6, e7, e8, e9, e10, trivial⟩).sub ⟨rfl, rfl, rfl, rfl, rfl, rfl, rfl, rfl, rfl, rfl, trivial⟩
        have hM3 := hM2.grow hb3
        clear hK K0 e0 K1 e1 K2 e2 K3 e3 K4 e4 K5 e5 K6 e6 K7 e7 K8 e8 K9 e9 K10 e10 HKL
        simp only [List.drop_succ_cons, List.drop_zero]
        refine sqSet1W (j := 0) hF7 hM3 rfl rfl rfl (hF7.ev 2 rfl) (hF7.ev 29 rfl) rfl fun a8 w4 hgr4 hF8 hM4 => ?_
        refine sqEnd ?_
        clear hF6 hF7 hM2 hM3
        refine nx ?_
        refine wp_seq ?_
        refine wp_region_lit ?_
        refine sq (v := (.int .u32 (((q + (2 ^ 32 - p)) % 2 ^ 32 : Nat) : Int))) hF8 (wantedS rfl) (run_ld1 rfl (hF8.ev 2 rfl) (hM4.at 0 rfl) (by kernel_rfl)) rfl (by decide) fun a9 hF9 => ?_
        refine sq (v := (.int .u32 (((q + (2 ^ 32 - p)) % 2 ^ 32 : Nat) : Int))) hF9 (wantedS rfl) (run_as rfl (hF9.ev 30 rfl)) rfl (by decide) fun a10 hF10 => ?_
        refine sqEnd ?_
        clear hF8 hF9
        refine nx ?_
        refine wp_ret ?_
        exact ret1 hF10 rfl rfl ⟨_, rfl, by rw [hr], by rw [hr]; exact hM4⟩
set_option maxRecDepth 100000 in
set_option maxHeartbeats 1000000 in
theorem rend_any (b : List UInt8) (w : World) (hb : b.length < 2 ^ 40) : Calls Tryd.prog 64 #[.string ⟨b.toArray⟩, .agg #[.int .i64 16, .int .i64 64, .int .i64 1024, .int .u32 255]] w fun e w' => e = .returned (.int .i64 (endS b : Int)) ∧ Below w.heap.size w w' := by
  obtain ⟨k, hk⟩ : ∃ k, k = min b.length 1024 := ⟨_, rfl⟩
  refine walk_enter Tryd.func64 rfl rfl rfl fun a0 hF0 => ?_
  have hM0 := Mem.new w
  refine wp_seq ?_
  refine wp_region_lit ?_
  refine sqNew (cs := #[.int .i64 16, .int .i64 64, .int .i64 1024, .int .u32 255]) (t := 67) hF0 hM0 (wantedS rfl) (run_box rfl (hF0.ev 1 rfl)) rfl (by decide) fun g0 a1 w1 hgg0 hb1 hF1 hM1 => ?_
  refine sq (v := (.int .i64 0)) hF1 (wantedS rfl) (run_as rfl rfl) rfl (by decide) fun a2 hF2 => ?_
  refine sqEnd ?_
  clear hF0 hF1 hM0
  refine nx ?_
  refine wp_seq ?_
  refine wp_region_lit ?_
  refine sq (v := (.pointer (some ⟨g0, 0, none⟩))) hF2 (wantedS rfl) (run_fldA (m := 1) (s := 0) rfl (hF2.ev 3 rfl) Tryd.underlying67 rfl rfl (by kernel_rfl) (by decide)) rfl (by decide) fun a3 hF3 => ?_
  refine sq (v := (.int .i64 16)) hF3 (wantedS rfl) (run_ldF rfl (hF3.ev 8 rfl) (hM1.at 0 rfl) rfl (by kernel_rfl)) rfl (by decide) fun a4 hF4 => ?_
  refine sqT (T := fun u wx => ∃ gs gp gw, u = .func (.func 108) #[] #[.pointer (some ⟨gs, 0, none⟩), .pointer (some ⟨gw, 0, none⟩), .pointer (some ⟨gp, 0, none⟩)] ∧ Mem w ((gs, isB 65 #[.int .u32 (0 : Int)]) :: (gp, isB 65 #[.int .u32 (powW : Int)]) :: (gw, isB 3 #[.int .i64 16]) :: [(g0, isB 67 (#[.int .i64 16, .int .i64 64, .int .i64 1024, .int .u32 255]))]) wx) hF4 (wantedS rfl) (run_call rfl Tryd.func93 (by kernel_rfl) rfl (mapE1 (hF4.ev 9 rfl))) rfl (by decide) (roller_any _ _ [(g0, isB 67 (#[.int .i64 16, .int .i64 64, .int .i64 1024, .int .u32 255]))] hM1) fun u1 a5 w2 hT2 hF5 => ?_
  obtain ⟨gs, gp, gw, rfl, hM2⟩ := hT2
  refine sq (v := (.func (.func 108) #[] #[(.pointer (some ⟨gs, 0, none⟩)), (.pointer (some ⟨gw, 0, none⟩)), (.pointer (some ⟨gp, 0, none⟩))])) hF5 (wantedS rfl) (run_as rfl (hF5.ev 10 rfl)) rfl (by decide) fun a6 hF6 => ?_
  refine sqEnd ?_
  clear hF2 hF3 hF4 hF5 hM1
  refine nx ?_
  refine wp_seq ?_
  refine wp_seq ?_
  refine wp_region_lit ?_
  refine sq (v := (.string ⟨b.toArray⟩)) hF6 (wantedS rfl) (run_mv rfl (hF6.ev 0 rfl)) rfl (by decide) fun a7 hF7 => ?_
  refine sq (v := (.int .i64 (b.length : Int))) hF7 (wantedS rfl) (run_len rfl (hF7.ev 11 rfl) rfl Tryd.underlying9) rfl (by decide) fun a8 hF8 => ?_
  refine sq (v := (.pointer (some ⟨g0, 2, none⟩))) hF8 (wantedS rfl) (run_fldA (m := 1) (s := 2) rfl (hF8.ev 3 rfl) Tryd.underlying67 rfl rfl (by kernel_rfl) (by decide)) rfl (by decide) fun a9 hF9 => ?_
  refine sq (v := (.int .i64 1024)) hF9 (wantedS rfl) (run_ldF rfl (hF9.ev 13 rfl) (hM2.at 3 rfl) rfl (by kernel_rfl)) rfl (by decide) fun a10 hF10 => ?_
  refine sq (v := (.int .i64 (k : Int))) hF10 (wantedS rfl) (run_min2 (r := (k : Int)) rfl (hF10.ev 12 rfl) (hF10.ev 14 rfl) (by split <;> omega)) rfl (by decide) fun a11 hF11 => ?_
  refine sq (v := (.int .i64 0)) hF11 (wantedS rfl) (run_mv rfl rfl) rfl (by decide) fun a12 hF12 => ?_
  refine sqEnd ?_
  clear hF6 hF7 hF8 hF9 hF10 hF11
  refine nx ?_
  refine wp_block ?_
  refine wkLoop (fun m a w2 => ∃ i : Nat, i ≤ k ∧ m = k - i ∧ (∀ j, j < i → hitB b j = false) ∧ Fr a 45 [(0, .string ⟨b.toArray⟩), (3, .pointer (some ⟨g0, 0, none⟩)), (5, .func (.func 108) #[] #[.pointer (some ⟨gs, 0, none⟩), .pointer (some ⟨gw, 0, none⟩), .pointer (some ⟨gp, 0, none⟩)]), (15, .int .i64 (k : Int)), (16, .int .i64 (i : Int))] ∧ Mem w ((gs, isB 65 #[.int .u32 (rsm b i : Int)]) :: (gp, isB 65 #[.int .u32 (powW : Int)]) :: (gw, isB 3 #[.int .i64 16]) :: [(g0, isB 67 #[.int .i64 16, .int .i64 64, .int .i64 1024, .int .u32 255])]) w2) k ⟨0, Nat.zero_le _, rfl, fun j hj => by omega, hF12.sub ⟨rfl, rfl, rfl, rfl, rfl, trivial⟩, hM2⟩ ?_
  rintro m a0 w1 ⟨i, hi, rfl, hno, hF0, hM0⟩
  have hsl := rsm_lt b (i + 1)
  by_cases h1 : i < k
  · by_cases h2 : 64 ≤ i + 1
    · by_cases h3 : rsm b (i + 1) % 256 = 255
      · have hh : hitB b i = true := by simp only [hitB, Bool.and_eq_true, decide_eq_true_eq]; exact ⟨h2, h3⟩
        have hres := endS_hit (by omega) hno hh
        refine wp_seq ?_
        refine wp_region_lit ?_
        refine sq (v := (.bool true)) hF0 (wantedS rfl) (run_lss rfl (hF0.ev 16 rfl) (hF0.ev 15 rfl) (decide_eq_true (by omega))) rfl (by decide) fun a1 hF1 => ?_
        refine sqEnd ?_
        clear hF0
        refine nx ?_
        refine wp_seq ?_
        refine wp_cond_true (hF1.ev 17 rfl) ?_
        refine wp_skip ?_
        refine nx ?_
        refine wp_seq ?_
        refine wp_block ?_
        refine wp_seq ?_
        refine wp_region_lit ?_
        refine sq (v := (.int .i64 (i : Int))) hF1 (wantedS rfl) (run_mv rfl (hF1.ev 16 rfl)) rfl (by decide) fun a2 hF2 => ?_
        refine sq (v := (.int .i64 (i : Int))) hF2 (wantedS rfl) (run_as rfl (hF2.ev 18 rfl)) rfl (by decide) fun a3 hF3 => ?_
        refine sqEnd ?_
        clear hF1 hF2
        refine nx ?_
        refine wp_seq ?_
        refine wp_region_lit ?_
        refine sq (v := (.func (.func 108) #[] #[(.pointer (some ⟨gs, 0, none⟩)), (.pointer (some ⟨gw, 0, none⟩)), (.pointer (some ⟨gp, 0, none⟩))])) hF3 (wantedS rfl) (run_mv rfl (hF3.ev 5 rfl)) rfl (by decide) fun a4 hF4 => ?_
        refine sq (v := (.string ⟨b.toArray⟩)) hF4 (wantedS rfl) (run_mv rfl (hF4.ev 0 rfl)) rfl (by decide) fun a5 hF5 => ?_
        refine sq (v := (.int .i64 (i : Int))) hF5 (wantedS rfl) (run_mv rfl (hF5.ev 6 rfl)) rfl (by decide) fun a6 hF6 => ?_
        refine sqT (T := fun u wx => u = .int .u32 (rsm b (i + 1) : Int) ∧ Mem w ((gs, isB 65 #[.int .u32 (rsm b (i + 1) : Int)]) :: (gp, isB 65 #[.int .u32 (powW : Int)]) :: (gw, isB 3 #[.int .i64 16]) :: [(g0, isB 67 #[.int .i64 16, .int .i64 64, .int .i64 1024, .int .u32 255])]) wx) hF6 (wantedS rfl) (run_callF rfl (hF6.ev 19 rfl) Tryd.func108 (by kernel_rfl) rfl (mapE2 (hF6.ev 20 rfl) (hF6.ev 21 rfl)) rfl) rfl (by decide) (roll1_any b i gs gp gw w w1 [(g0, isB 67 #[.int .i64 16, .int .i64 64, .int .i64 1024, .int .u32 255])] hM0 (by omega) hb) fun u2 a7 w2 hT2 hF7 => ?_
        obtain ⟨rfl, hM1⟩ := hT2
        refine sq (v := (.int .u32 (rsm b (i + 1) : Int))) hF7 (wantedS rfl) (run_as rfl (hF7.ev 22 rfl)) rfl (by decide) fun a8 hF8 => ?_
        refine sqEnd ?_
        clear hF3 hF4 hF5 hF6 hF7 hM0
        refine nx ?_
        refine wp_seq ?_
        refine wp_region_lit ?_
        refine sq (v := (.int .i64 (i : Int))) hF8 (wantedS rfl) (run_mv rfl (hF8.ev 6 rfl)) rfl (by decide) fun a9 hF9 => ?_
        refine sq (v := (.int .i64 ((i + 1 : Nat) : Int))) hF9 (wantedS rfl) (run_add (r := ((i + 1 : Nat) : Int)) rfl (hF9.ev 23 rfl) rfl (by rw [IntKind.wrap_i64]; omega)) rfl (by decide) fun a10 hF10 => ?_
        refine sq (v := (.pointer (some ⟨g0, 1, none⟩))) hF10 (wantedS rfl) (run_fldA (m := 1) (s := 1) rfl (hF10.ev 3 rfl) Tryd.underlying67 rfl rfl (by kernel_rfl) (by decide)) rfl (by decide) fun a11 hF11 => ?_
        refine sq (v := (.int .i64 64)) hF11 (wantedS rfl) (run_ldF rfl (hF11.ev 25 rfl) (hM1.at 3 rfl) rfl (by kernel_rfl)) rfl (by decide) fun a12 hF12 => ?_
        refine sq (v := (.bool true)) hF12 (wantedS rfl) (run_geq rfl (hF12.ev 24 rfl) (hF12.ev 26 rfl) (decide_eq_true (by omega))) rfl (by decide) fun a13 hF13 => ?_
        refine sq (v := (.bool true)) hF13 (wantedS rfl) (run_mv rfl (hF13.ev 27 rfl)) rfl (by decide) fun a14 hF14 => ?_
        refine sq (v := (.int .u32 (rsm b (i + 1) : Int))) hF14 (wantedG hF14 rfl rfl rfl rfl rfl) (run_mv rfl (hF14.ev 7 rfl)) rfl (by decide) fun a15 hF15 => ?_
        refine sq (v := (.pointer (some ⟨g0, 3, none⟩))) hF15 (wantedG hF15 rfl rfl rfl rfl rfl) (run_fldA (m := 1) (s := 3) rfl (hF15.ev 3 rfl) Tryd.underlying67 rfl rfl (by kernel_rfl) (by decide)) rfl (by decide) fun a16 hF16 => ?_
        refine sq (v := (.int .u32 255)) hF16 (wantedG hF16 rfl rfl rfl rfl rfl) (run_ldF rfl (hF16.ev 30 rfl) (hM1.at 3 rfl) rfl (by kernel_rfl)) rfl (by decide) fun a17 hF17 => ?_
        refine sq (v := (.int .u32 ((rsm b (i + 1) % 256 : Nat) : Int))) hF17 (wantedG hF17 rfl rfl rfl rfl rfl) (run_and (r := ((rsm b (i + 1) % 256 : Nat) : Int)) rfl (hF17.ev 29 rfl) (hF17.ev 31 rfl) (and255 _ hsl)) rfl (by decide) fun a18 hF18 => ?_
        refine sq (v := (.pointer (some ⟨g0, 3, none⟩))) hF18 (wantedG hF18 rfl rfl rfl rfl rfl) (run_fldA (m := 1) (s := 3) rfl (hF18.ev 3 rfl) Tryd.underlying67 rfl rfl (by kernel_rfl) (by decide)) rfl (by decide) fun a19 hF19 => ?_
        refine sq (v := (.int .u32 255)) hF19 (wantedG hF19 rfl rfl rfl rfl rfl) (run_ldF rfl (hF19.ev 33 rfl) (hM1.at 3 rfl) rfl (by kernel_rfl)) rfl (by decide) fun a20 hF20 => ?_
        refine sq (v := (.bool true)) hF20 (wantedG hF20 rfl rfl rfl rfl rfl) (run_eqi rfl (hF20.ev 32 rfl) (hF20.ev 34 rfl) (beq_iff_eq.2 (by omega))) rfl (by decide) fun a21 hF21 => ?_
        refine sq (v := (.bool true)) hF21 (wantedS rfl) (run_pick rfl (hF21.ev 28 rfl) (hF21.ev 35 rfl) rfl) rfl (by decide) fun a22 hF22 => ?_
        refine sqEnd ?_
        clear hF8 hF9 hF10 hF11 hF12 hF13 hF14 hF15 hF16 hF17 hF18 hF19 hF20 hF21
        refine nx ?_
        refine wp_cond_true (hF22.ev 36 rfl) ?_
        refine wp_seq ?_
        refine wp_region_lit ?_
        refine sq (v := (.int .i64 (i : Int))) hF22 (wantedS rfl) (run_mv rfl (hF22.ev 6 rfl)) rfl (by decide) fun a23 hF23 => ?_
        refine sq (v := (.int .i64 ((i + 1 : Nat) : Int))) hF23 (wantedS rfl) (run_add (r := ((i + 1 : Nat) : Int)) rfl (hF23.ev 37 rfl) rfl (by rw [IntKind.wrap_i64]; omega)) rfl (by decide) fun a24 hF24 => ?_
        refine sq (v := (.int .i64 ((i + 1 : Nat) : Int))) hF24 (wantedS rfl) (run_as rfl (hF24.ev 38 rfl)) rfl (by decide) fun a25 hF25 => ?_
        refine sqEnd ?_
        clear hF22 hF23 hF24
        refine nx ?_
        refine wp_ret ?_
        refine bkRet ?_
        refine nxRet ?_
        refine nxRet ?_
        refine bkRet ?_
        refine nxRet ?_
        exact ret1 hF25 rfl rfl ⟨by rw [hres], hM1.below⟩
      · have hh : hitB b i = false := by simp only [hitB, Bool.and_eq_false_iff, decide_eq_false_iff_not]; exact .inr h3
        refine wp_seq ?_
        refine wp_region_lit ?_
        refine sq (v := (.bool true)) hF0 (wantedS rfl) (run_lss rfl (hF0.ev 16 rfl) (hF0.ev 15 rfl) (decide_eq_true (by omega))) rfl (by decide) fun a1 hF1 => ?_
        refine sqEnd ?_
        clear hF0
        refine nx ?_
        refine wp_seq ?_
        refine wp_cond_true (hF1.ev 17 rfl) ?_
        refine wp_skip ?_
        refine nx ?_
        refine wp_seq ?_
        refine wp_block ?_
        refine wp_seq ?_
        refine wp_region_lit ?_
        refine sq (v := (.int .i64 (i : Int))) hF1 (wantedS rfl) (run_mv rfl (hF1.ev 16 rfl)) rfl (by decide) fun a2 hF2 => ?_
        refine sq (v := (.int .i64 (i : Int))) hF2 (wantedS rfl) (run_as rfl (hF2.ev 18 rfl)) rfl (by decide) fun a3 hF3 => ?_
        refine sqEnd ?_
        clear hF1 hF2
        refine nx ?_
        refine wp_seq ?_
        refine wp_region_lit ?_
        refine sq (v := (.func (.func 108) #[] #[(.pointer (some ⟨gs, 0, none⟩)), (.pointer (some ⟨gw, 0, none⟩)), (.pointer (some ⟨gp, 0, none⟩))])) hF3 (wantedS rfl) (run_mv rfl (hF3.ev 5 rfl)) rfl (by decide) fun a4 hF4 => ?_
        refine sq (v := (.string ⟨b.toArray⟩)) hF4 (wantedS rfl) (run_mv rfl (hF4.ev 0 rfl)) rfl (by decide) fun a5 hF5 => ?_
        refine sq (v := (.int .i64 (i : Int))) hF5 (wantedS rfl) (run_mv rfl (hF5.ev 6 rfl)) rfl (by decide) fun a6 hF6 => ?_
        refine sqT (T := fun u wx => u = .int .u32 (rsm b (i + 1) : Int) ∧ Mem w ((gs, isB 65 #[.int .u32 (rsm b (i + 1) : Int)]) :: (gp, isB 65 #[.int .u32 (powW : Int)]) :: (gw, isB 3 #[.int .i64 16]) :: [(g0, isB 67 #[.int .i64 16, .int .i64 64, .int .i64 1024, .int .u32 255])]) wx) hF6 (wantedS rfl) (run_callF rfl (hF6.ev 19 rfl) Tryd.func108 (by kernel_rfl) rfl (mapE2 (hF6.ev 20 rfl) (hF6.ev 21 rfl)) rfl) rfl (by decide) (roll1_any b i gs gp gw w w1 [(g0, isB 67 #[.int .i64 16, .int .i64 64, .int .i64 1024, .int .u32 255])] hM0 (by omega) hb) fun u3 a7 w2 hT2 hF7 => ?_
        obtain ⟨rfl, hM1⟩ := hT2
        refine sq (v := (.int .u32 (rsm b (i + 1) : Int))) hF7 (wantedS rfl) (run_as rfl (hF7.ev 22 rfl)) rfl (by decide) fun a8 hF8 => ?_
        refine sqEnd ?_
        clear hF3 hF4 hF5 hF6 hF7 hM0
        refine nx ?_
        refine wp_seq ?_
        refine wp_region_lit ?_
        refine sq (v := (.int .i64 (i : Int))) hF8 (wantedS rfl) (run_mv rfl (hF8.ev 6 rfl)) rfl (by decide) fun a9 hF9 => ?_
        refine sq (v := (.int .i64 ((i + 1 : Nat) : Int))) hF9 (wantedS rfl) (run_add (r := ((i + 1 : Nat) : Int)) rfl (hF9.ev 23 rfl) rfl (by rw [IntKind.wrap_i64]; omega)) rfl (by decide) fun a10 hF10 => ?_
        refine sq (v := (.pointer (some ⟨g0, 1, none⟩))) hF10 (wantedS rfl) (run_fldA (m := 1) (s := 1) rfl (hF10.ev 3 rfl) Tryd.underlying67 rfl rfl (by kernel_rfl) (by decide)) rfl (by decide) fun a11 hF11 => ?_
        refine sq (v := (.int .i64 64)) hF11 (wantedS rfl) (run_ldF rfl (hF11.ev 25 rfl) (hM1.at 3 rfl) rfl (by kernel_rfl)) rfl (by decide) fun a12 hF12 => ?_
        refine sq (v := (.bool true)) hF12 (wantedS rfl) (run_geq rfl (hF12.ev 24 rfl) (hF12.ev 26 rfl) (decide_eq_true (by omega))) rfl (by decide) fun a13 hF13 => ?_
        refine sq (v := (.bool true)) hF13 (wantedS rfl) (run_mv rfl (hF13.ev 27 rfl)) rfl (by decide) fun a14 hF14 => ?_
        refine sq (v := (.int .u32 (rsm b (i + 1) : Int))) hF14 (wantedG hF14 rfl rfl rfl rfl rfl) (run_mv rfl (hF14.ev 7 rfl)) rfl (by decide) fun a15 hF15 => ?_
        refine sq (v := (.pointer (some ⟨g0, 3, none⟩))) hF15 (wantedG hF15 rfl rfl rfl rfl rfl) (run_fldA (m := 1) (s := 3) rfl (hF15.ev 3 rfl) Tryd.underlying67 rfl rfl (by kernel_rfl) (by decide)) rfl (by decide) fun a16 hF16 => ?_
        refine sq (v := (.int .u32 255)) hF16 (wantedG hF16 rfl rfl rfl rfl rfl) (run_ldF rfl (hF16.ev 30 rfl) (hM1.at 3 rfl) rfl (by kernel_rfl)) rfl (by decide) fun a17 hF17 => ?_
        refine sq (v := (.int .u32 ((rsm b (i + 1) % 256 : Nat) : Int))) hF17 (wantedG hF17 rfl rfl rfl rfl rfl) (run_and (r := ((rsm b (i + 1) % 256 : Nat) : Int)) rfl (hF17.ev 29 rfl) (hF17.ev 31 rfl) (and255 _ hsl)) rfl (by decide) fun a18 hF18 => ?_
        refine sq (v := (.pointer (some ⟨g0, 3, none⟩))) hF18 (wantedG hF18 rfl rfl rfl rfl rfl) (run_fldA (m := 1) (s := 3) rfl (hF18.ev 3 rfl) Tryd.underlying67 rfl rfl (by kernel_rfl) (by decide)) rfl (by decide) fun a19 hF19 => ?_
        refine sq (v := (.int .u32 255)) hF19 (wantedG hF19 rfl rfl rfl rfl rfl) (run_ldF rfl (hF19.ev 33 rfl) (hM1.at 3 rfl) rfl (by kernel_rfl)) rfl (by decide) fun a20 hF20 => ?_
        refine sq (v := (.bool false)) hF20 (wantedG hF20 rfl rfl rfl rfl rfl) (run_eqi rfl (hF20.ev 32 rfl) (hF20.ev 34 rfl) (beq_eq_false_iff_ne.2 (by omega))) rfl (by decide) fun a21 hF21 => ?_
        refine sq (v := (.bool false)) hF21 (wantedS rfl) (run_pick rfl (hF21.ev 28 rfl) (hF21.ev 35 rfl) rfl) rfl (by decide) fun a22 hF22 => ?_
        refine sqEnd ?_
        clear hF8 hF9 hF10 hF11 hF12 hF13 hF14 hF15 hF16 hF17 hF18 hF19 hF20 hF21
        refine nx ?_
        refine wp_cond_false (hF22.ev 36 rfl) ?_
        refine wp_skip ?_
        refine bkEnd ?_
        refine nx ?_
        refine wp_region_lit ?_
        refine sq (v := (.int .i64 ((i + 1 : Nat) : Int))) hF22 (wantedS rfl) (run_add (r := ((i + 1 : Nat) : Int)) rfl (hF22.ev 16 rfl) rfl (by rw [IntKind.wrap_i64]; omega)) rfl (by decide) fun a23 hF23 => ?_
        refine sq (v := (.int .i64 ((i + 1 : Nat) : Int))) hF23 (wantedS rfl) (run_mv rfl (hF23.ev 39 rfl)) rfl (by decide) fun a24 hF24 => ?_
        refine sqEnd ?_
        clear hF22 hF23
        refine nx ?_
        exact ⟨_, by omega, i + 1, by omega, rfl, hno2 hno hh, hF24.sub ⟨rfl, rfl, rfl, rfl, rfl, trivial⟩, hM1⟩
    · have hh : hitB b i = false := by simp only [hitB, Bool.and_eq_false_iff, decide_eq_false_iff_not]; exact .inl h2
      refine wp_seq ?_
      refine wp_region_lit ?_
      refine sq (v := (.bool true)) hF0 (wantedS rfl) (run_lss rfl (hF0.ev 16 rfl) (hF0.ev 15 rfl) (decide_eq_true (by omega))) rfl (by decide) fun a1 hF1 => ?_
      refine sqEnd ?_
      clear hF0
      refine nx ?_
      refine wp_seq ?_
      refine wp_cond_true (hF1.ev 17 rfl) ?_
      refine wp_skip ?_
      refine nx ?_
      refine wp_seq ?_
      refine wp_block ?_
      refine wp_seq ?_
      refine wp_region_lit ?_
      refine sq (v := (.int .i64 (i : Int))) hF1 (wantedS rfl) (run_mv rfl (hF1.ev 16 rfl)) rfl (by decide) fun a2 hF2 => ?_
      refine sq (v := (.int .i64 (i : Int))) hF2 (wantedS rfl) (run_as rfl (hF2.ev 18 rfl)) rfl (by decide) fun a3 hF3 => ?_
      refine sqEnd ?_
      clear hF1 hF2
      refine nx ?_
      refine wp_seq ?_
      refine wp_region_lit ?_
      refine sq (v := (.func (.func 108) #[] #[(.pointer (some ⟨gs, 0, none⟩)), (.pointer (some ⟨gw, 0, none⟩)), (.pointer (some ⟨gp, 0, none⟩))])) hF3 (wantedS rfl) (run_mv rfl (hF3.ev 5 rfl)) rfl (by decide) fun a4 hF4 => ?_
      refine sq (v := (.string ⟨b.toArray⟩)) hF4 (wantedS rfl) (run_mv rfl (hF4.ev 0 rfl)) rfl (by decide) fun a5 hF5 => ?_
      refine sq (v := (.int .i64 (i : Int))) hF5 (wantedS rfl) (run_mv rfl (hF5.ev 6 rfl)) rfl (by decide) fun a6 hF6 => ?_
      refine sqT (T := fun u wx => u = .int .u32 (rsm b (i + 1) : Int) ∧ Mem w ((gs, isB 65 #[.int .u32 (rsm b (i + 1) : Int)]) :: (gp, isB 65 #[.int .u32 (powW : Int)]) :: (gw, isB 3 #[.int .i64 16]) :: [(g0, isB 67 #[.int .i64 16, .int .i64 64, .int .i64 1024, .int .u32 255])]) wx) hF6 (wantedS rfl) (run_callF rfl (hF6.ev 19 rfl) Tryd.func108 (by kernel_rfl) rfl (mapE2 (hF6.ev 20 rfl) (hF6.ev 21 rfl)) rfl) rfl (by decide) (roll1_any b i gs gp gw w w1 [(g0, isB 67 #[.int .i64 16, .int .i64 64, .int .i64 1024, .int .u32 255])] hM0 (by omega) hb) fun u4 a7 w2 hT2 hF7 => ?_
      obtain ⟨rfl, hM1⟩ := hT2
      refine sq (v := (.int .u32 (rsm b (i + 1) : Int))) hF7 (wantedS rfl) (run_as rfl (hF7.ev 22 rfl)) rfl (by decide) fun a8 hF8 => ?_
      refine sqEnd ?_
      clear hF3 hF4 hF5 hF6 hF7 hM0
      refine nx ?_
      refine wp_seq ?_
      refine wp_region_lit ?_
      refine sq (v := (.int .i64 (i : Int))) hF8 (wantedS rfl) (run_mv rfl (hF8.ev 6 rfl)) rfl (by decide) fun a9 hF9 => ?_
      refine sq (v := (.int .i64 ((i + 1 : Nat) : Int))) hF9 (wantedS rfl) (run_add (r := ((i + 1 : Nat) : Int)) rfl (hF9.ev 23 rfl) rfl (by rw [IntKind.wrap_i64]; omega)) rfl (by decide) fun a10 hF10 => ?_
      refine sq (v := (.pointer (some ⟨g0, 1, none⟩))) hF10 (wantedS rfl) (run_fldA (m := 1) (s := 1) rfl (hF10.ev 3 rfl) Tryd.underlying67 rfl rfl (by kernel_rfl) (by decide)) rfl (by decide) fun a11 hF11 => ?_
      refine sq (v := (.int .i64 64)) hF11 (wantedS rfl) (run_ldF rfl (hF11.ev 25 rfl) (hM1.at 3 rfl) rfl (by kernel_rfl)) rfl (by decide) fun a12 hF12 => ?_
      refine sq (v := (.bool false)) hF12 (wantedS rfl) (run_geq rfl (hF12.ev 24 rfl) (hF12.ev 26 rfl) (decide_eq_false (by omega))) rfl (by decide) fun a13 hF13 => ?_
      refine sq (v := (.bool false)) hF13 (wantedS rfl) (run_mv rfl (hF13.ev 27 rfl)) rfl (by decide) fun a14 hF14 => ?_
      refine sqSkip hF14 (unwantedG hF14 rfl rfl rfl rfl rfl) rfl (by decide) fun a15 hF15 => ?_
      refine sqSkip hF15 (unwantedG hF15 rfl rfl rfl rfl rfl) rfl (by decide) fun a16 hF16 => ?_
      refine sqSkip hF16 (unwantedG hF16 rfl rfl rfl rfl rfl) rfl (by decide) fun a17 hF17 => ?_
      refine sqSkip hF17 (unwantedG hF17 rfl rfl rfl rfl rfl) rfl (by decide) fun a18 hF18 => ?_
      refine sqSkip hF18 (unwantedG hF18 rfl rfl rfl rfl rfl) rfl (by decide) fun a19 hF19 => ?_
      refine sqSkip hF19 (unwantedG hF19 rfl rfl rfl rfl rfl) rfl (by decide) fun a20 hF20 => ?_
      refine sqSkip hF20 (unwantedG hF20 rfl rfl rfl rfl rfl) rfl (by decide) fun a21 hF21 => ?_
      refine sq (v := (.bool false)) hF21 (wantedS rfl) (run_pick rfl (hF21.ev 28 rfl) (hF21.ev 35 rfl) rfl) rfl (by decide) fun a22 hF22 => ?_
      refine sqEnd ?_
      clear hF8 hF9 hF10 hF11 hF12 hF13 hF14 hF15 hF16 hF17 hF18 hF19 hF20 hF21
      refine nx ?_
      refine wp_cond_false (hF22.ev 36 rfl) ?_
      refine wp_skip ?_
      refine bkEnd ?_
      refine nx ?_
      refine wp_region_lit ?_
      refine sq (v := (.int .i64 ((i + 1 : Nat) : Int))) hF22 (wantedS rfl) (run_add (r := ((i + 1 : Nat) : Int)) rfl (hF22.ev 16 rfl) rfl (by rw [IntKind.wrap_i64]; omega)) rfl (by decide) fun a23 hF23 => ?_
      refine sq (v := (.int .i64 ((i + 1 : Nat) : Int))) hF23 (wantedS rfl) (run_mv rfl (hF23.ev 39 rfl)) rfl (by decide) fun a24 hF24 => ?_
      refine sqEnd ?_
      clear hF22 hF23
      refine nx ?_
      exact ⟨_, by omega, i + 1, by omega, rfl, hno2 hno hh, hF24.sub ⟨rfl, rfl, rfl, rfl, rfl, trivial⟩, hM1⟩
  · have hie : i = k := by omega
    have hres := endS_no (b := b) (fun j hj => hno j (by omega))
    refine wp_seq ?_
    refine wp_region_lit ?_
    refine sq (v := (.bool false)) hF0 (wantedS rfl) (run_lss rfl (hF0.ev 16 rfl) (hF0.ev 15 rfl) (decide_eq_false (by omega))) rfl (by decide) fun a1 hF1 => ?_
    refine sqEnd ?_
    clear hF0
    refine nx ?_
    refine wp_seq ?_
    refine wp_cond_false (hF1.ev 17 rfl) ?_
    refine wp_exit ?_
    refine nxExit ?_
    refine nxExit ?_
    refine bkHere ?_
    refine nx ?_
    refine wp_seq ?_
    refine wp_region_lit ?_
    refine sq (v := (.string ⟨b.toArray⟩)) hF1 (wantedS rfl) (run_mv rfl (hF1.ev 0 rfl)) rfl (by decide) fun a2 hF2 => ?_
    refine sq (v := (.int .i64 (b.length : Int))) hF2 (wantedS rfl) (run_len rfl (hF2.ev 40 rfl) rfl Tryd.underlying9) rfl (by decide) fun a3 hF3 => ?_
    refine sq (v := (.pointer (some ⟨g0, 2, none⟩))) hF3 (wantedS rfl) (run_fldA (m := 1) (s := 2) rfl (hF3.ev 3 rfl) Tryd.underlying67 rfl rfl (by kernel_rfl) (by decide)) rfl (by decide) fun a4 hF4 => ?_
    refine sq (v := (.int .i64 1024)) hF4 (wantedS rfl) (run_ldF rfl (hF4.ev 42 rfl) (hM0.at 3 rfl) rfl (by kernel_rfl)) rfl (by decide) fun a5 hF5 => ?_
    refine sq (v := (.int .i64 (k : Int))) hF5 (wantedS rfl) (run_min2 (r := (k : Int)) rfl (hF5.ev 41 rfl) (hF5.ev 43 rfl) (by split <;> omega)) rfl (by decide) fun a6 hF6 => ?_
    refine sq (v := (.int .i64 (k : Int))) hF6 (wantedS rfl) (run_as rfl (hF6.ev 44 rfl)) rfl (by decide) fun a7 hF7 => ?_
    refine sqEnd ?_
    clear hF1 hF2 hF3 hF4 hF5 hF6
    refine nx ?_
    refine wp_ret ?_
    exact ret1 hF7 rfl rfl ⟨by rw [hres, ← hk], hM0.below⟩
set_option maxRecDepth 100000 in
set_option maxHeartbeats 1000000 in
theorem rcut_any (b : List UInt8) (w : World) (hb : b.length < 2 ^ 40) : Calls Tryd.prog 32 #[.string ⟨b.toArray⟩, .agg #[.int .i64 16, .int .i64 64, .int .i64 1024, .int .u32 255]] w fun e w' => ∃ u, e = .returned u ∧ (∃ v, u = .tuple #[v, .int .i64 0] ∧ w'.ownsRow w.heap.size 9 1 v (cutS b).length ((cutS b).map tx)) ∧ Below w.heap.size w w' := by
  refine walk_enter Tryd.func32 rfl rfl rfl fun a0 hF0 => ?_
  have hM0 := Mem.new w
  refine wp_seq ?_
  refine wp_region_lit ?_
  refine sqNew (cs := #[.int .i64 16, .int .i64 64, .int .i64 1024, .int .u32 255]) (t := 67) hF0 hM0 (wantedS rfl) (run_box rfl (hF0.ev 1 rfl)) rfl (by decide) fun g0 a1 w1 hgg0 hb1 hF1 hM1 => ?_
  refine sq (v := (.slice none 0 0)) hF1 (wantedS rfl) (run_as rfl rfl) rfl (by decide) fun a2 hF2 => ?_
  refine sq (v := (.int .i64 0)) hF2 (wantedS rfl) (run_as rfl rfl) rfl (by decide) fun a3 hF3 => ?_
  refine sqEnd ?_
  clear hF0 hF1 hF2 hM0
  refine nx ?_
  refine wp_seq ?_
  refine wp_seq ?_
  refine wp_region_lit ?_
  refine sq (v := (.agg #[.int .i64 16, .int .i64 64, .int .i64 1024, .int .u32 255])) hF3 (wantedS rfl) (run_ldB rfl (hF3.ev 3 rfl) (hM1.at 0 rfl) Tryd.underlying67 rfl szCuts rfl) rfl (by decide) fun a4 hF4 => ?_
  refine sqC (v := (.int .i64 0)) hF4 hM1 (wantedS rfl) (run_call rfl Tryd.func63 (by kernel_rfl) rfl (mapE1 (hF4.ev 9 rfl))) rfl (by decide) (rcheck_any w1) fun a5 w2 hb2 hF5 hM2 => ?_
  refine sq (v := (.int .i64 0)) hF5 (wantedS rfl) (run_as rfl (hF5.ev 10 rfl)) rfl (by decide) fun a6 hF6 => ?_
  refine sqEnd ?_
  clear hF3 hF4 hF5 hM1
  refine nx ?_
  refine wp_seq ?_
  refine wp_region_lit ?_
  refine sq (v := (.int .i64 0)) hF6 (wantedS rfl) (run_mv rfl (hF6.ev 6 rfl)) rfl (by decide) fun a7 hF7 => ?_
  refine sq (v := (.bool false)) hF7 (wantedS rfl) (run_nei rfl (hF7.ev 11 rfl) rfl (bne_self_eq_false _)) rfl (by decide) fun a8 hF8 => ?_
  refine sqEnd ?_
  clear hF6 hF7
  refine nx ?_
  refine wp_cond_false (hF8.ev 12 rfl) ?_
  refine wp_skip ?_
  refine nx ?_
  refine wp_seq ?_
  refine wp_region_lit ?_
  refine sq (v := (.slice none 0 0)) hF8 (wantedS rfl) (run_as rfl rfl) rfl (by decide) fun a9 hF9 => ?_
  refine sqEnd ?_
  clear hF8
  refine nx ?_
  refine wp_seq ?_
  refine wp_block ?_
  refine wkLoop (fun m a w2 => ∃ (d : List (List UInt8)) (r : List UInt8) (v : Value), m = r.length ∧ d.length + r.length ≤ b.length ∧ cutS b = d ++ cutS r ∧ OwnR w [(g0, isB 67 #[.int .i64 16, .int .i64 64, .int .i64 1024, .int .u32 255])] w2 9 1 v d.length (d.map tx) ∧ Fr a 30 [(0, .string ⟨r.toArray⟩), (3, .pointer (some ⟨g0, 0, none⟩)), (7, v)] ∧ Mem w [(g0, isB 67 #[.int .i64 16, .int .i64 64, .int .i64 1024, .int .u32 255])] w2) b.length ⟨[], b, .slice none 0 0, rfl, by simp, rfl, OwnR.nil _ _ _ _ _, hF9.sub ⟨rfl, rfl, rfl, trivial⟩, hM2⟩ ?_
  rintro m a0 w1 ⟨d, r, v, rfl, hlen, hT, hO0, hF0, hM0⟩
  have hle := endS_le r
  by_cases hr : r = []
  · have hrl : r.length = 0 := by rw [hr]; rfl
    have hT2 : cutS b = d := by rw [hT, hr, cutS_nil, List.append_nil]
    refine wp_seq ?_
    refine wp_seq ?_
    refine wp_region_lit ?_
    refine sq (v := (.string ⟨r.toArray⟩)) hF0 (wantedS rfl) (run_mv rfl (hF0.ev 0 rfl)) rfl (by decide) fun a1 hF1 => ?_
    refine sq (v := (.int .i64 (r.length : Int))) hF1 (wantedS rfl) (run_len rfl (hF1.ev 14 rfl) rfl Tryd.underlying9) rfl (by decide) fun a2 hF2 => ?_
    refine sq (v := (.bool false)) hF2 (wantedS rfl) (run_gtr rfl (hF2.ev 15 rfl) rfl (decide_eq_false (by omega))) rfl (by decide) fun a3 hF3 => ?_
    refine sqEnd ?_
    clear hF0 hF1 hF2
    refine nx ?_
    refine wp_cond_false (hF3.ev 16 rfl) ?_
    refine wp_exit ?_
    refine nxExit ?_
    refine nxExit ?_
    refine bkHere ?_
    refine nx ?_
    refine wp_seq ?_
    refine wp_region_lit ?_
    refine sq (v := v) hF3 (wantedS rfl) (run_mv rfl (hF3.ev 7 rfl)) rfl (by decide) fun a4 hF4 => ?_
    refine sq (v := v) hF4 (wantedS rfl) (run_as rfl (hF4.ev 29 rfl)) rfl (by decide) fun a5 hF5 => ?_
    refine sq (v := (.int .i64 0)) hF5 (wantedS rfl) (run_as rfl rfl) rfl (by decide) fun a6 hF6 => ?_
    refine sqEnd ?_
    clear hF3 hF4 hF5
    refine nx ?_
    refine wp_ret ?_
    exact ret2 hF6 rfl rfl rfl ⟨_, rfl, ⟨v, rfl, by rw [hT2]; exact hO0.owns⟩, hM0.below⟩
  · have hrl : 0 < r.length := List.length_pos_iff.2 hr
    have hp := endS_pos hr
    rw [cutS_cons hr] at hT
    have hdl : (r.drop (endS r)).length = r.length - endS r := List.length_drop ..
    refine wp_seq ?_
    refine wp_seq ?_
    refine wp_region_lit ?_
    refine sq (v := (.string ⟨r.toArray⟩)) hF0 (wantedS rfl) (run_mv rfl (hF0.ev 0 rfl)) rfl (by decide) fun a1 hF1 => ?_
    refine sq (v := (.int .i64 (r.length : Int))) hF1 (wantedS rfl) (run_len rfl (hF1.ev 14 rfl) rfl Tryd.underlying9) rfl (by decide) fun a2 hF2 => ?_
    refine sq (v := (.bool true)) hF2 (wantedS rfl) (run_gtr rfl (hF2.ev 15 rfl) rfl (decide_eq_true (by omega))) rfl (by decide) fun a3 hF3 => ?_
    refine sqEnd ?_
    clear hF0 hF1 hF2
    refine nx ?_
    refine wp_cond_true (hF3.ev 16 rfl) ?_
    refine wp_skip ?_
    refine nx ?_
    refine wp_block ?_
    refine wp_seq ?_
    refine wp_region_lit ?_
    refine sq (v := (.string ⟨r.toArray⟩)) hF3 (wantedS rfl) (run_mv rfl (hF3.ev 0 rfl)) rfl (by decide) fun a4 hF4 => ?_
    refine sq (v := (.agg #[.int .i64 16, .int .i64 64, .int .i64 1024, .int .u32 255])) hF4 (wantedS rfl) (run_ldB rfl (hF4.ev 3 rfl) (hM0.at 0 rfl) Tryd.underlying67 rfl szCuts rfl) rfl (by decide) fun a5 hF5 => ?_
    refine sqC (v := (.int .i64 (endS r : Int))) hF5 hM0 (wantedS rfl) (run_call rfl Tryd.func64 (by kernel_rfl) rfl (mapE2 (hF5.ev 17 rfl) (hF5.ev 18 rfl))) rfl (by decide) (rend_any r w1 (by omega)) fun a6 w2 hb2 hF6 hM1 => ?_
    have hO1 := hO0.grow hb2
    refine sq (v := (.int .i64 (endS r : Int))) hF6 (wantedS rfl) (run_as rfl (hF6.ev 19 rfl)) rfl (by decide) fun a7 hF7 => ?_
    refine sqEnd ?_
    clear hF3 hF4 hF5 hF6 hM0
    refine nx ?_
    refine wp_seq ?_
    refine wp_region_lit ?_
    refine sq (v := v) hF7 (wantedS rfl) (run_mv rfl (hF7.ev 7 rfl)) rfl (by decide) fun a8 hF8 => ?_
    refine sq (v := (.string ⟨r.toArray⟩)) hF8 (wantedS rfl) (run_mv rfl (hF8.ev 0 rfl)) rfl (by decide) fun a9 hF9 => ?_
    refine sq (v := (.int .i64 (endS r : Int))) hF9 (wantedS rfl) (run_mv rfl (hF9.ev 8 rfl)) rfl (by decide) fun a10 hF10 => ?_
    refine sq (v := (.string ⟨(r.take (endS r)).toArray⟩)) hF10 (wantedS rfl) (run_sTo (n := (endS r)) rfl (hF10.ev 21 rfl) (hF10.ev 22 rfl) Tryd.underlying9 rfl (by omega)) rfl (by decide) fun a11 hF11 => ?_
    refine sqRow (cs := #[.string ⟨(r.take (endS r)).toArray⟩]) (t := 9) (m := 1) hF11 hM1 (wantedS rfl) (run_strs1 rfl (hF11.ev 23 rfl)) rfl (by decide) fun g1 a12 w3 hgg1 hb3 hF12 hM2 => ?_
    have hO2 := hO1.add (S := isB 9 #[.string ⟨(r.take (endS r)).toArray⟩]) hb3 hgg1
    refine sqAppend (news := [.string ⟨(r.take (endS r)).toArray⟩]) elStr hF12 hM2 hO2 rfl rfl (hF12.ev 20 rfl) (hF12.ev 24 rfl) rfl (blkNews (hM2.at 0 rfl)) (all_one rfl) (by unfold maxLen; omega) (by omega) rfl (by decide) fun v2 a13 w4 hO3 hM3 hnilv2 hF13 => ?_
    refine sq (v := v2) hF13 (wantedS rfl) (run_as rfl (hF13.ev 25 rfl)) rfl (by decide) fun a14 hF14 => ?_
    refine sqEnd ?_
    clear hF7 hF8 hF9 hF10 hF11 hF12 hF13 hM1 hM2
    refine nx ?_
    refine wp_region_lit ?_
    refine sq (v := (.string ⟨r.toArray⟩)) hF14 (wantedS rfl) (run_mv rfl (hF14.ev 0 rfl)) rfl (by decide) fun a15 hF15 => ?_
    refine sq (v := (.int .i64 (endS r : Int))) hF15 (wantedS rfl) (run_mv rfl (hF15.ev 8 rfl)) rfl (by decide) fun a16 hF16 => ?_
    refine sq (v := (.string ⟨(r.drop (endS r)).toArray⟩)) hF16 (wantedS rfl) (run_sFrom (m := (endS r)) rfl (hF16.ev 26 rfl) (hF16.ev 27 rfl) Tryd.underlying9 rfl (by omega)) rfl (by decide) fun a17 hF17 => ?_
    refine sq (v := (.string ⟨(r.drop (endS r)).toArray⟩)) hF17 (wantedS rfl) (run_as rfl (hF17.ev 28 rfl)) rfl (by decide) fun a18 hF18 => ?_
    refine sqEnd ?_
    clear hF14 hF15 hF16 hF17
    refine bkEnd ?_
    refine nx ?_
    exact ⟨_, by omega, d ++ [r.take (endS r)], r.drop (endS r), v2, rfl, by rw [List.length_append, List.length_singleton]; omega, by rw [hT, List.append_assoc]; rfl, by rw [List.map_append, List.length_append]; exact hO3.sub (.cons _ (.refl _)), hF18.sub ⟨rfl, rfl, rfl, trivial⟩, hM3.sub (.cons _ (.refl _))⟩
set_option maxRecDepth 100000 in
set_option maxHeartbeats 1000000 in
theorem ccut_any (b : List UInt8) (w : World) (hb : b.length < 2 ^ 40) : Calls Tryd.prog 12 #[.string ⟨b.toArray⟩] w fun e w' => ∃ u, e = .returned u ∧ w'.ownsRow w.heap.size 9 1 u (cutS b).length ((cutS b).map tx) ∧ Below w.heap.size w w' := by
  refine walk_enter Tryd.func12 rfl rfl rfl fun a0 hF0 => ?_
  have hM0 := Mem.new w
  refine wp_seq ?_
  refine wp_region_lit ?_
  refine sq (v := (.slice none 0 0)) hF0 (wantedS rfl) (run_as rfl rfl) rfl (by decide) fun a1 hF1 => ?_
  refine sqEnd ?_
  clear hF0
  refine nx ?_
  refine wp_seq ?_
  refine wp_region_lit ?_
  refine sq (v := (.string ⟨b.toArray⟩)) hF1 (wantedS rfl) (run_mv rfl (hF1.ev 0 rfl)) rfl (by decide) fun a2 hF2 => ?_
  refine sq (v := (.agg #[.int .i64 16, .int .i64 64, .int .i64 1024, .int .u32 255])) hF2 (wantedS rfl) (run_blt (vs := #[(0, .int .i64 16), (1, .int .i64 64), (2, .int .i64 1024), (3, .int .u32 255)]) (cs := #[.int .i64 16, .int .i64 64, .int .i64 1024, .int .u32 255]) rfl (bltE4 rfl rfl rfl rfl) (by kernel_rfl)) rfl (by decide) fun a3 hF3 => ?_
  refine sqT (T := fun u wx => (∃ v, u = .tuple #[v, .int .i64 0] ∧ wx.ownsRow w.heap.size 9 1 v (cutS b).length ((cutS b).map tx)) ∧ Below w.heap.size w wx) hF3 (wantedS rfl) (run_call rfl Tryd.func32 (by kernel_rfl) rfl (mapE2 (hF3.ev 6 rfl) (hF3.ev 7 rfl))) rfl (by decide) (rcut_any b w hb) fun u0 a4 w1 hT1 hF4 => ?_
  obtain ⟨⟨v1, rfl, hr1⟩, hb1⟩ := hT1
  have hO1 := OwnR.ofCall hM0 hr1
  have hM1 := hM0.grow hb1
  refine sq (v := (.tuple #[v1, (.int .i64 0)])) hF4 (wantedS rfl) (run_mv rfl (hF4.ev 8 rfl)) rfl (by decide) fun a5 hF5 => ?_
  refine sq (v := v1) hF5 (wantedS rfl) (run_ext rfl (hF5.ev 5 rfl) rfl) rfl (by decide) fun a6 hF6 => ?_
  refine sq (v := (.int .i64 0)) hF6 (wantedS rfl) (run_ext rfl (hF6.ev 5 rfl) rfl) rfl (by decide) fun a7 hF7 => ?_
  refine sq (v := v1) hF7 (wantedS rfl) (run_as rfl (hF7.ev 9 rfl)) rfl (by decide) fun a8 hF8 => ?_
  refine sq (v := (.int .i64 0)) hF8 (wantedS rfl) (run_as rfl (hF8.ev 10 rfl)) rfl (by decide) fun a9 hF9 => ?_
  refine sqEnd ?_
  clear hF1 hF2 hF3 hF4 hF5 hF6 hF7 hF8 hM0
  refine nx ?_
  refine wp_seq ?_
  refine wp_seq ?_
  refine wp_region_lit ?_
  refine sq (v := (.int .i64 0)) hF9 (wantedS rfl) (run_mv rfl (hF9.ev 4 rfl)) rfl (by decide) fun a10 hF10 => ?_
  refine sq (v := (.bool false)) hF10 (wantedS rfl) (run_nei rfl (hF10.ev 11 rfl) rfl (bne_self_eq_false _)) rfl (by decide) fun a11 hF11 => ?_
  refine sqEnd ?_
  clear hF9 hF10
  refine nx ?_
  refine wp_cond_false (hF11.ev 12 rfl) ?_
  refine wp_skip ?_
  refine nx ?_
  refine wp_seq ?_
  refine wp_region_lit ?_
  refine sq (v := v1) hF11 (wantedS rfl) (run_mv rfl (hF11.ev 3 rfl)) rfl (by decide) fun a12 hF12 => ?_
  refine sq (v := v1) hF12 (wantedS rfl) (run_as rfl (hF12.ev 13 rfl)) rfl (by decide) fun a13 hF13 => ?_
  refine sqEnd ?_
  clear hF11 hF12
  refine nx ?_
  refine wp_ret ?_
  exact ret1 hF13 rfl rfl ⟨_, rfl, hO1.owns, hM1.below⟩
end Go.Proofs.YtdjjiblijbjobaaDoor
