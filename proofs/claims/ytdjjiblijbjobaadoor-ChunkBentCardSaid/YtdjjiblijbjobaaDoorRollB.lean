/- Laws and walks that many claims share: RollS, RollT, Roll1. -/
import Derived.ProofKit
import Derived.Test.YtdjjiblijbjobaaDoorOpsB
import Derived.Test.YtdjjiblijbjobaaDoorNumTexts
/- Plain: bytes cut where they themselves say so (windows of 16, pieces of 64 to 1024 bytes). -/
namespace Go.Proofs.YtdjjiblijbjobaaDoor

/-- 69069 to the power 16, in 32 bits. -/
def powW : Nat := 69069 ^ 16 % 2 ^ 32
/-- the sum behind so many bytes, as the program keeps it (numbers of 32 bits). -/
def rsm (b : List UInt8) : Nat → Nat
  | 0 => 0
  | i + 1 => ((rsm b i * 69069 + (b.getD i 0).toNat + 1) % 2 ^ 32 + (2 ^ 32 - (if 16 ≤ i then ((b.getD (i - 16) 0).toNat + 1) * powW % 2 ^ 32 else 0))) % 2 ^ 32
def hitB (b : List UInt8) (k : Nat) : Bool := decide (64 ≤ k + 1) && decide (rsm b (k + 1) % 256 = 255)
def endS (b : List UInt8) : Nat := match (List.range (min b.length 1024)).find? (hitB b) with
  | some k => k + 1
  | none => min b.length 1024
theorem endS_le (b : List UInt8) : endS b ≤ min b.length 1024 := by
  unfold endS
  split
  · rename_i k hk
    have := List.mem_range.1 (List.mem_of_find?_eq_some hk)
    omega
  · exact Nat.le_refl _
theorem endS_pos {b : List UInt8} (h : b ≠ []) : 1 ≤ endS b := by
  have : 0 < b.length := List.length_pos_iff.2 h
  unfold endS
  split
  · omega
  · omega
theorem endS_min (b : List UInt8) (h : endS b < 64) : endS b = b.length := by
  unfold endS at h ⊢
  split at h
  · rename_i k hk
    have := List.find?_some hk
    simp only [hitB, Bool.and_eq_true, decide_eq_true_eq] at this
    omega
  · omega
def cutS (b : List UInt8) : List (List UInt8) := if _h : b = [] then [] else b.take (endS b) :: cutS (b.drop (endS b))
termination_by b.length
decreasing_by
  have := endS_pos _h
  have h2 : 0 < b.length := List.length_pos_iff.2 _h
  rw [List.length_drop]
  omega
theorem cutS_nil : cutS [] = [] := by rw [cutS, dif_pos rfl]
theorem cutS_cons {b : List UInt8} (h : b ≠ []) : cutS b = b.take (endS b) :: cutS (b.drop (endS b)) := by rw [cutS, dif_neg h]
end Go.Proofs.YtdjjiblijbjobaaDoor
/- Plain: the rolling sum is the window's sum; where a first piece ends; the places that two texts with one tail are cut at. -/
namespace Go.Proofs.YtdjjiblijbjobaaDoor

/-- the sum of so many bytes from a place on. -/
def wsum (b : List UInt8) (lo : Nat) : Nat → Nat
  | 0 => 0
  | n + 1 => wsum b lo n * 69069 + (b.getD (lo + n) 0).toNat + 1
theorem wsum_front (b : List UInt8) (lo : Nat) : ∀ n, wsum b lo (n + 1) = ((b.getD lo 0).toNat + 1) * 69069 ^ n + wsum b (lo + 1) n
  | 0 => by simp [wsum]
  | n + 1 => by
    rw [wsum, wsum_front b lo n, wsum, Nat.pow_succ, Nat.add_mul, Nat.mul_assoc, show lo + 1 + n = lo + (n + 1) by omega]
    omega
theorem step_mod (W x y P C : Nat) (h : W * 69069 + x + 1 = (y + 1) * P + C) : ((W % 2 ^ 32 * 69069 + x + 1) % 2 ^ 32 + (2 ^ 32 - (y + 1) * (P % 2 ^ 32) % 2 ^ 32)) % 2 ^ 32 = C % 2 ^ 32 := by
  have hp : (y + 1) * (P % 2 ^ 32) % 2 ^ 32 = (y + 1) * P % 2 ^ 32 := by rw [Nat.mul_mod, Nat.mod_mod, ← Nat.mul_mod]
  rw [hp]
  generalize (y + 1) * P = B at h
  omega
theorem rsm_wsum (b : List UInt8) : ∀ i, rsm b i = wsum b (i - 16) (min i 16) % 2 ^ 32
  | 0 => rfl
  | i + 1 => by
    rw [rsm, rsm_wsum b i]
    by_cases h : 16 ≤ i
    · rw [if_pos h, show min i 16 = 16 by omega, show min (i + 1) 16 = 16 by omega, show i + 1 - 16 = i - 16 + 1 by omega]
      have hs : wsum b (i - 16) (16 + 1) = wsum b (i - 16) 16 * 69069 + (b.getD i 0).toNat + 1 := by
        rw [wsum, show i - 16 + 16 = i by omega]
      exact step_mod _ _ _ _ _ (hs.symm.trans (wsum_front b (i - 16) 16))
    · rw [if_neg h, show min i 16 = i by omega, show min (i + 1) 16 = i + 1 by omega, show i - 16 = 0 by omega, show i + 1 - 16 = 0 by omega, wsum, Nat.zero_add]
      generalize wsum b 0 i = W
      generalize (b.getD i 0).toNat = x
      omega
theorem rsm_lt (b : List UInt8) (i : Nat) : rsm b i < 2 ^ 32 := by rw [rsm_wsum]; omega
theorem endS_hit {b : List UInt8} {k : Nat} (hk : k < min b.length 1024) (hno : ∀ j, j < k → hitB b j = false) (h : hitB b k = true) : endS b = k + 1 := by
  unfold endS
  have : (List.range (min b.length 1024)).find? (hitB b) = some k := by
    rw [List.find?_range_eq_some]
    refine ⟨h, List.mem_range.2 hk, fun j hj => by rw [hno j hj]; rfl⟩
  rw [this]
theorem endS_no {b : List UInt8} (hno : ∀ j, j < min b.length 1024 → hitB b j = false) : endS b = min b.length 1024 := by
  unfold endS
  have : (List.range (min b.length 1024)).find? (hitB b) = none := by
    rw [List.find?_eq_none]
    intro j hj
    rw [hno j (List.mem_range.1 hj)]
    decide
  rw [this]
/-- how many bytes are behind each place of a cut. -/
def leftS (b : List UInt8) : List Nat := if _h : b = [] then [] else (b.length - endS b) :: leftS (b.drop (endS b))
termination_by b.length
decreasing_by
  have := endS_pos _h
  have h2 : 0 < b.length := List.length_pos_iff.2 _h
  rw [List.length_drop]
  omega
/-- the places with at most so many bytes behind. -/
def endsS (b : List UInt8) (most : Nat) : List Nat := (leftS b).filter (fun x => decide (x ≤ most))
end Go.Proofs.YtdjjiblijbjobaaDoor
/- The walks of package roll (a window of 16 bytes) and of chunk.Cut. Printed by gen_roll1.py. -/
namespace Go.Proofs.YtdjjiblijbjobaaDoor
open Go.RowKit

theorem szCuts : (Tryd.prog.info? 67).map (·.size) = some 4 := by kernel_rfl
section
variable {D : List Deferred} {a : Act} {o : Oper} {w w0 : World} {n s : Nat} {L : List (Nat × Value)} {v : Value} {ops : Array Oper} {rest : List Oper} {Q : Exit → Act → World → Prop} {M : List (Nat × (Obj → Prop))} {x y z : Operand} {g m : Nat}
theorem run_mkFn3 {f : FuncId} {c1 c2 c3 : Value} (ho : o.op = .makeFunc (.func f) #[] #[x, y, z]) (hx : a.eval x = c1) (hy : a.eval y = c2) (hz : a.eval z = c3) : (execOp a.eval o).run Tryd.prog w = .ok (.value (.func (.func f) #[] #[c1, c2, c3])) w := by
  unfold execOp
  simp only [ho, List.map_toArray, List.map_cons, List.map_nil, hx, hy, hz]
  rfl
theorem bltE4 {z2 : Operand} {i j k l : Nat} {u v r q : Value} (h : a.eval x = u) (h2 : a.eval y = v) (h3 : a.eval z = r) (h4 : a.eval z2 = q) : (#[(i, x), (j, y), (k, z), (l, z2)].map fun ((i, x) : Nat × Operand) => (i, a.eval x)) = #[(i, u), (j, v), (k, r), (l, q)] := by simp [h, h2, h3, h4]
theorem run_boxI {ty : TypeId} {k : IntKind} {q : Int} (ho : o.op = .box ty x) (hx : a.eval x = .int k q) : (execOp a.eval o).run Tryd.prog w = .ok (.value (.pointer (some ⟨w.heap.size, 0, none⟩))) (w.alloc (.cells #[.int k q] ty)) := by
  unfold execOp
  simp only [ho, hx]
  simp [go_sem]
theorem sqSet1W {j : Nat} {u old : Int} {t : TypeId} (hF : FrD D a n L) (hM : Mem w0 M w) (hgd : o.guard = none) (ho : o.op = .store 65 x y) (hd : o.dst = none) (hx : a.eval x = .pointer (some ⟨g, 0, none⟩)) (hy : a.eval y = .int .u32 u)
    (e : M[j]? = some (g, isB t #[.int .u32 old])) (h : ∀ a2 w2, w.grownBy w2 (some g) → FrD D a2 n L → Mem w0 (M.set j (g, isB t #[.int .u32 u])) w2 → wpList Tryd.prog ops Q rest a2 w2) : wpList Tryd.prog ops Q (o :: rest) a w := by
  have hB := hM.at j e
  have hc : w.cell? ⟨g, 0, none⟩ = some (.int .u32 old) := by rw [hB.cell]; rfl
  have hf := hB.frozen 0
  have hg : w.grownBy (w.setCell ⟨g, 0, none⟩ (.int .u32 u)) (some g) := grown_setCell w g 0 _
  refine sqN hF (wantedS hgd) (w2 := w.setCell ⟨g, 0, none⟩ (.int .u32 u)) ?_ hd fun a2 F2 => h a2 _ hg F2 (hM.upd j e hg ⟨_, ?_, rfl⟩)
  · unfold execOp
    simp only [ho, hx, hy]
    simp [go_sem, hc, hf]
  · unfold Blk at hB
    simp [World.setCell, Array.getElem?_modify, hB]
end
theorem and255 (s : Nat) (h : s < 2 ^ 32) : bits .and .u32 (s : Int) 255 = ((s % 256 : Nat) : Int) := by
  show IntKind.u32.wrap ((BitVec.ofInt 32 (s : Int) &&& BitVec.ofInt 32 255).toNat : Int) = _
  have e : (BitVec.ofInt 32 (s : Int)).toNat = s := by rw [BitVec.toNat_ofInt]; omega
  have e2 : (BitVec.ofInt 32 255).toNat = 2 ^ 8 - 1 := by decide
  rw [BitVec.toNat_and, e, e2, Nat.and_two_pow_sub_one_eq_mod, IntKind.wrap_u32]
  omega
theorem wrap_mul32 (a b : Nat) : IntKind.u32.wrap ((a : Int) * (b : Int)) = ((a * b % 2 ^ 32 : Nat) : Int) := by
  rw [IntKind.wrap_u32, ← Int.natCast_mul]
  generalize a * b = c
  omega
theorem wrap_sub32 (q p : Nat) (_hq : q < 2 ^ 32) (hp : p < 2 ^ 32) : IntKind.u32.wrap ((q : Int) - (p : Int)) = (((q + (2 ^ 32 - p)) % 2 ^ 32 : Nat) : Int) := by
  rw [IntKind.wrap_u32]
  omega
theorem rsm_low (b : List UInt8) (i : Nat) (h : i < 16) : rsm b (i + 1) = (rsm b i * 69069 + (bt b i).toNat + 1) % 2 ^ 32 := by
  rw [rsm, if_neg (by omega)]
  show ((rsm b i * 69069 + (bt b i).toNat + 1) % 2 ^ 32 + (2 ^ 32 - 0)) % 2 ^ 32 = _
  omega
theorem rsm_high (b : List UInt8) (i : Nat) (h : 16 ≤ i) : rsm b (i + 1) = ((rsm b i * 69069 + (bt b i).toNat + 1) % 2 ^ 32 + (2 ^ 32 - ((bt b (i - 16)).toNat + 1) * powW % 2 ^ 32)) % 2 ^ 32 := by
  rw [rsm, if_pos h]
  rfl
theorem hno2 {b : List UInt8} {i : Nat} (hno : ∀ j, j < i → hitB b j = false) (hh : hitB b i = false) : ∀ j, j < i + 1 → hitB b j = false := by
  intro j hj
  rcases Nat.lt_or_ge j i with h | h
  · exact hno j h
  · obtain rfl : j = i := by omega
    exact hh
set_option maxRecDepth 100000 in
set_option maxHeartbeats 1000000 in
theorem rcheck_any (w : World) : Calls Tryd.prog 63 #[.agg #[.int .i64 16, .int .i64 64, .int .i64 1024, .int .u32 255]] w fun e w' => e = .returned (.int .i64 0) ∧ Below w.heap.size w w' := by
  refine walk_enter Tryd.func63 rfl rfl rfl fun a0 F0 => ?_
  have M0 := Mem.new w
  refine wsl ?_
  refine sqNew (cs := #[.int .i64 16, .int .i64 64, .int .i64 1024, .int .u32 255]) (t := 67) F0 M0 (wantedS rfl) (run_box rfl (F0.ev 0 rfl)) rfl (by decide) fun g0 a1 w1 hgg0 hb1 F1 M1 => ?_
  refine sr (v := (.int .i64 0)) F1 (run_as rfl rfl) rfl rfl rfl fun a2 F2 => ?_
  refine sn ?_
  clear F0 F1 M0
  refine wp_seq ?_
  refine wsl ?_
  refine sr F2 (run_fldA (m := 1) (s := 0) rfl (F2.ev 1 rfl) Tryd.underlying67 rfl rfl (by kernel_rfl) (by decide)) rfl rfl rfl fun a3 F3 => ?_
  refine sr (v := (.int .i64 16)) F3 (run_ldF rfl (F3.ev 3 rfl) (M1.at 0 rfl) rfl (by kernel_rfl)) rfl rfl rfl fun a4 F4 => ?_
  refine sr (v := (.bool false)) F4 (run_lss rfl (F4.ev 4 rfl) rfl (by decide)) rfl rfl rfl fun a5 F5 => ?_
  refine mvS F5 rfl rfl rfl rfl rfl fun a6 F6 => ?_
  refine sq (v := (.pointer (some ⟨g0, 0, none⟩))) F6 (wantedG F6 rfl rfl rfl rfl rfl) (run_fldA (m := 1) (s := 0) rfl (F6.ev 1 rfl) Tryd.underlying67 rfl rfl (by kernel_rfl) (by decide)) rfl (by decide) fun a7 F7 => ?_
  refine sq (v := (.int .i64 16)) F7 (wantedG F7 rfl rfl rfl rfl rfl) (run_ldF rfl (F7.ev 7 rfl) (M1.at 0 rfl) rfl (by kernel_rfl)) rfl (by decide) fun a8 F8 => ?_
  refine sq (v := (.bool false)) F8 (wantedG F8 rfl rfl rfl rfl rfl) (run_gtr rfl (F8.ev 8 rfl) rfl (by decide)) rfl (by decide) fun a9 F9 => ?_
  refine sr (v := (.bool false)) F9 (run_pick rfl (F9.ev 6 rfl) rfl (F9.ev 9 rfl)) rfl rfl rfl fun a10 F10 => ?_
  refine mvS F10 rfl rfl rfl rfl rfl fun a11 F11 => ?_
  refine sq (v := (.pointer (some ⟨g0, 1, none⟩))) F11 (wantedG F11 rfl rfl rfl rfl rfl) (run_fldA (m := 1) (s := 1) rfl (F11.ev 1 rfl) Tryd.underlying67 rfl rfl (by kernel_rfl) (by decide)) rfl (by decide) fun a12 F12 => ?_
  refine sq (v := (.int .i64 64)) F12 (wantedG F12 rfl rfl rfl rfl rfl) (run_ldF rfl (F12.ev 12 rfl) (M1.at 0 rfl) rfl (by kernel_rfl)) rfl (by decide) fun a13 F13 => ?_
  refine sq (v := (.pointer (some ⟨g0, 0, none⟩))) F13 (wantedG F13 rfl rfl rfl rfl rfl) (run_fldA (m := 1) (s := 0) rfl (F13.ev 1 rfl) Tryd.underlying67 rfl rfl (by kernel_rfl) (by decide)) rfl (by decide) fun a14 F14 => ?_
  refine sq (v := (.int .i64 16)) F14 (wantedG F14 rfl rfl rfl rfl rfl) (run_ldF rfl (F14.ev 14 rfl) (M1.at 0 rfl) rfl (by kernel_rfl)) rfl (by decide) fun a15 F15 => ?_
  refine sq (v := (.bool false)) F15 (wantedG F15 rfl rfl rfl rfl rfl) (run_lss rfl (F15.ev 13 rfl) (F15.ev 15 rfl) (by decide)) rfl (by decide) fun a16 F16 => ?_
  refine sr (v := (.bool false)) F16 (run_pick rfl (F16.ev 11 rfl) rfl (F16.ev 16 rfl)) rfl rfl rfl fun a17 F17 => ?_
  refine mvS F17 rfl rfl rfl rfl rfl fun a18 F18 => ?_
  refine sq (v := (.pointer (some ⟨g0, 1, none⟩))) F18 (wantedG F18 rfl rfl rfl rfl rfl) (run_fldA (m := 1) (s := 1) rfl (F18.ev 1 rfl) Tryd.underlying67 rfl rfl (by kernel_rfl) (by decide)) rfl (by decide) fun a19 F19 => ?_
  refine sq (v := (.int .i64 64)) F19 (wantedG F19 rfl rfl rfl rfl rfl) (run_ldF rfl (F19.ev 19 rfl) (M1.at 0 rfl) rfl (by kernel_rfl)) rfl (by decide) fun a20 F20 => ?_
  refine sq (v := (.pointer (some ⟨g0, 2, none⟩))) F20 (wantedG F20 rfl rfl rfl rfl rfl) (run_fldA (m := 1) (s := 2) rfl (F20.ev 1 rfl) Tryd.underlying67 rfl rfl (by kernel_rfl) (by decide)) rfl (by decide) fun a21 F21 => ?_
  refine sq (v := (.int .i64 1024)) F21 (wantedG F21 rfl rfl rfl rfl rfl) (run_ldF rfl (F21.ev 21 rfl) (M1.at 0 rfl) rfl (by kernel_rfl)) rfl (by decide) fun a22 F22 => ?_
  refine sq (v := (.bool false)) F22 (wantedG F22 rfl rfl rfl rfl rfl) (run_gtr rfl (F22.ev 20 rfl) (F22.ev 22 rfl) (by decide)) rfl (by decide) fun a23 F23 => ?_
  refine sr (v := (.bool false)) F23 (run_pick rfl (F23.ev 18 rfl) rfl (F23.ev 23 rfl)) rfl rfl rfl fun a24 F24 => ?_
  refine mvS F24 rfl rfl rfl rfl rfl fun a25 F25 => ?_
  refine sq (v := (.pointer (some ⟨g0, 2, none⟩))) F25 (wantedG F25 rfl rfl rfl rfl rfl) (run_fldA (m := 1) (s := 2) rfl (F25.ev 1 rfl) Tryd.underlying67 rfl rfl (by kernel_rfl) (by decide)) rfl (by decide) fun a26 F26 => ?_
  refine sq (v := (.int .i64 1024)) F26 (wantedG F26 rfl rfl rfl rfl rfl) (run_ldF rfl (F26.ev 26 rfl) (M1.at 0 rfl) rfl (by kernel_rfl)) rfl (by decide) fun a27 F27 => ?_
  refine sq (v := (.bool false)) F27 (wantedG F27 rfl rfl rfl rfl rfl) (run_gtr rfl (F27.ev 27 rfl) rfl (by decide)) rfl (by decide) fun a28 F28 => ?_
  refine sr (v := (.bool false)) F28 (run_pick rfl (F28.ev 25 rfl) rfl (F28.ev 28 rfl)) rfl rfl rfl fun a29 F29 => ?_
  refine sn ?_
  clear F2 F3 F4 F5 F6 F7 F8 F9 F10 F11 F12 F13 F14 F15 F16 F17 F18 F19 F20 F21 F22 F23 F24 F25 F26 F27 F28
  refine cfs (F29.ev 29 rfl) ?_
  refine wsl ?_
  refine sr (v := (.int .i64 0)) F29 (run_as rfl rfl) rfl rfl rfl fun a30 F30 => ?_
  refine sn ?_
  clear F29
  refine wp_ret ?_
  exact ret1 F30 rfl rfl ⟨rfl, M1.below⟩
set_option maxRecDepth 100000 in
set_option maxHeartbeats 1000000 in
theorem roller_any (w0 w : World) (M : List (Nat × (Obj → Prop))) (hM : Mem w0 M w) : Calls Tryd.prog 93 #[.int .i64 16] w fun e w' => ∃ u, e = .returned u ∧ ∃ gs gp gw, u = .func (.func 108) #[] #[.pointer (some ⟨gs, 0, none⟩), .pointer (some ⟨gw, 0, none⟩), .pointer (some ⟨gp, 0, none⟩)] ∧ Mem w0 ((gs, isB 65 #[.int .u32 (0 : Int)]) :: (gp, isB 65 #[.int .u32 (powW : Int)]) :: (gw, isB 3 #[.int .i64 16]) :: M) w' := by
  refine walk_enter Tryd.func93 rfl rfl rfl fun a0 F0 => ?_
  have M0 := hM
  refine wsl ?_
  refine sqNew (cs := #[(.int .i64 16)]) (t := 3) F0 M0 (wantedS rfl) (run_boxI rfl (F0.ev 0 rfl)) rfl (by decide) fun g0 a1 w1 hgg0 hb1 F1 M1 => ?_
  refine sr (v := .nilFunc) F1 (run_as rfl rfl) rfl rfl rfl fun a2 F2 => ?_
  refine sn ?_
  clear F0 F1 M0
  refine wsl ?_
  refine sqNew (cs := #[(.int .u32 0)]) (t := 65) F2 M1 (wantedS rfl) (run_alloc1 rfl (by kernel_rfl)) rfl (by decide) fun g1 a3 w2 hgg1 hb2 F3 M2 => ?_
  refine sqSet1W (j := 0) F3 M2 rfl rfl rfl (F3.ev 3 rfl) rfl rfl fun a4 w3 hgr3 F4 M3 => ?_
  refine sn ?_
  clear F2 F3 M1 M2
  refine wp_seq ?_
  refine wsl ?_
  refine sr F4 (run_ld1 rfl (F4.ev 1 rfl) (M3.at 1 rfl) (by kernel_rfl)) rfl rfl rfl fun a5 F5 => ?_
  refine sr (v := (.int .i64 0)) F5 (run_mv rfl rfl) rfl rfl rfl fun a6 F6 => ?_
  refine sn ?_
  clear F4 F5
  refine wp_block ?_
  refine wkLoop (fun m a w2 => ∃ i : Nat, i ≤ 16 ∧ m = 16 - i ∧ Fr a 12 [(1, .pointer (some ⟨g0, 0, none⟩)), (3, .pointer (some ⟨g1, 0, none⟩)), (5, .int .i64 16), (6, .int .i64 (i : Int))] ∧ Mem w0 ((g1, isB 65 #[.int .u32 ((69069 ^ i % 2 ^ 32 : Nat) : Int)]) :: (g0, isB 3 #[.int .i64 16]) :: M) w2) 16 ⟨0, Nat.zero_le _, rfl, F6.sub ⟨rfl, rfl, rfl, rfl, trivial⟩, by rw [show 69069 ^ 0 % 2 ^ 32 = 1 from rfl]; exact M3⟩ ?_
  rintro m a0 w1 ⟨i, hi, rfl, F0, M0⟩
  obtain ⟨q, hq⟩ : ∃ q, 69069 ^ i % 2 ^ 32 = q := ⟨_, rfl⟩
  have hql : q < 2 ^ 32 := by rw [← hq]; exact Nat.mod_lt _ (by decide)
  rw [hq] at M0
  by_cases h1 : i < 16
  · have hst : 69069 ^ (i + 1) % 2 ^ 32 = q * 69069 % 2 ^ 32 := by
      rw [← hq, Nat.pow_succ]
      generalize 69069 ^ i = z
      omega
    refine wsl ?_
    refine sr (v := (.bool true)) F0 (run_lss rfl (F0.ev 6 rfl) (F0.ev 5 rfl) (decide_eq_true (by omega))) rfl rfl rfl fun a1 F1 => ?_
    refine sn ?_
    clear F0
    refine wp_seq ?_
    refine cts (F1.ev 7 rfl) ?_
    refine wp_seq ?_
    refine wp_block ?_
    refine wp_region_lit ?_
    refine sr F1 (run_ld1 rfl (F1.ev 3 rfl) (M0.at 0 rfl) (by kernel_rfl)) rfl rfl rfl fun a2 F2 => ?_
    refine sr (v := (.int .u32 ((q * 69069 % 2 ^ 32 : Nat) : Int))) F2 (run_mul (r := ((q * 69069 % 2 ^ 32 : Nat) : Int)) rfl (F2.ev 8 rfl) rfl (by rw [IntKind.wrap_u32]; omega)) rfl rfl rfl fun a3 F3 => ?_
    refine sqSet1W (j := 0) F3 M0 rfl rfl rfl (F3.ev 3 rfl) (F3.ev 9 rfl) rfl fun a4 w2 hgr2 F4 M1 => ?_
    refine sqEnd ?_
    clear F1 F2 F3 M0
    refine bkEnd ?_
    refine nx ?_
    refine wp_region_lit ?_
    refine sr F4 (run_add (r := ((i + 1 : Nat) : Int)) rfl (F4.ev 6 rfl) rfl (by rw [IntKind.wrap_i64]; omega)) rfl rfl rfl fun a5 F5 => ?_
    refine mvS F5 rfl rfl rfl rfl rfl fun a6 F6 => ?_
    refine sn ?_
    clear F4 F5
    exact ⟨_, by omega, i + 1, by omega, rfl, F6.sub ⟨rfl, rfl, rfl, rfl, trivial⟩, by rw [hst]; exact M1⟩
  · have hie : i = 16 := by omega
    have hpe : q = powW := by rw [← hq, hie]; rfl
    clear hq
    subst hpe
    refine wsl ?_
    refine sr (v := (.bool false)) F0 (run_lss rfl (F0.ev 6 rfl) (F0.ev 5 rfl) (decide_eq_false (by omega))) rfl rfl rfl fun a1 F1 => ?_
    refine sn ?_
    clear F0
    refine wp_seq ?_
    refine wp_cond_false (F1.ev 7 rfl) ?_
    refine wp_exit ?_
    refine nxExit ?_
    refine nxExit ?_
    refine bkHere ?_
    refine nx ?_
    refine wsl ?_
    refine sqNew (cs := #[(.int .u32 0)]) (t := 65) F1 M0 (wantedS rfl) (run_alloc1 rfl (by kernel_rfl)) rfl (by decide) fun g2 a2 w2 hgg2 hb2 F2 M1 => ?_
    refine sn ?_
    clear F1 M0
    refine wsl ?_
    refine sr (v := (.func (.func 108) #[] #[(.pointer (some ⟨g2, 0, none⟩)), (.pointer (some ⟨g0, 0, none⟩)), (.pointer (some ⟨g1, 0, none⟩))])) F2 (run_mkFn3 rfl (F2.ev 4 rfl) (F2.ev 1 rfl) (F2.ev 3 rfl)) rfl rfl rfl fun a3 F3 => ?_
    refine asS F3 rfl rfl rfl rfl rfl fun a4 F4 => ?_
    refine sn ?_
    clear F2 F3
    refine wp_ret ?_
    exact ret1 F4 rfl rfl ⟨_, rfl, g2, g1, g0, rfl, M1⟩
set_option maxRecDepth 100000 in
set_option maxHeartbeats 1000000 in
theorem roll1_any (b : List UInt8) (i gs gp gw : Nat) (w0 w : World) (M : List (Nat × (Obj → Prop))) (hM : Mem w0 ((gs, isB 65 #[.int .u32 (rsm b i : Int)]) :: (gp, isB 65 #[.int .u32 (powW : Int)]) :: (gw, isB 3 #[.int .i64 16]) :: M) w) (hi : i < b.length) (hb : b.length < 2 ^ 40) : Calls Tryd.prog 108 #[.string ⟨b.toArray⟩, .int .i64 (i : Int), .pointer (some ⟨gs, 0, none⟩), .pointer (some ⟨gw, 0, none⟩), .pointer (some ⟨gp, 0, none⟩)] w fun e w' => ∃ u, e = .returned u ∧ u = .int .u32 (rsm b (i + 1) : Int) ∧ Mem w0 ((gs, isB 65 #[.int .u32 (rsm b (i + 1) : Int)]) :: (gp, isB 65 #[.int .u32 (powW : Int)]) :: (gw, isB 3 #[.int .i64 16]) :: M) w' := by
  have hsl := rsm_lt b i
  have hx := (bt b i).toNat_lt
  by_cases h16 : i < 16
  · have hr := rsm_low b i h16
    obtain ⟨s, hs⟩ : ∃ s, rsm b i = s := ⟨_, rfl⟩
    rw [hs] at hr hsl hM
    refine walk_enter Tryd.func108 rfl rfl rfl fun a0 F0 => ?_
    have M0 := hM
    refine wsl ?_
    refine sr (v := (.int .u32 0)) F0 (run_as rfl rfl) rfl rfl rfl fun a1 F1 => ?_
    refine sn ?_
    clear F0
    refine wp_seq ?_
    obtain ⟨KL, hKL⟩ : ∃ KL, KL = [kval (.int .u32 (s : Int)), kval (.int .u32 ((s * 69069 % 2 ^ 32 : Nat) : Int)), kval (.string ⟨b.toArray⟩), kval (.int .i64 (i : Int)), kval (.int .u8 ((bt b i).toNat : Int)), kval (.int .u32 ((bt b i).toNat : Int)), kval (.int .u32 (((s * 69069 + (bt b i).toNat) % 2 ^ 32 : Nat) : Int)), kval (.int .u32 (((s * 69069 + (bt b i).toNat + 1) % 2 ^ 32 : Nat) : Int))] := ⟨_, rfl⟩
    have K0 := getK hKL 0
    have K1 := getK hKL 1
    have K2 := getK hKL 2
    have K3 := getK hKL 3
    have K4 := getK hKL 4
    have K5 := getK hKL 5
    have K6 := getK hKL 6
    have K7 := getK hKL 7
    have HKL : KL.length ≤ 8 := by rw [hKL]; exact Nat.le_refl _
    clear hKL
    refine wp_region_kdTail2 31 8 (by kernel_rfl) (by kernel_rfl) (by kernel_rfl) (by kernel_rfl) F1.size KL HKL ?_ ?_
    · refine ⟨?_, ?_, ?_, ?_, ?_, ?_, ?_, ?_, trivial⟩
      · exact asksHY rfl fun a W hS hh hd => giv_run (run_ld1 rfl (eval_tmp (hh 2 _ rfl (F1.at 2 rfl))) ((M0.grow hS).at 0 rfl) (by kernel_rfl)) K0
      · exact asksHY rfl fun a W hS hh hd => giv_run (run_mul (r := ((s * 69069 % 2 ^ 32 : Nat) : Int)) rfl (eval_tmp (hd.vl 0 8 (by kernel_rfl) K0)) rfl (by rw [IntKind.wrap_u32]; omega)) K1
      · exact asksHY rfl fun a W hS hh hd => giv_run (run_mv rfl (eval_tmp (hh 0 _ rfl (F1.at 0 rfl)))) K2
      · exact asksHY rfl fun a W hS hh hd => giv_run (run_mv rfl (eval_tmp (hh 1 _ rfl (F1.at 1 rfl)))) K3
      · exact asksHY rfl fun a W hS hh hd => giv_run (run_sAt (n := i) rfl (eval_tmp (hd.vl 2 10 (by kernel_rfl) K2)) (eval_tmp (hd.vl 3 11 (by kernel_rfl) K3)) Tryd.underlying9 rfl (by omega)) K4
      · exact asksHY rfl fun a W hS hh hd => giv_run (run_cvI (r := ((bt b i).toNat : Int)) rfl (eval_tmp (hd.vl 4 12 (by kernel_rfl) K4)) Tryd.underlying5 Tryd.underlying65 (by rw [IntKind.wrap_u32]; omega)) K5
      · exact asksHY rfl fun a W hS hh hd => giv_run (run_add (r := (((s * 69069 + (bt b i).toNat) % 2 ^ 32 : Nat) : Int)) rfl (eval_tmp (hd.vl 1 9 (by kernel_rfl) K1)) (eval_tmp (hd.vl 5 13 (by kernel_rfl) K5)) (by rw [IntKind.wrap_u32]; omega)) K6
      · exact asksHY rfl fun a W hS hh hd => giv_run (run_add (r := (((s * 69069 + (bt b i).toNat + 1) % 2 ^ 32 : Nat) : Int)) rfl (eval_tmp (hd.vl 6 14 (by kernel_rfl) K6)) rfl (by rw [IntKind.wrap_u32]; omega)) K7
    · intro a2 w1 hb1 hK
      have e0 := hK.hvl 0 8 rfl (by kernel_rfl) K0
      have e1 := hK.hvl 1 9 rfl (by kernel_rfl) K1
      have e2 := hK.hvl 2 10 rfl (by kernel_rfl) K2
      have e3 := hK.hvl 3 11 rfl (by kernel_rfl) K3
      have e4 := hK.hvl 4 12 rfl (by kernel_rfl) K4
      have e5 := hK.hvl 5 13 rfl (by kernel_rfl) K5
      have e6 := hK.hvl 6 14 rfl (by kernel_rfl) K6
      have e7 := hK.hvl 7 15 rfl (by kernel_rfl) K7
      have F2 : Fr a2 31 [(0, (.string ⟨b.toArray⟩)), (1, (.int .i64 (i : Int))), (2, (.pointer (some ⟨gs, 0, none⟩))), (3, (.pointer (some ⟨gw, 0, none⟩))), (4, (.pointer (some ⟨gp, 0, none⟩))), (7, (.int .u32 0)), (15, (.int .u32 (((s * 69069 + (bt b i).toNat + 1) % 2 ^ 32 : Nat) : Int)))] := (hK.hfr F1 [_, _, _, _, _, _, _, _] ⟨e0, e1, e2, e3, e4, e5, e6, e7, trivial⟩).sub ⟨rfl, rfl, rfl, rfl, rfl, rfl, rfl, trivial⟩
      have M1 := M0.grow hb1
      clear hK K0 e0 K1 e1 K2 e2 K3 e3 K4 e4 K5 e5 K6 e6 K7 e7 HKL
      simp only [List.drop_succ_cons, List.drop_zero]
      refine sqSet1W (j := 0) F2 M1 rfl rfl rfl (F2.ev 2 rfl) (F2.ev 15 rfl) rfl fun a3 w2 hgr2 F3 M2 => ?_
      refine sn ?_
      clear F1 F2 M0 M1
      refine wp_seq ?_
      refine wsl ?_
      refine mvS F3 rfl rfl rfl rfl rfl fun a4 F4 => ?_
      refine sr F4 (run_ld1 rfl (F4.ev 3 rfl) (M2.at 2 rfl) (by kernel_rfl)) rfl rfl rfl fun a5 F5 => ?_
      refine sr (v := (.bool false)) F5 (run_geq rfl (F5.ev 16 rfl) (F5.ev 17 rfl) (decide_eq_false (by omega))) rfl rfl rfl fun a6 F6 => ?_
      refine sn ?_
      clear F3 F4 F5
      refine cfs (F6.ev 18 rfl) ?_
      refine wsl ?_
      refine sr F6 (run_ld1 rfl (F6.ev 2 rfl) (M2.at 0 rfl) (by kernel_rfl)) rfl rfl rfl fun a7 F7 => ?_
      refine asS F7 rfl rfl rfl rfl rfl fun a8 F8 => ?_
      refine sn ?_
      clear F6 F7
      refine wp_ret ?_
      exact ret1 F8 rfl rfl ⟨_, rfl, by rw [hr], by rw [hr]; exact M2⟩
  · have hr := rsm_high b i (by omega)
    have hy := (bt b (i - 16)).toNat_lt
    obtain ⟨s, hs⟩ : ∃ s, rsm b i = s := ⟨_, rfl⟩
    rw [hs] at hr hsl hM
    obtain ⟨p, hp⟩ : ∃ p, ((bt b (i - 16)).toNat + 1) * powW % 2 ^ 32 = p := ⟨_, rfl⟩
    have hpl : p < 2 ^ 32 := by rw [← hp]; exact Nat.mod_lt _ (by decide)
    have hpw : IntKind.u32.wrap ((((bt b (i - 16)).toNat + 1 : Nat) : Int) * (powW : Int)) = (p : Int) := by rw [wrap_mul32, hp]
    rw [hp] at hr
    obtain ⟨q, hq⟩ : ∃ q, (s * 69069 + (bt b i).toNat + 1) % 2 ^ 32 = q := ⟨_, rfl⟩
    have hql : q < 2 ^ 32 := by rw [← hq]; exact Nat.mod_lt _ (by decide)
    rw [hq] at hr
    refine walk_enter Tryd.func108 rfl rfl rfl fun a0 F0 => ?_
    have M0 := hM
    refine wsl ?_
    refine sr (v := (.int .u32 0)) F0 (run_as rfl rfl) rfl rfl rfl fun a1 F1 => ?_
    refine sn ?_
    clear F0
    refine wp_seq ?_
    obtain ⟨KL, hKL⟩ : ∃ KL, KL = [kval (.int .u32 (s : Int)), kval (.int .u32 ((s * 69069 % 2 ^ 32 : Nat) : Int)), kval (.string ⟨b.toArray⟩), kval (.int .i64 (i : Int)), kval (.int .u8 ((bt b i).toNat : Int)), kval (.int .u32 ((bt b i).toNat : Int)), kval (.int .u32 (((s * 69069 + (bt b i).toNat) % 2 ^ 32 : Nat) : Int)), kval (.int .u32 (q : Int))] := ⟨_, rfl⟩
    have K0 := getK hKL 0
    have K1 := getK hKL 1
    have K2 := getK hKL 2
    have K3 := getK hKL 3
    have K4 := getK hKL 4
    have K5 := getK hKL 5
    have K6 := getK hKL 6
    have K7 := getK hKL 7
    have HKL : KL.length ≤ 8 := by rw [hKL]; exact Nat.le_refl _
    clear hKL
    refine wp_region_kdTail2 31 8 (by kernel_rfl) (by kernel_rfl) (by kernel_rfl) (by kernel_rfl) F1.size KL HKL ?_ ?_
    · refine ⟨?_, ?_, ?_, ?_, ?_, ?_, ?_, ?_, trivial⟩
      · exact asksHY rfl fun a W hS hh hd => giv_run (run_ld1 rfl (eval_tmp (hh 2 _ rfl (F1.at 2 rfl))) ((M0.grow hS).at 0 rfl) (by kernel_rfl)) K0
      · exact asksHY rfl fun a W hS hh hd => giv_run (run_mul (r := ((s * 69069 % 2 ^ 32 : Nat) : Int)) rfl (eval_tmp (hd.vl 0 8 (by kernel_rfl) K0)) rfl (by rw [IntKind.wrap_u32]; omega)) K1
      · exact asksHY rfl fun a W hS hh hd => giv_run (run_mv rfl (eval_tmp (hh 0 _ rfl (F1.at 0 rfl)))) K2
      · exact asksHY rfl fun a W hS hh hd => giv_run (run_mv rfl (eval_tmp (hh 1 _ rfl (F1.at 1 rfl)))) K3
      · exact asksHY rfl fun a W hS hh hd => giv_run (run_sAt (n := i) rfl (eval_tmp (hd.vl 2 10 (by kernel_rfl) K2)) (eval_tmp (hd.vl 3 11 (by kernel_rfl) K3)) Tryd.underlying9 rfl (by omega)) K4
      · exact asksHY rfl fun a W hS hh hd => giv_run (run_cvI (r := ((bt b i).toNat : Int)) rfl (eval_tmp (hd.vl 4 12 (by kernel_rfl) K4)) Tryd.underlying5 Tryd.underlying65 (by rw [IntKind.wrap_u32]; omega)) K5
      · exact asksHY rfl fun a W hS hh hd => giv_run (run_add (r := (((s * 69069 + (bt b i).toNat) % 2 ^ 32 : Nat) : Int)) rfl (eval_tmp (hd.vl 1 9 (by kernel_rfl) K1)) (eval_tmp (hd.vl 5 13 (by kernel_rfl) K5)) (by rw [IntKind.wrap_u32]; omega)) K6
      · exact asksHY rfl fun a W hS hh hd => giv_run (run_add (r := (q : Int)) rfl (eval_tmp (hd.vl 6 14 (by kernel_rfl) K6)) rfl (by rw [IntKind.wrap_u32]; omega)) K7
    · intro a2 w1 hb1 hK
      have e0 := hK.hvl 0 8 rfl (by kernel_rfl) K0
      have e1 := hK.hvl 1 9 rfl (by kernel_rfl) K1
      have e2 := hK.hvl 2 10 rfl (by kernel_rfl) K2
      have e3 := hK.hvl 3 11 rfl (by kernel_rfl) K3
      have e4 := hK.hvl 4 12 rfl (by kernel_rfl) K4
      have e5 := hK.hvl 5 13 rfl (by kernel_rfl) K5
      have e6 := hK.hvl 6 14 rfl (by kernel_rfl) K6
      have e7 := hK.hvl 7 15 rfl (by kernel_rfl) K7
      have F2 : Fr a2 31 [(0, (.string ⟨b.toArray⟩)), (1, (.int .i64 (i : Int))), (2, (.pointer (some ⟨gs, 0, none⟩))), (3, (.pointer (some ⟨gw, 0, none⟩))), (4, (.pointer (some ⟨gp, 0, none⟩))), (7, (.int .u32 0)), (15, (.int .u32 (q : Int)))] := (hK.hfr F1 [_, _, _, _, _, _, _, _] ⟨e0, e1, e2, e3, e4, e5, e6, e7, trivial⟩).sub ⟨rfl, rfl, rfl, rfl, rfl, rfl, rfl, trivial⟩
      have M1 := M0.grow hb1
      clear hK K0 e0 K1 e1 K2 e2 K3 e3 K4 e4 K5 e5 K6 e6 K7 e7 HKL
      simp only [List.drop_succ_cons, List.drop_zero]
      refine sqSet1W (j := 0) F2 M1 rfl rfl rfl (F2.ev 2 rfl) (F2.ev 15 rfl) rfl fun a3 w2 hgr2 F3 M2 => ?_
      refine sn ?_
      clear F1 F2 M0 M1
      refine wp_seq ?_
      refine wsl ?_
      refine mvS F3 rfl rfl rfl rfl rfl fun a4 F4 => ?_
      refine sr F4 (run_ld1 rfl (F4.ev 3 rfl) (M2.at 2 rfl) (by kernel_rfl)) rfl rfl rfl fun a5 F5 => ?_
      refine sr (v := (.bool true)) F5 (run_geq rfl (F5.ev 16 rfl) (F5.ev 17 rfl) (decide_eq_true (by omega))) rfl rfl rfl fun a6 F6 => ?_
      refine sn ?_
      clear F3 F4 F5
      refine wp_cond_true (F6.ev 18 rfl) ?_
      obtain ⟨KL, hKL⟩ : ∃ KL, KL = [kval (.int .u32 (q : Int)), kval (.string ⟨b.toArray⟩), kval (.int .i64 (i : Int)), kval (.int .i64 16), kval (.int .i64 ((i - 16 : Nat) : Int)), kval (.int .u8 ((bt b (i - 16)).toNat : Int)), kval (.int .u32 ((bt b (i - 16)).toNat : Int)), kval (.int .u32 (((bt b (i - 16)).toNat + 1 : Nat) : Int)), kval (.int .u32 (powW : Int)), kval (.int .u32 (p : Int)), kval (.int .u32 (((q + (2 ^ 32 - p)) % 2 ^ 32 : Nat) : Int))] := ⟨_, rfl⟩
      have K0 := getK hKL 0
      have K1 := getK hKL 1
      have K2 := getK hKL 2
      have K3 := getK hKL 3
      have K4 := getK hKL 4
      have K5 := getK hKL 5
      have K6 := getK hKL 6
      have K7 := getK hKL 7
      have K8 := getK hKL 8
      have K9 := getK hKL 9
      have K10 := getK hKL 10
      have HKL : KL.length ≤ 11 := by rw [hKL]; exact Nat.le_refl _
      clear hKL
      refine wp_region_kdTail2 31 11 (by kernel_rfl) (by kernel_rfl) (by kernel_rfl) (by kernel_rfl) F6.size KL HKL ?_ ?_
      · refine ⟨?_, ?_, ?_, ?_, ?_, ?_, ?_, ?_, ?_, ?_, ?_, trivial⟩
        · exact asksHY rfl fun a W hS hh hd => giv_run (run_ld1 rfl (eval_tmp (hh 2 _ rfl (F6.at 2 rfl))) ((M2.grow hS).at 0 rfl) (by kernel_rfl)) K0
        · exact asksHY rfl fun a W hS hh hd => giv_run (run_mv rfl (eval_tmp (hh 0 _ rfl (F6.at 0 rfl)))) K1
        · exact asksHY rfl fun a W hS hh hd => giv_run (run_mv rfl (eval_tmp (hh 1 _ rfl (F6.at 1 rfl)))) K2
        · exact asksHY rfl fun a W hS hh hd => giv_run (run_ld1 rfl (eval_tmp (hh 3 _ rfl (F6.at 3 rfl))) ((M2.grow hS).at 2 rfl) (by kernel_rfl)) K3
        · exact asksHY rfl fun a W hS hh hd => giv_run (run_sub (r := ((i - 16 : Nat) : Int)) rfl (eval_tmp (hd.vl 2 21 (by kernel_rfl) K2)) (eval_tmp (hd.vl 3 22 (by kernel_rfl) K3)) (by rw [IntKind.wrap_i64]; omega)) K4
        · exact asksHY rfl fun a W hS hh hd => giv_run (run_sAt (n := (i - 16)) rfl (eval_tmp (hd.vl 1 20 (by kernel_rfl) K1)) (eval_tmp (hd.vl 4 23 (by kernel_rfl) K4)) Tryd.underlying9 rfl (by omega)) K5
        · exact asksHY rfl fun a W hS hh hd => giv_run (run_cvI (r := ((bt b (i - 16)).toNat : Int)) rfl (eval_tmp (hd.vl 5 24 (by kernel_rfl) K5)) Tryd.underlying5 Tryd.underlying65 (by rw [IntKind.wrap_u32]; omega)) K6
        · exact asksHY rfl fun a W hS hh hd => giv_run (run_add (r := (((bt b (i - 16)).toNat + 1 : Nat) : Int)) rfl (eval_tmp (hd.vl 6 25 (by kernel_rfl) K6)) rfl (by rw [IntKind.wrap_u32]; omega)) K7
        · exact asksHY rfl fun a W hS hh hd => giv_run (run_ld1 rfl (eval_tmp (hh 4 _ rfl (F6.at 4 rfl))) ((M2.grow hS).at 1 rfl) (by kernel_rfl)) K8
        · exact asksHY rfl fun a W hS hh hd => giv_run (run_mul (r := (p : Int)) rfl (eval_tmp (hd.vl 7 26 (by kernel_rfl) K7)) (eval_tmp (hd.vl 8 27 (by kernel_rfl) K8)) hpw) K9
        · exact asksHY rfl fun a W hS hh hd => giv_run (run_sub (r := (((q + (2 ^ 32 - p)) % 2 ^ 32 : Nat) : Int)) rfl (eval_tmp (hd.vl 0 19 (by kernel_rfl) K0)) (eval_tmp (hd.vl 9 28 (by kernel_rfl) K9)) (wrap_sub32 q p hql hpl)) K10
      · intro a7 w3 hb3 hK
        have e0 := hK.hvl 0 19 rfl (by kernel_rfl) K0
        have e1 := hK.hvl 1 20 rfl (by kernel_rfl) K1
        have e2 := hK.hvl 2 21 rfl (by kernel_rfl) K2
        have e3 := hK.hvl 3 22 rfl (by kernel_rfl) K3
        have e4 := hK.hvl 4 23 rfl (by kernel_rfl) K4
        have e5 := hK.hvl 5 24 rfl (by kernel_rfl) K5
        have e6 := hK.hvl 6 25 rfl (by kernel_rfl) K6
        have e7 := hK.hvl 7 26 rfl (by kernel_rfl) K7
        have e8 := hK.hvl 8 27 rfl (by kernel_rfl) K8
        have e9 := hK.hvl 9 28 rfl (by kernel_rfl) K9
        have e10 := hK.hvl 10 29 rfl (by kernel_rfl) K10
        have F7 : Fr a7 31 [(0, (.string ⟨b.toArray⟩)), (1, (.int .i64 (i : Int))), (2, (.pointer (some ⟨gs, 0, none⟩))), (3, (.pointer (some ⟨gw, 0, none⟩))), (7, (.int .u32 0)), (15, (.int .u32 (q : Int))), (16, (.int .i64 (i : Int))), (17, (.int .i64 16)), (18, (.bool true)), (29, (.int .u32 (((q + (2 ^ 32 - p)) % 2 ^ 32 : Nat) : Int)))] := (hK.hfr F6 [_, _, _, _, _, _, _, _, _, _, _] ⟨e0, e1, e2, e3, e4, e5, e6, e7, e8, e9, e10, trivial⟩).sub ⟨rfl, rfl, rfl, rfl, rfl, rfl, rfl, rfl, rfl, rfl, trivial⟩
        have M3 := M2.grow hb3
        clear hK K0 e0 K1 e1 K2 e2 K3 e3 K4 e4 K5 e5 K6 e6 K7 e7 K8 e8 K9 e9 K10 e10 HKL
        simp only [List.drop_succ_cons, List.drop_zero]
        refine sqSet1W (j := 0) F7 M3 rfl rfl rfl (F7.ev 2 rfl) (F7.ev 29 rfl) rfl fun a8 w4 hgr4 F8 M4 => ?_
        refine sn ?_
        clear F6 F7 M2 M3
        refine wsl ?_
        refine sr F8 (run_ld1 rfl (F8.ev 2 rfl) (M4.at 0 rfl) (by kernel_rfl)) rfl rfl rfl fun a9 F9 => ?_
        refine asS F9 rfl rfl rfl rfl rfl fun a10 F10 => ?_
        refine sn ?_
        clear F8 F9
        refine wp_ret ?_
        exact ret1 F10 rfl rfl ⟨_, rfl, by rw [hr], by rw [hr]; exact M4⟩
set_option maxRecDepth 100000 in
set_option maxHeartbeats 1000000 in
theorem rend_any (b : List UInt8) (w : World) (hb : b.length < 2 ^ 40) : Calls Tryd.prog 64 #[.string ⟨b.toArray⟩, .agg #[.int .i64 16, .int .i64 64, .int .i64 1024, .int .u32 255]] w fun e w' => e = .returned (.int .i64 (endS b : Int)) ∧ Below w.heap.size w w' := by
  obtain ⟨k, hk⟩ : ∃ k, k = min b.length 1024 := ⟨_, rfl⟩
  refine walk_enter Tryd.func64 rfl rfl rfl fun a0 F0 => ?_
  have M0 := Mem.new w
  refine wsl ?_
  refine sqNew (cs := #[.int .i64 16, .int .i64 64, .int .i64 1024, .int .u32 255]) (t := 67) F0 M0 (wantedS rfl) (run_box rfl (F0.ev 1 rfl)) rfl (by decide) fun g0 a1 w1 hgg0 hb1 F1 M1 => ?_
  refine sr (v := (.int .i64 0)) F1 (run_as rfl rfl) rfl rfl rfl fun a2 F2 => ?_
  refine sn ?_
  clear F0 F1 M0
  refine wsl ?_
  refine sr F2 (run_fldA (m := 1) (s := 0) rfl (F2.ev 3 rfl) Tryd.underlying67 rfl rfl (by kernel_rfl) (by decide)) rfl rfl rfl fun a3 F3 => ?_
  refine sr (v := (.int .i64 16)) F3 (run_ldF rfl (F3.ev 8 rfl) (M1.at 0 rfl) rfl (by kernel_rfl)) rfl rfl rfl fun a4 F4 => ?_
  refine sqT (T := fun u wx => ∃ gs gp gw, u = .func (.func 108) #[] #[.pointer (some ⟨gs, 0, none⟩), .pointer (some ⟨gw, 0, none⟩), .pointer (some ⟨gp, 0, none⟩)] ∧ Mem w ((gs, isB 65 #[.int .u32 (0 : Int)]) :: (gp, isB 65 #[.int .u32 (powW : Int)]) :: (gw, isB 3 #[.int .i64 16]) :: [(g0, isB 67 (#[.int .i64 16, .int .i64 64, .int .i64 1024, .int .u32 255]))]) wx) F4 (wantedS rfl) (run_call rfl Tryd.func93 (by kernel_rfl) rfl (mapE1 (F4.ev 9 rfl))) rfl (by decide) (roller_any _ _ [(g0, isB 67 (#[.int .i64 16, .int .i64 64, .int .i64 1024, .int .u32 255]))] M1) fun u1 a5 w2 hT2 F5 => ?_
  obtain ⟨gs, gp, gw, rfl, M2⟩ := hT2
  refine asS F5 rfl rfl rfl rfl rfl fun a6 F6 => ?_
  refine sn ?_
  clear F2 F3 F4 F5 M1
  refine wp_seq ?_
  refine wsl ?_
  refine mvS F6 rfl rfl rfl rfl rfl fun a7 F7 => ?_
  refine sr F7 (run_len rfl (F7.ev 11 rfl) rfl Tryd.underlying9) rfl rfl rfl fun a8 F8 => ?_
  refine sr F8 (run_fldA (m := 1) (s := 2) rfl (F8.ev 3 rfl) Tryd.underlying67 rfl rfl (by kernel_rfl) (by decide)) rfl rfl rfl fun a9 F9 => ?_
  refine sr (v := (.int .i64 1024)) F9 (run_ldF rfl (F9.ev 13 rfl) (M2.at 3 rfl) rfl (by kernel_rfl)) rfl rfl rfl fun a10 F10 => ?_
  refine sr (v := (.int .i64 (k : Int))) F10 (run_min2 (r := (k : Int)) rfl (F10.ev 12 rfl) (F10.ev 14 rfl) (by split <;> omega)) rfl rfl rfl fun a11 F11 => ?_
  refine sr (v := (.int .i64 0)) F11 (run_mv rfl rfl) rfl rfl rfl fun a12 F12 => ?_
  refine sn ?_
  clear F6 F7 F8 F9 F10 F11
  refine wp_block ?_
  refine wkLoop (fun m a w2 => ∃ i : Nat, i ≤ k ∧ m = k - i ∧ (∀ j, j < i → hitB b j = false) ∧ Fr a 45 [(0, .string ⟨b.toArray⟩), (3, .pointer (some ⟨g0, 0, none⟩)), (5, .func (.func 108) #[] #[.pointer (some ⟨gs, 0, none⟩), .pointer (some ⟨gw, 0, none⟩), .pointer (some ⟨gp, 0, none⟩)]), (15, .int .i64 (k : Int)), (16, .int .i64 (i : Int))] ∧ Mem w ((gs, isB 65 #[.int .u32 (rsm b i : Int)]) :: (gp, isB 65 #[.int .u32 (powW : Int)]) :: (gw, isB 3 #[.int .i64 16]) :: [(g0, isB 67 #[.int .i64 16, .int .i64 64, .int .i64 1024, .int .u32 255])]) w2) k ⟨0, Nat.zero_le _, rfl, fun j hj => by omega, F12.sub ⟨rfl, rfl, rfl, rfl, rfl, trivial⟩, M2⟩ ?_
  rintro m a0 w1 ⟨i, hi, rfl, hno, F0, M0⟩
  have hsl := rsm_lt b (i + 1)
  by_cases h1 : i < k
  · by_cases h2 : 64 ≤ i + 1
    · by_cases h3 : rsm b (i + 1) % 256 = 255
      · have hh : hitB b i = true := by simp only [hitB, Bool.and_eq_true, decide_eq_true_eq]; exact ⟨h2, h3⟩
        have hres := endS_hit (by omega) hno hh
        refine wsl ?_
        refine sr (v := (.bool true)) F0 (run_lss rfl (F0.ev 16 rfl) (F0.ev 15 rfl) (decide_eq_true (by omega))) rfl rfl rfl fun a1 F1 => ?_
        refine sn ?_
        clear F0
        refine wp_seq ?_
        refine cts (F1.ev 17 rfl) ?_
        refine wp_seq ?_
        refine wp_block ?_
        refine wsl ?_
        refine mvS F1 rfl rfl rfl rfl rfl fun a2 F2 => ?_
        refine asS F2 rfl rfl rfl rfl rfl fun a3 F3 => ?_
        refine sn ?_
        clear F1 F2
        refine wsl ?_
        refine mvS F3 rfl rfl rfl rfl rfl fun a4 F4 => ?_
        refine mvS F4 rfl rfl rfl rfl rfl fun a5 F5 => ?_
        refine mvS F5 rfl rfl rfl rfl rfl fun a6 F6 => ?_
        refine sqT (T := fun u wx => u = .int .u32 (rsm b (i + 1) : Int) ∧ Mem w ((gs, isB 65 #[.int .u32 (rsm b (i + 1) : Int)]) :: (gp, isB 65 #[.int .u32 (powW : Int)]) :: (gw, isB 3 #[.int .i64 16]) :: [(g0, isB 67 #[.int .i64 16, .int .i64 64, .int .i64 1024, .int .u32 255])]) wx) F6 (wantedS rfl) (run_callF rfl (F6.ev 19 rfl) Tryd.func108 (by kernel_rfl) rfl (mapE2 (F6.ev 20 rfl) (F6.ev 21 rfl)) rfl) rfl (by decide) (roll1_any b i gs gp gw w w1 [(g0, isB 67 #[.int .i64 16, .int .i64 64, .int .i64 1024, .int .u32 255])] M0 (by omega) hb) fun u2 a7 w2 hT2 F7 => ?_
        obtain ⟨rfl, M1⟩ := hT2
        refine asS F7 rfl rfl rfl rfl rfl fun a8 F8 => ?_
        refine sn ?_
        clear F3 F4 F5 F6 F7 M0
        refine wsl ?_
        refine mvS F8 rfl rfl rfl rfl rfl fun a9 F9 => ?_
        refine sr F9 (run_add (r := ((i + 1 : Nat) : Int)) rfl (F9.ev 23 rfl) rfl (by rw [IntKind.wrap_i64]; omega)) rfl rfl rfl fun a10 F10 => ?_
        refine sr F10 (run_fldA (m := 1) (s := 1) rfl (F10.ev 3 rfl) Tryd.underlying67 rfl rfl (by kernel_rfl) (by decide)) rfl rfl rfl fun a11 F11 => ?_
        refine sr (v := (.int .i64 64)) F11 (run_ldF rfl (F11.ev 25 rfl) (M1.at 3 rfl) rfl (by kernel_rfl)) rfl rfl rfl fun a12 F12 => ?_
        refine sr (v := (.bool true)) F12 (run_geq rfl (F12.ev 24 rfl) (F12.ev 26 rfl) (decide_eq_true (by omega))) rfl rfl rfl fun a13 F13 => ?_
        refine mvS F13 rfl rfl rfl rfl rfl fun a14 F14 => ?_
        refine sq (v := (.int .u32 (rsm b (i + 1) : Int))) F14 (wantedG F14 rfl rfl rfl rfl rfl) (run_mv rfl (F14.ev 7 rfl)) rfl (by decide) fun a15 F15 => ?_
        refine sq (v := (.pointer (some ⟨g0, 3, none⟩))) F15 (wantedG F15 rfl rfl rfl rfl rfl) (run_fldA (m := 1) (s := 3) rfl (F15.ev 3 rfl) Tryd.underlying67 rfl rfl (by kernel_rfl) (by decide)) rfl (by decide) fun a16 F16 => ?_
        refine sq (v := (.int .u32 255)) F16 (wantedG F16 rfl rfl rfl rfl rfl) (run_ldF rfl (F16.ev 30 rfl) (M1.at 3 rfl) rfl (by kernel_rfl)) rfl (by decide) fun a17 F17 => ?_
        refine sq (v := (.int .u32 ((rsm b (i + 1) % 256 : Nat) : Int))) F17 (wantedG F17 rfl rfl rfl rfl rfl) (run_and (r := ((rsm b (i + 1) % 256 : Nat) : Int)) rfl (F17.ev 29 rfl) (F17.ev 31 rfl) (and255 _ hsl)) rfl (by decide) fun a18 F18 => ?_
        refine sq (v := (.pointer (some ⟨g0, 3, none⟩))) F18 (wantedG F18 rfl rfl rfl rfl rfl) (run_fldA (m := 1) (s := 3) rfl (F18.ev 3 rfl) Tryd.underlying67 rfl rfl (by kernel_rfl) (by decide)) rfl (by decide) fun a19 F19 => ?_
        refine sq (v := (.int .u32 255)) F19 (wantedG F19 rfl rfl rfl rfl rfl) (run_ldF rfl (F19.ev 33 rfl) (M1.at 3 rfl) rfl (by kernel_rfl)) rfl (by decide) fun a20 F20 => ?_
        refine sq (v := (.bool true)) F20 (wantedG F20 rfl rfl rfl rfl rfl) (run_eqi rfl (F20.ev 32 rfl) (F20.ev 34 rfl) (beq_iff_eq.2 (by omega))) rfl (by decide) fun a21 F21 => ?_
        refine sr (v := (.bool true)) F21 (run_pick rfl (F21.ev 28 rfl) (F21.ev 35 rfl) rfl) rfl rfl rfl fun a22 F22 => ?_
        refine sn ?_
        clear F8 F9 F10 F11 F12 F13 F14 F15 F16 F17 F18 F19 F20 F21
        refine wp_cond_true (F22.ev 36 rfl) ?_
        refine wsl ?_
        refine mvS F22 rfl rfl rfl rfl rfl fun a23 F23 => ?_
        refine sr F23 (run_add (r := ((i + 1 : Nat) : Int)) rfl (F23.ev 37 rfl) rfl (by rw [IntKind.wrap_i64]; omega)) rfl rfl rfl fun a24 F24 => ?_
        refine asS F24 rfl rfl rfl rfl rfl fun a25 F25 => ?_
        refine sn ?_
        clear F22 F23 F24
        refine wp_ret ?_
        refine bkRet ?_
        refine nxRet ?_
        refine nxRet ?_
        refine bkRet ?_
        refine nxRet ?_
        exact ret1 F25 rfl rfl ⟨by rw [hres], M1.below⟩
      · have hh : hitB b i = false := by simp only [hitB, Bool.and_eq_false_iff, decide_eq_false_iff_not]; exact .inr h3
        refine wsl ?_
        refine sr (v := (.bool true)) F0 (run_lss rfl (F0.ev 16 rfl) (F0.ev 15 rfl) (decide_eq_true (by omega))) rfl rfl rfl fun a1 F1 => ?_
        refine sn ?_
        clear F0
        refine wp_seq ?_
        refine cts (F1.ev 17 rfl) ?_
        refine wp_seq ?_
        refine wp_block ?_
        refine wsl ?_
        refine mvS F1 rfl rfl rfl rfl rfl fun a2 F2 => ?_
        refine asS F2 rfl rfl rfl rfl rfl fun a3 F3 => ?_
        refine sn ?_
        clear F1 F2
        refine wsl ?_
        refine mvS F3 rfl rfl rfl rfl rfl fun a4 F4 => ?_
        refine mvS F4 rfl rfl rfl rfl rfl fun a5 F5 => ?_
        refine mvS F5 rfl rfl rfl rfl rfl fun a6 F6 => ?_
        refine sqT (T := fun u wx => u = .int .u32 (rsm b (i + 1) : Int) ∧ Mem w ((gs, isB 65 #[.int .u32 (rsm b (i + 1) : Int)]) :: (gp, isB 65 #[.int .u32 (powW : Int)]) :: (gw, isB 3 #[.int .i64 16]) :: [(g0, isB 67 #[.int .i64 16, .int .i64 64, .int .i64 1024, .int .u32 255])]) wx) F6 (wantedS rfl) (run_callF rfl (F6.ev 19 rfl) Tryd.func108 (by kernel_rfl) rfl (mapE2 (F6.ev 20 rfl) (F6.ev 21 rfl)) rfl) rfl (by decide) (roll1_any b i gs gp gw w w1 [(g0, isB 67 #[.int .i64 16, .int .i64 64, .int .i64 1024, .int .u32 255])] M0 (by omega) hb) fun u3 a7 w2 hT2 F7 => ?_
        obtain ⟨rfl, M1⟩ := hT2
        refine asS F7 rfl rfl rfl rfl rfl fun a8 F8 => ?_
        refine sn ?_
        clear F3 F4 F5 F6 F7 M0
        refine wsl ?_
        refine mvS F8 rfl rfl rfl rfl rfl fun a9 F9 => ?_
        refine sr F9 (run_add (r := ((i + 1 : Nat) : Int)) rfl (F9.ev 23 rfl) rfl (by rw [IntKind.wrap_i64]; omega)) rfl rfl rfl fun a10 F10 => ?_
        refine sr F10 (run_fldA (m := 1) (s := 1) rfl (F10.ev 3 rfl) Tryd.underlying67 rfl rfl (by kernel_rfl) (by decide)) rfl rfl rfl fun a11 F11 => ?_
        refine sr (v := (.int .i64 64)) F11 (run_ldF rfl (F11.ev 25 rfl) (M1.at 3 rfl) rfl (by kernel_rfl)) rfl rfl rfl fun a12 F12 => ?_
        refine sr (v := (.bool true)) F12 (run_geq rfl (F12.ev 24 rfl) (F12.ev 26 rfl) (decide_eq_true (by omega))) rfl rfl rfl fun a13 F13 => ?_
        refine mvS F13 rfl rfl rfl rfl rfl fun a14 F14 => ?_
        refine sq (v := (.int .u32 (rsm b (i + 1) : Int))) F14 (wantedG F14 rfl rfl rfl rfl rfl) (run_mv rfl (F14.ev 7 rfl)) rfl (by decide) fun a15 F15 => ?_
        refine sq (v := (.pointer (some ⟨g0, 3, none⟩))) F15 (wantedG F15 rfl rfl rfl rfl rfl) (run_fldA (m := 1) (s := 3) rfl (F15.ev 3 rfl) Tryd.underlying67 rfl rfl (by kernel_rfl) (by decide)) rfl (by decide) fun a16 F16 => ?_
        refine sq (v := (.int .u32 255)) F16 (wantedG F16 rfl rfl rfl rfl rfl) (run_ldF rfl (F16.ev 30 rfl) (M1.at 3 rfl) rfl (by kernel_rfl)) rfl (by decide) fun a17 F17 => ?_
        refine sq (v := (.int .u32 ((rsm b (i + 1) % 256 : Nat) : Int))) F17 (wantedG F17 rfl rfl rfl rfl rfl) (run_and (r := ((rsm b (i + 1) % 256 : Nat) : Int)) rfl (F17.ev 29 rfl) (F17.ev 31 rfl) (and255 _ hsl)) rfl (by decide) fun a18 F18 => ?_
        refine sq (v := (.pointer (some ⟨g0, 3, none⟩))) F18 (wantedG F18 rfl rfl rfl rfl rfl) (run_fldA (m := 1) (s := 3) rfl (F18.ev 3 rfl) Tryd.underlying67 rfl rfl (by kernel_rfl) (by decide)) rfl (by decide) fun a19 F19 => ?_
        refine sq (v := (.int .u32 255)) F19 (wantedG F19 rfl rfl rfl rfl rfl) (run_ldF rfl (F19.ev 33 rfl) (M1.at 3 rfl) rfl (by kernel_rfl)) rfl (by decide) fun a20 F20 => ?_
        refine sq (v := (.bool false)) F20 (wantedG F20 rfl rfl rfl rfl rfl) (run_eqi rfl (F20.ev 32 rfl) (F20.ev 34 rfl) (beq_eq_false_iff_ne.2 (by omega))) rfl (by decide) fun a21 F21 => ?_
        refine sr (v := (.bool false)) F21 (run_pick rfl (F21.ev 28 rfl) (F21.ev 35 rfl) rfl) rfl rfl rfl fun a22 F22 => ?_
        refine sn ?_
        clear F8 F9 F10 F11 F12 F13 F14 F15 F16 F17 F18 F19 F20 F21
        refine wp_cond_false (F22.ev 36 rfl) ?_
        refine wp_skip ?_
        refine bkEnd ?_
        refine nx ?_
        refine wp_region_lit ?_
        refine sr F22 (run_add (r := ((i + 1 : Nat) : Int)) rfl (F22.ev 16 rfl) rfl (by rw [IntKind.wrap_i64]; omega)) rfl rfl rfl fun a23 F23 => ?_
        refine mvS F23 rfl rfl rfl rfl rfl fun a24 F24 => ?_
        refine sn ?_
        clear F22 F23
        exact ⟨_, by omega, i + 1, by omega, rfl, hno2 hno hh, F24.sub ⟨rfl, rfl, rfl, rfl, rfl, trivial⟩, M1⟩
    · have hh : hitB b i = false := by simp only [hitB, Bool.and_eq_false_iff, decide_eq_false_iff_not]; exact .inl h2
      refine wsl ?_
      refine sr (v := (.bool true)) F0 (run_lss rfl (F0.ev 16 rfl) (F0.ev 15 rfl) (decide_eq_true (by omega))) rfl rfl rfl fun a1 F1 => ?_
      refine sn ?_
      clear F0
      refine wp_seq ?_
      refine cts (F1.ev 17 rfl) ?_
      refine wp_seq ?_
      refine wp_block ?_
      refine wsl ?_
      refine mvS F1 rfl rfl rfl rfl rfl fun a2 F2 => ?_
      refine asS F2 rfl rfl rfl rfl rfl fun a3 F3 => ?_
      refine sn ?_
      clear F1 F2
      refine wsl ?_
      refine mvS F3 rfl rfl rfl rfl rfl fun a4 F4 => ?_
      refine mvS F4 rfl rfl rfl rfl rfl fun a5 F5 => ?_
      refine mvS F5 rfl rfl rfl rfl rfl fun a6 F6 => ?_
      refine sqT (T := fun u wx => u = .int .u32 (rsm b (i + 1) : Int) ∧ Mem w ((gs, isB 65 #[.int .u32 (rsm b (i + 1) : Int)]) :: (gp, isB 65 #[.int .u32 (powW : Int)]) :: (gw, isB 3 #[.int .i64 16]) :: [(g0, isB 67 #[.int .i64 16, .int .i64 64, .int .i64 1024, .int .u32 255])]) wx) F6 (wantedS rfl) (run_callF rfl (F6.ev 19 rfl) Tryd.func108 (by kernel_rfl) rfl (mapE2 (F6.ev 20 rfl) (F6.ev 21 rfl)) rfl) rfl (by decide) (roll1_any b i gs gp gw w w1 [(g0, isB 67 #[.int .i64 16, .int .i64 64, .int .i64 1024, .int .u32 255])] M0 (by omega) hb) fun u4 a7 w2 hT2 F7 => ?_
      obtain ⟨rfl, M1⟩ := hT2
      refine asS F7 rfl rfl rfl rfl rfl fun a8 F8 => ?_
      refine sn ?_
      clear F3 F4 F5 F6 F7 M0
      refine wsl ?_
      refine mvS F8 rfl rfl rfl rfl rfl fun a9 F9 => ?_
      refine sr F9 (run_add (r := ((i + 1 : Nat) : Int)) rfl (F9.ev 23 rfl) rfl (by rw [IntKind.wrap_i64]; omega)) rfl rfl rfl fun a10 F10 => ?_
      refine sr F10 (run_fldA (m := 1) (s := 1) rfl (F10.ev 3 rfl) Tryd.underlying67 rfl rfl (by kernel_rfl) (by decide)) rfl rfl rfl fun a11 F11 => ?_
      refine sr (v := (.int .i64 64)) F11 (run_ldF rfl (F11.ev 25 rfl) (M1.at 3 rfl) rfl (by kernel_rfl)) rfl rfl rfl fun a12 F12 => ?_
      refine sr (v := (.bool false)) F12 (run_geq rfl (F12.ev 24 rfl) (F12.ev 26 rfl) (decide_eq_false (by omega))) rfl rfl rfl fun a13 F13 => ?_
      refine mvS F13 rfl rfl rfl rfl rfl fun a14 F14 => ?_
      refine sqSkip F14 (unwantedG F14 rfl rfl rfl rfl rfl) rfl (by decide) fun a15 F15 => ?_
      refine sqSkip F15 (unwantedG F15 rfl rfl rfl rfl rfl) rfl (by decide) fun a16 F16 => ?_
      refine sqSkip F16 (unwantedG F16 rfl rfl rfl rfl rfl) rfl (by decide) fun a17 F17 => ?_
      refine sqSkip F17 (unwantedG F17 rfl rfl rfl rfl rfl) rfl (by decide) fun a18 F18 => ?_
      refine sqSkip F18 (unwantedG F18 rfl rfl rfl rfl rfl) rfl (by decide) fun a19 F19 => ?_
      refine sqSkip F19 (unwantedG F19 rfl rfl rfl rfl rfl) rfl (by decide) fun a20 F20 => ?_
      refine sqSkip F20 (unwantedG F20 rfl rfl rfl rfl rfl) rfl (by decide) fun a21 F21 => ?_
      refine sr (v := (.bool false)) F21 (run_pick rfl (F21.ev 28 rfl) (F21.ev 35 rfl) rfl) rfl rfl rfl fun a22 F22 => ?_
      refine sn ?_
      clear F8 F9 F10 F11 F12 F13 F14 F15 F16 F17 F18 F19 F20 F21
      refine wp_cond_false (F22.ev 36 rfl) ?_
      refine wp_skip ?_
      refine bkEnd ?_
      refine nx ?_
      refine wp_region_lit ?_
      refine sr F22 (run_add (r := ((i + 1 : Nat) : Int)) rfl (F22.ev 16 rfl) rfl (by rw [IntKind.wrap_i64]; omega)) rfl rfl rfl fun a23 F23 => ?_
      refine mvS F23 rfl rfl rfl rfl rfl fun a24 F24 => ?_
      refine sn ?_
      clear F22 F23
      exact ⟨_, by omega, i + 1, by omega, rfl, hno2 hno hh, F24.sub ⟨rfl, rfl, rfl, rfl, rfl, trivial⟩, M1⟩
  · have hie : i = k := by omega
    have hres := endS_no (b := b) (fun j hj => hno j (by omega))
    refine wsl ?_
    refine sr (v := (.bool false)) F0 (run_lss rfl (F0.ev 16 rfl) (F0.ev 15 rfl) (decide_eq_false (by omega))) rfl rfl rfl fun a1 F1 => ?_
    refine sn ?_
    clear F0
    refine wp_seq ?_
    refine wp_cond_false (F1.ev 17 rfl) ?_
    refine wp_exit ?_
    refine nxExit ?_
    refine nxExit ?_
    refine bkHere ?_
    refine nx ?_
    refine wsl ?_
    refine mvS F1 rfl rfl rfl rfl rfl fun a2 F2 => ?_
    refine sr F2 (run_len rfl (F2.ev 40 rfl) rfl Tryd.underlying9) rfl rfl rfl fun a3 F3 => ?_
    refine sr F3 (run_fldA (m := 1) (s := 2) rfl (F3.ev 3 rfl) Tryd.underlying67 rfl rfl (by kernel_rfl) (by decide)) rfl rfl rfl fun a4 F4 => ?_
    refine sr (v := (.int .i64 1024)) F4 (run_ldF rfl (F4.ev 42 rfl) (M0.at 3 rfl) rfl (by kernel_rfl)) rfl rfl rfl fun a5 F5 => ?_
    refine sr (v := (.int .i64 (k : Int))) F5 (run_min2 (r := (k : Int)) rfl (F5.ev 41 rfl) (F5.ev 43 rfl) (by split <;> omega)) rfl rfl rfl fun a6 F6 => ?_
    refine asS F6 rfl rfl rfl rfl rfl fun a7 F7 => ?_
    refine sn ?_
    clear F1 F2 F3 F4 F5 F6
    refine wp_ret ?_
    exact ret1 F7 rfl rfl ⟨by rw [hres, ← hk], M0.below⟩
set_option maxRecDepth 100000 in
set_option maxHeartbeats 1000000 in
theorem rcut_any (b : List UInt8) (w : World) (hb : b.length < 2 ^ 40) : Calls Tryd.prog 32 #[.string ⟨b.toArray⟩, .agg #[.int .i64 16, .int .i64 64, .int .i64 1024, .int .u32 255]] w fun e w' => ∃ u, e = .returned u ∧ (∃ v, u = .tuple #[v, .int .i64 0] ∧ w'.ownsRow w.heap.size 9 1 v (cutS b).length ((cutS b).map tx)) ∧ Below w.heap.size w w' := by
  refine walk_enter Tryd.func32 rfl rfl rfl fun a0 F0 => ?_
  have M0 := Mem.new w
  refine wsl ?_
  refine sqNew (cs := #[.int .i64 16, .int .i64 64, .int .i64 1024, .int .u32 255]) (t := 67) F0 M0 (wantedS rfl) (run_box rfl (F0.ev 1 rfl)) rfl (by decide) fun g0 a1 w1 hgg0 hb1 F1 M1 => ?_
  refine sr (v := (.slice none 0 0)) F1 (run_as rfl rfl) rfl rfl rfl fun a2 F2 => ?_
  refine sr (v := (.int .i64 0)) F2 (run_as rfl rfl) rfl rfl rfl fun a3 F3 => ?_
  refine sn ?_
  clear F0 F1 F2 M0
  refine wp_seq ?_
  refine wsl ?_
  refine sr F3 (run_ldB rfl (F3.ev 3 rfl) (M1.at 0 rfl) Tryd.underlying67 rfl szCuts rfl) rfl rfl rfl fun a4 F4 => ?_
  refine sqC (v := (.int .i64 0)) F4 M1 (wantedS rfl) (run_call rfl Tryd.func63 (by kernel_rfl) rfl (mapE1 (F4.ev 9 rfl))) rfl (by decide) (rcheck_any w1) fun a5 w2 hb2 F5 M2 => ?_
  refine asS F5 rfl rfl rfl rfl rfl fun a6 F6 => ?_
  refine sn ?_
  clear F3 F4 F5 M1
  refine wsl ?_
  refine mvS F6 rfl rfl rfl rfl rfl fun a7 F7 => ?_
  refine sr (v := (.bool false)) F7 (run_nei rfl (F7.ev 11 rfl) rfl (bne_self_eq_false _)) rfl rfl rfl fun a8 F8 => ?_
  refine sn ?_
  clear F6 F7
  refine cfs (F8.ev 12 rfl) ?_
  refine wsl ?_
  refine sr (v := (.slice none 0 0)) F8 (run_as rfl rfl) rfl rfl rfl fun a9 F9 => ?_
  refine sn ?_
  clear F8
  refine wp_seq ?_
  refine wp_block ?_
  refine wkLoop (fun m a w2 => ∃ (d : List (List UInt8)) (r : List UInt8) (v : Value), m = r.length ∧ d.length + r.length ≤ b.length ∧ cutS b = d ++ cutS r ∧ OwnR w [(g0, isB 67 #[.int .i64 16, .int .i64 64, .int .i64 1024, .int .u32 255])] w2 9 1 v d.length (d.map tx) ∧ Fr a 30 [(0, .string ⟨r.toArray⟩), (3, .pointer (some ⟨g0, 0, none⟩)), (7, v)] ∧ Mem w [(g0, isB 67 #[.int .i64 16, .int .i64 64, .int .i64 1024, .int .u32 255])] w2) b.length ⟨[], b, .slice none 0 0, rfl, by simp, rfl, OwnR.nil _ _ _ _ _, F9.sub ⟨rfl, rfl, rfl, trivial⟩, M2⟩ ?_
  rintro m a0 w1 ⟨d, r, v, rfl, hlen, hT, hO0, F0, M0⟩
  have hle := endS_le r
  by_cases hr : r = []
  · have hrl : r.length = 0 := by rw [hr]; rfl
    have hT2 : cutS b = d := by rw [hT, hr, cutS_nil, List.append_nil]
    refine wp_seq ?_
    refine wsl ?_
    refine mvS F0 rfl rfl rfl rfl rfl fun a1 F1 => ?_
    refine sr F1 (run_len rfl (F1.ev 14 rfl) rfl Tryd.underlying9) rfl rfl rfl fun a2 F2 => ?_
    refine sr (v := (.bool false)) F2 (run_gtr rfl (F2.ev 15 rfl) rfl (decide_eq_false (by omega))) rfl rfl rfl fun a3 F3 => ?_
    refine sn ?_
    clear F0 F1 F2
    refine wp_cond_false (F3.ev 16 rfl) ?_
    refine wp_exit ?_
    refine nxExit ?_
    refine nxExit ?_
    refine bkHere ?_
    refine nx ?_
    refine wsl ?_
    refine mvS F3 rfl rfl rfl rfl rfl fun a4 F4 => ?_
    refine asS F4 rfl rfl rfl rfl rfl fun a5 F5 => ?_
    refine sr (v := (.int .i64 0)) F5 (run_as rfl rfl) rfl rfl rfl fun a6 F6 => ?_
    refine sn ?_
    clear F3 F4 F5
    refine wp_ret ?_
    exact ret2 F6 rfl rfl rfl ⟨_, rfl, ⟨v, rfl, by rw [hT2]; exact hO0.owns⟩, M0.below⟩
  · have hrl : 0 < r.length := List.length_pos_iff.2 hr
    have hp := endS_pos hr
    rw [cutS_cons hr] at hT
    have hdl : (r.drop (endS r)).length = r.length - endS r := List.length_drop ..
    refine wp_seq ?_
    refine wsl ?_
    refine mvS F0 rfl rfl rfl rfl rfl fun a1 F1 => ?_
    refine sr F1 (run_len rfl (F1.ev 14 rfl) rfl Tryd.underlying9) rfl rfl rfl fun a2 F2 => ?_
    refine sr (v := (.bool true)) F2 (run_gtr rfl (F2.ev 15 rfl) rfl (decide_eq_true (by omega))) rfl rfl rfl fun a3 F3 => ?_
    refine sn ?_
    clear F0 F1 F2
    refine cts (F3.ev 16 rfl) ?_
    refine wp_block ?_
    refine wsl ?_
    refine mvS F3 rfl rfl rfl rfl rfl fun a4 F4 => ?_
    refine sr F4 (run_ldB rfl (F4.ev 3 rfl) (M0.at 0 rfl) Tryd.underlying67 rfl szCuts rfl) rfl rfl rfl fun a5 F5 => ?_
    refine sqC (v := (.int .i64 (endS r : Int))) F5 M0 (wantedS rfl) (run_call rfl Tryd.func64 (by kernel_rfl) rfl (mapE2 (F5.ev 17 rfl) (F5.ev 18 rfl))) rfl (by decide) (rend_any r w1 (by omega)) fun a6 w2 hb2 F6 M1 => ?_
    have hO1 := hO0.grow hb2
    refine asS F6 rfl rfl rfl rfl rfl fun a7 F7 => ?_
    refine sn ?_
    clear F3 F4 F5 F6 M0
    refine wsl ?_
    refine mvS F7 rfl rfl rfl rfl rfl fun a8 F8 => ?_
    refine mvS F8 rfl rfl rfl rfl rfl fun a9 F9 => ?_
    refine mvS F9 rfl rfl rfl rfl rfl fun a10 F10 => ?_
    refine sr (v := (.string ⟨(r.take (endS r)).toArray⟩)) F10 (run_sTo (n := (endS r)) rfl (F10.ev 21 rfl) (F10.ev 22 rfl) Tryd.underlying9 rfl (by omega)) rfl rfl rfl fun a11 F11 => ?_
    refine sqRow (cs := #[.string ⟨(r.take (endS r)).toArray⟩]) (t := 9) (m := 1) F11 M1 (wantedS rfl) (run_strs1 rfl (F11.ev 23 rfl)) rfl (by decide) fun g1 a12 w3 hgg1 hb3 F12 M2 => ?_
    have hO2 := hO1.add (S := isB 9 #[.string ⟨(r.take (endS r)).toArray⟩]) hb3 hgg1
    refine sqAppend (news := [.string ⟨(r.take (endS r)).toArray⟩]) elStr F12 M2 hO2 rfl rfl (F12.ev 20 rfl) (F12.ev 24 rfl) rfl (blkNews (M2.at 0 rfl)) (all_one rfl) (by unfold maxLen; omega) (by omega) rfl (by decide) fun v2 a13 w4 hO3 M3 hnilv2 F13 => ?_
    refine asS F13 rfl rfl rfl rfl rfl fun a14 F14 => ?_
    refine sn ?_
    clear F7 F8 F9 F10 F11 F12 F13 M1 M2
    refine wp_region_lit ?_
    refine mvS F14 rfl rfl rfl rfl rfl fun a15 F15 => ?_
    refine mvS F15 rfl rfl rfl rfl rfl fun a16 F16 => ?_
    refine sr (v := (.string ⟨(r.drop (endS r)).toArray⟩)) F16 (run_sFrom (m := (endS r)) rfl (F16.ev 26 rfl) (F16.ev 27 rfl) Tryd.underlying9 rfl (by omega)) rfl rfl rfl fun a17 F17 => ?_
    refine asS F17 rfl rfl rfl rfl rfl fun a18 F18 => ?_
    refine sqEnd ?_
    clear F14 F15 F16 F17
    refine bkEnd ?_
    refine nx ?_
    exact ⟨_, by omega, d ++ [r.take (endS r)], r.drop (endS r), v2, rfl, by rw [List.length_append, List.length_singleton]; omega, by rw [hT, List.append_assoc]; rfl, by rw [List.map_append, List.length_append]; exact hO3.sub (.cons _ (.refl _)), F18.sub ⟨rfl, rfl, rfl, trivial⟩, M3.sub (.cons _ (.refl _))⟩
set_option maxRecDepth 100000 in
set_option maxHeartbeats 1000000 in
theorem ccut_any (b : List UInt8) (w : World) (hb : b.length < 2 ^ 40) : Calls Tryd.prog 12 #[.string ⟨b.toArray⟩] w fun e w' => ∃ u, e = .returned u ∧ w'.ownsRow w.heap.size 9 1 u (cutS b).length ((cutS b).map tx) ∧ Below w.heap.size w w' := by
  refine walk_enter Tryd.func12 rfl rfl rfl fun a0 F0 => ?_
  have M0 := Mem.new w
  refine wsl ?_
  refine sr (v := (.slice none 0 0)) F0 (run_as rfl rfl) rfl rfl rfl fun a1 F1 => ?_
  refine sn ?_
  clear F0
  refine wsl ?_
  refine mvS F1 rfl rfl rfl rfl rfl fun a2 F2 => ?_
  refine sr (v := (.agg #[.int .i64 16, .int .i64 64, .int .i64 1024, .int .u32 255])) F2 (run_blt (vs := #[(0, .int .i64 16), (1, .int .i64 64), (2, .int .i64 1024), (3, .int .u32 255)]) (cs := #[.int .i64 16, .int .i64 64, .int .i64 1024, .int .u32 255]) rfl (bltE4 rfl rfl rfl rfl) (by kernel_rfl)) rfl rfl rfl fun a3 F3 => ?_
  refine sqT (T := fun u wx => (∃ v, u = .tuple #[v, .int .i64 0] ∧ wx.ownsRow w.heap.size 9 1 v (cutS b).length ((cutS b).map tx)) ∧ Below w.heap.size w wx) F3 (wantedS rfl) (run_call rfl Tryd.func32 (by kernel_rfl) rfl (mapE2 (F3.ev 6 rfl) (F3.ev 7 rfl))) rfl (by decide) (rcut_any b w hb) fun u0 a4 w1 hT1 F4 => ?_
  obtain ⟨⟨v1, rfl, hr1⟩, hb1⟩ := hT1
  have hO1 := OwnR.ofCall M0 hr1
  have M1 := M0.grow hb1
  refine mvS F4 rfl rfl rfl rfl rfl fun a5 F5 => ?_
  refine sr (v := v1) F5 (run_ext rfl (F5.ev 5 rfl) rfl) rfl rfl rfl fun a6 F6 => ?_
  refine sr (v := (.int .i64 0)) F6 (run_ext rfl (F6.ev 5 rfl) rfl) rfl rfl rfl fun a7 F7 => ?_
  refine asS F7 rfl rfl rfl rfl rfl fun a8 F8 => ?_
  refine asS F8 rfl rfl rfl rfl rfl fun a9 F9 => ?_
  refine sn ?_
  clear F1 F2 F3 F4 F5 F6 F7 F8 M0
  refine wp_seq ?_
  refine wsl ?_
  refine mvS F9 rfl rfl rfl rfl rfl fun a10 F10 => ?_
  refine sr (v := (.bool false)) F10 (run_nei rfl (F10.ev 11 rfl) rfl (bne_self_eq_false _)) rfl rfl rfl fun a11 F11 => ?_
  refine sn ?_
  clear F9 F10
  refine cfs (F11.ev 12 rfl) ?_
  refine wsl ?_
  refine mvS F11 rfl rfl rfl rfl rfl fun a12 F12 => ?_
  refine asS F12 rfl rfl rfl rfl rfl fun a13 F13 => ?_
  refine sn ?_
  clear F11 F12
  refine wp_ret ?_
  exact ret1 F13 rfl rfl ⟨_, rfl, hO1.owns, M1.below⟩
end Go.Proofs.YtdjjiblijbjobaaDoor
