/- Laws and walks that many claims share: RefLeaf, RefHalf, RefBlock. -/
import Derived.Test.YtconhhhggckcbaaDoorBaseB
import Derived.LoopTactic
import Derived.IntWalk
import Derived.Test.YtconhhhggckcbaaDoorBlockB
import Derived.Laws.IdiomStrings
/- The walks of the reference's small functions for words: a sum that goes round, a turning, the exclusive or bit by bit, a word of four bytes of a text. -/
namespace Go.Proofs.YtconhhhggckcbaaDoor
open Go.RowKit

theorem xor_step (a b j : Nat) : (a ^^^ b) % 2 ^ (j + 1) = (a ^^^ b) % 2 ^ j + (if (a / 2 ^ j) % 2 = (b / 2 ^ j) % 2 then 0 else 2 ^ j) := by
  rw [Nat.mod_pow_succ]
  have h : (a ^^^ b) / 2 ^ j = (a / 2 ^ j) ^^^ (b / 2 ^ j) := by
    rw [← Nat.shiftRight_eq_div_pow, ← Nat.shiftRight_eq_div_pow, ← Nat.shiftRight_eq_div_pow, Nat.shiftRight_xor_distrib]
  have hx : ∀ x y : Nat, (x ^^^ y) % 2 = (x + y) % 2 := by
    intro x y
    have e := Nat.xor_mod_two_pow (a := x) (b := y) (n := 1)
    rw [show (2 : Nat) ^ 1 = 2 from rfl] at e
    rw [e, Nat.add_mod]
    rcases Nat.mod_two_eq_zero_or_one x with h1 | h1 <;> rcases Nat.mod_two_eq_zero_or_one y with h2 | h2 <;> rw [h1, h2] <;> rfl
  rw [h, hx]
  split
  · rw [show (a / 2 ^ j + b / 2 ^ j) % 2 = 0 by omega]; simp
  · rw [show (a / 2 ^ j + b / 2 ^ j) % 2 = 1 by omega]; simp

set_option maxHeartbeats 400000 in
theorem radd_any (x y : Wd) (w : World) :
    Calls Tryd.prog 110 #[.int .u64 (nm x), .int .u64 (nm y)] w fun e w' => e = .returned (.int .u64 (nm (x + y))) ∧ w' = w := by
  have h1 := nm_nonneg x; have h2 := nm_lt x; have h3 := nm_nonneg y; have h4 := nm_lt y
  have H := Lib.hid (nm_add' x y)
  go_enter Tryd.func110, Tryd.ntmps110
  go_wp2
  go_ret
  exact ⟨ret_int H.out, rfl⟩

set_option maxHeartbeats 400000 in
theorem rturn_any (x : Wd) (k : Nat) (hk : k < 32) (u : Int) (hu : u = 2 ^ k) (w : World) :
    Calls Tryd.prog 120 #[.int .u64 (nm x), .int .u64 u] w fun e w' => e = .returned (.int .u64 (nm (rl x k))) ∧ w' = w := by
  have h1 := nm_nonneg x; have h2 := nm_lt x
  have hu2 : u ≤ 2147483648 := by
    have : (2 : Nat) ^ k ≤ 2 ^ 31 := Nat.pow_le_pow_right (by omega) (by omega)
    have e : (2 : Int) ^ k = ((2 ^ k : Nat) : Int) := by rw [Int.natCast_pow]; rfl
    rw [hu, e]; omega
  have hu1 : 0 ≤ u := by
    have e : (2 : Int) ^ k = ((2 ^ k : Nat) : Int) := by rw [Int.natCast_pow]; rfl
    rw [hu, e]; exact Int.natCast_nonneg _
  have H := Lib.hid (nm_turn x k hk)
  rw [← hu] at H
  have hm0 : 0 ≤ nm x * u := Int.mul_nonneg h1 hu1
  have hm1 : nm x * u ≤ 9223372036854775808 := by
    have := Int.mul_le_mul (Int.le_of_lt_add_one (show nm x < 4294967295 + 1 by omega)) hu2 hu1 (by omega)
    omega
  clear hu
  go_enter Tryd.func120, Tryd.ntmps120
  go_wp2
  go_ret
  exact ⟨ret_int H.out, rfl⟩

set_option maxHeartbeats 400000 in
theorem rxor_any (a b : Nat) (ha : a < 4294967296) (hb : b < 4294967296) (w : World) :
    Calls Tryd.prog 100 #[.int .u64 a, .int .u64 b] w fun e w' => e = .returned (.int .u64 ((a ^^^ b : Nat) : Int)) ∧ w' = w := by
  have HX : Hid ((a ^^^ b) % 2 ^ 32 = a ^^^ b) := Lib.hid (Nat.mod_eq_of_lt (Nat.xor_lt_two_pow (by omega) (by omega)))
  go_enter Tryd.func100, Tryd.ntmps100
  go_wp2
  go_loop [0, 1, 5, 6, 7] (fun p q o u i => ∃ j : Nat, j ≤ 32 ∧ i = .int .i64 j ∧ p = .int .u64 ((a / 2 ^ j : Nat) : Int) ∧ q = .int .u64 ((b / 2 ^ j : Nat) : Int) ∧ o = .int .u64 (((a ^^^ b) % 2 ^ j : Nat) : Int) ∧ u = .int .u64 ((2 ^ j : Nat) : Int)) (fun _ _ _ _ i => 32 - (intOf i).toNat)
  case atStart => exact ⟨0, by omega, rfl, by simp, by simp, by simp [Nat.mod_one], by simp⟩
  case round =>
    obtain ⟨j, hj, rfl, rfl, rfl, rfl, rfl⟩ := hrel
    have hA : a / 2 ^ j < 4294967296 := Nat.lt_of_le_of_lt (Nat.div_le_self _ _) ha
    have hB : b / 2 ^ j < 4294967296 := Nat.lt_of_le_of_lt (Nat.div_le_self _ _) hb
    have hO : (a ^^^ b) % 2 ^ j < 2 ^ j := Nat.mod_lt _ (Nat.two_pow_pos j)
    have hU : 2 ^ j ≤ 4294967296 := Nat.pow_le_pow_right (n := 2) (by omega) hj
    have hstep := xor_step a b j
    have hA2 : a / 2 ^ (j + 1) = a / 2 ^ j / 2 := by rw [Nat.pow_succ, Nat.div_div_eq_div_mul]
    have hB2 : b / 2 ^ (j + 1) = b / 2 ^ j / 2 := by rw [Nat.pow_succ, Nat.div_div_eq_div_mul]
    have hU2 : 2 ^ (j + 1) = 2 * 2 ^ j := by rw [Nat.pow_succ, Nat.mul_comm]
    have h32 : j = 32 → (a ^^^ b) % 2 ^ j = a ^^^ b := fun e => by rw [e]; exact HX.out
    generalize (a ^^^ b) % 2 ^ j = O at *
    generalize a / 2 ^ j = A at *
    generalize b / 2 ^ j = B at *
    generalize 2 ^ j = U at *
    have HA2 := Lib.hid hA2; have HB2 := Lib.hid hB2; have HU2 := Lib.hid hU2; have HS := Lib.hid hstep; have H32 := Lib.hid h32
    clear hA2 hB2 hU2 hstep h32
    by_cases hlt : j < 32
    · have hlt' : (j : Int) < 32 := by omega
      by_cases hp : A % 2 = B % 2
      · have HP := Lib.hid hp
        have ht : ((A : Int) % 2 != (B : Int) % 2) = false := by simp; omega
        clear hp
        go_wp2
        go_round
        case rel => exact ⟨j + 1, by omega, by go_num, by rw [HA2.out]; go_num, by rw [HB2.out]; go_num, by rw [HS.out, if_pos HP.out]; go_num, by rw [HU2.out]; go_num⟩
        case measure => simp [intOf]; omega
      · have HP := Lib.hid hp
        have ht : ((A : Int) % 2 != (B : Int) % 2) = true := by simp; omega
        clear hp
        go_wp2
        go_round
        case rel => exact ⟨j + 1, by omega, by go_num, by rw [HA2.out]; go_num, by rw [HB2.out]; go_num, by rw [HS.out, if_neg HP.out]; go_num, by rw [HU2.out]; go_num⟩
        case measure => simp [intOf]; omega
    · go_wp2
      go_ret
      exact ⟨ret_int (by rw [H32.out (by omega)]), rfl⟩
/-- a text's bytes as the walk reads them. -/
theorem str_at (l : List UInt8) (i : Nat) (h : i < (⟨l.toArray⟩ : ByteArray).size) : (⟨l.toArray⟩ : ByteArray)[i]'h = bt l i := by
  have hl : i < l.length := h
  show l.toArray[i] = bt l i
  simp [bt, hl]

theorem rword_eq (b0 b1 b2 b3 : UInt8) : IntKind.u64.wrap (IntKind.u64.wrap (IntKind.u64.wrap (IntKind.u64.wrap b0.toNat + IntKind.u64.wrap (256 * IntKind.u64.wrap b1.toNat)) + IntKind.u64.wrap (65536 * IntKind.u64.wrap b2.toNat)) +
    IntKind.u64.wrap (16777216 * IntKind.u64.wrap b3.toNat)) = nm (wd b0 b1 b2 b3) := by
  have h0 := b0.toNat_lt; have h1 := b1.toNat_lt; have h2 := b2.toNat_lt; have h3 := b3.toNat_lt
  rw [nm_wd]; simp only [wrap_u64]; omega
attribute [local go_sem] str_at
set_option maxRecDepth 100000 in
set_option maxHeartbeats 400000 in
theorem rword_any (l : List UInt8) (p : Nat) (hp : p + 4 ≤ l.length) (hl : l.length < 4294967296) (w : World) :
    Calls Tryd.prog 108 #[.string ⟨l.toArray⟩, .int .i64 p] w fun e w' => e = .returned (.int .u64 (nm (wdAt l p))) ∧ w' = w.drew := by
  have h0 : p < l.length := by omega
  have h1 : p + 1 < l.length := by omega
  have h2 : p + 2 < l.length := by omega
  have h3 : p + 3 < l.length := by omega
  have w1 : IntKind.i64.wrap ((p : Int) + 1) = (p : Int) + 1 := IntWalk.i64_in _ (by omega)
  have w2 : IntKind.i64.wrap ((p : Int) + 2) = (p : Int) + 2 := IntWalk.i64_in _ (by omega)
  have w3 : IntKind.i64.wrap ((p : Int) + 3) = (p : Int) + 3 := IntWalk.i64_in _ (by omega)
  have n1 : ((p : Int) + 1).toNat = p + 1 := by omega
  have n2 : ((p : Int) + 2).toNat = p + 2 := by omega
  have n3 : ((p : Int) + 3).toNat = p + 3 := by omega
  have q1 : (p : Int) + 1 < (l.length : Int) := by omega
  have q2 : (p : Int) + 2 < (l.length : Int) := by omega
  have q3 : (p : Int) + 3 < (l.length : Int) := by omega
  have z1 : 0 ≤ (p : Int) + 1 := by omega
  have z2 : 0 ≤ (p : Int) + 2 := by omega
  have z3 : 0 ≤ (p : Int) + 3 := by omega
  go_enter Tryd.func108, Tryd.ntmps108
  go_wp2
  refine wp_region_still_lit (by kernel_rfl) (by kernel_rfl) ?_
  change wpStill _ _ w.drew _ _ _
  repeat still_step
  refine wpStill_nil ?_
  go_wp2
  go_ret
  exact ⟨ret_int (rword_eq _ _ _ _), rfl⟩
end Go.Proofs.YtconhhhggckcbaaDoor
/- The walks of the reference's half step and step on sixteen words. -/
namespace Go.Proofs.YtconhhhggckcbaaDoor
open Go.RowKit

theorem size16q : (Tryd.prog.info? 152).map (·.size) = some 16 := by kernel_rfl

set_option maxRecDepth 100000 in
set_option maxHeartbeats 1000000 in
theorem rhalf_any (a b d k : Nat) (u : Int) (v : List Wd) (w : World) (ha : a < 16) (hb : b < 16) (hd : d < 16) (hl : v.length = 16) (hk : k < 32) (hu : u = 2 ^ k) :
    Calls Tryd.prog 118 #[.agg (cells64 v), .int .i64 a, .int .i64 b, .int .i64 d, .int .u64 u] w fun e w' =>
      e = .returned (.agg (cells64 (hf v a b d k))) ∧ Below w.heap.size w w' := by
  have ha' : (a : Int) < 16 := by omega
  have hb' : (b : Int) < 16 := by omega
  have hd' : (d : Int) < 16 := by omega
  have HU := Lib.hid hu
  have HL := Lib.hid hl
  clear hu hl
  go_enter Tryd.func118, Tryd.ntmps118
  go_wp2
  have hB : ∀ o, Blk ((w.alloc (.cells (cells64 v) 152)).alloc o) w.heap.size 152 (cells64 v) := fun o => (Blk.new _ _ _).alloc _
  have hB0 := hB (.cells (cells64 (List.replicate 16 0)) 152)
  have hZ0 : Blk ((w.alloc (.cells (cells64 v) 152)).alloc (.cells (cells64 (List.replicate 16 0)) 152)) (w.heap.size + 1) 152 (cells64 (List.replicate 16 0)) := Blk.newAt _ _ _ (by simp)
  have hG0 : Below w.heap.size w ((w.alloc (.cells (cells64 v) 152)).alloc (.cells (cells64 (List.replicate 16 0)) 152)) := ((Below.refl _ _).alloc (Nat.le_refl _) _).alloc (by simp) _
  clear hB
  change Code.wp _ _ _ _ ((w.alloc (.cells (cells64 v) 152)).alloc (.cells (cells64 (List.replicate 16 0)) 152))
  generalize (w.alloc (.cells (cells64 v) 152)).alloc (.cells (cells64 (List.replicate 16 0)) 152) = w1 at *
  have ca := (hB0.cell a).trans (cells64_get v a (by have := HL.out; omega))
  have cb := (hB0.cell b).trans (cells64_get v b (by have := HL.out; omega))
  have fa := hB0.frozen a
  refine wp_region_still_tail 8 (by kernel_rfl) (by kernel_rfl) ?_
  simp only [List.take_succ_cons, List.take_zero, List.drop_succ_cons, List.drop_zero]
  change wpStill _ _ w1.drew _ _ _
  repeat still_step
  still_call (radd_any _ _ _)
  refine wpStill_nil ?_
  change wpList _ _ _ _ _ w1.drew
  go_wp2
  have hB1 : Blk (w1.setCell ⟨w.heap.size, a, none⟩ (.int .u64 (nm (gt v a + gt v b)))).drew w.heap.size 152 (cells64 (v.set a (gt v a + gt v b))) := by rw [← cells64_set]; exact hB0.set_ a _
  have hZ1 : Blk (w1.setCell ⟨w.heap.size, a, none⟩ (.int .u64 (nm (gt v a + gt v b)))).drew (w.heap.size + 1) 152 (cells64 (List.replicate 16 0)) := (hZ0.far (by dsimp only; omega) _).drew
  have hG1 : Below w.heap.size w (w1.setCell ⟨w.heap.size, a, none⟩ (.int .u64 (nm (gt v a + gt v b)))).drew := (hG0.setCell (by dsimp only; omega) _).drew
  generalize (w1.setCell ⟨w.heap.size, a, none⟩ (.int .u64 (nm (gt v a + gt v b)))).drew = w2 at *
  clear ca cb fa hB0 hZ0 hG0
  have hl1 : (v.set a (gt v a + gt v b)).length = 16 := by rw [List.length_set]; exact HL.out
  have hfin : hf v a b d k = (v.set a (gt v a + gt v b)).set d (rl (gt (v.set a (gt v a + gt v b)) d ^^^ gt (v.set a (gt v a + gt v b)) a) k) := rfl
  have HF := Lib.hid hfin
  clear hfin
  obtain ⟨v1, hv1⟩ : ∃ v1, v1 = v.set a (gt v a + gt v b) := ⟨_, rfl⟩
  rw [← hv1] at hB1 hl1 HF
  clear hv1
  have HL1 := Lib.hid hl1
  clear hl1
  have ca := (hB1.cell a).trans (cells64_get v1 a (by have := HL1.out; omega))
  have cd := (hB1.cell d).trans (cells64_get v1 d (by have := HL1.out; omega))
  have fd := hB1.frozen d
  refine wp_region_still_tail 10 (by kernel_rfl) (by kernel_rfl) ?_
  simp only [List.take_succ_cons, List.take_zero, List.drop_succ_cons, List.drop_zero]
  change wpStill _ _ w2.drew _ _ _
  repeat still_step
  still_call (rxor_any (gt v1 d).toNat (gt v1 a).toNat (gt v1 d).isLt (gt v1 a).isLt _)
  rw [show (((gt v1 d).toNat ^^^ (gt v1 a).toNat : Nat) : Int) = nm (gt v1 d ^^^ gt v1 a) from by unfold nm; rw [BitVec.toNat_xor]]
  repeat still_step
  still_call (rturn_any _ k hk u HU.out _)
  refine wpStill_nil ?_
  change wpList _ _ _ _ _ w2.drew
  have HS : Hid ((cells64 (hf v a b d k)).size = 16) := Lib.hid (by rw [cells64_size, hf_len]; exact HL.out)
  have hB2 : Blk (w2.setCell ⟨w.heap.size, d, none⟩ (.int .u64 (nm (rl (gt v1 d ^^^ gt v1 a) k)))).drew w.heap.size 152 (cells64 (hf v a b d k)) := by rw [HF.out, ← cells64_set]; exact hB1.set_ d _
  have hZ2 : Blk (w2.setCell ⟨w.heap.size, d, none⟩ (.int .u64 (nm (rl (gt v1 d ^^^ gt v1 a) k)))).drew (w.heap.size + 1) 152 (cells64 (List.replicate 16 0)) := (hZ1.far (by dsimp only; omega) _).drew
  have hG2 : Below w.heap.size w (w2.setCell ⟨w.heap.size, d, none⟩ (.int .u64 (nm (rl (gt v1 d ^^^ gt v1 a) k)))).drew := (hG1.setCell (by dsimp only; omega) _).drew
  have H2 := Lib.hid hB2
  have H3 := Lib.hid hZ2
  clear hB1 hZ1 hG1 hB2 hZ2
  go_wp2_with (first | (refine wpList_loadB rfl 152 (.tmp 5) rfl w.heap.size rfl H2.out Tryd.underlying152 rfl size16q HS.out ?_) | (refine wpList_storeB rfl 152 (.tmp 10) (.tmp 31) rfl (w.heap.size + 1) _ rfl rfl H3.out size16q HS.out rfl (cells64_one _) ?_))
  refine bodyPost_ret (results_B rfl _ (g := w.heap.size + 1) rfl (H3.out.row _) Tryd.underlying152 rfl size16q HS.out) rfl ⟨rfl, below_row hG2 (by omega) _⟩
set_option maxRecDepth 100000 in
set_option maxHeartbeats 1000000 in
theorem rstep_any (a b c d : Nat) (ia ib ic id : Int) (v : List Wd) (w : World) (ha : a < 16) (hb : b < 16) (hc : c < 16) (hd : d < 16) (hl : v.length = 16)
    (ea : ia = a) (eb : ib = b) (ec : ic = c) (ed : id = d) :
    Calls Tryd.prog 109 #[.agg (cells64 v), .int .i64 ia, .int .i64 ib, .int .i64 ic, .int .i64 id] w fun e w' =>
      e = .returned (.agg (cells64 (qr v a b c d))) ∧ Below w.heap.size w w' := by
  subst ea eb ec ed
  have HF : Hid (qr v a b c d = hf (hf (hf (hf v a b d 16) c d b 12) a b d 8) c d b 7) := Lib.hid rfl
  have HL := Lib.hid hl
  have HS0 : Hid ((cells64 v).size = 16) := Lib.hid (by rw [cells64_size]; exact hl)
  clear hl
  go_enter Tryd.func109, Tryd.ntmps109
  have hB : ∀ o, Blk ((w.alloc (.cells (cells64 v) 152)).alloc o) w.heap.size 152 (cells64 v) := fun o => (Blk.new _ _ _).alloc _
  have H0 := Lib.hid hB
  clear hB
  go_wp2_with (refine wpList_loadB rfl 152 (.tmp 5) rfl w.heap.size rfl (H0.out _) Tryd.underlying152 rfl size16q HS0.out ?_)
  refine (rhalf_any a b d 16 _ v _ (by omega) (by omega) (by omega) HL.out (by omega) rfl).mono ?_
  rintro e w1 ⟨rfl, hb1⟩
  have HA1 : Hid (Blk w1 w.heap.size 152 (cells64 v)) := Lib.hid ((H0.out _).below hb1 (by simp; omega))
  have HZ1 : Hid (∃ zs, Blk w1 (w.heap.size + 1) 152 zs ∧ zs.size = 16) := Lib.hid ⟨_, (Blk.newAt _ _ _ (by simp)).below hb1 (by simp), rfl⟩
  have hG1 : Below w.heap.size w w1 := (((Below.refl _ _).alloc (Nat.le_refl _) _).alloc (by simp) _).trans (hb1.mono (by simp; omega))
  have HL1 : Hid ((hf v a b d 16).length = 16) := Lib.hid (by rw [hf_len]; exact HL.out)
  have HS1 : Hid ((cells64 (hf v a b d 16)).size = 16) := Lib.hid (by rw [cells64_size]; exact HL1.out)
  have HSo1 : Hid ((cells64 v).size = 16) := Lib.hid (by rw [cells64_size]; exact HL.out)
  generalize hf v a b d 16 = v1 at *
  have HB1 : Hid (Blk (w1.setRow w.heap.size (cells64 v1)) w.heap.size 152 (cells64 v1)) := Lib.hid (HA1.out.row _)
  clear hb1
  go_wp2_with (first | (refine wpList_storeB rfl 152 (.tmp 5) (.tmp 15) rfl w.heap.size _ rfl rfl HA1.out size16q HS1.out HSo1.out (cells64_one _) ?_) | (refine wpList_loadB rfl 152 (.tmp 5) rfl w.heap.size rfl HB1.out Tryd.underlying152 rfl size16q HS1.out ?_))
  refine (rhalf_any c d b 12 _ v1 _ (by omega) (by omega) (by omega) HL1.out (by omega) rfl).mono ?_
  rintro e w2 ⟨rfl, hb2⟩
  have HA2 : Hid (Blk w2 w.heap.size 152 (cells64 v1)) := Lib.hid (HB1.out.below hb2 HB1.out.lt)
  have HZ2 : Hid (∃ zs, Blk w2 (w.heap.size + 1) 152 zs ∧ zs.size = 16) := Lib.hid (by
    obtain ⟨zs, h1, h2⟩ := HZ1.out
    have h3 := h1.rowFar (g' := w.heap.size) (by omega) (cells64 v1)
    exact ⟨zs, h3.below hb2 h3.lt, h2⟩)
  have hG2 : Below w.heap.size w w2 := (below_row hG1 (Nat.le_refl _) _).trans (hb2.mono (by rw [setRow_size]; exact hG1.size))
  have HL2 : Hid ((hf v1 c d b 12).length = 16) := Lib.hid (by rw [hf_len]; exact HL1.out)
  have HS2 : Hid ((cells64 (hf v1 c d b 12)).size = 16) := Lib.hid (by rw [cells64_size]; exact HL2.out)
  have HSo2 : Hid ((cells64 v1).size = 16) := Lib.hid (by rw [cells64_size]; exact HL1.out)
  generalize hf v1 c d b 12 = v2 at *
  have HB2 : Hid (Blk (w2.setRow w.heap.size (cells64 v2)) w.heap.size 152 (cells64 v2)) := Lib.hid (HA2.out.row _)
  clear hb2
  go_wp2_with (first | (refine wpList_storeB rfl 152 (.tmp 5) (.tmp 20) rfl w.heap.size _ rfl rfl HA2.out size16q HS2.out HSo2.out (cells64_one _) ?_) | (refine wpList_loadB rfl 152 (.tmp 5) rfl w.heap.size rfl HB2.out Tryd.underlying152 rfl size16q HS2.out ?_))
  refine (rhalf_any a b d 8 _ v2 _ (by omega) (by omega) (by omega) HL2.out (by omega) rfl).mono ?_
  rintro e w3 ⟨rfl, hb3⟩
  have HA3 : Hid (Blk w3 w.heap.size 152 (cells64 v2)) := Lib.hid (HB2.out.below hb3 HB2.out.lt)
  have HZ3 : Hid (∃ zs, Blk w3 (w.heap.size + 1) 152 zs ∧ zs.size = 16) := Lib.hid (by
    obtain ⟨zs, h1, h2⟩ := HZ2.out
    have h3 := h1.rowFar (g' := w.heap.size) (by omega) (cells64 v2)
    exact ⟨zs, h3.below hb3 h3.lt, h2⟩)
  have hG3 : Below w.heap.size w w3 := (below_row hG2 (Nat.le_refl _) _).trans (hb3.mono (by rw [setRow_size]; exact hG2.size))
  have HL3 : Hid ((hf v2 a b d 8).length = 16) := Lib.hid (by rw [hf_len]; exact HL2.out)
  have HS3 : Hid ((cells64 (hf v2 a b d 8)).size = 16) := Lib.hid (by rw [cells64_size]; exact HL3.out)
  have HSo3 : Hid ((cells64 v2).size = 16) := Lib.hid (by rw [cells64_size]; exact HL2.out)
  generalize hf v2 a b d 8 = v3 at *
  have HB3 : Hid (Blk (w3.setRow w.heap.size (cells64 v3)) w.heap.size 152 (cells64 v3)) := Lib.hid (HA3.out.row _)
  clear hb3
  go_wp2_with (first | (refine wpList_storeB rfl 152 (.tmp 5) (.tmp 25) rfl w.heap.size _ rfl rfl HA3.out size16q HS3.out HSo3.out (cells64_one _) ?_) | (refine wpList_loadB rfl 152 (.tmp 5) rfl w.heap.size rfl HB3.out Tryd.underlying152 rfl size16q HS3.out ?_))
  refine (rhalf_any c d b 7 _ v3 _ (by omega) (by omega) (by omega) HL3.out (by omega) rfl).mono ?_
  rintro e w4 ⟨rfl, hb4⟩
  have HA4 : Hid (Blk w4 w.heap.size 152 (cells64 v3)) := Lib.hid (HB3.out.below hb4 HB3.out.lt)
  have HZ4 : Hid (∃ zs, Blk w4 (w.heap.size + 1) 152 zs ∧ zs.size = 16) := Lib.hid (by
    obtain ⟨zs, h1, h2⟩ := HZ3.out
    have h3 := h1.rowFar (g' := w.heap.size) (by omega) (cells64 v3)
    exact ⟨zs, h3.below hb4 h3.lt, h2⟩)
  have hG4 : Below w.heap.size w w4 := (below_row hG3 (Nat.le_refl _) _).trans (hb4.mono (by rw [setRow_size]; exact hG3.size))
  have HL4 : Hid ((hf v3 c d b 7).length = 16) := Lib.hid (by rw [hf_len]; exact HL3.out)
  have HS4 : Hid ((cells64 (hf v3 c d b 7)).size = 16) := Lib.hid (by rw [cells64_size]; exact HL4.out)
  have HSo4 : Hid ((cells64 v3).size = 16) := Lib.hid (by rw [cells64_size]; exact HL3.out)
  generalize hf v3 c d b 7 = v4 at *
  have HB4 : Hid (Blk (w4.setRow w.heap.size (cells64 v4)) w.heap.size 152 (cells64 v4)) := Lib.hid (HA4.out.row _)
  clear hb4
  obtain ⟨zs, hz1, hz2⟩ := HZ4.out
  go_wp2_with (refine wpList_storeB rfl 152 (.tmp 10) (.tmp 30) rfl (w.heap.size + 1) _ rfl rfl hz1 size16q HS4.out hz2 (cells64_one _) ?_)
  rw [HF.out]
  refine bodyPost_ret (results_B rfl _ (g := w.heap.size + 1) rfl (hz1.row _) Tryd.underlying152 rfl size16q HS4.out) rfl ⟨rfl, below_row hG4 (by omega) _⟩
end Go.Proofs.YtconhhhggckcbaaDoor
/- The walk of the reference's Block: it returns the bytes of 'chacha'. -/
namespace Go.Proofs.YtconhhhggckcbaaDoor
open Go.RowKit

theorem size64r : (Tryd.prog.info? 46).map (·.size) = some 64 := by kernel_rfl
theorem rword_at (l : List UInt8) (p : Nat) (ip : Int) (e : ip = p) (hp : p + 4 ≤ l.length) (hl : l.length < 4294967296) (w : World) :
    Calls Tryd.prog 108 #[.string ⟨l.toArray⟩, .int .i64 ip] w fun e w' => e = .returned (.int .u64 (nm (wdAt l p))) ∧ w' = w.drew := by
  subst e; exact rword_any l p hp hl w
/-- the world at a round's head. -/
def GRel (k nonce : List UInt8) (v : List Wd) (w wr : World) : Prop :=
  Blk wr w.heap.size 23 (cells8 k) ∧ Blk wr (w.heap.size + 1) 104 (cells8 nonce) ∧ (∃ zs, Blk wr (w.heap.size + 1 + 1) 46 zs ∧ zs.size = 64) ∧
  Blk wr (w.heap.size + 1 + 1 + 1) 152 (cells64 v) ∧ Below w.heap.size w wr
theorem GRel.put {k nonce : List UInt8} {v : List Wd} {w wr : World} (h : GRel k nonce v w wr) (i : Nat) (x : Wd) :
    GRel k nonce (v.set i x) w (wr.setCell ⟨w.heap.size + 1 + 1 + 1, i, none⟩ (.int .u64 (nm x))) := by
  obtain ⟨h1, h2, ⟨zs, h3, hz⟩, h4, h5⟩ := h
  refine ⟨h1.far (by dsimp only; omega) _, h2.far (by dsimp only; omega) _, ⟨zs, h3.far (by dsimp only; omega) _, hz⟩, ?_, h5.setCell (by dsimp only; omega) _⟩
  rw [← cells64_set]; exact h4.set_ i _
theorem GRel.drew {k nonce : List UInt8} {v : List Wd} {w wr : World} (h : GRel k nonce v w wr) : GRel k nonce v w wr.drew := by
  obtain ⟨h1, h2, ⟨zs, h3, hz⟩, h4, h5⟩ := h
  exact ⟨h1, h2, ⟨zs, h3, hz⟩, h4, h5.drew⟩

/-- four columns, four diagonals. -/
def colA (v : List Wd) : Nat → List Wd
  | 0 => v
  | c + 1 => qr (colA v c) c (4 + c) (8 + c) (12 + c)
def diaB (v : List Wd) : Nat → List Wd
  | 0 => v
  | c + 1 => qr (diaB v c) c (4 + (c + 1) % 4) (8 + (c + 2) % 4) (12 + (c + 3) % 4)
theorem colA_len (v : List Wd) (c : Nat) : (colA v c).length = v.length := by
  induction c with
  | zero => rfl
  | succ c ih => simp [colA, qr_len, ih]
theorem diaB_len (v : List Wd) (c : Nat) : (diaB v c).length = v.length := by
  induction c with
  | zero => rfl
  | succ c ih => simp [diaB, qr_len, ih]
/-- the world while bytes are laid. -/
def MRel (p r : Nat) (f v : List Wd) (o : List UInt8) (w wr : World) : Prop :=
  (∃ zs, Blk wr (w.heap.size + 1 + 1) 46 zs ∧ zs.size = 64) ∧ Blk wr (w.heap.size + 1 + 1 + 1) 152 (cells64 f) ∧ Blk wr p 152 (cells64 v) ∧ Blk wr r 46 (cells8 o) ∧ Below w.heap.size w wr
theorem MRel.put {p r : Nat} {f v : List Wd} {o : List UInt8} {w wr : World} (h : MRel p r f v o w wr) (hr : w.heap.size + 1 + 1 + 1 < p) (hp : p < r) (i : Nat) (x : UInt8) :
    MRel p r f v (o.set i x) w (wr.setCell ⟨r, i, none⟩ (.int .u8 (x.toNat : Int))) := by
  obtain ⟨⟨zs, h1, hz⟩, h2, h3, h4, h5⟩ := h
  refine ⟨⟨zs, h1.far (by dsimp only; omega) _, hz⟩, h2.far (by dsimp only; omega) _, h3.far (by dsimp only; omega) _, ?_, h5.setCell (by dsimp only; omega) _⟩
  rw [← cells8_set]; exact h4.set_ i _
theorem MRel.drew {p r : Nat} {f v : List Wd} {o : List UInt8} {w wr : World} (h : MRel p r f v o w wr) : MRel p r f v o w wr.drew := by
  obtain ⟨⟨zs, h1, hz⟩, h2, h3, h4, h5⟩ := h
  exact ⟨⟨zs, h1, hz⟩, h2, h3, h4, h5.drew⟩
/-- the world between the steps. -/
def KRel (p : Nat) (f v : List Wd) (w wr : World) : Prop :=
  (∃ zs, Blk wr (w.heap.size + 1 + 1) 46 zs ∧ zs.size = 64) ∧ Blk wr (w.heap.size + 1 + 1 + 1) 152 (cells64 f) ∧ Blk wr p 152 (cells64 v) ∧ Below w.heap.size w wr
theorem KRel.step {p : Nat} {f v v' : List Wd} {w wr w1 : World} (h : KRel p f v w wr) (hp : w.heap.size + 1 + 1 + 1 < p) (hb : Below wr.heap.size wr w1) :
    KRel p f v' w (w1.setRow p (cells64 v')) ∧ Blk w1 p 152 (cells64 v) := by
  obtain ⟨⟨zs, h1, hz⟩, h2, h3, h5⟩ := h
  have h3' := h3.below hb h3.lt
  exact ⟨⟨⟨zs, (h1.below hb h1.lt).rowFar (by omega) _, hz⟩, (h2.below hb h2.lt).rowFar (by omega) _, h3'.row _, below_row (h5.trans (hb.mono h5.size)) (by omega) _⟩, h3'⟩

set_option maxRecDepth 100000 in
set_option maxHeartbeats 2000000 in
theorem rblock_any (k nonce : List UInt8) (n : Wd) (w : World) (hk : k.length = 32) (hn : nonce.length = 12) :
    Calls Tryd.prog 99 #[.agg (cells8 k), .agg (cells8 nonce), .int .u32 (nm n)] w fun e w' =>
      e = .returned (.agg (cells8 (chacha k nonce n))) ∧ Below w.heap.size w w' := by
  have HK := Lib.hid hk
  have HN := Lib.hid hn
  clear hk hn
  have hn0 := nm_nonneg n
  have hn1 := nm_lt n
  go_enter Tryd.func99, Tryd.ntmps99
  go_wp2
  have hR0 : GRel k nonce (putWs k 4 base16 0) w ((((w.alloc (.cells (cells8 k) 23)).alloc (.cells (cells8 nonce) 104)).alloc (.cells (cells8 (List.replicate 64 0)) 46)).alloc (.cells (cells64 base16) 152)) :=
    ⟨(((Blk.new w _ _).alloc _).alloc _).alloc _, ((Blk.newAt _ _ _ (by simp)).alloc _).alloc _, ⟨_, (Blk.newAt _ _ _ (by simp)).alloc _, by rw [cells8_size]; rfl⟩, Blk.newAt _ _ _ (by simp),
     ((((Below.refl _ _).alloc (by simp) _).alloc (by simp) _).alloc (by simp; omega) _).alloc (by simp; omega) _⟩
  change Code.wp _ _ _ _ ((((w.alloc (.cells (cells8 k) 23)).alloc (.cells (cells8 nonce) 104)).alloc (.cells (cells8 (List.replicate 64 0)) 46)).alloc (.cells (cells64 base16) 152))
  generalize (((w.alloc (.cells (cells8 k) 23)).alloc (.cells (cells8 nonce) 104)).alloc (.cells (cells8 (List.replicate 64 0)) 46)).alloc (.cells (cells64 base16) 152) = wa at *
  go_loopw [8] (fun i wr => ∃ j : Nat, j ≤ 8 ∧ i = .int .i64 j ∧ GRel k nonce (putWs k 4 base16 j) w wr) (fun i _ => 8 - (intOf i).toNat)
  case atStart => exact ⟨0, by omega, rfl, hR0⟩
  case round =>
    clear hR0
    obtain ⟨j, hj, rfl, hR⟩ := hrel
    by_cases hlt : j < 8
    · have hlt' : (j : Int) < 8 := by omega
      have hsl := run_sliceArr_all Tryd.underlying23 size8 w.heap.size 0 (by omega)
      have hcv := run_strBlk (cap := 32) HK.out hR.1
      have cj := (hR.2.2.2.1.cell (4 + j)).trans (cells64_get _ (4 + j) (by rw [putWs_len]; show 4 + j < 16; omega))
      have fj := hR.2.2.2.1.frozen (4 + j)
      go_wp2_with fail
      refine (rword_at k (4 * j) _ (by omega) (by have := HK.out; omega) (by have := HK.out; omega) _).mono ?_
      rintro e w' ⟨rfl, rfl⟩
      go_wp2
      go_roundw
      case rel => exact ⟨j + 1, by omega, by go_num, (hR.put (4 + j) (wdAt k (4 * j))).drew⟩
      case measure => simp [intOf]; omega
    · obtain rfl : j = 8 := by omega
      rw [show ((8 : Nat) : Int) = 8 from rfl]
      have cj := (hR.2.2.2.1.cell 12).trans (cells64_get _ 12 (by rw [putWs_len]; decide))
      have fj := hR.2.2.2.1.frozen 12
      go_wp2
      have hR2 := hR.put 12 n
      generalize wr.setCell { block := w.heap.size + 1 + 1 + 1, off := 12 } (.int .u64 (nm n)) = w2 at *
      clear hR cj fj
      go_loopw [9] (fun i wr => ∃ j : Nat, j ≤ 3 ∧ i = .int .i64 j ∧ GRel k nonce (putWs nonce 13 ((putWs k 4 base16 8).set 12 n) j) w wr) (fun i _ => 3 - (intOf i).toNat)
      case atStart => exact ⟨0, by omega, rfl, hR2⟩
      case round =>
        obtain ⟨j, hj, rfl, hR⟩ := hrel
        by_cases hlt : j < 3
        · have hlt' : (j : Int) < 3 := by omega
          have hsl := run_sliceArr_all Tryd.underlying104 size8 (w.heap.size + 1) 0 (by omega)
          have hcv := run_strBlk (cap := 12) HN.out hR.2.1
          have cj := (hR.2.2.2.1.cell (13 + j)).trans (cells64_get _ (13 + j) (by rw [putWs_len, List.length_set, putWs_len]; show 13 + j < 16; omega))
          have fj := hR.2.2.2.1.frozen (13 + j)
          go_wp2_with fail
          refine (rword_at nonce (4 * j) _ (by omega) (by have := HN.out; omega) (by have := HN.out; omega) _).mono ?_
          rintro e w' ⟨rfl, rfl⟩
          go_wp2
          go_roundw
          case rel => exact ⟨j + 1, by omega, by go_num, (hR.put (13 + j) (wdAt nonce (4 * j))).drew⟩
          case measure => simp [intOf]; omega
        · as_aux_lemma =>
          obtain rfl : j = 3 := by omega
          rw [show ((3 : Nat) : Int) = 3 from rfl]
          obtain ⟨h1, h2, hz, h4, h5⟩ := hR
          clear h1 h2
          have hfl := fst16_len k nonce n
          change Blk wr (w.heap.size + 1 + 1 + 1) 152 (cells64 (fst16 k nonce n)) at h4
          have hfin : chacha k nonce n = outs (rnds (fst16 k nonce n) 10) (fst16 k nonce n) 64 := rfl
          generalize fst16 k nonce n = f at *
          have HF := Lib.hid hfin
          have HLF := Lib.hid hfl
          have HS : Hid ((cells64 f).size = 16) := Lib.hid (by rw [cells64_size]; exact hfl)
          clear hfin hfl
          go_wp2_with (first | (refine wpList_loadB rfl 152 (.tmp 7) rfl (w.heap.size + 1 + 1 + 1) rfl h4 Tryd.underlying152 rfl size16q HS.out ?_) | (refine wpList_storeNew rfl 152 (.tmp 10) (.tmp 46) rfl wr wr.heap.size rfl rfl _ rfl rfl size16q HS.out rfl (cells64_one _) ?_))
          have hlt0 : w.heap.size + 1 + 1 + 1 < wr.heap.size := h4.lt
          have hR0 : KRel wr.heap.size f (rnds f 0) w (wr.alloc (.cells (cells64 f) 152)) := by
            obtain ⟨zs, hz1, hz2⟩ := hz
            exact ⟨⟨zs, hz1.alloc _, hz2⟩, h4.alloc _, Blk.new _ _ _, h5.alloc (by omega) _⟩
          clear hz h4 h5 HS
          generalize wr.alloc (.cells (cells64 f) 152) = wb at *
          generalize wr.heap.size = p at *
          have hp : w.heap.size + 1 + 1 + 1 < p := hlt0
          clear hlt0
          go_loopw [11] (fun i wr => ∃ j : Nat, j ≤ 10 ∧ i = .int .i64 j ∧ KRel p f (rnds f j) w wr) (fun i _ => 10 - (intOf i).toNat)
          case atStart => exact ⟨0, by omega, rfl, hR0⟩
          case round =>
            clear hR0
            obtain ⟨j, hj, rfl, hR⟩ := hrel
            by_cases hlt : j < 10
            · have hlt' : (j : Int) < 10 := by omega
              go_wp2
              obtain ⟨wo, hwo⟩ : ∃ wo : World, wo = wr := ⟨_, rfl⟩
              rw [← hwo] at hR ⊢
              clear hwo
              have HJ : Hid (rnds f (j + 1) = diaB (colA (rnds f j) 4) 4) := Lib.hid rfl
              have hlv : (rnds f j).length = 16 := by rw [rnds_len]; exact HLF.out
              generalize rnds f j = V at *
              have HLV := Lib.hid hlv
              clear hlv
              go_loopw [12] (fun t wr => ∃ c : Nat, c ≤ 4 ∧ t = .int .i64 c ∧ KRel p f (colA V c) w wr) (fun t _ => 4 - (intOf t).toNat)
              case atStart => exact ⟨0, by omega, rfl, hR⟩
              case round =>
                clear hR
                obtain ⟨c, hc, rfl, hR⟩ := hrel
                by_cases hlt2 : c < 4
                · have hlt2' : (c : Int) < 4 := by omega
                  have hl : (colA V c).length = 16 := by rw [colA_len]; exact HLV.out
                  have hfin : colA V (c + 1) = qr (colA V c) c (4 + c) (8 + c) (12 + c) := rfl
                  generalize colA V c = v at *
                  have HL := Lib.hid hl
                  have HS : Hid ((cells64 v).size = 16) := Lib.hid (by rw [cells64_size]; exact hl)
                  have HFI := Lib.hid hfin
                  clear hl hfin
                  have h3 := hR.2.2.1
                  go_wp2_with (refine wpList_loadB rfl 152 (.tmp 10) rfl p rfl h3 Tryd.underlying152 rfl size16q HS.out ?_)
                  refine (rstep_any c (4 + c) (8 + c) (12 + c) _ _ _ _ v _ (by omega) (by omega) (by omega) (by omega) HL.out (by omega) (by omega) (by omega) (by omega)).mono ?_
                  rintro e w1 ⟨rfl, hb1⟩
                  have hK := hR.step (v' := colA V (c + 1)) hp hb1
                  rw [← HFI.out]
                  have HS2 : Hid ((cells64 (colA V (c + 1))).size = 16) := Lib.hid (by rw [cells64_size, colA_len]; exact HLV.out)
                  obtain ⟨hK1, hK2⟩ := hK
                  have HK1 := Lib.hid hK1
                  clear hK1 hR hb1 h3
                  go_wp2_with (refine wpList_storeB rfl 152 (.tmp 10) (.tmp 63) rfl p _ rfl rfl hK2 size16q HS2.out HS.out (cells64_one _) ?_)
                  go_roundw
                  case rel => exact ⟨c + 1, by omega, by go_num, HK1.out⟩
                  case measure => simp [intOf]; omega
                · obtain rfl : c = 4 := by omega
                  rw [show ((4 : Nat) : Int) = 4 from rfl]
                  go_wp2
                  have hlv : (colA V 4).length = 16 := by rw [colA_len]; exact HLV.out
                  generalize colA V 4 = V at *
                  have HLV := Lib.hid hlv
                  clear hlv
                  obtain ⟨wo, hwo⟩ : ∃ wo : World, wo = wr := ⟨_, rfl⟩
                  rw [← hwo] at hR ⊢
                  clear hwo
                  go_loopw [13] (fun t wr => ∃ c : Nat, c ≤ 4 ∧ t = .int .i64 c ∧ KRel p f (diaB V c) w wr) (fun t _ => 4 - (intOf t).toNat)
                  case atStart => exact ⟨0, by omega, rfl, hR⟩
                  case round =>
                    clear hR
                    obtain ⟨c, hc, rfl, hR⟩ := hrel
                    by_cases hlt2 : c < 4
                    · have hlt2' : (c : Int) < 4 := by omega
                      have hl : (diaB V c).length = 16 := by rw [diaB_len]; exact HLV.out
                      have hfin : diaB V (c + 1) = qr (diaB V c) c (4 + (c + 1) % 4) (8 + (c + 2) % 4) (12 + (c + 3) % 4) := rfl
                      generalize diaB V c = v at *
                      have HL := Lib.hid hl
                      have HS : Hid ((cells64 v).size = 16) := Lib.hid (by rw [cells64_size]; exact hl)
                      have HFI := Lib.hid hfin
                      clear hl hfin
                      have h3 := hR.2.2.1
                      go_wp2_with (refine wpList_loadB rfl 152 (.tmp 10) rfl p rfl h3 Tryd.underlying152 rfl size16q HS.out ?_)
                      refine (rstep_any c (4 + (c + 1) % 4) (8 + (c + 2) % 4) (12 + (c + 3) % 4) _ _ _ _ v _ (by omega) (by omega) (by omega) (by omega) HL.out (by omega) (by omega) (by omega) (by omega)).mono ?_
                      rintro e w1 ⟨rfl, hb1⟩
                      have hK := hR.step (v' := diaB V (c + 1)) hp hb1
                      rw [← HFI.out]
                      have HS2 : Hid ((cells64 (diaB V (c + 1))).size = 16) := Lib.hid (by rw [cells64_size, diaB_len]; exact HLV.out)
                      obtain ⟨hK1, hK2⟩ := hK
                      have HK1 := Lib.hid hK1
                      clear hK1 hR hb1 h3
                      go_wp2_with (refine wpList_storeB rfl 152 (.tmp 10) (.tmp 82) rfl p _ rfl rfl hK2 size16q HS2.out HS.out (cells64_one _) ?_)
                      go_roundw
                      case rel => exact ⟨c + 1, by omega, by go_num, HK1.out⟩
                      case measure => simp [intOf]; omega
                    · obtain rfl : c = 4 := by omega
                      rw [show ((4 : Nat) : Int) = 4 from rfl]
                      rw [← HJ.out] at hR
                      go_wp2
                      go_roundw
                      case rel => exact ⟨j + 1, by omega, by go_num, hR⟩
                      case measure => simp [intOf]; omega
            · as_aux_lemma =>
              obtain rfl : j = 10 := by omega
              rw [show ((10 : Nat) : Int) = 10 from rfl]
              have hl : (rnds f 10).length = 16 := by rw [rnds_len]; exact HLF.out
              generalize rnds f 10 = v at *
              have HLV := Lib.hid hl
              clear hl
              go_wp2_with (refine wpList_storeNew rfl 46 (.tmp 14) (.tmp 83) rfl wr wr.heap.size rfl rfl _ rfl rfl size64r rfl rfl (cells8_one (List.replicate 64 0)) ?_)
              obtain ⟨⟨zs, hz1, hz2⟩, h2, h3, h5⟩ := hR
              have hr : p < wr.heap.size := h3.lt
              change Code.wp _ _ _ _ (wr.alloc (.cells (cells8 (outs v f 0)) 46))
              have hR1 : MRel p wr.heap.size f v (outs v f 0) w (wr.alloc (.cells (cells8 (outs v f 0)) 46)) :=
                ⟨⟨zs, hz1.alloc _, hz2⟩, h2.alloc _, h3.alloc _, Blk.new _ _ _, h5.alloc (by omega) _⟩
              clear hz1 hz2 h2 h3 h5
              generalize wr.alloc (.cells (cells8 (outs v f 0)) 46) = wb at *
              generalize wr.heap.size = r at *
              go_loopw [15] (fun i wr => ∃ j : Nat, j ≤ 16 ∧ i = .int .i64 j ∧ MRel p r f v (outs v f (4 * j)) w wr) (fun i _ => 16 - (intOf i).toNat)
              case atStart => exact ⟨0, by omega, rfl, hR1⟩
              case round =>
                clear hR1
                obtain ⟨i, hi, rfl, hR⟩ := hrel
                by_cases hlt : i < 16
                · have hlt' : (i : Int) < 16 := by omega
                  have hc := (hR.2.1.cell i).trans (cells64_get f i (by have := HLF.out; omega))
                  have hd := (hR.2.2.1.cell i).trans (cells64_get v i (by have := HLV.out; omega))
                  go_wp2
                  refine wp_region_still_lit (by kernel_rfl) (by kernel_rfl) ?_
                  change wpStill _ _ wr.drew _ _ _
                  repeat still_step
                  still_call (radd_any _ _ _)
                  repeat still_step
                  refine wpStill_nil ?_
                  have hR' := hR.drew
                  clear hR hc hd
                  go_wp2
                  change Code.wp _ _ _ _ wr.drew
                  generalize wr.drew = wo at *
                  obtain ⟨x, hx⟩ : ∃ x, x = gt v i + gt f i := ⟨_, rfl⟩
                  rw [← hx]
                  have HX := Lib.hid hx
                  clear hx
                  have hx0 := nm_nonneg x
                  have hx1 := nm_lt x
                  go_loopw [16, 17] (fun y t wr => ∃ j : Nat, j ≤ 4 ∧ t = .int .i64 j ∧ y = .int .u64 (nm x / 2 ^ (8 * j)) ∧ MRel p r f v (outs v f (4 * i + j)) w wr) (fun _ t _ => 4 - (intOf t).toNat)
                  case atStart => exact ⟨0, by omega, rfl, by simp, hR'⟩
                  case round =>
                    clear hR'
                    obtain ⟨j, hj, rfl, rfl, hR⟩ := hrel
                    by_cases hlt2 : j < 4
                    · have hlt2' : (j : Int) < 4 := by omega
                      have cj := (hR.2.2.2.1.cell (4 * i + j)).trans (cells8_get _ (4 * i + j) (by rw [outs_len]; omega))
                      have fj := hR.2.2.2.1.frozen (4 * i + j)
                      have hby := byteOf_eq' x j
                      have hnx : nm x / 2 ^ (8 * j) / 256 = nm x / 2 ^ (8 * (j + 1)) := by
                        rw [Int.ediv_ediv_of_nonneg (Int.pow_nonneg (by decide)), show (2 : Int) ^ (8 * (j + 1)) = 2 ^ (8 * j) * 256 from by rw [Nat.mul_add, Int.pow_add]; rfl]
                      have hy0 : 0 ≤ nm x / 2 ^ (8 * j) := Int.ediv_nonneg hx0 (Int.pow_nonneg (by decide))
                      have hy1 : nm x / 2 ^ (8 * j) < 4294967296 := Int.lt_of_le_of_lt (Int.ediv_le_self _ hx0) hx1
                      have HBY := Lib.hid hby
                      have HNX := Lib.hid hnx
                      clear hby hnx
                      have hbb := (byteOf x j).toNat_lt
                      generalize nm x / 2 ^ (8 * j) = Y at *
                      go_wp2
                      go_roundw
                      case rel =>
                        refine ⟨j + 1, by omega, by go_num, by rw [← HNX.out], ?_⟩
                        rw [HBY.out, HX.out]
                        have h1 : (4 * i + j) / 4 = i := by omega
                        have h2 : (4 * i + j) % 4 = j := by omega
                        have h := hR.put (by omega) (by omega) (4 * i + j) (byteOf (gt v i + gt f i) j)
                        have e : outs v f (4 * i + (j + 1)) = (outs v f (4 * i + j)).set (4 * i + j) (byteOf (gt v i + gt f i) j) := by
                          show (outs v f (4 * i + j)).set (4 * i + j) (byteOf (gt v ((4 * i + j) / 4) + gt f ((4 * i + j) / 4)) ((4 * i + j) % 4)) = _
                          rw [h1, h2]
                        rw [e]; exact h
                      case measure => simp [intOf]; omega
                    · obtain rfl : j = 4 := by omega
                      go_wp2
                      go_roundw
                      case rel => exact ⟨i + 1, by omega, by go_num, hR⟩
                      case measure => simp [intOf]; omega
                · as_aux_lemma =>
                  obtain rfl : i = 16 := by omega
                  obtain ⟨⟨zs, hz1, hz2⟩, h2, h3, hB, hbel⟩ := hR
                  have hs : (cells8 (outs v f 64)).size = 64 := by rw [cells8_size, outs_len]
                  have HS := Lib.hid hs
                  clear hs
                  go_wp2_with (first | (refine wpList_loadB rfl 46 (.tmp 14) rfl r rfl hB Tryd.underlying46 rfl size64r HS.out ?_) | (refine wpList_storeB rfl 46 (.tmp 6) (.tmp 109) rfl (w.heap.size + 1 + 1) _ rfl rfl hz1 size64r HS.out hz2 (cells8_one _) ?_))
                  rw [HF.out]
                  refine bodyPost_ret (results_B rfl _ (g := w.heap.size + 1 + 1) rfl (hz1.row _) Tryd.underlying46 rfl size64r HS.out) rfl ⟨rfl, below_row hbel (by omega) _⟩
end Go.Proofs.YtconhhhggckcbaaDoor
