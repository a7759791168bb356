/- Laws and walks that many claims share: Rtake, Rsum, Rkeyed. -/
import Derived.Test.YtconhhhggckcbaaDoorRmix
import Derived.Test.YtconhhhggckcbaaDoorEndB
import Derived.Test.YtconhhhggckcbaaDoorBaseB
/- The walks of the reference's take (layer 2) and of its small functions: the eight words, the rows, a sign's place; a block is taken in. -/
namespace Go.Proofs.YtconhhhggckcbaaDoor
open Go.RowKit

def ja (i : Nat) : Nat := if i < 4 then i else i - 4
def jb (i : Nat) : Nat := if i < 4 then i + 4 else 4 + (i - 4 + 1) % 4
def jc (i : Nat) : Nat := if i < 4 then i + 8 else 8 + (i - 4 + 2) % 4
def jd (i : Nat) : Nat := if i < 4 then i + 12 else 12 + (i - 4 + 3) % 4
/-- the first i mixes of a round. -/
def roundTo (m v : List Wd) (r : Nat) : Nat → List Wd
  | 0 => v
  | i + 1 => mixS (roundTo m v r i) (ja i) (jb i) (jc i) (jd i) (mw m r (2 * i)) (mw m r (2 * i + 1))
theorem roundTo_len (m v : List Wd) (r i : Nat) : (roundTo m v r i).length = v.length := by
  induction i with
  | zero => rfl
  | succ i ih => rw [roundTo, mixS_len, ih]
def rowTx : List (List UInt8) := [
  [48, 49, 50, 51, 52, 53, 54, 55, 56, 57, 97, 98, 99, 100, 101, 102], [101, 97, 52, 56, 57, 102, 100, 54, 49, 99, 48, 50, 98, 55, 53, 51], [98, 56, 99, 48, 53, 50, 102, 100, 97, 101, 51, 54, 55, 49, 57, 52],
  [55, 57, 51, 49, 100, 99, 98, 101, 50, 54, 53, 97, 52, 48, 102, 56], [57, 48, 53, 55, 50, 52, 97, 102, 101, 49, 98, 99, 54, 56, 51, 100], [50, 99, 54, 97, 48, 98, 56, 51, 52, 100, 55, 53, 102, 101, 49, 57],
  [99, 53, 49, 102, 101, 100, 52, 97, 48, 55, 54, 51, 57, 50, 56, 98], [100, 98, 55, 101, 99, 49, 51, 57, 53, 48, 102, 52, 56, 54, 50, 97], [54, 102, 101, 57, 98, 51, 48, 56, 99, 50, 100, 55, 49, 52, 97, 53],
  [97, 50, 56, 52, 55, 54, 49, 53, 102, 98, 57, 101, 51, 99, 100, 48]]
/-- the number of a sign. -/
def plc (b : UInt8) : Nat := if 97 ≤ b.toNat then b.toNat - 97 + 10 else b.toNat - 48
theorem plc_row : ∀ r, r < 10 → ∀ i, i < 16 → plc (bt (rowTx.getD r []) i) = sg r i ∧ 48 ≤ (bt (rowTx.getD r []) i).toNat := by decide
theorem rowTx_len : ∀ r, r < 10 → (rowTx.getD r []).length = 16 := by decide

set_option maxHeartbeats 400000 in
theorem place_any (b : UInt8) (w : World) (h : 48 ≤ b.toNat) :
    Calls Tryd.prog 112 #[.int .u8 b.toNat] w fun e w' => e = .returned (.int .i64 (plc b)) ∧ w' = w := by
  have hb := b.toNat_lt
  have HP : Hid (plc b = if 97 ≤ b.toNat then b.toNat - 97 + 10 else b.toNat - 48) := Lib.hid rfl
  by_cases h97 : 97 ≤ b.toNat
  · have h97' : (97 : Int) ≤ (b.toNat : Int) := by omega
    go_enter Tryd.func112, Tryd.ntmps112
    go_wp2
    go_ret
    exact ⟨ret_int (by rw [HP.out, if_pos h97]; omega), rfl⟩
  · have h97' : ¬ (97 : Int) ≤ (b.toNat : Int) := by omega
    go_enter Tryd.func112, Tryd.ntmps112
    go_wp2
    go_ret
    exact ⟨ret_int (by rw [HP.out, if_neg h97]; omega), rfl⟩

set_option maxRecDepth 100000 in
theorem eight_any (w : World) :
    Calls Tryd.prog 81 #[] w fun e w' => e = .returned (.agg (cells eightV)) ∧ Below w.heap.size w w' := by
  go_enter Tryd.func81, Tryd.ntmps81
  go_wp2
  change bodyPost _ _ _ _ _ (w.alloc (.cells (cells eightV) 115))
  refine bodyPost_ret (results_B rfl _ (g := w.heap.size) rfl (Blk.new w 115 (cells eightV)) Tryd.underlying115 rfl sz8 rfl) rfl ⟨rfl, (Below.refl _ _).alloc (Nat.le_refl _) _⟩
set_option maxRecDepth 100000 in
theorem rows_any (w : World) :
    Calls Tryd.prog 111 #[] w fun e w' => ∃ v, e = .returned v ∧ Strs w' v rowTx ∧ Below w.heap.size w w' := by
  go_enter Tryd.func111, Tryd.ntmps111
  go_wp2
  go_ret
  exact ⟨_, rfl, Strs.new w rowTx 9 10 _ rfl, (Below.refl _ _).alloc (Nat.le_refl _) _⟩

/-- the world while a block is taken in: what came in, the result's place, the sixteen words, the block's words. -/
def RV (n0 n1 n2 n3 : Nat) (h m v : List Wd) (w wr : World) : Prop :=
  Blk wr n0 115 (cells h) ∧ Blk wr n1 115 (cells (List.replicate 8 0)) ∧ Blk wr n2 148 (cells v) ∧ Blk wr n3 148 (cells m) ∧ Below n0 w wr ∧ n0 < n1 ∧ n1 < n2 ∧ n2 < n3
section
variable {n0 n1 n2 n3 : Nat} {h m v : List Wd} {w wr w1 : World}
theorem RV.drew (hR : RV n0 n1 n2 n3 h m v w wr) : RV n0 n1 n2 n3 h m v w wr.drew := by
  obtain ⟨h1, h2, h3, h4, h5, h6⟩ := hR
  exact ⟨h1, h2, h3, h4, h5.drew, h6⟩
theorem RV.below (hR : RV n0 n1 n2 n3 h m v w wr) (hb : Below wr.heap.size wr w1) : RV n0 n1 n2 n3 h m v w w1 := by
  obtain ⟨h1, h2, h3, h4, h5, h6⟩ := hR
  exact ⟨h1.below hb h1.lt, h2.below hb h2.lt, h3.below hb h3.lt, h4.below hb h4.lt, h5.trans (hb.mono (Nat.le_of_lt h1.lt)), h6⟩
theorem RV.putV (hR : RV n0 n1 n2 n3 h m v w wr) (i : Nat) (x : Wd) : RV n0 n1 n2 n3 h m (v.set i x) w (wr.setCell ⟨n2, i, none⟩ (.int .u32 (nm x))) := by
  obtain ⟨h1, h2, h3, h4, h5, h6⟩ := hR
  refine ⟨h1.far (by dsimp only; omega) _, h2.far (by dsimp only; omega) _, ?_, h4.far (by dsimp only; omega) _, h5.setCell (by dsimp only; omega) _, h6⟩
  rw [← cells_set]; exact h3.set_ i _
theorem RV.putM (hR : RV n0 n1 n2 n3 h m v w wr) (i : Nat) (x : Wd) : RV n0 n1 n2 n3 h (m.set i x) v w (wr.setCell ⟨n3, i, none⟩ (.int .u32 (nm x))) := by
  obtain ⟨h1, h2, h3, h4, h5, h6⟩ := hR
  refine ⟨h1.far (by dsimp only; omega) _, h2.far (by dsimp only; omega) _, h3.far (by dsimp only; omega) _, ?_, h5.setCell (by dsimp only; omega) _, h6⟩
  rw [← cells_set]; exact h4.set_ i _
theorem RV.putH (hR : RV n0 n1 n2 n3 h m v w wr) (i : Nat) (x : Wd) : RV n0 n1 n2 n3 (h.set i x) m v w (wr.setCell ⟨n0, i, none⟩ (.int .u32 (nm x))) := by
  obtain ⟨h1, h2, h3, h4, h5, h6⟩ := hR
  refine ⟨?_, h2.far (by dsimp only; omega) _, h3.far (by dsimp only; omega) _, h4.far (by dsimp only; omega) _, h5.setCell (by dsimp only; omega) _, h6⟩
  rw [← cells_set]; exact h1.set_ i _
theorem RV.rowV (hR : RV n0 n1 n2 n3 h m v w wr) (v' : List Wd) : RV n0 n1 n2 n3 h m v' w (wr.setRow n2 (cells v')) := by
  obtain ⟨h1, h2, h3, h4, h5, h6⟩ := hR
  exact ⟨h1.rowFar (by omega) _, h2.rowFar (by omega) _, h3.row _, h4.rowFar (by omega) _, below_row h5 (by omega) _, h6⟩
end
/-- the sixteen words, the first i of them laid. -/
def fillV (h : List Wd) : Nat → List Wd
  | 0 => List.replicate 16 0
  | i + 1 => (fillV h i).set i (if i < 8 then gt h i else gt eightV (i - 8))
theorem fillV_len (h : List Wd) (i : Nat) : (fillV h i).length = 16 := by
  induction i with
  | zero => rfl
  | succ i ih => simp [fillV, ih]
theorem fillV_16 (h : List Wd) (hh : h.length = 8) : fillV h 16 = h ++ eightV := by
  match h, hh with
  | [a, b, c, d, e, f, g, i], _ => rfl
theorem wd_sum (b0 b1 b2 b3 : UInt8) : IntKind.u32.wrap (IntKind.u32.wrap (IntKind.u32.wrap (IntKind.u32.wrap b0.toNat + IntKind.u32.wrap (IntKind.u32.wrap b1.toNat * 256)) + IntKind.u32.wrap (IntKind.u32.wrap b2.toNat * 65536)) + IntKind.u32.wrap (IntKind.u32.wrap b3.toNat * 16777216)) = nm (wd b0 b1 b2 b3) := by
  have := b0.toNat_lt; have := b1.toNat_lt; have := b2.toNat_lt; have := b3.toNat_lt
  rw [nm_wd]; simp only [wrap_u32]; omega

attribute [local go_sem] nm_xor str_byte
set_option maxRecDepth 100000 in
set_option maxHeartbeats 2000000 in
theorem rtake_any (h : List Wd) (b : List UInt8) (t : Nat) (last : Bool) (w : World) (hh : h.length = 8) (hb : b.length = 64) (ht : t < 2 ^ 62) :
    Calls Tryd.prog 101 #[.agg (cells h), .string ⟨b.toArray⟩, .int .u64 t, .bool last] w fun e w' =>
      e = .returned (.agg (cells (compress h b t last))) ∧ Below w.heap.size w w' := by
  have HH := Lib.hid hh
  have HB := Lib.hid hb
  clear hh hb
  go_enter Tryd.func101, Tryd.ntmps101
  go_upto_region 2 with (fail)
  change Code.wp _ _ _ _ ((((w.alloc (.cells (cells h) 115)).alloc (.cells (cells (List.replicate 8 0)) 115)).alloc (.cells (cells (fillV h 0)) 148)).alloc (.cells (cells (wordsTo b 0)) 148))
  have hR0 : RV w.heap.size (w.heap.size + 1) (w.heap.size + 1 + 1) (w.heap.size + 1 + 1 + 1) h (wordsTo b 0) (fillV h 0) w ((((w.alloc (.cells (cells h) 115)).alloc (.cells (cells (List.replicate 8 0)) 115)).alloc (.cells (cells (fillV h 0)) 148)).alloc (.cells (cells (wordsTo b 0)) 148)) :=
    ⟨(((Blk.new _ _ _).alloc _).alloc _).alloc _, ((Blk.newAt _ _ _ (by simp)).alloc _).alloc _, (Blk.newAt _ _ _ (by simp)).alloc _, Blk.newAt _ _ _ (by simp), ((((Below.refl _ _).alloc (Nat.le_refl _) _).alloc (by simp) _).alloc (by simp; omega) _).alloc (by simp; omega) _, by omega, by omega, by omega⟩
  generalize (((w.alloc (.cells (cells h) 115)).alloc (.cells (cells (List.replicate 8 0)) 115)).alloc (.cells (cells (fillV h 0)) 148)).alloc (.cells (cells (wordsTo b 0)) 148) = wa at *
  generalize w.heap.size + 1 + 1 + 1 = n3 at *
  generalize w.heap.size + 1 + 1 = n2 at *
  generalize w.heap.size + 1 = n1 at *
  obtain ⟨n0, hn0⟩ : ∃ n0, w.heap.size = n0 := ⟨_, rfl⟩
  rw [hn0] at hR0 ⊢
  have HN := Lib.hid hn0
  clear hn0
  go_wp2_with fail
  refine (eight_any _).mono ?_
  rintro e w2 ⟨rfl, hb2⟩
  have hR1 := hR0.below hb2
  clear hR0 hb2
  obtain ⟨E, hE⟩ : ∃ E, eightV = E := ⟨_, rfl⟩
  have HES : Hid ((cells E).size = 8) := Lib.hid (by rw [← hE]; rfl)
  have HEL : Hid (E.length = 8) := Lib.hid (by rw [← hE]; rfl)
  rw [hE]
  have HE := Lib.hid hE
  clear hE
  go_upto_region 3 with (refine wpList_storeNew rfl 115 (.tmp 11) (.tmp 20) rfl w2 w2.heap.size rfl rfl (cells E) rfl rfl sz8 HES.out rfl (cells_one _) ?_)
  have hF : Blk (w2.alloc (.cells (cells E) 115)) w2.heap.size 115 (cells E) := Blk.new _ _ _
  have hR2 := hR1.below ((Below.refl _ _).alloc (Nat.le_refl _) (.cells (cells E) 115))
  have hq : n3 < w2.heap.size := hR1.2.2.2.1.lt
  clear hR1
  generalize w2.alloc (.cells (cells E) 115) = w3 at *
  generalize w2.heap.size = q at *
  simp only [Act.put]
  go_wp2_with fail
  go_loopw [12] (fun j wr => ∃ i : Nat, i ≤ 16 ∧ j = .int .i64 i ∧ RV n0 n1 n2 n3 h (wordsTo b i) (fillV h i) w wr ∧ Blk wr q 115 (cells E)) (fun j _ => 16 - (intOf j).toNat)
  case atStart => exact ⟨0, by omega, rfl, hR2, hF⟩
  case round =>
    clear hR2 hF
    obtain ⟨i, hi, rfl, hR, hF⟩ := hrel
    by_cases hlt : i < 16
    · as_aux_lemma =>
      have hlt' : (i : Int) < 16 := by omega
      have hn := hR.2.2.2.2.2
      have cm := (hR.2.2.2.1.cell i).trans (cells_get _ i (by rw [wordsTo_len]; exact hlt))
      have fm := hR.2.2.2.1.frozen i
      have hl0 : b.length = 64 := HB.out
      have hv0 : 4 * i < 64 := by omega
      have hv1 : 4 * i + 1 < 64 := by omega
      have hv2 : 4 * i + 2 < 64 := by omega
      have hv3 : 4 * i + 3 < 64 := by omega
      have HW1 : Hid (wordsTo b (i + 1) = (wordsTo b i).set i (wd (bt b (4 * i)) (bt b (4 * i + 1)) (bt b (4 * i + 2)) (bt b (4 * i + 3)))) := Lib.hid rfl
      have HW2 : Hid (fillV h (i + 1) = (fillV h i).set i (if i < 8 then gt h i else gt eightV (i - 8))) := Lib.hid rfl
      have HFL : Hid ((fillV h i).length = 16) := Lib.hid (fillV_len h i)
      generalize wordsTo b i = M at *
      generalize fillV h i = V at *
      have w0 : IntKind.i64.wrap (4 * (i : Int)) = 4 * (i : Int) := IntWalk.i64_in _ (by omega)
      have w1 : IntKind.i64.wrap (4 * (i : Int) + 1) = 4 * (i : Int) + 1 := IntWalk.i64_in _ (by omega)
      have w2 : IntKind.i64.wrap (4 * (i : Int) + 2) = 4 * (i : Int) + 2 := IntWalk.i64_in _ (by omega)
      have w3 : IntKind.i64.wrap (4 * (i : Int) + 3) = 4 * (i : Int) + 3 := IntWalk.i64_in _ (by omega)
      have e0 : (4 * (i : Int)).toNat = 4 * i := by omega
      have e1 : (4 * (i : Int) + 1).toNat = 4 * i + 1 := by omega
      have e2 : (4 * (i : Int) + 2).toNat = 4 * i + 2 := by omega
      have e3 : (4 * (i : Int) + 3).toNat = 4 * i + 3 := by omega
      have z0 : 0 ≤ 4 * (i : Int) := by omega
      have z1 : 0 ≤ 4 * (i : Int) + 1 := by omega
      have z2 : 0 ≤ 4 * (i : Int) + 2 := by omega
      have z3 : 0 ≤ 4 * (i : Int) + 3 := by omega
      have q0 : 4 * (i : Int) < 64 := by omega
      have q1 : 4 * (i : Int) + 1 < 64 := by omega
      have q2 : 4 * (i : Int) + 2 < 64 := by omega
      have q3 : 4 * (i : Int) + 3 < 64 := by omega
      go_wp2
      refine wp_region_still_tail 31 (by kernel_rfl) (by kernel_rfl) ?_
      simp only [List.take_succ_cons, List.take_zero, List.drop_succ_cons, List.drop_zero]
      change wpStill _ _ wr.drew _ _ _
      repeat still_step
      refine wpStill_nil ?_
      change wpList _ _ _ _ _ wr.drew
      rw [wd_sum]
      generalize wd (bt b (4 * i)) (bt b (4 * i + 1)) (bt b (4 * i + 2)) (bt b (4 * i + 3)) = x at HW1 ⊢
      clear w0 w1 w2 w3 e0 e1 e2 e3 z0 z1 z2 z3 q0 q1 q2 q3 hv0 hv1 hv2 hv3 hl0
      go_upto_region 7 with (fail)
      have hR1 := (hR.putM i x).drew
      have hF1 := (hF.far (p := ⟨n3, i, none⟩) (by dsimp only; omega) (.int .u32 (nm x))).drew
      clear hR hF cm fm
      generalize (wr.setCell ⟨n3, i, none⟩ (.int .u32 (nm x))).drew = wx at *
      have cv := (hR1.2.2.1.cell i).trans (cells_get V i (by have := HFL.out; omega))
      have fv := hR1.2.2.1.frozen i
      by_cases h8 : i < 8
      · have h8' : (i : Int) < 8 := by omega
        have ch := (hR1.1.cell i).trans (cells_get h i (by have := HH.out; omega))
        go_wp2
        go_roundw
        case rel =>
          refine ⟨i + 1, by omega, by go_num, ?_, hF1.far (by dsimp only; omega) _⟩
          rw [HW1.out, HW2.out, if_pos h8]
          exact hR1.putV i _
        case measure => simp [intOf]; omega
      · have h8' : ¬ (i : Int) < 8 := by omega
        have ch := (hF1.cell (i - 8)).trans (cells_get E (i - 8) (by have := HEL.out; omega))
        go_wp2
        go_roundw
        case rel =>
          refine ⟨i + 1, by omega, by go_num, ?_, hF1.far (by dsimp only; omega) _⟩
          rw [HW1.out, HW2.out, if_neg h8, HE.out]
          exact hR1.putV i _
        case measure => simp [intOf]; omega
    · obtain rfl : i = 16 := by omega
      have HC : Hid (compress h b t last = foldTo h (roundsS (wordsTo b 16) (startV h t last) 10) 8) := Lib.hid rfl
      have hM : (wordsTo b 16).length = 16 := wordsTo_len b 16
      rw [fillV_16 h HH.out] at hR
      clear hF
      generalize wordsTo b 16 = m at *
      have HM := Lib.hid hM
      clear hM
      obtain ⟨v1, hv1⟩ : ∃ v1, v1 = h ++ eightV := ⟨_, rfl⟩
      have hl1 : v1.length = 16 := by rw [hv1, List.length_append, HH.out]; rfl
      rw [← hv1] at hR
      have HV1 := Lib.hid hv1
      clear hv1
      have c12 := (hR.2.2.1.cell 12).trans (cells_get v1 12 (by omega))
      have f12 := hR.2.2.1.frozen 12
      have HL1 := Lib.hid hl1
      clear hl1
      rw [show ((16 : Nat) : Int) = 16 from rfl]
      go_upto_region 11 with (fail)
      have hu1 : (t : Int) % 4294967296 = nm (BitVec.ofNat 32 t) := by rw [← wrap_u32, u32_nat]
      rw [hu1, nm_xor]
      clear hu1
      have HSV : Hid (startV h t last = (if last then ((v1.set 12 (gt v1 12 ^^^ BitVec.ofNat 32 t)).set 13 (gt (v1.set 12 (gt v1 12 ^^^ BitVec.ofNat 32 t)) 13 ^^^ BitVec.ofNat 32 (t / 4294967296))).set 14 (~~~ (gt ((v1.set 12 (gt v1 12 ^^^ BitVec.ofNat 32 t)).set 13 (gt (v1.set 12 (gt v1 12 ^^^ BitVec.ofNat 32 t)) 13 ^^^ BitVec.ofNat 32 (t / 4294967296))) 14)) else ((v1.set 12 (gt v1 12 ^^^ BitVec.ofNat 32 t)).set 13 (gt (v1.set 12 (gt v1 12 ^^^ BitVec.ofNat 32 t)) 13 ^^^ BitVec.ofNat 32 (t / 4294967296))))) := Lib.hid (by rw [HV1.out]; rfl)
      have hR2 := hR.putV 12 (gt v1 12 ^^^ BitVec.ofNat 32 t)
      have HL2 : Hid ((v1.set 12 (gt v1 12 ^^^ BitVec.ofNat 32 t)).length = 16) := Lib.hid (by rw [List.length_set]; exact HL1.out)
      generalize v1.set 12 (gt v1 12 ^^^ BitVec.ofNat 32 t) = v2 at *
      generalize wr.setCell ⟨n2, 12, none⟩ (.int .u32 (nm (gt v1 12 ^^^ BitVec.ofNat 32 t))) = wb at *
      clear c12 f12 hR
      have c13 := (hR2.2.2.1.cell 13).trans (cells_get v2 13 (by have := HL2.out; omega))
      have f13 := hR2.2.2.1.frozen 13
      have HU2 : Hid ((t : Int) / 4294967296 = nm (BitVec.ofNat 32 (t / 4294967296))) := Lib.hid (by rw [← u32_nat (t / 4294967296), wrap_u32]; omega)
      go_upto_if 83 with (fail)
      rw [HU2.out, nm_xor]
      clear HU2
      have hR3 := hR2.putV 13 (gt v2 13 ^^^ BitVec.ofNat 32 (t / 4294967296))
      have HL3 : Hid ((v2.set 13 (gt v2 13 ^^^ BitVec.ofNat 32 (t / 4294967296))).length = 16) := Lib.hid (by rw [List.length_set]; exact HL2.out)
      generalize v2.set 13 (gt v2 13 ^^^ BitVec.ofNat 32 (t / 4294967296)) = v3 at *
      generalize wb.setCell ⟨n2, 13, none⟩ (.int .u32 (nm (gt v2 13 ^^^ BitVec.ofNat 32 (t / 4294967296)))) = wc at *
      clear c13 f13 hR2
      go_cut [] from 84 to 87 (fun wx => RV n0 n1 n2 n3 h m (startV h t last) w wx)
      case first =>
        as_aux_lemma =>
        have c14 := (hR3.2.2.1.cell 14).trans (cells_get v3 14 (by have := HL3.out; omega))
        have f14 := hR3.2.2.1.frozen 14
        have hx0 := nm_nonneg (gt v3 14)
        have hx1 := nm_lt (gt v3 14)
        have HX : Hid (4294967295 - nm (gt v3 14) = nm (~~~ (gt v3 14))) := Lib.hid (by unfold nm; rw [BitVec.toNat_not]; have := (gt v3 14).isLt; omega)
        cases last
        · go_wp2
          go_meet
          rw [HSV.out]
          exact hR3
        · go_wp2
          go_meet
          rw [HSV.out, HX.out]
          have h9 := hR3.putV 14 (~~~ (gt v3 14))
          simpa using h9
      case rest =>
        clear hR3 HSV
        have HLV : Hid ((startV h t last).length = 16) := Lib.hid (startV_len h t last HH.out)
        generalize startV h t last = V at *
        go_wp2_with fail
        go_loopw [13] (fun j wr => ∃ r : Nat, r ≤ 10 ∧ j = .int .i64 r ∧ RV n0 n1 n2 n3 h m (roundsS m V r) w wr) (fun j _ => 10 - (intOf j).toNat)
        case atStart => exact ⟨0, by omega, rfl, hcut⟩
        case round =>
          clear hcut
          obtain ⟨r, hr, rfl, hR⟩ := hrel
          by_cases hlt : r < 10
          · as_aux_lemma =>
            have hlt' : (r : Int) < 10 := by omega
            have HNX : Hid (roundsS m V (r + 1) = roundTo m (roundsS m V r) r 8) := Lib.hid rfl
            have HL0 : Hid ((roundsS m V r).length = 16) := Lib.hid (by rw [roundsS_len]; exact HLV.out)
            generalize roundsS m V r = v0 at *
            go_wp2_with fail
            refine (rows_any _).mono ?_
            rintro e w4 ⟨v, rfl, hS, hb4⟩
            have hR4 := hR.below hb4
            clear hR hb4
            rcases hS with ⟨_, h2⟩ | ⟨g4, o4, c4, rfl, h2, h3⟩
            · cases h2
            · have hc4 := h3 r hlt
              have HRL : Hid ((rowTx.getD r []).length = 16) := Lib.hid (rowTx_len r hlt)
              have HRP := Lib.hid (plc_row r hlt)
              have HSL := Lib.hid (sig_lt r hlt)
              rw [show rowTx.length = 10 from rfl]
              unfold tx at hc4
              generalize rowTx.getD r [] = R at *
              clear h2 h3
              go_wp2_with fail
              clear hc4
              go_loopw [15] (fun j wr => ∃ i : Nat, i ≤ 8 ∧ j = .int .i64 i ∧ RV n0 n1 n2 n3 h m (roundTo m v0 r i) w wr) (fun j _ => 8 - (intOf j).toNat)
              case atStart => exact ⟨0, by omega, rfl, hR4⟩
              case round =>
                clear hR4
                obtain ⟨i, hi, rfl, hR⟩ := hrel
                by_cases hlt2 : i < 8
                · have hlt2' : (i : Int) < 8 := by omega
                  obtain ⟨p1, p2⟩ := HRP.out (2 * i) (by omega)
                  obtain ⟨p3, p4⟩ := HRP.out (2 * i + 1) (by omega)
                  have s1 := HSL.out (2 * i) (by omega)
                  have s2 := HSL.out (2 * i + 1) (by omega)
                  rw [← p1] at s1
                  rw [← p3] at s2
                  have HN2 : Hid (roundTo m v0 r (i + 1) = mixS (roundTo m v0 r i) (ja i) (jb i) (jc i) (jd i) (gt m (plc (bt R (2 * i)))) (gt m (plc (bt R (2 * i + 1))))) := Lib.hid (by rw [p1, p3]; rfl)
                  have HLi : Hid ((roundTo m v0 r i).length = 16) := Lib.hid (by rw [roundTo_len]; exact HL0.out)
                  generalize roundTo m v0 r i = vi at *
                  have m1 := (hR.2.2.2.1.cell (plc (bt R (2 * i)))).trans (cells_get m _ (by have := HM.out; omega))
                  have m2 := (hR.2.2.2.1.cell (plc (bt R (2 * i + 1)))).trans (cells_get m _ (by have := HM.out; omega))
                  have HP1 := Lib.hid p2
                  have HP2 := Lib.hid p4
                  clear p1 p2 p3 p4
                  have hrl : R.length = 16 := HRL.out
                  have hv0 : 2 * i < 16 := by omega
                  have hv1 : 2 * i + 1 < 16 := by omega
                  have w0 : IntKind.i64.wrap (2 * (i : Int)) = 2 * (i : Int) := IntWalk.i64_in _ (by omega)
                  have w1 : IntKind.i64.wrap (2 * (i : Int) + 1) = 2 * (i : Int) + 1 := IntWalk.i64_in _ (by omega)
                  have e0 : (2 * (i : Int)).toNat = 2 * i := by omega
                  have e1 : (2 * (i : Int) + 1).toNat = 2 * i + 1 := by omega
                  have z0 : 0 ≤ 2 * (i : Int) := by omega
                  have z1 : 0 ≤ 2 * (i : Int) + 1 := by omega
                  have q0 : 2 * (i : Int) < 16 := by omega
                  have q1 : 2 * (i : Int) + 1 < 16 := by omega
                  have s1' : ((plc (bt R (2 * i)) : Nat) : Int) < 16 := by omega
                  have s2' : ((plc (bt R (2 * i + 1)) : Nat) : Int) < 16 := by omega
                  go_wp2
                  refine wp_region_still_lit (by kernel_rfl) (by kernel_rfl) ?_
                  change wpStill _ _ wr.drew _ _ _
                  repeat still_step
                  still_call (place_any _ _ HP1.out)
                  repeat still_step
                  still_call (place_any _ _ HP2.out)
                  repeat still_step
                  refine wpStill_nil ?_
                  change Exit.then _ _ Exit.normal _ wr.drew
                  have hR1 := hR.drew
                  clear hR m1 m2 w0 w1 e0 e1 z0 z1 q0 q1 s1' s2' hrl hv0 hv1 s1 s2 HP1 HP2
                  generalize wr.drew = wy at *
                  generalize gt m (plc (bt R (2 * i))) = x at *
                  generalize gt m (plc (bt R (2 * i + 1))) = y at *
                  have HS1 : Hid ((cells vi).size = 16) := Lib.hid (by rw [cells_size]; exact HLi.out)
                  by_cases h4 : i < 4
                  · have h4' : (i : Int) < 4 := by omega
                    go_wp2_with (refine wpList_loadB (cs := cells vi) rfl 148 (.tmp 9) rfl n2 rfl hR1.2.2.1 Tryd.underlying148 rfl size16m HS1.out ?_)
                    refine (rmix_any (ja i) (jb i) (jc i) (jd i) _ _ _ _ x y vi _ (by unfold ja; rw [if_pos h4]; omega) (by unfold jb; rw [if_pos h4]; omega) (by unfold jc; rw [if_pos h4]; omega) (by unfold jd; rw [if_pos h4]; omega) HLi.out (by unfold ja; rw [if_pos h4]) (by unfold jb; rw [if_pos h4]; omega) (by unfold jc; rw [if_pos h4]; omega) (by unfold jd; rw [if_pos h4]; omega)).mono ?_
                    rintro e w5 ⟨rfl, hb5⟩
                    rw [← HN2.out]
                    have hR5 := hR1.below hb5
                    clear hb5 hR1
                    have HS2 : Hid ((cells (roundTo m v0 r (i + 1))).size = 16) := Lib.hid (by rw [cells_size, roundTo_len]; exact HL0.out)
                    obtain ⟨vj, hvj⟩ : ∃ vj, roundTo m v0 r (i + 1) = vj := ⟨_, rfl⟩
                    rw [hvj] at HS2 ⊢
                    have HVJ := Lib.hid hvj
                    clear hvj HN2
                    go_wp2_with (refine wpList_storeB rfl 148 (.tmp 9) (.tmp 127) rfl n2 (cells vj) rfl rfl hR5.2.2.1 size16m HS2.out HS1.out (cells_one _) ?_)
                    go_roundw
                    case rel => exact ⟨i + 1, by omega, by go_num, by rw [HVJ.out]; exact hR5.rowV vj⟩
                    case measure => simp [intOf]; omega
                  · have h4' : ¬ (i : Int) < 4 := by omega
                    go_wp2_with (refine wpList_loadB (cs := cells vi) rfl 148 (.tmp 9) rfl n2 rfl hR1.2.2.1 Tryd.underlying148 rfl size16m HS1.out ?_)
                    refine (rmix_any (ja i) (jb i) (jc i) (jd i) _ _ _ _ x y vi _ (by unfold ja; rw [if_neg h4]; omega) (by unfold jb; rw [if_neg h4]; omega) (by unfold jc; rw [if_neg h4]; omega) (by unfold jd; rw [if_neg h4]; omega) HLi.out (by unfold ja; rw [if_neg h4]; omega) (by unfold jb; rw [if_neg h4]; omega) (by unfold jc; rw [if_neg h4]; omega) (by unfold jd; rw [if_neg h4]; omega)).mono ?_
                    rintro e w5 ⟨rfl, hb5⟩
                    rw [← HN2.out]
                    have hR5 := hR1.below hb5
                    clear hb5 hR1
                    have HS2 : Hid ((cells (roundTo m v0 r (i + 1))).size = 16) := Lib.hid (by rw [cells_size, roundTo_len]; exact HL0.out)
                    obtain ⟨vj, hvj⟩ : ∃ vj, roundTo m v0 r (i + 1) = vj := ⟨_, rfl⟩
                    rw [hvj] at HS2 ⊢
                    have HVJ := Lib.hid hvj
                    clear hvj HN2
                    go_wp2_with (refine wpList_storeB rfl 148 (.tmp 9) (.tmp 146) rfl n2 (cells vj) rfl rfl hR5.2.2.1 size16m HS2.out HS1.out (cells_one _) ?_)
                    go_roundw
                    case rel => exact ⟨i + 1, by omega, by go_num, by rw [HVJ.out]; exact hR5.rowV vj⟩
                    case measure => simp [intOf]; omega
                · obtain rfl : i = 8 := by omega
                  go_wp2
                  go_roundw
                  case rel => exact ⟨r + 1, by omega, by go_num, by rw [HNX.out]; exact hR⟩
                  case measure => simp [intOf]; omega
          · as_aux_lemma =>
            obtain rfl : r = 10 := by omega
            rw [show ((10 : Nat) : Int) = 10 from rfl]
            have HLW : Hid ((roundsS m V 10).length = 16) := Lib.hid (by rw [roundsS_len]; exact HLV.out)
            generalize roundsS m V 10 = v at *
            go_wp2_with fail
            go_loopw [19] (fun j wr => ∃ i : Nat, i ≤ 8 ∧ j = .int .i64 i ∧ RV n0 n1 n2 n3 (foldTo h v i) m v w wr) (fun j _ => 8 - (intOf j).toNat)
            case atStart => exact ⟨0, by omega, rfl, hR⟩
            case round =>
              clear hR
              obtain ⟨i, hi, rfl, hR⟩ := hrel
              by_cases hlt : i < 8
              · as_aux_lemma =>
                have hlt' : (i : Int) < 8 := by omega
                have hl8 : (foldTo h v i).length = 8 := by rw [foldTo_len]; exact HH.out
                have ch := (hR.1.cell i).trans (cells_get _ i (by omega))
                rw [foldTo_at h v i i (Nat.le_refl _) (by have := HH.out; omega)] at ch
                have fh := hR.1.frozen i
                have cv := (hR.2.2.1.cell i).trans (cells_get v i (by have := HLW.out; omega))
                have cv8 := (hR.2.2.1.cell (i + 8)).trans (cells_get v (i + 8) (by have := HLW.out; omega))
                have w1 : IntKind.i64.wrap ((i : Int) + 8) = (i : Int) + 8 := IntWalk.i64_in _ (by omega)
                have e1 : ((i : Int) + 8).toNat = i + 8 := by omega
                have z1 : 0 ≤ (i : Int) + 8 := by omega
                have q1 : (i : Int) + 8 < 16 := by omega
                have q2 : (i : Int) < 16 := by omega
                have HNX : Hid (foldTo h v (i + 1) = (foldTo h v i).set i (gt h i ^^^ gt v i ^^^ gt v (i + 8))) := Lib.hid (by rw [BitVec.xor_assoc]; rfl)
                generalize foldTo h v i = fo at *
                have HL8 := Lib.hid hl8
                clear hl8
                go_wp2
                refine wp_region_still_tail 14 (by kernel_rfl) (by kernel_rfl) ?_
                simp only [List.take_succ_cons, List.take_zero, List.drop_succ_cons, List.drop_zero]
                change wpStill _ _ wr.drew _ _ _
                repeat still_step
                refine wpStill_nil ?_
                change wpList _ _ _ _ _ wr.drew
                clear w1 e1 z1 q1 cv cv8
                go_wp2
                go_roundw
                case rel =>
                  refine ⟨i + 1, by omega, by go_num, ?_⟩
                  rw [HNX.out]
                  exact (hR.putH i _).drew
                case measure => simp [intOf]; omega
              · as_aux_lemma =>
                obtain rfl : i = 8 := by omega
                rw [← HC.out] at hR
                have HS2 : Hid ((cells (compress h b t last)).size = 8) := Lib.hid (by rw [cells_size, compress_len]; exact HH.out)
                have HSZ : Hid ((cells (List.replicate 8 0)).size = 8) := Lib.hid (by rw [cells_size, List.length_replicate])
                obtain ⟨D, hD⟩ : ∃ D, compress h b t last = D := ⟨_, rfl⟩
                rw [hD] at hR HS2
                have HD := Lib.hid hD
                clear hD HC
                go_wp2_with (first | (refine wpList_loadB (cs := cells D) rfl 115 (.tmp 4) rfl n0 rfl hR.1 Tryd.underlying115 rfl sz8 HS2.out ?_) | (refine wpList_storeB rfl 115 (.tmp 8) (.tmp 165) rfl n1 (cells D) rfl rfl hR.2.1 sz8 HS2.out HSZ.out (cells_one _) ?_))
                refine bodyPost_ret (results_B rfl _ (g := n1) rfl (hR.2.1.row _) Tryd.underlying115 rfl sz8 HS2.out) rfl ⟨by rw [HD.out], by rw [HN.out]; exact below_row hR.2.2.2.2.1 (Nat.le_of_lt hR.2.2.2.2.2.1) _⟩
end Go.Proofs.YtconhhhggckcbaaDoor
/- The walks of the reference's digest, Sum, Keyed and One (layer 2). -/
namespace Go.Proofs.YtconhhhggckcbaaDoor
open Go.RowKit

attribute [local go_sem] str_app str_byte

set_option maxRecDepth 100000 in
set_option maxHeartbeats 400000 in
theorem joined_any (l : List (List UInt8)) (v : Value) (w : World) (hS : Strs w v l) (hl : l.flatten.length < 2 ^ 60) (hn : l.length < 2 ^ 60) :
    Calls Tryd.prog 83 #[v] w fun e w' => e = .returned (.string ⟨l.flatten.toArray⟩) ∧ w' = w := by
  obtain ⟨a, c, rfl⟩ := hS.len
  have HS := Lib.hid hS
  clear hS
  go_enter Tryd.func83, Tryd.ntmps83
  go_wp2
  go_loop [3, 4] (fun t i => ∃ k : Nat, k ≤ l.length ∧ i = .int .i64 k ∧ t = .string ⟨(joinTo l k).toArray⟩) (fun _ i => l.length - (intOf i).toNat)
  case atStart => exact ⟨0, by omega, rfl, rfl⟩
  case round =>
    obtain ⟨k, hk, rfl, rfl⟩ := hrel
    by_cases hlt : k < l.length
    · have hlt' : (k : Int) < l.length := by omega
      rcases HS.out with ⟨_, h2⟩ | ⟨b, o, c', h1, h2, h3⟩
      · subst h2; simp at hlt
      · injection h1 with h1a _ h1c
        subst h1a h1c
        have hc := h3 k hlt
        clear h3
        have hj := joinTo_le l k
        have hj2 := joinTo_le l (k + 1)
        have HJ := Lib.hid (joinTo_succ l k hlt)
        rw [← HJ.out, List.length_append] at hj2
        generalize l.getD k [] = s at *
        unfold tx at hc
        generalize joinTo l k = p at *
        go_wp2
        go_round
        case rel => exact ⟨k + 1, by omega, by go_num, by rw [← HJ.out]⟩
        case measure => simp [intOf]; omega
    · obtain rfl : k = l.length := by omega
      rw [joinTo_all]
      go_wp2
      go_ret
      exact ⟨rfl, rfl⟩

theorem fill64 (s : List UInt8) : s ++ List.replicate (64 - s.length) 0 = pad64 s := rfl
theorem full_pos (n q : Nat) (h0 : 64 * q < n ∨ q = 0) (h : n ≤ 64 * q + 64) : full n = q := by unfold full; omega
/-- the world while digests are made. -/
def DRel (n0 n1 : Nat) (h : List Wd) (w wr : World) : Prop := Blk wr n0 115 (cells h) ∧ Blk wr n1 73 (cells8 (List.replicate 32 0)) ∧ Below n0 w wr ∧ n0 < n1
theorem DRel.below {n0 n1 : Nat} {h : List Wd} {w wr w1 : World} (hR : DRel n0 n1 h w wr) (hb : Below wr.heap.size wr w1) : DRel n0 n1 h w w1 := by
  obtain ⟨h1, h2, h3, h4⟩ := hR
  exact ⟨h1.below hb h1.lt, h2.below hb h2.lt, h3.trans (hb.mono (Nat.le_of_lt h1.lt)), h4⟩
theorem DRel.row {n0 n1 : Nat} {h : List Wd} {w wr : World} (hR : DRel n0 n1 h w wr) (h' : List Wd) : DRel n0 n1 h' w (wr.setRow n0 (cells h')) := by
  obtain ⟨h1, h2, h3, h4⟩ := hR
  exact ⟨h1.row _, h2.rowFar (by omega) _, below_row h3 (Nat.le_refl _) _, h4⟩

theorem div256 (x : Wd) (k : Nat) : nm x / 2 ^ (8 * k) / 256 = nm x / 2 ^ (8 * (k + 1)) := by
  have e : (2 : Int) ^ (8 * (k + 1)) = 2 ^ (8 * k) * 256 := by rw [show 8 * (k + 1) = 8 * k + 8 by omega, Int.pow_add]; rfl
  rw [e, Int.ediv_ediv_of_nonneg (Int.le_of_lt (Int.pow_pos (by omega)))]
theorem div_bd (x : Wd) (k : Nat) : 0 ≤ nm x / 2 ^ (8 * k) ∧ nm x / 2 ^ (8 * k) < 4294967296 := by
  have h0 := nm_nonneg x
  have h1 := nm_lt x
  have h2 := Int.ediv_nonneg h0 (Int.le_of_lt (Int.pow_pos (by omega : (0 : Int) < 2) : (0 : Int) < 2 ^ (8 * k)))
  have h3 := Int.ediv_le_self (2 ^ (8 * k)) h0
  omega
set_option maxRecDepth 100000 in
set_option maxHeartbeats 2000000 in
theorem digest_any (h0 : List Wd) (s : List UInt8) (w : World) (hh : h0.length = 8) (hs : s.length < 2 ^ 60) :
    Calls Tryd.prog 82 #[.agg (cells h0), .string ⟨s.toArray⟩] w fun e w' =>
      e = .returned (.agg (cells8 (outD (blake h0 s) 32))) ∧ Below w.heap.size w w' := by
  have HH := Lib.hid hh
  clear hh
  go_enter Tryd.func82, Tryd.ntmps82
  go_upto_region 1 with (fail)
  change Code.wp _ _ _ _ ((w.alloc (.cells (cells h0) 115)).alloc (.cells (cells8 (List.replicate 32 0)) 73))
  have hR0 : DRel w.heap.size (w.heap.size + 1) h0 w ((w.alloc (.cells (cells h0) 115)).alloc (.cells (cells8 (List.replicate 32 0)) 73)) :=
    ⟨(Blk.new _ _ _).alloc _, Blk.newAt _ _ _ (by simp), ((Below.refl _ _).alloc (Nat.le_refl _) _).alloc (by simp) _, by omega⟩
  generalize (w.alloc (.cells (cells h0) 115)).alloc (.cells (cells8 (List.replicate 32 0)) 73) = wa at *
  generalize w.heap.size + 1 = n1 at *
  obtain ⟨n0, hn0⟩ : ∃ n0, w.heap.size = n0 := ⟨_, rfl⟩
  rw [hn0] at hR0 ⊢
  have HN := Lib.hid hn0
  clear hn0
  go_wp2_with fail
  go_loopw [5] (fun t wr => ∃ q : Nat, (64 * q < s.length ∨ q = 0) ∧ t = .int .i64 ((64 * q : Nat) : Int) ∧ DRel n0 n1 (hashTo h0 s q) w wr) (fun t _ => s.length - (intOf t).toNat)
  case atStart => exact ⟨0, .inr rfl, rfl, hR0⟩
  case round =>
    clear hR0
    obtain ⟨q, hq, rfl, hR⟩ := hrel
    have hql : 64 * q ≤ s.length := by omega
    have hwl : (hashTo h0 s q).length = 8 := by rw [hashTo_len]; exact HH.out
    have HSQ : Hid ((cells (hashTo h0 s q)).size = 8) := Lib.hid (by rw [cells_size]; exact hwl)
    have HWL := Lib.hid hwl
    clear hwl
    by_cases hlast : s.length ≤ 64 * q + 64
    · have hlast' : ((s.length : Nat) : Int) ≤ 64 * (q : Int) + 64 := by omega
      have HFQ := Lib.hid (full_pos s.length q hq hlast)
      have HBL : Hid (blake h0 s = compress (hashTo h0 s q) (pad64 (s.drop (64 * q))) s.length true) := Lib.hid (by unfold blake; rw [HFQ.out])
      generalize hashTo h0 s q = hq' at *
      go_upto_region 8 with (fail)
      rw [str_drop]
      have HPL : Hid ((s.drop (64 * q)).length = s.length - 64 * q) := Lib.hid (List.length_drop ..)
      generalize s.drop (64 * q) = p at *
      have hpl : p.length ≤ 64 := by have := HPL.out; omega
      have HDL := Lib.hid hR
      clear hR
      go_loop [8] (fun t => ∃ k : Nat, p.length + k ≤ 64 ∧ t = .string ⟨(p ++ List.replicate k 0).toArray⟩) (fun t => 64 - textLen t)
      case atStart => exact ⟨0, by omega, by simp⟩
      case round =>
        obtain ⟨k, hk, rfl⟩ := hrel
        by_cases hlt : p.length + k < 64
        · have hlt' : ((p.length : Nat) : Int) + (k : Int) < 64 := by omega
          go_wp2
          go_round
          case rel => exact ⟨k + 1, by omega, by rw [List.replicate_succ']; first | done | rfl⟩
          case measure => rw [textLen_mk, textLen_mk]; simp; omega
        · have hlt' : ¬ ((p.length : Nat) : Int) + (k : Int) < 64 := by omega
          obtain rfl : k = 64 - p.length := by omega
          rw [fill64]
          have hB : (pad64 p).length = 64 := by unfold pad64; rw [List.length_append, List.length_replicate]; omega
          generalize pad64 p = B at *
          have HB := Lib.hid hB
          go_upto_region 11 with (fail)
          clear hB
          go_wp2_with (refine wpList_loadB (cs := cells hq') rfl 115 (.tmp 2) rfl n0 rfl HDL.out.1 Tryd.underlying115 rfl sz8 HSQ.out ?_)
          refine (rtake_any hq' B s.length true _ HWL.out HB.out (by omega)).mono ?_
          rintro e w5 ⟨rfl, hb5⟩
          rw [← HBL.out]
          have HR5 := Lib.hid (HDL.out.below hb5)
          clear hb5 HDL
          have HLB : Hid ((blake h0 s).length = 8) := Lib.hid (by rw [HBL.out, compress_len]; exact HWL.out)
          clear HBL
          have HSB : Hid ((cells (blake h0 s)).size = 8) := Lib.hid (by rw [cells_size]; exact HLB.out)
          obtain ⟨H, hH⟩ : ∃ H, blake h0 s = H := ⟨_, rfl⟩
          rw [hH] at HLB HSB ⊢
          have HHE := Lib.hid hH
          clear hH
          go_upto_region 14 with (refine wpList_storeB rfl 115 (.tmp 2) (.tmp 39) rfl n0 (cells H) rfl rfl HR5.out.1 sz8 HSB.out HSQ.out (cells_one _) ?_)
          have HR6 := Lib.hid (HR5.out.row H)
          clear HR5
          generalize w5.setRow n0 (cells H) = w6 at *
          go_wp2_with fail
          change Code.wp _ _ _ _ (w6.alloc (.cells (cells8 (outD H 0)) 73))
          have hR7 := HR6.out.below ((Below.refl _ _).alloc (Nat.le_refl _) (.cells (cells8 (outD H 0)) 73))
          have hD7 : Blk (w6.alloc (.cells (cells8 (outD H 0)) 73)) w6.heap.size 73 (cells8 (outD H 0)) := Blk.new _ _ _
          have hd1 := HR6.out.2.1.lt
          clear HR6
          generalize w6.alloc (.cells (cells8 (outD H 0)) 73) = w7 at *
          generalize w6.heap.size = d at *
          go_loopw [10] (fun j wr => ∃ i : Nat, i ≤ 32 ∧ j = .int .i64 i ∧ DRel n0 n1 H w wr ∧ Blk wr d 73 (cells8 (outD H i))) (fun j _ => 32 - (intOf j).toNat)
          case atStart => exact ⟨0, by omega, rfl, hR7, hD7⟩
          case round =>
            clear hR7 hD7
            obtain ⟨i, hi, rfl, hR, hD⟩ := hrel
            by_cases hlt : i < 32
            · have hlt' : (i : Int) < 32 := by omega
              have ch := (hR.1.cell (i / 4)).trans (cells_get H (i / 4) (by have := HLB.out; omega))
              have h4 : i / 4 < 8 := by omega
              have h4' : (i : Int) / 4 < 8 := by omega
              go_wp2_with fail
              go_loop [11, 12] (fun x j => ∃ k : Nat, k ≤ i % 4 ∧ j = .int .i64 k ∧ x = .int .u32 (nm (gt H (i / 4)) / 2 ^ (8 * k))) (fun _ j => i % 4 - (intOf j).toNat)
              case atStart => exact ⟨0, by omega, rfl, by simp⟩
              case round =>
                obtain ⟨k, hk, rfl, rfl⟩ := hrel
                obtain ⟨b1, b2⟩ := div_bd (gt H (i / 4)) k
                by_cases hlt2 : k < i % 4
                · have hlt2' : (k : Int) < (i : Int) % 4 := by omega
                  have HDV := Lib.hid (div256 (gt H (i / 4)) k)
                  generalize nm (gt H (i / 4)) / 2 ^ (8 * k) = X at *
                  go_wp2
                  go_round
                  case rel => exact ⟨k + 1, by omega, by go_num, by rw [← HDV.out]⟩
                  case measure => simp [intOf]; omega
                · have hlt2' : ¬ (k : Int) < (i : Int) % 4 := by omega
                  obtain rfl : k = i % 4 := by omega
                  have cd := (hD.cell i).trans (cells8_get _ i (by rw [outD_len]; exact hlt))
                  have fd := hD.frozen i
                  have HBY := Lib.hid (byteOf_eq' (gt H (i / 4)) (i % 4))
                  have HNX : Hid (outD H (i + 1) = (outD H i).set i (byteOf (gt H (i / 4)) (i % 4))) := Lib.hid rfl
                  generalize nm (gt H (i / 4)) / 2 ^ (8 * (i % 4)) = X at *
                  clear ch
                  go_wp2
                  go_roundw
                  case rel =>
                    rw [HBY.out]
                    refine ⟨i + 1, by omega, by go_num, ⟨hR.1.far (by have := hR.2.2.2; dsimp only; omega) _, hR.2.1.far (by dsimp only; omega) _, hR.2.2.1.setCell (by have := hR.2.2.2; dsimp only; omega) _, hR.2.2.2⟩, ?_⟩
                    rw [HNX.out, ← cells8_set]
                    exact hD.set_ i _
                  case measure => simp [intOf]; omega
            · obtain rfl : i = 32 := by omega
              have HS1 : Hid ((cells8 (outD H 32)).size = 32) := Lib.hid (by rw [cells8_size, outD_len])
              have HS0 : Hid ((cells8 (List.replicate 32 0)).size = 32) := Lib.hid (by rw [cells8_size, List.length_replicate])
              have HO : Hid (outD (blake h0 s) 32 = outD H 32) := Lib.hid (by rw [HHE.out])
              generalize outD H 32 = D at *
              go_wp2_with (first | (refine wpList_loadB (cs := cells8 D) rfl 73 (.tmp 9) rfl d rfl hD Tryd.underlying73 rfl sz32d HS1.out ?_) | (refine wpList_storeB rfl 73 (.tmp 4) (.tmp 63) rfl n1 (cells8 D) rfl rfl hR.2.1 sz32d HS1.out HS0.out (cells8_one _) ?_))
              refine bodyPost_ret (results_B rfl _ (g := n1) rfl (hR.2.1.row _) Tryd.underlying73 rfl sz32d HS1.out) rfl ⟨by rw [HO.out], by rw [HN.out]; exact below_row hR.2.2.1 (Nat.le_of_lt hR.2.2.2) _⟩
    · have hlast' : ¬ ((s.length : Nat) : Int) ≤ 64 * (q : Int) + 64 := by omega
      have HNX : Hid (hashTo h0 s (q + 1) = compress (hashTo h0 s q) ((s.drop (64 * q)).take 64) (64 * (q + 1)) false) := Lib.hid rfl
      have HBL : Hid (((s.drop (64 * q)).take 64).length = 64) := Lib.hid (by rw [List.length_take, List.length_drop]; omega)
      generalize hashTo h0 s q = hq' at *
      go_upto_region 11 with (fail)
      rw [str_mid, show 64 * q + 64 - 64 * q = 64 by omega]
      generalize (s.drop (64 * q)).take 64 = B at *
      go_wp2_with (refine wpList_loadB (cs := cells hq') rfl 115 (.tmp 2) rfl n0 rfl hR.1 Tryd.underlying115 rfl sz8 HSQ.out ?_)
      rw [show (64 * (q : Int) + 64) = ((64 * (q + 1) : Nat) : Int) by omega]
      refine (rtake_any hq' B (64 * (q + 1)) false _ HWL.out HBL.out (by omega)).mono ?_
      rintro e w5 ⟨rfl, hb5⟩
      rw [← HNX.out]
      have HR5 := Lib.hid (hR.below hb5)
      clear hb5 hR
      have HSB : Hid ((cells (hashTo h0 s (q + 1))).size = 8) := Lib.hid (by rw [cells_size, hashTo_len]; exact HH.out)
      obtain ⟨H, hH⟩ : ∃ H, hashTo h0 s (q + 1) = H := ⟨_, rfl⟩
      rw [hH] at HSB ⊢
      have HHE := Lib.hid hH
      clear hH HNX
      go_wp2_with (refine wpList_storeB rfl 115 (.tmp 2) (.tmp 39) rfl n0 (cells H) rfl rfl HR5.out.1 sz8 HSB.out HSQ.out (cells_one _) ?_)
      go_roundw
      case rel => exact ⟨q + 1, .inl (by omega), rfl, by rw [HHE.out]; exact HR5.out.row H⟩
      case measure => simp [intOf]; omega
end Go.Proofs.YtconhhhggckcbaaDoor
/- The walk of the reference's Keyed (layer 2). -/
namespace Go.Proofs.YtconhhhggckcbaaDoor
open Go.RowKit

/-- bytes in a block, as a text. -/
theorem conv_blk (w : World) (g off n cap : Nat) (l : List UInt8) (hn : l.length = n) (hB : ∀ j, j < n → w.cell? ⟨g, off + j, none⟩ = some (.int .u8 ((bt l j).toNat : Int))) :
    (convert 52 9 (.slice (some ⟨g, off, none⟩) n cap)).run Tryd.prog w = .ok (.string ⟨l.toArray⟩) w := by
  subst hn
  refine run_convert_bytes_back w _ _ 5 ⟨g, off, none⟩ cap l Tryd.underlying52 Tryd.underlying5 Tryd.underlying9 (fun j hj => ?_)
  rw [addr_add, hB j hj]
  simp [bt, hj]
theorem bt_zeros (n j : Nat) : bt (List.replicate n 0) j = 0 := by
  unfold bt; rw [List.getD_eq_getElem?_getD, List.getElem?_replicate]; split <;> rfl
/-- a key's first i bytes, ahead of noughts. -/
def keyTo (k : List UInt8) : Nat → List UInt8
  | 0 => List.replicate 64 0
  | i + 1 => (keyTo k i).set i (bt k i)
theorem keyTo_len (k : List UInt8) (i : Nat) : (keyTo k i).length = 64 := by
  induction i with
  | zero => simp [keyTo]
  | succ i ih => simp [keyTo, ih]
theorem keyTo_at (k : List UInt8) (i j : Nat) (hi : i ≤ 64) : bt (keyTo k i) j = if j < i then bt k j else 0 := by
  induction i with
  | zero => rw [keyTo, bt_zeros, if_neg (by omega)]
  | succ i ih =>
    rw [keyTo, bt_set _ _ _ _ (by rw [keyTo_len]; omega), ih (by omega)]
    by_cases h : i = j
    · subst h; simp
    · rw [if_neg h]
      by_cases h2 : j < i
      · rw [if_pos h2, if_pos (by omega)]
      · rw [if_neg h2, if_neg (by omega)]
theorem keyTo_32 (k : List UInt8) (hk : k.length = 32) : keyTo k 32 = k ++ List.replicate 32 0 := by
  apply ext_bt
  · rw [keyTo_len]; simp [hk]
  · intro i hi
    rw [keyTo_len] at hi
    rw [keyTo_at k 32 i (by omega)]
    split
    · rename_i h; simp [bt, hk, h, List.getElem?_append]
    · rename_i h
      have e : bt (k ++ List.replicate 32 0) i = bt (List.replicate 32 0) (i - 32) := by
        unfold bt; rw [List.getD_eq_getElem?_getD, List.getD_eq_getElem?_getD, List.getElem?_append_right (by omega), hk]
      rw [e, bt_zeros]

attribute [local go_sem] str_app
set_option maxRecDepth 100000 in
set_option maxHeartbeats 1000000 in
theorem rkeyed_any (k : List UInt8) (l : List (List UInt8)) (v : Value) (w : World) (hk : k.length = 32) (hS : Strs w v l) (hl : l.flatten.length < 2 ^ 59) (hn : l.length < 2 ^ 60) :
    Calls Tryd.prog 54 #[.agg (cells8 k), v] w fun e w' => e = .returned (.agg (cells8 (keyedS k l.flatten))) ∧ Below w.heap.size w w' := by
  have HS := Lib.hid hS
  have HK := Lib.hid hk
  have HJ : Hid (∀ w, Strs w v l → Calls Tryd.prog 83 #[v] w fun e w' => e = .returned (.string ⟨l.flatten.toArray⟩) ∧ w' = w) := Lib.hid (fun w h => joined_any l v w h (by omega) hn)
  clear hS hk
  generalize l.flatten = F at *
  go_enter Tryd.func54, Tryd.ntmps54
  go_upto_region 1 with (fail)
  change Code.wp _ _ _ _ ((w.alloc (.cells (cells8 k) 23)).alloc (.cells (cells8 (List.replicate 32 0)) 73))
  have hY : Blk ((w.alloc (.cells (cells8 k) 23)).alloc (.cells (cells8 (List.replicate 32 0)) 73)) w.heap.size 23 (cells8 k) := (Blk.new _ _ _).alloc _
  have hR : Blk ((w.alloc (.cells (cells8 k) 23)).alloc (.cells (cells8 (List.replicate 32 0)) 73)) (w.heap.size + 1) 73 (cells8 (List.replicate 32 0)) := Blk.newAt _ _ _ (by simp)
  have hb : Below w.heap.size w ((w.alloc (.cells (cells8 k) 23)).alloc (.cells (cells8 (List.replicate 32 0)) 73)) := ((Below.refl _ _).alloc (Nat.le_refl _) _).alloc (by simp) _
  generalize (w.alloc (.cells (cells8 k) 23)).alloc (.cells (cells8 (List.replicate 32 0)) 73) = w1 at *
  go_wp2_with fail
  refine (eight_any _).mono ?_
  rintro e w2 ⟨rfl, hb2⟩
  obtain ⟨E, hE⟩ : ∃ E, eightV = E := ⟨_, rfl⟩
  have HES : Hid ((cells E).size = 8) := Lib.hid (by rw [← hE]; rfl)
  have HEL : Hid (E.length = 8) := Lib.hid (by rw [← hE]; rfl)
  rw [hE]
  have HE := Lib.hid hE
  clear hE
  go_upto_region 2 with (refine wpList_storeNew rfl 115 (.tmp 5) (.tmp 8) rfl w2 w2.heap.size rfl rfl (cells E) rfl rfl sz8 HES.out rfl (cells_one _) ?_)
  simp only [Act.put]
  have hg0 : w.heap.size + 1 < w2.heap.size := Nat.lt_of_lt_of_le hR.lt hb2.size
  have hF : Blk (w2.alloc (.cells (cells E) 115)) w2.heap.size 115 (cells E) := Blk.new _ _ _
  have hR3 : Blk (w2.alloc (.cells (cells E) 115)) (w.heap.size + 1) 73 (cells8 (List.replicate 32 0)) := (hR.below hb2 hR.lt).alloc _
  have hY3 : Blk (w2.alloc (.cells (cells E) 115)) w.heap.size 23 (cells8 k) := (hY.below hb2 hY.lt).alloc _
  have hb3 : Below w.heap.size w (w2.alloc (.cells (cells E) 115)) := (hb.trans (hb2.mono hb.size)).alloc (by omega) _
  generalize w2.alloc (.cells (cells E) 115) = w3 at *
  generalize w2.heap.size = g at *
  clear hR hb hb2 hY
  have c0 := (hF.cell 0).trans (cells_get E 0 (by have := HEL.out; omega))
  have f0 := hF.frozen 0
  go_upto_region 3 with (fail)
  rw [show (16842784 : Int) = nm 16842784#32 from rfl, nm_xor, show (8192 : Int) = nm 8192#32 from rfl, nm_xor]
  have hF4 := hF.set_ 0 (.int .u32 (nm (gt E 0 ^^^ 16842784#32 ^^^ 8192#32)))
  rw [cells_set] at hF4
  have hR4 := hR3.far (p := ⟨g, 0, none⟩) (by dsimp only; omega) (.int .u32 (nm (gt E 0 ^^^ 16842784#32 ^^^ 8192#32)))
  have hY4 := hY3.far (p := ⟨g, 0, none⟩) (by dsimp only; omega) (.int .u32 (nm (gt E 0 ^^^ 16842784#32 ^^^ 8192#32)))
  have hb4 := hb3.setCell (p := ⟨g, 0, none⟩) (by dsimp only; omega) (.int .u32 (nm (gt E 0 ^^^ 16842784#32 ^^^ 8192#32)))
  have HU : Hid (E.set 0 (gt E 0 ^^^ 16842784#32 ^^^ 8192#32) = h0K) := Lib.hid (by rw [← HE.out]; rfl)
  rw [HU.out] at hF4
  generalize w3.setCell ⟨g, 0, none⟩ (.int .u32 (nm (gt E 0 ^^^ 16842784#32 ^^^ 8192#32))) = w4 at *
  clear c0 f0 hF hR3 hb3 hY3
  have HHS : Hid ((cells h0K).size = 8) := Lib.hid rfl
  have HHL : Hid (h0K.length = 8) := Lib.hid rfl
  have HSE : Hid (keyedS k F = outD (blake h0K (k ++ List.replicate 32 0 ++ F)) 32) := Lib.hid rfl
  generalize h0K = U at *
  go_wp2_with fail
  change Code.wp _ _ _ _ (w4.alloc (.cells (cells8 (keyTo k 0)) 46))
  have hK5 : Blk (w4.alloc (.cells (cells8 (keyTo k 0)) 46)) w4.heap.size 46 (cells8 (keyTo k 0)) := Blk.new _ _ _
  have hF5 := hF4.alloc (.cells (cells8 (keyTo k 0)) 46)
  have hR5 := hR4.alloc (.cells (cells8 (keyTo k 0)) 46)
  have hY5 := hY4.alloc (.cells (cells8 (keyTo k 0)) 46)
  have hb5 := hb4.alloc hb4.size (.cells (cells8 (keyTo k 0)) 46)
  have hg1 := hF4.lt
  generalize w4.alloc (.cells (cells8 (keyTo k 0)) 46) = w5 at *
  generalize w4.heap.size = p at *
  clear hF4 hR4 hY4 hb4
  go_loopw [7] (fun j wr => ∃ i : Nat, i ≤ 32 ∧ j = .int .i64 i ∧ Blk wr p 46 (cells8 (keyTo k i)) ∧ Blk wr g 115 (cells U) ∧ Blk wr (w.heap.size + 1) 73 (cells8 (List.replicate 32 0)) ∧ Blk wr w.heap.size 23 (cells8 k) ∧ Below w.heap.size w wr) (fun j _ => 32 - (intOf j).toNat)
  case atStart => exact ⟨0, by omega, rfl, hK5, hF5, hR5, hY5, hb5⟩
  case round =>
    clear hK5 hF5 hR5 hY5 hb5
    obtain ⟨i, hi, rfl, hK5, hF5, hR5, hY5, hb5⟩ := hrel
    by_cases hlt : i < 32
    · have hlt' : (i : Int) < 32 := by omega
      have ck := (hY5.cell i).trans (cells8_get k i (by have := HK.out; omega))
      have cp := (hK5.cell i).trans (cells8_get _ i (by rw [keyTo_len]; omega))
      have fp := hK5.frozen i
      have HNX : Hid (keyTo k (i + 1) = (keyTo k i).set i (bt k i)) := Lib.hid rfl
      go_wp2
      go_roundw
      case rel =>
        refine ⟨i + 1, by omega, by go_num, ?_, hF5.far (by dsimp only; omega) _, hR5.far (by dsimp only; omega) _, hY5.far (by dsimp only; omega) _, hb5.setCell (by dsimp only; omega) _⟩
        rw [HNX.out, ← cells8_set]
        exact hK5.set_ i _
      case measure => simp [intOf]; omega
    · obtain rfl : i = 32 := by omega
      rw [keyTo_32 k HK.out] at hK5
      have HPL : Hid ((k ++ List.replicate 32 0).length = 64) := Lib.hid (by simp [HK.out])
      generalize k ++ List.replicate 32 0 = Pk at *
      have HS5 := Lib.hid ((HS.out.below hb5).below ((Below.refl _ _).drew))
      have hsl := run_sliceArr_all Tryd.underlying46 so8 p 0 (by omega) wr.drew
      have hcv := conv_blk wr.drew p 0 64 64 Pk HPL.out (fun j hj => by rw [Nat.zero_add, hK5.drew.cell, cells8_get Pk j (by have := HPL.out; omega)])
      have hpl : Pk.length = 64 := HPL.out
      go_wp2_with fail
      refine wp_region_still_tail 6 (by kernel_rfl) (by kernel_rfl) ?_
      simp only [List.take_succ_cons, List.take_zero, List.drop_succ_cons, List.drop_zero]
      change wpStill _ _ wr.drew _ _ _
      refine wpStill_loadB rfl 115 (.tmp 5) rfl g rfl hF5.drew Tryd.underlying115 rfl sz8 HHS.out (fun K hK => ?_); go_simp; refine hK _ ?_; clear hK K
      repeat still_step
      have hadd : ¬ 9223372036854775807 < 64 + F.length := by omega
      still_call (HJ.out _ HS5.out)
      repeat still_step
      refine wpStill_nil ?_
      change wpList _ _ _ _ _ wr.drew
      have HR6 := Lib.hid hR5.drew
      have HB6 := Lib.hid hb5.drew
      clear hadd hcv hsl hK5 hF5 hR5 hY5 hb5 HS5 hpl
      generalize wr.drew = w6 at *
      go_wp2_with fail
      refine (digest_any U (Pk ++ F) _ HHL.out (by rw [List.length_append, HPL.out]; omega)).mono ?_
      rintro e w7 ⟨rfl, hb7⟩
      rw [← HSE.out]
      have hR7 := HR6.out.below hb7 HR6.out.lt
      have hb8 := HB6.out.trans (hb7.mono HB6.out.size)
      have HL : Hid ((cells8 (keyedS k F)).size = 32) := Lib.hid (by rw [cells8_size, keyedS_len])
      have HZ : Hid ((cells8 (List.replicate 32 0)).size = 32) := Lib.hid (by rw [cells8_size, List.length_replicate])
      obtain ⟨D, hD⟩ : ∃ D, keyedS k F = D := ⟨_, rfl⟩
      rw [hD] at HL ⊢
      have HD := Lib.hid hD
      clear hD HSE
      go_wp2_with (refine wpList_storeB rfl 73 (.tmp 4) (.tmp 29) rfl (w.heap.size + 1) (cells8 D) rfl rfl hR7 sz32d HL.out HZ.out (cells8_one _) ?_)
      refine bodyPost_ret (results_B rfl _ (g := w.heap.size + 1) rfl (hR7.row _) Tryd.underlying73 rfl sz32d HL.out) rfl ⟨by rw [HD.out], below_row hb8 (by omega) _⟩
end Go.Proofs.YtconhhhggckcbaaDoor
