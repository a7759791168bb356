/- The walk of hash.take: a state's waiting block is taken in. -/
import Derived.Test.YtconhhhggckcbaaDoorMixB
import Derived.Laws.CopyOwn
import Derived.IntWalk
import Derived.Deep.DeepCutAuto
namespace Go.Proofs.YtconhhhggckcbaaDoor
open Go.RowKit

theorem grown_alloc {a b : World} {r : Option Nat} (h : a.grownBy b r) (o : Obj) : a.grownBy (b.alloc o) r :=
  ⟨h.os, h.tape, h.output, by rw [World.size_alloc]; have := h.size; omega, fun k hk hr => (Below.heap_alloc b o k (by have := h.size; omega)).trans (h.block k hk hr)⟩
theorem grown_far {a b : World} {r : Option Nat} (h : a.grownBy b r) {p : Addr} (hp : a.heap.size ≤ p.block) (v : Value) : a.grownBy (b.setCell p v) r :=
  ⟨h.os, h.tape, h.output, by rw [World.size_setCell]; exact h.size, fun k hk hr => (Below.heap_setCell b p v k (by omega)).trans (h.block k hk hr)⟩
theorem grown_row {a b : World} {r : Option Nat} (h : a.grownBy b r) {g : Nat} (hp : a.heap.size ≤ g) (cs : Array Value) : a.grownBy (b.setRow g cs) r :=
  ⟨h.os, h.tape, h.output, by rw [setRow_size]; exact h.size, fun k hk hr => (setRow_other b g k cs (by omega)).trans (h.block k hk hr)⟩
theorem grown_new {a b c : World} {r : Option Nat} {g : Nat} (h : a.grownBy b r) (hb : b.grownBy c (some g)) (hp : a.heap.size ≤ g) : a.grownBy c r :=
  ⟨hb.os.trans h.os, hb.tape.trans h.tape, hb.output.trans h.output, Nat.le_trans h.size hb.size, fun k hk hr => (hb.block k (by have := h.size; omega) (by simp; omega)).trans (h.block k hk hr)⟩
theorem sz8 : (Tryd.prog.info? 115).map (·.size) = some 8 := by kernel_rfl
theorem sz16b : (Tryd.prog.info? 159).map (·.size) = some 16 := by kernel_rfl
theorem sz1w : (Tryd.prog.info? 112).map (·.size) = some 1 := by kernel_rfl
theorem so32 (w : World) : (sizeOf 112).run Tryd.prog w = .ok 1 w := by kernel_rfl
theorem so8 (w : World) : (sizeOf 5).run Tryd.prog w = .ok 1 w := by kernel_rfl
theorem so16b (w : World) : (sizeOf 159).run Tryd.prog w = .ok 16 w := by kernel_rfl

/-- the world while the block's words are read. -/
def ARel (g : Nat) (h : List Wd) (wt : List UInt8) (fill : Int) (taken : Nat) (m : List Wd) (w wr : World) : Prop :=
  Blk wr g 123 (stCells h wt fill taken) ∧ Blk wr w.heap.size 148 (cells m) ∧ w.grownBy wr (some g)
/-- and while they are mixed. -/
def VRel (q g : Nat) (h : List Wd) (wt : List UInt8) (fill : Int) (taken : Nat) (m v : List Wd) (w wr : World) : Prop :=
  Blk wr g 123 (stCells h wt fill taken) ∧ Blk wr w.heap.size 148 (cells m) ∧ Blk wr q 148 (cells v) ∧ w.grownBy wr (some g)
section
variable {q g : Nat} {h : List Wd} {wt : List UInt8} {fill : Int} {taken : Nat} {m v : List Wd} {w wr : World}
theorem VRel.put (hR : VRel q g h wt fill taken m v w wr) (hg : g < w.heap.size) (hq : w.heap.size < q) (i : Nat) (x : Wd) :
    VRel q g h wt fill taken m (v.set i x) w (wr.setCell ⟨q, i, none⟩ (.int .u32 (nm x))) := by
  obtain ⟨h1, h2, h3, h4⟩ := hR
  refine ⟨h1.far (by dsimp only; omega) _, h2.far (by dsimp only; omega) _, ?_, grown_far h4 (by dsimp only; omega) _⟩
  rw [← cells_set]; exact h3.set_ i _
theorem VRel.drew (hR : VRel q g h wt fill taken m v w wr) : VRel q g h wt fill taken m v w wr.drew := by
  obtain ⟨h1, h2, h3, h4⟩ := hR
  exact ⟨h1, h2, h3, grown_drew h4⟩
theorem VRel.alloc (hR : VRel q g h wt fill taken m v w wr) (o : Obj) : VRel q g h wt fill taken m v w (wr.alloc o) := by
  obtain ⟨h1, h2, h3, h4⟩ := hR
  exact ⟨h1.alloc _, h2.alloc _, h3.alloc _, grown_alloc h4 _⟩
theorem VRel.call {v' : List Wd} {w1 : World} (hR : VRel q g h wt fill taken m v w wr) (hg : g < w.heap.size) (hq : w.heap.size < q) (hb : wr.grownBy w1 (some q)) (hB : Blk w1 q 148 (cells v')) : VRel q g h wt fill taken m v' w w1 := by
  obtain ⟨h1, h2, h3, h4⟩ := hR
  exact ⟨h1.grown hb (by simp; omega), h2.grown hb (by simp; omega), hB, grown_new h4 hb (by omega)⟩
end
/-- the eight words and, behind them, the first i of the table's. -/
def fillE (h : List Wd) : Nat → List Wd
  | 0 => h ++ List.replicate 8 0
  | i + 1 => (fillE h i).set (8 + i) (gt eightV i)
theorem fillE_len (h : List Wd) (hh : h.length = 8) (i : Nat) : (fillE h i).length = 16 := by
  induction i with
  | zero => simp [fillE, hh]
  | succ i ih => simp [fillE, ih]
theorem fillE_8 (h : List Wd) (hh : h.length = 8) : fillE h 8 = h ++ eightV := by
  match h, hh with
  | [a, b, c, d, e, f, g, i], _ => rfl
theorem cat_cells (h : List Wd) (hh : h.length = 8) : ((cells (List.replicate 16 0)).toList.take 0 ++ (h.map cw ++ (cells (List.replicate 16 0)).toList.drop (0 + (h.map cw).length))).toArray = cells (fillE h 0) := by
  simp [fillE, cells, hh]
theorem nm_not (x : Wd) : bits .xor .u32 IntKind.u32.max (nm x) = nm (~~~ x) := by
  have e : IntKind.u32.max = nm (BitVec.allOnes 32) := by decide
  rw [e, nm_xor, BitVec.allOnes_xor]
theorem sz160 : (Tryd.prog.info? 160).map (·.size) = some sigCells.size := by kernel_rfl
theorem u32_nat (t : Nat) : IntKind.u32.wrap (t : Int) = nm (BitVec.ofNat 32 t) := by
  rw [wrap_u32]; unfold nm; rw [BitVec.toNat_ofNat]; omega

attribute [local go_sem] nm_xor
set_option maxRecDepth 100000 in
set_option maxHeartbeats 2000000 in
theorem take_any (g : Nat) (h : List Wd) (wt : List UInt8) (fill : Int) (taken : Nat) (last : Bool) (w : World) (hh : h.length = 8) (hw : wt.length = 64) (hG : Glob w) (hg2 : 2 ≤ g)
    (hB : Blk w g 123 (stCells h wt fill taken)) :
    Calls Tryd.prog 102 #[.pointer (some ⟨g, 0, none⟩), .bool last] w fun e w' =>
      e = .returned (.tuple #[]) ∧ Blk w' g 123 (stCells (compress h wt taken last) wt fill taken) ∧ w.grownBy w' (some g) := by
  have hglt := hB.lt
  have HH := Lib.hid hh
  have HW := Lib.hid hw
  have HG := Lib.hid hG
  clear hh hw hG
  go_enter Tryd.func102, Tryd.ntmps102
  go_wp2
  change Code.wp _ _ _ _ (w.alloc (.cells (cells (wordsTo wt 0)) 148))
  have hR0 : ARel g h wt fill taken (wordsTo wt 0) w (w.alloc (.cells (cells (wordsTo wt 0)) 148)) := ⟨hB.alloc _, Blk.new _ _ _, grown_alloc (grown_refl _ _) _⟩
  generalize w.alloc (.cells (cells (wordsTo wt 0)) 148) = wa at *
  clear hB
  go_loopw [13] (fun t wr => ∃ i : Nat, i ≤ 16 ∧ t = .int .i64 i ∧ ARel g h wt fill taken (wordsTo wt i) w wr) (fun t _ => 16 - (intOf t).toNat)
  case atStart => exact ⟨0, by omega, rfl, hR0⟩
  case round =>
    clear hR0
    obtain ⟨i, hi, rfl, hR⟩ := hrel
    by_cases hlt : i < 16
    · as_aux_lemma =>
      have hlt' : (i : Int) < 16 := by omega
      obtain ⟨h1, h2, h3⟩ := hR
      have c0 := st_wait h1 HH.out (4 * i) (by have := HW.out; omega)
      have c1 := st_wait h1 HH.out (4 * i + 1) (by have := HW.out; omega)
      have c2 := st_wait h1 HH.out (4 * i + 2) (by have := HW.out; omega)
      have c3 := st_wait h1 HH.out (4 * i + 3) (by have := HW.out; omega)
      have ci := (h2.cell i).trans (cells_get _ i (by rw [wordsTo_len]; exact hlt))
      have fi := h2.frozen i
      have w1 : IntKind.i64.wrap (4 * (i : Int) + 1) = 4 * (i : Int) + 1 := IntWalk.i64_in _ (by omega)
      have w2 : IntKind.i64.wrap (4 * (i : Int) + 2) = 4 * (i : Int) + 2 := IntWalk.i64_in _ (by omega)
      have w3 : IntKind.i64.wrap (4 * (i : Int) + 3) = 4 * (i : Int) + 3 := IntWalk.i64_in _ (by omega)
      have n0 : (4 * (i : Int)).toNat = 4 * i := by omega
      have n1 : (4 * (i : Int) + 1).toNat = 4 * i + 1 := by omega
      have n2 : (4 * (i : Int) + 2).toNat = 4 * i + 2 := by omega
      have n3 : (4 * (i : Int) + 3).toNat = 4 * i + 3 := by omega
      have z0 : 0 ≤ 4 * (i : Int) := by omega
      have z1 : 0 ≤ 4 * (i : Int) + 1 := by omega
      have z2 : 0 ≤ 4 * (i : Int) + 2 := by omega
      have z3 : 0 ≤ 4 * (i : Int) + 3 := by omega
      have q0 : 4 * (i : Int) < 64 := by omega
      have q1 : 4 * (i : Int) + 1 < 64 := by omega
      have q2 : 4 * (i : Int) + 2 < 64 := by omega
      have q3 : 4 * (i : Int) + 3 < 64 := by omega
      go_wp2
      refine wp_region_still_tail 38 (by kernel_rfl) (by kernel_rfl) ?_
      simp only [List.take_succ_cons, List.take_zero, List.drop_succ_cons, List.drop_zero]
      change wpStill _ _ wr.drew _ _ _
      repeat still_step
      refine wpStill_nil ?_
      change wpList _ _ _ _ _ wr.drew
      rw [word_eq]
      clear w1 w2 w3 n0 n1 n2 n3 z0 z1 z2 z3 q0 q1 q2 q3 c0 c1 c2 c3
      go_wp2
      go_roundw
      case rel =>
        refine ⟨i + 1, by omega, by go_num, (h1.far (by dsimp only; omega) _).drew, ?_, grown_drew (grown_far h3 (Nat.le_refl _) _)⟩
        rw [wordsTo, ← cells_set]
        exact (h2.set_ i _).drew
      case measure => simp [intOf]; omega
    · as_aux_lemma =>
      obtain rfl : i = 16 := by omega
      rw [show ((16 : Nat) : Int) = 16 from rfl]
      obtain ⟨h1, h2, h3⟩ := hR
      have hm16 : (wordsTo wt 16).length = 16 := wordsTo_len _ _
      have hfin : compress h wt taken last = foldTo h (roundsS (wordsTo wt 16) (startV h taken last) 10) 8 := rfl
      generalize wordsTo wt 16 = m at *
      have HFIN := Lib.hid hfin
      have HM := Lib.hid hm16
      clear hfin hm16
      go_wp2
      change Code.wp _ _ _ _ (wr.alloc (.cells (cells (List.replicate 16 0)) 148))
      have hsz := h2.lt
      have k1 := h1.alloc (.cells (cells (List.replicate 16 0)) 148)
      have k2 := h2.alloc (.cells (cells (List.replicate 16 0)) 148)
      have k3 : Blk (wr.alloc (.cells (cells (List.replicate 16 0)) 148)) wr.heap.size 148 (cells (List.replicate 16 0)) := Blk.new _ _ _
      have k4 := grown_alloc h3 (.cells (cells (List.replicate 16 0)) 148)
      clear h1 h2 h3
      generalize wr.alloc (.cells (cells (List.replicate 16 0)) 148) = wb at *
      generalize wr.heap.size = q at *
      have hs1 := run_sliceArr_h Tryd.underlying148 so32 q 0 8 (by omega) (by omega) (by omega)
      have hs2 := run_sliceArr_all Tryd.underlying115 so32 g 0 (by omega)
      have HS1 := Lib.hid hs1
      refine wp_region_still_tail 5 (by kernel_rfl) (by kernel_rfl) ?_
      simp only [List.take_succ_cons, List.take_zero, List.drop_succ_cons, List.drop_zero]
      change wpStill _ _ wb.drew _ _ _
      repeat still_step
      refine wpStill_nil ?_
      change wpList _ _ _ _ _ wb.drew
      clear hs1 hs2
      have HCC := Lib.hid (cat_cells h HH.out)
      refine wpList_copy_own rfl (.tmp 58) (.tmp 62) 158 158 rfl 112 Tryd.underlying158 sz1w q 0 8 16 ⟨g, 0, none⟩ 8 8 rfl rfl (cells (List.replicate 16 0)) 148 k3 (h.map cw) (by rw [List.length_map, HH.out]; rfl) (fun j v hv => by
        have hj : j < h.length := by simpa using (List.getElem?_eq_some_iff.1 hv).1
        rw [addr_add, Nat.zero_add]
        show wb.cell? _ = _
        rw [st_h k1 j hj]
        simp [hj] at hv
        rw [← hv]; simp [cw, gt, hj]) (by rw [List.length_map, HH.out, cells_size]; simp) (fun v hv => by
        simp at hv
        obtain ⟨x, _, rfl⟩ := hv
        rfl) ?_
      rw [HCC.out]
      have hR : VRel q g h wt fill taken m (fillE h 0) w (wb.drew.setRow q (cells (fillE h 0))) := ⟨(k1.rowFar (by omega) _), (k2.rowFar (by omega) _), k3.row _, grown_row (grown_drew k4) (by omega) _⟩
      generalize wb.drew.setRow q (cells (fillE h 0)) = wc at *
      clear k1 k2 k3 k4 HCC HS1
      have hGc : Glob wc := HG.out.grown hR.2.2.2 (by omega)
      have hG0 := hGc.1
      go_wp2_with (refine wpList_loadR rfl 115 (.global 0) rfl 0 rfl hG0 Tryd.underlying115 rfl sz8 ?_)
      clear hG0 hGc
      go_loopw [65] (fun t wr => ∃ i : Nat, i ≤ 8 ∧ t = .int .i64 i ∧ VRel q g h wt fill taken m (fillE h i) w wr) (fun t _ => 8 - (intOf t).toNat)
      case atStart => exact ⟨0, by omega, rfl, hR⟩
      case round =>
        clear hR
        obtain ⟨i, hi, rfl, hR⟩ := hrel
        by_cases hlt : i < 8
        · as_aux_lemma =>
          have hlt' : (i : Int) < 8 := by omega
          have hix := run_indexAgg Tryd.underlying115 Tryd.underlying112 rfl so32 (cells eightV) i hlt _ (cells_get eightV i (by show i < 8; omega)) .i64
          have ci := (hR.2.2.1.cell (8 + i)).trans (cells_get _ (8 + i) (by rw [fillE_len h HH.out]; omega))
          have fi := hR.2.2.1.frozen (8 + i)
          go_wp2
          go_roundw
          case rel => exact ⟨i + 1, by omega, by go_num, hR.put hglt hsz (8 + i) (gt eightV i)⟩
          case measure => simp [intOf]; omega
        · as_aux_lemma =>
          obtain rfl : i = 8 := by omega
          rw [show ((8 : Nat) : Int) = 8 from rfl]
          rw [fillE_8 h HH.out] at hR
          go_wp2
          have hsv : startV h taken last = (if last then (((h ++ eightV).set 12 (gt (h ++ eightV) 12 ^^^ BitVec.ofNat 32 taken)).set 13 (gt ((h ++ eightV).set 12 (gt (h ++ eightV) 12 ^^^ BitVec.ofNat 32 taken)) 13 ^^^ BitVec.ofNat 32 (taken / 4294967296))).set 14 (~~~ (gt (((h ++ eightV).set 12 (gt (h ++ eightV) 12 ^^^ BitVec.ofNat 32 taken)).set 13 (gt ((h ++ eightV).set 12 (gt (h ++ eightV) 12 ^^^ BitVec.ofNat 32 taken)) 13 ^^^ BitVec.ofNat 32 (taken / 4294967296))) 14)) else (((h ++ eightV).set 12 (gt (h ++ eightV) 12 ^^^ BitVec.ofNat 32 taken)).set 13 (gt ((h ++ eightV).set 12 (gt (h ++ eightV) 12 ^^^ BitVec.ofNat 32 taken)) 13 ^^^ BitVec.ofNat 32 (taken / 4294967296)))) := rfl
          have hlv : (h ++ eightV).length = 16 := by rw [List.length_append, HH.out]; rfl
          generalize h ++ eightV = v at *
          have c12 := (hR.2.2.1.cell 12).trans (cells_get v 12 (by omega))
          have f12 := hR.2.2.1.frozen 12
          have ct := st_taken hR.1 HH.out HW.out
          have hu1 := u32_nat taken
          refine wp_region_still_tail 8 (by kernel_rfl) (by kernel_rfl) ?_
          simp only [List.take_succ_cons, List.take_zero, List.drop_succ_cons, List.drop_zero]
          change wpStill _ _ wr.drew _ _ _
          repeat still_step
          refine wpStill_nil ?_
          change wpList _ _ _ _ _ wr.drew
          go_wp2
          have hR2 := (hR.put hglt hsz 12 (gt v 12 ^^^ BitVec.ofNat 32 taken)).drew
          generalize (wr.setCell ⟨q, 12, none⟩ (.int .u32 (nm (gt v 12 ^^^ BitVec.ofNat 32 taken)))).drew = wd1 at *
          have hlv2 : (v.set 12 (gt v 12 ^^^ BitVec.ofNat 32 taken)).length = 16 := by rw [List.length_set]; exact hlv
          generalize v.set 12 (gt v 12 ^^^ BitVec.ofNat 32 taken) = v2 at *
          clear c12 f12 ct hR hlv hu1
          have c13 := (hR2.2.2.1.cell 13).trans (cells_get v2 13 (by omega))
          have f13 := hR2.2.2.1.frozen 13
          have ct := st_taken hR2.1 HH.out HW.out
          have hu2 : IntKind.u32.wrap ((taken : Int) / 4294967296) = nm (BitVec.ofNat 32 (taken / 4294967296)) := by
            rw [← u32_nat (taken / 4294967296)]; congr 1
          refine wp_region_still_tail 9 (by kernel_rfl) (by kernel_rfl) ?_
          simp only [List.take_succ_cons, List.take_zero, List.drop_succ_cons, List.drop_zero]
          change wpStill _ _ wd1.drew _ _ _
          repeat still_step
          refine wpStill_nil ?_
          change wpList _ _ _ _ _ wd1.drew
          clear hu2
          go_upto_if 93 with (fail)
          have hR3 := (hR2.put hglt hsz 13 (gt v2 13 ^^^ BitVec.ofNat 32 (taken / 4294967296))).drew
          generalize (wd1.setCell ⟨q, 13, none⟩ (.int .u32 (nm (gt v2 13 ^^^ BitVec.ofNat 32 (taken / 4294967296))))).drew = wd2 at *
          have hlv3 : (v2.set 13 (gt v2 13 ^^^ BitVec.ofNat 32 (taken / 4294967296))).length = 16 := by rw [List.length_set]; exact hlv2
          generalize v2.set 13 (gt v2 13 ^^^ BitVec.ofNat 32 (taken / 4294967296)) = v3 at *
          clear c13 f13 ct hR2 hlv2
          have HSV := Lib.hid hsv
          clear hsv
          go_cut [] from 94 to 97 (fun wx => VRel q g h wt fill taken m (startV h taken last) w wx)
          case first =>
            as_aux_lemma =>
            have c14 := (hR3.2.2.1.cell 14).trans (cells_get v3 14 (by omega))
            have f14 := hR3.2.2.1.frozen 14
            cases last
            · go_wp2
              go_meet
              rw [HSV.out]
              exact hR3
            · go_wp2
              go_meet
              rw [HSV.out, nm_not]
              have h9 := hR3.put hglt hsz 14 (~~~ (gt v3 14))
              simpa using h9
          case rest =>
            clear hR3 HSV
            have hlv : (startV h taken last).length = 16 := startV_len h taken last HH.out
            generalize startV h taken last = V at *
            have HLV := Lib.hid hlv
            clear hlv hlv3
            have hG1 := (HG.out.grown hcut.2.2.2 (by omega)).2
            go_wp2_with (refine wpList_loadR rfl 160 (.global 1) rfl 1 rfl hG1 Tryd.underlying160 rfl sz160 ?_)
            clear hG1
            go_loopw [99] (fun t wr => ∃ r : Nat, r ≤ 10 ∧ t = .int .i64 r ∧ VRel q g h wt fill taken m (roundsS m V r) w wr) (fun t _ => 10 - (intOf t).toNat)
            case atStart => exact ⟨0, by omega, rfl, hcut⟩
            case round =>
              clear hcut
              obtain ⟨r, hr, rfl, hR⟩ := hrel
              by_cases hlt : r < 10
              · as_aux_lemma =>
                have hlt' : (r : Int) < 10 := by omega
                have hix := run_indexAgg2 Tryd.underlying160 Tryd.underlying159 rfl so16b sigCells r hlt .i64
                rw [sig_row r hlt] at hix
                have hsl := sig_len r hlt
                have hslt := sig_lt r hlt
                have hsg : ∀ i, bt (sigma.getD r []) i = bt (sigma.getD r []) i := fun _ => rfl
                have HSG : Hid (∀ i, sg r i = (bt (sigma.getD r []) i).toNat) := Lib.hid (fun _ => rfl)
                have hnx : roundsS m V (r + 1) = roundS m (roundsS m V r) r := rfl
                have hl0 : (roundsS m V r).length = 16 := by rw [roundsS_len]; exact HLV.out
                generalize sigma.getD r [] = srow at *
                generalize roundsS m V r = v0 at *
                have HNX := Lib.hid hnx
                have HSL := Lib.hid hsl
                have HSLT := Lib.hid hslt
                have HS16 : Hid ((cells8 srow).size = 16) := Lib.hid (by rw [cells8_size]; exact hsl)
                clear hnx hsl hslt hsg
                go_wp2_with (refine wpList_storeNew rfl 159 (.tmp 11) (.tmp 101) rfl wr wr.heap.size rfl rfl _ rfl rfl sz16b HS16.out rfl (cells8_one _) ?_)
                have hq2 := hR.2.2.1.lt
                have hV0 := hR.alloc (.cells (cells8 srow) 159)
                have hS0 : Blk (wr.alloc (.cells (cells8 srow) 159)) wr.heap.size 159 (cells8 srow) := Blk.new _ _ _
                clear hR hix
                generalize wr.alloc (.cells (cells8 srow) 159) = x0 at *
                generalize wr.heap.size = rb at *
                have l0 := HSLT.out 0 (by omega)
                have l1 := HSLT.out 1 (by omega)
                have b0 : x0.cell? ⟨rb, 0, none⟩ = some (.int .u8 (sg r 0 : Int)) := by rw [hS0.cell, cells8_get srow 0 (by have := HSL.out; omega), HSG.out]
                have b1 : x0.cell? ⟨rb, 1, none⟩ = some (.int .u8 (sg r 1 : Int)) := by rw [hS0.cell, cells8_get srow 1 (by have := HSL.out; omega), HSG.out]
                have m0 := (hV0.2.1.cell (sg r 0)).trans (cells_get m (sg r 0) (by have := HM.out; omega))
                have m1 := (hV0.2.1.cell (sg r 1)).trans (cells_get m (sg r 1) (by have := HM.out; omega))
                have HX0 : Hid (mixS v0 0 4 8 12 (mw m r 0) (mw m r 1) = mixS v0 0 4 8 12 (gt m (sg r 0)) (gt m (sg r 1))) := Lib.hid rfl
                obtain ⟨s0, hs0⟩ : ∃ s0, s0 = sg r 0 := ⟨_, rfl⟩
                obtain ⟨s1, hs1⟩ : ∃ s1, s1 = sg r 1 := ⟨_, rfl⟩
                rw [← hs0] at l0 b0 m0 HX0
                rw [← hs1] at l1 b1 m1 HX0
                clear hs0 hs1
                have l0' : (s0 : Int) < 16 := by omega
                have l1' : (s1 : Int) < 16 := by omega
                refine wp_region_still_tail 8 (by kernel_rfl) (by kernel_rfl) ?_
                simp only [List.take_succ_cons, List.take_zero, List.drop_succ_cons, List.drop_zero]
                change wpStill _ _ x0.drew _ _ _
                repeat still_step
                refine wpStill_nil ?_
                change wpList _ _ _ _ _ x0.drew
                clear b0 b1 m0 m1
                go_wp2_with fail
                refine (mix_any q 0 4 8 12 _ _ v0 _ (by omega) (by omega) (by omega) (by omega) hl0 hV0.2.2.1.drew).mono ?_
                rintro e x1 ⟨rfl, hB, hgr⟩
                rw [← HX0.out] at hB
                have hV1 := hV0.drew.call hglt hsz hgr hB
                have hS1 := hS0.drew.grown hgr (by simp; omega)
                have hl1 : (mixS v0 0 4 8 12 (mw m r 0) (mw m r 1)).length = 16 := by rw [mixS_len]; exact hl0
                obtain ⟨v1, hv⟩ : ∃ v1, v1 = mixS v0 0 4 8 12 (mw m r 0) (mw m r 1) := ⟨_, rfl⟩
                rw [← hv] at hV1 hl1
                have HV1 := Lib.hid hv
                clear hv hB hgr hV0 hS0 HX0 l0 l1 l0' l1'
                go_wp2
                have l0 := HSLT.out 2 (by omega)
                have l1 := HSLT.out 3 (by omega)
                have b0 : x1.cell? ⟨rb, 2, none⟩ = some (.int .u8 (sg r 2 : Int)) := by rw [hS1.cell, cells8_get srow 2 (by have := HSL.out; omega), HSG.out]
                have b1 : x1.cell? ⟨rb, 3, none⟩ = some (.int .u8 (sg r 3 : Int)) := by rw [hS1.cell, cells8_get srow 3 (by have := HSL.out; omega), HSG.out]
                have m0 := (hV1.2.1.cell (sg r 2)).trans (cells_get m (sg r 2) (by have := HM.out; omega))
                have m1 := (hV1.2.1.cell (sg r 3)).trans (cells_get m (sg r 3) (by have := HM.out; omega))
                have HX1 : Hid (mixS v1 1 5 9 13 (mw m r 2) (mw m r 3) = mixS v1 1 5 9 13 (gt m (sg r 2)) (gt m (sg r 3))) := Lib.hid rfl
                obtain ⟨s0, hs0⟩ : ∃ s0, s0 = sg r 2 := ⟨_, rfl⟩
                obtain ⟨s1, hs1⟩ : ∃ s1, s1 = sg r 3 := ⟨_, rfl⟩
                rw [← hs0] at l0 b0 m0 HX1
                rw [← hs1] at l1 b1 m1 HX1
                clear hs0 hs1
                have l0' : (s0 : Int) < 16 := by omega
                have l1' : (s1 : Int) < 16 := by omega
                refine wp_region_still_tail 8 (by kernel_rfl) (by kernel_rfl) ?_
                simp only [List.take_succ_cons, List.take_zero, List.drop_succ_cons, List.drop_zero]
                change wpStill _ _ x1.drew _ _ _
                repeat still_step
                refine wpStill_nil ?_
                change wpList _ _ _ _ _ x1.drew
                clear b0 b1 m0 m1
                go_wp2_with fail
                refine (mix_any q 1 5 9 13 _ _ v1 _ (by omega) (by omega) (by omega) (by omega) hl1 hV1.2.2.1.drew).mono ?_
                rintro e x2 ⟨rfl, hB, hgr⟩
                rw [← HX1.out] at hB
                have hV2 := hV1.drew.call hglt hsz hgr hB
                have hS2 := hS1.drew.grown hgr (by simp; omega)
                have hl2 : (mixS v1 1 5 9 13 (mw m r 2) (mw m r 3)).length = 16 := by rw [mixS_len]; exact hl1
                obtain ⟨v2, hv⟩ : ∃ v2, v2 = mixS v1 1 5 9 13 (mw m r 2) (mw m r 3) := ⟨_, rfl⟩
                rw [← hv] at hV2 hl2
                have HV2 := Lib.hid hv
                clear hv hB hgr hV1 hS1 HX1 l0 l1 l0' l1'
                go_wp2
                have l0 := HSLT.out 4 (by omega)
                have l1 := HSLT.out 5 (by omega)
                have b0 : x2.cell? ⟨rb, 4, none⟩ = some (.int .u8 (sg r 4 : Int)) := by rw [hS2.cell, cells8_get srow 4 (by have := HSL.out; omega), HSG.out]
                have b1 : x2.cell? ⟨rb, 5, none⟩ = some (.int .u8 (sg r 5 : Int)) := by rw [hS2.cell, cells8_get srow 5 (by have := HSL.out; omega), HSG.out]
                have m0 := (hV2.2.1.cell (sg r 4)).trans (cells_get m (sg r 4) (by have := HM.out; omega))
                have m1 := (hV2.2.1.cell (sg r 5)).trans (cells_get m (sg r 5) (by have := HM.out; omega))
                have HX2 : Hid (mixS v2 2 6 10 14 (mw m r 4) (mw m r 5) = mixS v2 2 6 10 14 (gt m (sg r 4)) (gt m (sg r 5))) := Lib.hid rfl
                obtain ⟨s0, hs0⟩ : ∃ s0, s0 = sg r 4 := ⟨_, rfl⟩
                obtain ⟨s1, hs1⟩ : ∃ s1, s1 = sg r 5 := ⟨_, rfl⟩
                rw [← hs0] at l0 b0 m0 HX2
                rw [← hs1] at l1 b1 m1 HX2
                clear hs0 hs1
                have l0' : (s0 : Int) < 16 := by omega
                have l1' : (s1 : Int) < 16 := by omega
                refine wp_region_still_tail 8 (by kernel_rfl) (by kernel_rfl) ?_
                simp only [List.take_succ_cons, List.take_zero, List.drop_succ_cons, List.drop_zero]
                change wpStill _ _ x2.drew _ _ _
                repeat still_step
                refine wpStill_nil ?_
                change wpList _ _ _ _ _ x2.drew
                clear b0 b1 m0 m1
                go_wp2_with fail
                refine (mix_any q 2 6 10 14 _ _ v2 _ (by omega) (by omega) (by omega) (by omega) hl2 hV2.2.2.1.drew).mono ?_
                rintro e x3 ⟨rfl, hB, hgr⟩
                rw [← HX2.out] at hB
                have hV3 := hV2.drew.call hglt hsz hgr hB
                have hS3 := hS2.drew.grown hgr (by simp; omega)
                have hl3 : (mixS v2 2 6 10 14 (mw m r 4) (mw m r 5)).length = 16 := by rw [mixS_len]; exact hl2
                obtain ⟨v3, hv⟩ : ∃ v3, v3 = mixS v2 2 6 10 14 (mw m r 4) (mw m r 5) := ⟨_, rfl⟩
                rw [← hv] at hV3 hl3
                have HV3 := Lib.hid hv
                clear hv hB hgr hV2 hS2 HX2 l0 l1 l0' l1'
                go_wp2
                have l0 := HSLT.out 6 (by omega)
                have l1 := HSLT.out 7 (by omega)
                have b0 : x3.cell? ⟨rb, 6, none⟩ = some (.int .u8 (sg r 6 : Int)) := by rw [hS3.cell, cells8_get srow 6 (by have := HSL.out; omega), HSG.out]
                have b1 : x3.cell? ⟨rb, 7, none⟩ = some (.int .u8 (sg r 7 : Int)) := by rw [hS3.cell, cells8_get srow 7 (by have := HSL.out; omega), HSG.out]
                have m0 := (hV3.2.1.cell (sg r 6)).trans (cells_get m (sg r 6) (by have := HM.out; omega))
                have m1 := (hV3.2.1.cell (sg r 7)).trans (cells_get m (sg r 7) (by have := HM.out; omega))
                have HX3 : Hid (mixS v3 3 7 11 15 (mw m r 6) (mw m r 7) = mixS v3 3 7 11 15 (gt m (sg r 6)) (gt m (sg r 7))) := Lib.hid rfl
                obtain ⟨s0, hs0⟩ : ∃ s0, s0 = sg r 6 := ⟨_, rfl⟩
                obtain ⟨s1, hs1⟩ : ∃ s1, s1 = sg r 7 := ⟨_, rfl⟩
                rw [← hs0] at l0 b0 m0 HX3
                rw [← hs1] at l1 b1 m1 HX3
                clear hs0 hs1
                have l0' : (s0 : Int) < 16 := by omega
                have l1' : (s1 : Int) < 16 := by omega
                refine wp_region_still_tail 8 (by kernel_rfl) (by kernel_rfl) ?_
                simp only [List.take_succ_cons, List.take_zero, List.drop_succ_cons, List.drop_zero]
                change wpStill _ _ x3.drew _ _ _
                repeat still_step
                refine wpStill_nil ?_
                change wpList _ _ _ _ _ x3.drew
                clear b0 b1 m0 m1
                go_wp2_with fail
                refine (mix_any q 3 7 11 15 _ _ v3 _ (by omega) (by omega) (by omega) (by omega) hl3 hV3.2.2.1.drew).mono ?_
                rintro e x4 ⟨rfl, hB, hgr⟩
                rw [← HX3.out] at hB
                have hV4 := hV3.drew.call hglt hsz hgr hB
                have hS4 := hS3.drew.grown hgr (by simp; omega)
                have hl4 : (mixS v3 3 7 11 15 (mw m r 6) (mw m r 7)).length = 16 := by rw [mixS_len]; exact hl3
                obtain ⟨v4, hv⟩ : ∃ v4, v4 = mixS v3 3 7 11 15 (mw m r 6) (mw m r 7) := ⟨_, rfl⟩
                rw [← hv] at hV4 hl4
                have HV4 := Lib.hid hv
                clear hv hB hgr hV3 hS3 HX3 l0 l1 l0' l1'
                go_wp2
                have l0 := HSLT.out 8 (by omega)
                have l1 := HSLT.out 9 (by omega)
                have b0 : x4.cell? ⟨rb, 8, none⟩ = some (.int .u8 (sg r 8 : Int)) := by rw [hS4.cell, cells8_get srow 8 (by have := HSL.out; omega), HSG.out]
                have b1 : x4.cell? ⟨rb, 9, none⟩ = some (.int .u8 (sg r 9 : Int)) := by rw [hS4.cell, cells8_get srow 9 (by have := HSL.out; omega), HSG.out]
                have m0 := (hV4.2.1.cell (sg r 8)).trans (cells_get m (sg r 8) (by have := HM.out; omega))
                have m1 := (hV4.2.1.cell (sg r 9)).trans (cells_get m (sg r 9) (by have := HM.out; omega))
                have HX4 : Hid (mixS v4 0 5 10 15 (mw m r 8) (mw m r 9) = mixS v4 0 5 10 15 (gt m (sg r 8)) (gt m (sg r 9))) := Lib.hid rfl
                obtain ⟨s0, hs0⟩ : ∃ s0, s0 = sg r 8 := ⟨_, rfl⟩
                obtain ⟨s1, hs1⟩ : ∃ s1, s1 = sg r 9 := ⟨_, rfl⟩
                rw [← hs0] at l0 b0 m0 HX4
                rw [← hs1] at l1 b1 m1 HX4
                clear hs0 hs1
                have l0' : (s0 : Int) < 16 := by omega
                have l1' : (s1 : Int) < 16 := by omega
                refine wp_region_still_tail 8 (by kernel_rfl) (by kernel_rfl) ?_
                simp only [List.take_succ_cons, List.take_zero, List.drop_succ_cons, List.drop_zero]
                change wpStill _ _ x4.drew _ _ _
                repeat still_step
                refine wpStill_nil ?_
                change wpList _ _ _ _ _ x4.drew
                clear b0 b1 m0 m1
                go_wp2_with fail
                refine (mix_any q 0 5 10 15 _ _ v4 _ (by omega) (by omega) (by omega) (by omega) hl4 hV4.2.2.1.drew).mono ?_
                rintro e x5 ⟨rfl, hB, hgr⟩
                rw [← HX4.out] at hB
                have hV5 := hV4.drew.call hglt hsz hgr hB
                have hS5 := hS4.drew.grown hgr (by simp; omega)
                have hl5 : (mixS v4 0 5 10 15 (mw m r 8) (mw m r 9)).length = 16 := by rw [mixS_len]; exact hl4
                obtain ⟨v5, hv⟩ : ∃ v5, v5 = mixS v4 0 5 10 15 (mw m r 8) (mw m r 9) := ⟨_, rfl⟩
                rw [← hv] at hV5 hl5
                have HV5 := Lib.hid hv
                clear hv hB hgr hV4 hS4 HX4 l0 l1 l0' l1'
                go_wp2
                have l0 := HSLT.out 10 (by omega)
                have l1 := HSLT.out 11 (by omega)
                have b0 : x5.cell? ⟨rb, 10, none⟩ = some (.int .u8 (sg r 10 : Int)) := by rw [hS5.cell, cells8_get srow 10 (by have := HSL.out; omega), HSG.out]
                have b1 : x5.cell? ⟨rb, 11, none⟩ = some (.int .u8 (sg r 11 : Int)) := by rw [hS5.cell, cells8_get srow 11 (by have := HSL.out; omega), HSG.out]
                have m0 := (hV5.2.1.cell (sg r 10)).trans (cells_get m (sg r 10) (by have := HM.out; omega))
                have m1 := (hV5.2.1.cell (sg r 11)).trans (cells_get m (sg r 11) (by have := HM.out; omega))
                have HX5 : Hid (mixS v5 1 6 11 12 (mw m r 10) (mw m r 11) = mixS v5 1 6 11 12 (gt m (sg r 10)) (gt m (sg r 11))) := Lib.hid rfl
                obtain ⟨s0, hs0⟩ : ∃ s0, s0 = sg r 10 := ⟨_, rfl⟩
                obtain ⟨s1, hs1⟩ : ∃ s1, s1 = sg r 11 := ⟨_, rfl⟩
                rw [← hs0] at l0 b0 m0 HX5
                rw [← hs1] at l1 b1 m1 HX5
                clear hs0 hs1
                have l0' : (s0 : Int) < 16 := by omega
                have l1' : (s1 : Int) < 16 := by omega
                refine wp_region_still_tail 8 (by kernel_rfl) (by kernel_rfl) ?_
                simp only [List.take_succ_cons, List.take_zero, List.drop_succ_cons, List.drop_zero]
                change wpStill _ _ x5.drew _ _ _
                repeat still_step
                refine wpStill_nil ?_
                change wpList _ _ _ _ _ x5.drew
                clear b0 b1 m0 m1
                go_wp2_with fail
                refine (mix_any q 1 6 11 12 _ _ v5 _ (by omega) (by omega) (by omega) (by omega) hl5 hV5.2.2.1.drew).mono ?_
                rintro e x6 ⟨rfl, hB, hgr⟩
                rw [← HX5.out] at hB
                have hV6 := hV5.drew.call hglt hsz hgr hB
                have hS6 := hS5.drew.grown hgr (by simp; omega)
                have hl6 : (mixS v5 1 6 11 12 (mw m r 10) (mw m r 11)).length = 16 := by rw [mixS_len]; exact hl5
                obtain ⟨v6, hv⟩ : ∃ v6, v6 = mixS v5 1 6 11 12 (mw m r 10) (mw m r 11) := ⟨_, rfl⟩
                rw [← hv] at hV6 hl6
                have HV6 := Lib.hid hv
                clear hv hB hgr hV5 hS5 HX5 l0 l1 l0' l1'
                go_wp2
                have l0 := HSLT.out 12 (by omega)
                have l1 := HSLT.out 13 (by omega)
                have b0 : x6.cell? ⟨rb, 12, none⟩ = some (.int .u8 (sg r 12 : Int)) := by rw [hS6.cell, cells8_get srow 12 (by have := HSL.out; omega), HSG.out]
                have b1 : x6.cell? ⟨rb, 13, none⟩ = some (.int .u8 (sg r 13 : Int)) := by rw [hS6.cell, cells8_get srow 13 (by have := HSL.out; omega), HSG.out]
                have m0 := (hV6.2.1.cell (sg r 12)).trans (cells_get m (sg r 12) (by have := HM.out; omega))
                have m1 := (hV6.2.1.cell (sg r 13)).trans (cells_get m (sg r 13) (by have := HM.out; omega))
                have HX6 : Hid (mixS v6 2 7 8 13 (mw m r 12) (mw m r 13) = mixS v6 2 7 8 13 (gt m (sg r 12)) (gt m (sg r 13))) := Lib.hid rfl
                obtain ⟨s0, hs0⟩ : ∃ s0, s0 = sg r 12 := ⟨_, rfl⟩
                obtain ⟨s1, hs1⟩ : ∃ s1, s1 = sg r 13 := ⟨_, rfl⟩
                rw [← hs0] at l0 b0 m0 HX6
                rw [← hs1] at l1 b1 m1 HX6
                clear hs0 hs1
                have l0' : (s0 : Int) < 16 := by omega
                have l1' : (s1 : Int) < 16 := by omega
                refine wp_region_still_tail 8 (by kernel_rfl) (by kernel_rfl) ?_
                simp only [List.take_succ_cons, List.take_zero, List.drop_succ_cons, List.drop_zero]
                change wpStill _ _ x6.drew _ _ _
                repeat still_step
                refine wpStill_nil ?_
                change wpList _ _ _ _ _ x6.drew
                clear b0 b1 m0 m1
                go_wp2_with fail
                refine (mix_any q 2 7 8 13 _ _ v6 _ (by omega) (by omega) (by omega) (by omega) hl6 hV6.2.2.1.drew).mono ?_
                rintro e x7 ⟨rfl, hB, hgr⟩
                rw [← HX6.out] at hB
                have hV7 := hV6.drew.call hglt hsz hgr hB
                have hS7 := hS6.drew.grown hgr (by simp; omega)
                have hl7 : (mixS v6 2 7 8 13 (mw m r 12) (mw m r 13)).length = 16 := by rw [mixS_len]; exact hl6
                obtain ⟨v7, hv⟩ : ∃ v7, v7 = mixS v6 2 7 8 13 (mw m r 12) (mw m r 13) := ⟨_, rfl⟩
                rw [← hv] at hV7 hl7
                have HV7 := Lib.hid hv
                clear hv hB hgr hV6 hS6 HX6 l0 l1 l0' l1'
                go_wp2
                have l0 := HSLT.out 14 (by omega)
                have l1 := HSLT.out 15 (by omega)
                have b0 : x7.cell? ⟨rb, 14, none⟩ = some (.int .u8 (sg r 14 : Int)) := by rw [hS7.cell, cells8_get srow 14 (by have := HSL.out; omega), HSG.out]
                have b1 : x7.cell? ⟨rb, 15, none⟩ = some (.int .u8 (sg r 15 : Int)) := by rw [hS7.cell, cells8_get srow 15 (by have := HSL.out; omega), HSG.out]
                have m0 := (hV7.2.1.cell (sg r 14)).trans (cells_get m (sg r 14) (by have := HM.out; omega))
                have m1 := (hV7.2.1.cell (sg r 15)).trans (cells_get m (sg r 15) (by have := HM.out; omega))
                have HX7 : Hid (mixS v7 3 4 9 14 (mw m r 14) (mw m r 15) = mixS v7 3 4 9 14 (gt m (sg r 14)) (gt m (sg r 15))) := Lib.hid rfl
                obtain ⟨s0, hs0⟩ : ∃ s0, s0 = sg r 14 := ⟨_, rfl⟩
                obtain ⟨s1, hs1⟩ : ∃ s1, s1 = sg r 15 := ⟨_, rfl⟩
                rw [← hs0] at l0 b0 m0 HX7
                rw [← hs1] at l1 b1 m1 HX7
                clear hs0 hs1
                have l0' : (s0 : Int) < 16 := by omega
                have l1' : (s1 : Int) < 16 := by omega
                refine wp_region_still_tail 8 (by kernel_rfl) (by kernel_rfl) ?_
                simp only [List.take_succ_cons, List.take_zero, List.drop_succ_cons, List.drop_zero]
                change wpStill _ _ x7.drew _ _ _
                repeat still_step
                refine wpStill_nil ?_
                change wpList _ _ _ _ _ x7.drew
                clear b0 b1 m0 m1
                go_wp2_with fail
                refine (mix_any q 3 4 9 14 _ _ v7 _ (by omega) (by omega) (by omega) (by omega) hl7 hV7.2.2.1.drew).mono ?_
                rintro e x8 ⟨rfl, hB, hgr⟩
                rw [← HX7.out] at hB
                have hV8 := hV7.drew.call hglt hsz hgr hB
                have hS8 := hS7.drew.grown hgr (by simp; omega)
                have hl8 : (mixS v7 3 4 9 14 (mw m r 14) (mw m r 15)).length = 16 := by rw [mixS_len]; exact hl7
                obtain ⟨v8, hv⟩ : ∃ v8, v8 = mixS v7 3 4 9 14 (mw m r 14) (mw m r 15) := ⟨_, rfl⟩
                rw [← hv] at hV8 hl8
                have HV8 := Lib.hid hv
                clear hv hB hgr hV7 hS7 HX7 l0 l1 l0' l1'
                have e : roundsS m V (r + 1) = v8 := by
                  rw [HNX.out, HV8.out, HV7.out, HV6.out, HV5.out, HV4.out, HV3.out, HV2.out, HV1.out]; rfl
                have HE := Lib.hid e
                clear e HV8 HV7 HV6 HV5 HV4 HV3 HV2 HV1 HNX hl0 hl1 hl2 hl3 hl4 hl5 hl6 hl7
                go_wp2
                go_roundw
                case rel => exact ⟨r + 1, by omega, by go_num, by rw [HE.out]; exact hV8⟩
                case measure => simp [intOf]; omega
              · as_aux_lemma =>
                obtain rfl : r = 10 := by omega
                rw [show ((10 : Nat) : Int) = 10 from rfl]
                have hlv : (roundsS m V 10).length = 16 := by rw [roundsS_len]; exact HLV.out
                generalize roundsS m V 10 = v at *
                have HL := Lib.hid hlv
                clear hlv
                obtain ⟨k1, k2, k3, k4⟩ := hR
                go_wp2
                clear k2
                go_loopw [175] (fun t wr => ∃ i : Nat, i ≤ 8 ∧ t = .int .i64 i ∧ Blk wr g 123 (stCells (foldTo h v i) wt fill taken) ∧ Blk wr q 148 (cells v) ∧ w.grownBy wr (some g)) (fun t _ => 8 - (intOf t).toNat)
                case atStart => exact ⟨0, by omega, rfl, k1, k3, k4⟩
                case round =>
                  clear k1 k3 k4
                  obtain ⟨i, hi, rfl, k1, k3, k4⟩ := hrel
                  by_cases hlt : i < 8
                  · as_aux_lemma =>
                    have hlt' : (i : Int) < 8 := by omega
                    have hl8 : (foldTo h v i).length = 8 := by rw [foldTo_len]; exact HH.out
                    have ch := st_h k1 i (by omega)
                    rw [foldTo_at h v i i (Nat.le_refl _) (by have := HH.out; omega)] at ch
                    have fh := k1.frozen i
                    have cv := (k3.cell i).trans (cells_get v i (by have := HL.out; omega))
                    have cv8 := (k3.cell (i + 8)).trans (cells_get v (i + 8) (by have := HL.out; omega))
                    have w1 : IntKind.i64.wrap ((i : Int) + 8) = (i : Int) + 8 := IntWalk.i64_in _ (by omega)
                    have n1 : ((i : Int) + 8).toNat = i + 8 := by omega
                    have z1 : 0 ≤ (i : Int) + 8 := by omega
                    have q1 : (i : Int) + 8 < 16 := by omega
                    have q2 : (i : Int) < 16 := by omega
                    have hnx : foldTo h v (i + 1) = (foldTo h v i).set i (gt h i ^^^ (gt v i ^^^ gt v (i + 8))) := rfl
                    have HNX := Lib.hid hnx
                    clear hnx
                    generalize foldTo h v i = fo at *
                    go_wp2
                    refine wp_region_still_tail 17 (by kernel_rfl) (by kernel_rfl) ?_
                    simp only [List.take_succ_cons, List.take_zero, List.drop_succ_cons, List.drop_zero]
                    change wpStill _ _ wr.drew _ _ _
                    repeat still_step
                    refine wpStill_nil ?_
                    change wpList _ _ _ _ _ wr.drew
                    clear w1 n1 z1 q1 cv cv8
                    go_wp2
                    go_roundw
                    case rel =>
                      refine ⟨i + 1, by omega, by go_num, ?_, (k3.far (by dsimp only; omega) _).drew, grown_drew (grown_set k4 _ _)⟩
                      rw [HNX.out, ← st_setH i _ (by omega)]
                      exact (k1.set_ i _).drew
                    case measure => simp [intOf]; omega
                  · as_aux_lemma =>
                    obtain rfl : i = 8 := by omega
                    rw [← HFIN.out] at k1
                    go_wp2
                    go_end0
                    exact ⟨rfl, k1, k4⟩
end Go.Proofs.YtconhhhggckcbaaDoor
