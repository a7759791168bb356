/- The walk of hash.end: the digest of all that was added. -/
import Derived.Test.YtilbebjjmnncdaaDoorAdd
import Derived.Deep.MidRow
namespace Go.Proofs.YtilbebjjmnncdaaDoor
open Go.RowKit

/-- the world while the digest's bytes are written. -/
def ERel (g r : Nat) (l : List UInt8) (w wr : World) : Prop :=
  Blk wr w.heap.size 37 (cells8 (List.replicate 32 0)) ∧ Blk wr r 37 (cells8 l) ∧ w.grownBy wr (some g)
theorem ERel.put {g r : Nat} {l : List UInt8} {w wr : World} (h : ERel g r l w wr) (hr : w.heap.size < r) (i : Nat) (x : UInt8) : ERel g r (l.set i x) w (wr.setCell ⟨r, i, none⟩ (.int .u8 (x.toNat : Int))) := by
  obtain ⟨h1, h2, h3⟩ := h
  refine ⟨h1.far (by dsimp only; omega) _, ?_, grown_far h3 (by dsimp only; omega) _⟩
  rw [← cells8_set]; exact h2.set_ i _
theorem sz32d : (Tryd.prog.info? 37).map (·.size) = some 32 := by kernel_rfl
/-- 'a[l:]' of an array in memory, the end of it too. -/
theorem run_sliceArr_le {P : Program} {t e : TypeId} {n : Nat} (hu : P.underlying t = some (.array n e)) (hs : ∀ w, (sizeOf e).run P w = .ok 1 w) (g off : Nat) (l : Int) (h0 : 0 ≤ l) (hl : l ≤ n) (W : World) :
    (Instr.sliceAt t (.pointer (some ⟨g, off, none⟩)) (some (.int .i64 l)) none none).run P W = .ok (.slice (some ⟨g, if n = l.toNat then off else off + l.toNat, none⟩) (n - l.toNat) (n - l.toNat)) W := by
  by_cases hn : n = l.toNat
  · obtain ⟨h1, h2⟩ := arrLen_of hu
    have ht : P.underlying t = some (.array (P.arrayLen t) (P.elem t)) := by rw [h1, h2]; exact hu
    rw [run_sliceAt_array_l W t ⟨g, off, none⟩ ht .i64 l h0 (by rw [h1]; omega), h1, h2, hs W]
    simp only [Result.andThen, slicedAt]
    rw [if_pos hn, if_pos hn]
  · rw [run_sliceArr_l hu hs g off l h0 (by omega) W, if_neg hn]
theorem wpList_clear {P : Program} {w : World} {ops : Array Oper} {rest : List Oper} {o : Oper} {a : Act} {Q : Exit → Act → World → Prop} (hgd : o.guard = none) (d : Operand) (dT : TypeId)
    (ho : o.op = .call { callee := .builtin .clear, args := #[d], argTypes := #[dT] }) (elem : TypeId) (hu : P.underlying dT = some (.slice elem)) (hz : ∀ w, (zeroValue elem).run P w = .ok (.int .u8 0) w)
    (g off n c : Nat) (hd : a.eval d = .slice (some ⟨g, off, none⟩) n c) (cur : Array Value) (t : TypeId) (hg : Blk w g t cur) (hfit : off + n ≤ cur.size)
    (h : wpList P ops Q rest (a.put o.dst (.tuple #[])) (w.setRow g (cur.toList.take off ++ (List.replicate n (0 : UInt8)).map cb ++ cur.toList.drop (off + n)).toArray)) : wpList P ops Q (o :: rest) a w := by
  refine wpList_plain hgd fun K hK => ?_
  have hrun := run_clear (P := P) w dT o.type elem g off n c cur t hu hz hg hfit
  generalize (cur.toList.take off ++ (List.replicate n (0 : UInt8)).map cb ++ cur.toList.drop (off + n)).toArray = R at hrun h
  unfold Oper.wp
  simp [execOp, ho, resolve, invoke, builtin, hd, hrun, Result.andThen]
  exact hK _ _ h
theorem st_range {w : World} {g : Nat} {t : TypeId} {h : List Wd} {wt : List UInt8} {fill : Int} {taken : Nat} (hB : Blk w g t (stCells h wt fill taken)) : w.rangeAt g 0 (h.map cw) := fun j v hv => by
  rw [Nat.zero_add, hB.cell]
  have hj : j < h.length := by simpa using (List.getElem?_eq_some_iff.1 hv).1
  simp only [stCells, cells, Array.append_assoc]
  rw [Array.getElem?_append_left (by simpa using hj)]
  simpa using hv
theorem zero8 (w : World) : (zeroValue 5).run Tryd.prog w = .ok (.int .u8 0) w := by kernel_rfl

set_option maxRecDepth 100000 in
set_option maxHeartbeats 1000000 in
theorem end_any (g : Nat) (h0 : List Wd) (p : List UInt8) (w : World) (hG : Glob w) (hg2 : 2 ≤ g) (hA : AddPost h0 p g w w) (hsz : p.length < 2 ^ 62) :
    Calls Tryd.prog 39 #[.pointer (some ⟨g, 0, none⟩)] w fun e w' =>
      e = .returned (.agg (cells8 (outD (blake h0 p) 32))) ∧ w.grownBy w' (some g) := by
  obtain ⟨h, wt, f, q, hA, hN, hh, hB, hgr⟩ := hA
  have HA := Lib.hid hA
  have HN := Lib.hid hN
  have HG := Lib.hid hG
  have HG2 := Lib.hid hg2
  obtain ⟨_, hw64, hlen, hf64, _⟩ := hA
  clear hG hg2 hN
  have cf := st_fill hB hh hw64
  have ct := st_taken hB hh hw64
  have ff := hB.frozen 72
  have ft := hB.frozen 73
  go_enter Tryd.func39, Tryd.ntmps39
  go_wp2_with fail
  change Code.wp _ _ _ _ (w.alloc (.cells (cells8 (List.replicate 32 0)) 37))
  have hD0 : Blk (w.alloc (.cells (cells8 (List.replicate 32 0)) 37)) w.heap.size 37 (cells8 (List.replicate 32 0)) := Blk.new _ _ _
  have hglt := hB.lt
  have hB' := hB.alloc (.cells (cells8 (List.replicate 32 0)) 37)
  have hgr' := grown_alloc hgr (.cells (cells8 (List.replicate 32 0)) 37)
  clear hB hgr cf ct ff ft
  generalize w.alloc (.cells (cells8 (List.replicate 32 0)) 37) = wa at *
  have cf := st_fill hB' hh hw64
  have ct := st_taken hB' hh hw64
  have ff := hB'.frozen 72
  have ft := hB'.frozen 73
  have HLEN := Lib.hid hlen
  have v1 : IntKind.u64.wrap (f : Int) = (f : Int) := by rw [wrap_u64]; omega
  have v2 : IntKind.u64.wrap (((64 * q : Nat) : Int) + (f : Int)) = ((64 * q + f : Nat) : Int) := by rw [wrap_u64]; omega
  clear hlen
  refine wp_region_still_tail 12 (by kernel_rfl) (by kernel_rfl) ?_
  simp only [List.take_succ_cons, List.take_zero, List.drop_succ_cons, List.drop_zero]
  change wpStill _ _ wa.drew _ _ _
  repeat still_step
  refine wpStill_nil ?_
  change wpList _ _ _ _ _ wa.drew
  go_wp2_with fail
  have hB2 : Blk (wa.setCell ⟨g, 73, none⟩ (.int .u64 (IntKind.u64.wrap (64 * (q : Int) + (f : Int))))).drew g 66 (stCells h wt (f : Int) (64 * q + f)) := by
    rw [← st_setTaken hh hw64 (taken := 64 * q), ← v2, show ((64 * q : Nat) : Int) = 64 * (q : Int) by omega]; exact (hB'.set_ 73 _).drew
  have hg2 := grown_drew (grown_set hgr' 73 (.int .u64 (IntKind.u64.wrap (64 * (q : Int) + (f : Int)))))
  have hD2 := (hD0.far (p := ⟨g, 73, none⟩) (by dsimp only; omega) (.int .u64 (IntKind.u64.wrap (64 * (q : Int) + (f : Int))))).drew
  clear hB' hgr' hD0 cf ct ff ft v1 v2
  generalize (wa.setCell ⟨g, 73, none⟩ (.int .u64 (IntKind.u64.wrap (64 * (q : Int) + (f : Int))))).drew = wb at *
  generalize IntKind.u64.wrap (64 * (q : Int) + (f : Int)) = junk at *
  have cf := st_fill hB2 hh hw64
  have hsl := run_sliceArr_le Tryd.underlying63 so8 g 8 (f : Int) (by omega) (by omega)
  rw [Int.toNat_natCast] at hsl
  obtain ⟨o, ho, hrow⟩ : ∃ o, (if 64 = f then 8 else 8 + f) = o ∧ o + (64 - f) ≤ 74 ∧ ((stCells h wt (f : Int) (64 * q + f)).toList.take o ++ (List.replicate (64 - f) (0 : UInt8)).map cb ++ (stCells h wt (f : Int) (64 * q + f)).toList.drop (o + (64 - f))).toArray = stCells h (wt.take f ++ List.replicate (64 - f) 0) (f : Int) (64 * q + f) := by
    by_cases hf : 64 = f
    · refine ⟨8, if_pos hf, by omega, ?_⟩
      subst hf
      rw [List.take_of_length_le (by omega : wt.length ≤ 64)]
      simp
    · exact ⟨8 + f, if_neg hf, by omega, st_zeros hh hw64 f hf64⟩
  rw [ho] at hsl
  refine wp_region_still_tail 8 (by kernel_rfl) (by kernel_rfl) ?_
  simp only [List.take_succ_cons, List.take_zero, List.drop_succ_cons, List.drop_zero]
  change wpStill _ _ wb.drew _ _ _
  repeat still_step
  refine wpStill_nil ?_
  change wpList _ _ _ _ _ wb.drew
  refine wpList_clear rfl (.tmp 26) 33 rfl 5 Tryd.underlying33 zero8 g o (64 - f) (64 - f) rfl (stCells h wt (f : Int) (64 * q + f)) 66 hB2.drew (by rw [st_size hh hw64]; omega) ?_
  rw [hrow.2]
  have hfin := HA.out.last HN.out
  have hw2 : (wt.take f ++ List.replicate (64 - f) 0).length = 64 := by rw [List.length_append, List.length_take, List.length_replicate]; omega
  clear hrow hsl ho cf
  generalize wt.take f ++ List.replicate (64 - f) 0 = wt2 at *
  have hB3 : Blk (wb.drew.setRow g (stCells h wt2 (f : Int) (64 * q + f))) g 66 (stCells h wt2 (f : Int) (64 * q + f)) := hB2.drew.row _
  have hg3 := grown_rowSelf (grown_drew hg2) (stCells h wt2 (f : Int) (64 * q + f))
  have hD3 := hD2.drew.rowFar (g' := g) (by omega) (stCells h wt2 (f : Int) (64 * q + f))
  clear hB2 hg2 hD2
  generalize wb.drew.setRow g (stCells h wt2 (f : Int) (64 * q + f)) = wc at *
  go_wp2_with fail
  refine (take_any g h wt2 (f : Int) (64 * q + f) true wc hh hw2 (HG.out.grown hg3 HG2.out) HG2.out hB3).mono ?_
  rintro e wd ⟨rfl, hB4, hg4⟩
  rw [hfin] at hB4
  have hl8 : (blake h0 p).length = 8 := by rw [← hfin]; exact compress_len8 hh
  clear hfin HA HN
  obtain ⟨H, hE⟩ : ∃ H, blake h0 p = H := ⟨_, rfl⟩
  rw [hE] at hB4 hl8
  have HE := Lib.hid hE
  clear hE
  have hg5 := grown_trans hg3 hg4
  have hD5 := hD3.grown hg4 (by simp; omega)
  clear hB3 hg3 hg4 hD3
  have HI : Hid ((Tryd.prog.info? 62).map (·.size) = some (H.map cw).length) := Lib.hid (by rw [List.length_map, hl8]; exact sz8)
  go_wp2_with (refine wpList_load_mid rfl 62 (.tmp 31) rfl g 0 rfl (H.map cw) _ (st_range (hB4.alloc _)) Tryd.underlying62 rfl HI.out ?_)
  change Code.wp _ _ _ _ (wd.alloc (.cells (cells8 (outD H 0)) 37))
  have hr1 := hD5.lt
  have hR1 : ERel g wd.heap.size (outD H 0) w (wd.alloc (.cells (cells8 (outD H 0)) 37)) := ⟨hD5.alloc _, Blk.new _ _ _, grown_alloc hg5 _⟩
  have HL8 := Lib.hid hl8
  clear hD5 hg5 hB4 hl8 HI
  generalize wd.alloc (.cells (cells8 (outD H 0)) 37) = wb at *
  generalize wd.heap.size = r at *
  rw [show (H.map cw).toArray = cells H from rfl]
  go_loopw [33] (fun i wr => ∃ j : Nat, j ≤ 8 ∧ i = .int .i64 j ∧ ERel g r (outD H (4 * j)) w wr) (fun i _ => 8 - (intOf i).toNat)
  case atStart => exact ⟨0, by omega, rfl, hR1⟩
  case round =>
    clear hR1
    obtain ⟨i, hi, rfl, hR⟩ := hrel
    by_cases hlt : i < 8
    · have hlt' : (i : Int) < 8 := by omega
      have hix := run_indexAgg Tryd.underlying62 Tryd.underlying58 rfl so32 (cells H) i hlt _ (cells_get H i (by have := HL8.out; omega)) .i64
      go_wp2
      obtain ⟨wo, hwo⟩ : ∃ wo : World, wo = wr := ⟨_, rfl⟩
      rw [← hwo] at hR ⊢
      clear hwo hix
      go_loopw [37] (fun t wr => ∃ j : Nat, j ≤ 4 ∧ t = .int .i64 j ∧ ERel g r (outD H (4 * i + j)) w wr) (fun t _ => 4 - (intOf t).toNat)
      case atStart => exact ⟨0, by omega, rfl, hR⟩
      case round =>
        clear hR
        obtain ⟨j, hj, rfl, hR⟩ := hrel
        by_cases hlt2 : j < 4
        · have hlt2' : (j : Int) < 4 := by omega
          have cj := (hR.2.1.cell (4 * i + j)).trans (cells8_get _ (4 * i + j) (by rw [outD_len]; omega))
          have fj := hR.2.1.frozen (4 * i + j)
          go_wp2
          go_roundw
          case rel =>
            refine ⟨j + 1, by omega, by go_num, ?_⟩
            rw [byteOf_eq']
            have h1 : (4 * i + j) / 4 = i := by omega
            have h2 : (4 * i + j) % 4 = j := by omega
            have h := hR.put hr1 (4 * i + j) (byteOf (gt H i) j)
            have e : outD H (4 * i + (j + 1)) = (outD H (4 * i + j)).set (4 * i + j) (byteOf (gt H i) j) := by
              show (outD H (4 * i + j)).set (4 * i + j) (byteOf (gt H ((4 * i + j) / 4)) ((4 * i + j) % 4)) = _
              rw [h1, h2]
            rw [e]; exact h
          case measure => simp [intOf]; omega
        · obtain rfl : j = 4 := by omega
          go_wp2
          go_roundw
          case rel => exact ⟨i + 1, by omega, by go_num, hR⟩
          case measure => simp [intOf]; omega
    · obtain rfl : i = 8 := by omega
      obtain ⟨hz1, hB, hbel⟩ := hR
      rw [show 4 * 8 = 32 from rfl] at hB
      have HS : Hid ((cells8 (outD H 32)).size = 32) := Lib.hid (by rw [cells8_size, outD_len])
      obtain ⟨D, hD⟩ : ∃ D, outD H 32 = D := ⟨_, rfl⟩
      rw [hD] at hB HS
      have HD := Lib.hid hD
      clear hD
      have HZ : Hid ((cells8 (List.replicate 32 0)).size = 32) := Lib.hid (by rw [cells8_size, List.length_replicate])
      go_wp2_with (first | (refine wpList_loadB rfl 37 (.tmp 3) rfl r rfl hB Tryd.underlying37 rfl sz32d HS.out ?_) | (refine wpList_storeB rfl 37 (.tmp 2) (.tmp 52) rfl w.heap.size _ rfl rfl hz1 sz32d HS.out HZ.out (cells8_one _) ?_))
      refine bodyPost_ret (results_B rfl _ (g := w.heap.size) rfl (hz1.row _) Tryd.underlying37 rfl sz32d HS.out) rfl ⟨by rw [HE.out, HD.out], grown_row hbel (Nat.le_refl _) _⟩
end Go.Proofs.YtilbebjjmnncdaaDoor
