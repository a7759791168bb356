/- Laws and walks that many claims share: Add, End, Strs, Keyed. -/
import Derived.Test.YtconhhhggckcbaaDoorTake
import Derived.Test.YtconhhhggckcbaaDoorMixB
import Derived.Deep.MidRow
import Derived.Test.YtconhhhggckcbaaDoorBaseB
/- The walk of hash.add: more bytes into a state. -/
namespace Go.Proofs.YtconhhhggckcbaaDoor
open Go.RowKit

theorem compress_len8 {h : List Wd} {wt : List UInt8} {t : Nat} {b : Bool} (hh : h.length = 8) : (compress h wt t b).length = 8 := by
  unfold compress
  rw [foldTo_len]; exact hh
theorem grown_rowSelf {a b : World} {g : Nat} (h : a.grownBy b (some g)) (cs : Array Value) : a.grownBy (b.setRow g cs) (some g) :=
  ⟨h.os, h.tape, h.output, by rw [setRow_size]; exact h.size, fun k hk hr => (setRow_other b g k cs (fun e => hr (by rw [e]))).trans (h.block k hk hr)⟩
theorem sz1b : (Tryd.prog.info? 5).map (·.size) = some 1 := by kernel_rfl
/-- what 'add' leaves. -/
def AddPost (h0 : List Wd) (p : List UInt8) (g : Nat) (w w' : World) : Prop :=
  ∃ (h : List Wd) (wt : List UInt8) (f q : Nat), Abs h0 p h wt f q ∧ (1 ≤ f ∨ p = []) ∧ h.length = 8 ∧ Blk w' g 123 (stCells h wt (f : Int) (64 * q)) ∧ w.grownBy w' (some g)
def textLen : Value → Nat
  | .string b => b.size
  | _ => 0
theorem textLen_mk (l : List UInt8) : textLen (.string ⟨l.toArray⟩) = l.length := by show l.toArray.size = _; simp

set_option maxRecDepth 100000 in
set_option maxHeartbeats 1000000 in
theorem add_any (g : Nat) (h0 : List Wd) (p s : List UInt8) (w : World) (hG : Glob w) (hg2 : 2 ≤ g) (hA : AddPost h0 p g w w) (hsz : p.length + s.length < 2 ^ 62) :
    Calls Tryd.prog 90 #[.pointer (some ⟨g, 0, none⟩), .string ⟨s.toArray⟩] w fun e w' =>
      e = .returned (.tuple #[]) ∧ AddPost h0 (p ++ s) g w w' := by
  have HG := Lib.hid hG
  have HG2 := Lib.hid hg2
  clear hG hg2
  go_enter Tryd.func90, Tryd.ntmps90
  go_wp2
  go_loopw [1] (fun t wr => ∃ i : Nat, i ≤ s.length ∧ t = .string ⟨(s.drop i).toArray⟩ ∧ AddPost h0 (p ++ s.take i) g w wr) (fun t _ => textLen t)
  case atStart => exact ⟨0, by omega, by simp, by simpa using hA⟩
  case round =>
    clear hA
    obtain ⟨i, hi, rfl, h, wt, f, q, hA, hN, hh, hB, hgr⟩ := hrel
    by_cases hlt : i < s.length
    · have HL : Hid ((s.drop i).length = s.length - i) := Lib.hid (List.length_drop ..)
      have HC : Hid (∀ n, n ≤ s.length - i → (p ++ s.take i) ++ (s.drop i).take n = p ++ s.take (i + n) ∧ (s.drop i).drop n = s.drop (i + n)) := Lib.hid (fun n _ => ⟨by rw [List.append_assoc, List.take_add], by rw [List.drop_drop]⟩)
      have hpl : (p ++ s.take i).length < 2 ^ 62 := by rw [List.length_append, List.length_take]; omega
      generalize s.drop i = l at *
      generalize p ++ s.take i = P at *
      have hl0 : 0 < l.length := by have := HL.out; omega
      have hl1 : (0 : Int) < (l.length : Int) := by omega
      have HA := Lib.hid hA
      obtain ⟨_, hw64, hlen, hf64, _⟩ := hA
      have cf := st_fill hB hh hw64
      have ct := st_taken hB hh hw64
      have ff := hB.frozen 72
      have ft := hB.frozen 73
      by_cases hf : f = 64
      · subst hf
        rw [show ((64 : Nat) : Int) = 64 from rfl] at *
        go_wp2_with fail
        rw [show (64 * (q : Int) + 64) = ((64 * q + 64 : Nat) : Int) by omega]
        have hB1 : Blk (wr.setCell ⟨g, 73, none⟩ (.int .u64 ((64 * q + 64 : Nat) : Int))) g 123 (stCells h wt 64 (64 * q + 64)) := by rw [← st_setTaken hh hw64]; exact hB.set_ 73 _
        have hg1 := grown_set hgr 73 (.int .u64 ((64 * q + 64 : Nat) : Int))
        generalize wr.setCell ⟨g, 73, none⟩ (.int .u64 ((64 * q + 64 : Nat) : Int)) = wa at *
        refine (take_any g h wt 64 (64 * q + 64) false wa hh hw64 (HG.out.grown hg1 HG2.out) HG2.out hB1).mono ?_
        rintro e w2 ⟨rfl, hB2, hg2⟩
        have HA2 := Lib.hid HA.out.block
        have hh2 := compress_len8 (h := h) (wt := wt) (t := 64 * q + 64) (b := false) hh
        generalize compress h wt (64 * q + 64) false = h2 at *
        have hgr2 := grown_trans hg1 hg2
        have c2 := st_fill hB2 hh2 hw64
        have HLEN := Lib.hid hlen
        clear hB1 hB hg1 hg2 hgr cf ct ff ft HA hh hlen
        have f2 := hB2.frozen 72
        go_wp2
        obtain ⟨F, Q, hF, HAX, hBX, hgX⟩ : ∃ F Q : Nat, F < 64 ∧ Hid (Abs h0 P h2 wt F Q) ∧ Blk (w2.setCell ⟨g, 72, none⟩ (.int .i64 0)) g 123 (stCells h2 wt (F : Int) (64 * Q)) ∧ w.grownBy (w2.setCell ⟨g, 72, none⟩ (.int .i64 0)) (some g) := by
          refine ⟨0, q + 1, by omega, HA2, ?_, grown_set hgr2 _ _⟩
          rw [show ((0 : Nat) : Int) = 0 from rfl, ← st_setFill hh2 hw64 (fill := 64), show 64 * (q + 1) = 64 * q + 64 by omega]
          exact hB2.set_ 72 _
        generalize w2.setCell ⟨g, 72, none⟩ (.int .i64 0) = W at *
        clear hB2 HA2 hgr2 c2 f2
        have cF := st_fill hBX hh2 hw64
        have fF := hBX.frozen 72
        have hF1 : (F : Int) < 64 := by omega
        have hsl := run_sliceArr_l Tryd.underlying46 so8 g 8 (F : Int) (by omega) hF1
        refine wp_region_still_tail 9 (by kernel_rfl) (by kernel_rfl) ?_
        simp only [List.take_succ_cons, List.take_zero, List.drop_succ_cons, List.drop_zero]
        change wpStill _ _ W.drew _ _ _
        repeat still_step
        refine wpStill_nil ?_
        change wpList _ _ _ _ _ W.drew
        clear cF fF hF1 hsl
        obtain ⟨n, hn⟩ : ∃ n, n = Nat.min l.length (64 - F) := ⟨_, rfl⟩
        have hn' : n = min l.length (64 - F) := hn
        have hx : (l.take n).length = n := by rw [List.length_take]; omega
        have hsp := st_splice (fill := (F : Int)) (taken := 64 * Q) hh2 hw64 F (l.take n) (by omega)
        have HAY := Lib.hid (HAX.out.more (l.take n) (by omega))
        rw [hx] at hsp HAY
        refine wpList_copy_str rfl (.tmp 32) (.tmp 33) 52 9 rfl 5 Tryd.underlying52 sz1b g (8 + F) (64 - F) (64 - F) l rfl rfl (stCells h2 wt (F : Int) (64 * Q)) 123 hBX.drew n hn (by rw [st_size hh2 hw64]; omega) ?_
        rw [hsp]
        have hw2 := HAY.out.2.1
        generalize wt.take F ++ l.take n ++ wt.drop (F + n) = wt2 at *
        have hBY : Blk (W.drew.setRow g (stCells h2 wt2 (F : Int) (64 * Q))) g 123 (stCells h2 wt2 (F : Int) (64 * Q)) := hBX.drew.row _
        have hgY := grown_rowSelf (grown_drew hgX) (stCells h2 wt2 (F : Int) (64 * Q))
        generalize W.drew.setRow g (stCells h2 wt2 (F : Int) (64 * Q)) = Y at *
        have cY := st_fill hBY hh2 hw2
        have fY := hBY.frozen 72
        have hn1 : 1 ≤ n := by omega
        have hn2 : F + n ≤ 64 := by omega
        have hn3 : n ≤ l.length := by omega
        have HX := Lib.hid hx
        clear hx hsp hn hn' hBX hgX hw64 HAX
        go_wp2_with (refine wpList_rest rfl 9 (.tmp 43) (.tmp 44) rfl Tryd.underlying9 l n _ rfl rfl rfl hn3 ?_)
        go_roundw
        case rel =>
          obtain ⟨e1, e2⟩ := HC.out n (by have := HL.out; omega)
          rw [e1] at HAY
          refine ⟨i + n, by have := HL.out; omega, by rw [e2], h2, wt2, F + n, Q, HAY.out, .inl (by omega), hh2, ?_, grown_set hgY _ _⟩
          rw [Int.natCast_add, ← st_setFill hh2 hw2 (fill := (F : Int))]
          exact hBY.set_ 72 _
        case measure => rw [textLen_mk, textLen_mk, List.length_drop]; omega
      · have hF : f < 64 := by omega
        have hF' : ¬ ((f : Int) = 64) := by omega
        have HAX := HA
        have hBX := hB
        have hgX := hgr
        have hh2 := hh
        go_wp2
        clear hB hgr hh HA cf ct ff ft
        generalize wr = W at *
        generalize f = F at *
        generalize q = Q at *
        generalize h = h2 at *
        have cF := st_fill hBX hh2 hw64
        have fF := hBX.frozen 72
        have hF1 : (F : Int) < 64 := by omega
        have hsl := run_sliceArr_l Tryd.underlying46 so8 g 8 (F : Int) (by omega) hF1
        refine wp_region_still_tail 9 (by kernel_rfl) (by kernel_rfl) ?_
        simp only [List.take_succ_cons, List.take_zero, List.drop_succ_cons, List.drop_zero]
        change wpStill _ _ W.drew _ _ _
        repeat still_step
        refine wpStill_nil ?_
        change wpList _ _ _ _ _ W.drew
        clear cF fF hF1 hsl
        obtain ⟨n, hn⟩ : ∃ n, n = Nat.min l.length (64 - F) := ⟨_, rfl⟩
        have hn' : n = min l.length (64 - F) := hn
        have hx : (l.take n).length = n := by rw [List.length_take]; omega
        have hsp := st_splice (fill := (F : Int)) (taken := 64 * Q) hh2 hw64 F (l.take n) (by omega)
        have HAY := Lib.hid (HAX.out.more (l.take n) (by omega))
        rw [hx] at hsp HAY
        refine wpList_copy_str rfl (.tmp 32) (.tmp 33) 52 9 rfl 5 Tryd.underlying52 sz1b g (8 + F) (64 - F) (64 - F) l rfl rfl (stCells h2 wt (F : Int) (64 * Q)) 123 hBX.drew n hn (by rw [st_size hh2 hw64]; omega) ?_
        rw [hsp]
        have hw2 := HAY.out.2.1
        generalize wt.take F ++ l.take n ++ wt.drop (F + n) = wt2 at *
        have hBY : Blk (W.drew.setRow g (stCells h2 wt2 (F : Int) (64 * Q))) g 123 (stCells h2 wt2 (F : Int) (64 * Q)) := hBX.drew.row _
        have hgY := grown_rowSelf (grown_drew hgX) (stCells h2 wt2 (F : Int) (64 * Q))
        generalize W.drew.setRow g (stCells h2 wt2 (F : Int) (64 * Q)) = Y at *
        have cY := st_fill hBY hh2 hw2
        have fY := hBY.frozen 72
        have hn1 : 1 ≤ n := by omega
        have hn2 : F + n ≤ 64 := by omega
        have hn3 : n ≤ l.length := by omega
        have HX := Lib.hid hx
        clear hx hsp hn hn' hBX hgX hw64 HAX
        go_wp2_with (refine wpList_rest rfl 9 (.tmp 43) (.tmp 44) rfl Tryd.underlying9 l n _ rfl rfl rfl hn3 ?_)
        go_roundw
        case rel =>
          obtain ⟨e1, e2⟩ := HC.out n (by have := HL.out; omega)
          rw [e1] at HAY
          refine ⟨i + n, by have := HL.out; omega, by rw [e2], h2, wt2, F + n, Q, HAY.out, .inl (by omega), hh2, ?_, grown_set hgY _ _⟩
          rw [Int.natCast_add, ← st_setFill hh2 hw2 (fill := (F : Int))]
          exact hBY.set_ 72 _
        case measure => rw [textLen_mk, textLen_mk, List.length_drop]; omega
    · obtain rfl : i = s.length := by omega
      rw [List.drop_of_length_le (Nat.le_refl _), List.take_of_length_le (Nat.le_refl _)] at *
      go_wp2
      go_end0
      exact ⟨rfl, h, wt, f, q, hA, hN, hh, hB, hgr⟩
end Go.Proofs.YtconhhhggckcbaaDoor
/- The walk of hash.end: the digest of all that was added. -/
namespace Go.Proofs.YtconhhhggckcbaaDoor
open Go.RowKit

/-- the world while the digest's bytes are written. -/
def ERel (g r : Nat) (l : List UInt8) (w wr : World) : Prop :=
  Blk wr w.heap.size 73 (cells8 (List.replicate 32 0)) ∧ Blk wr r 73 (cells8 l) ∧ w.grownBy wr (some g)
theorem ERel.put {g r : Nat} {l : List UInt8} {w wr : World} (h : ERel g r l w wr) (hr : w.heap.size < r) (i : Nat) (x : UInt8) : ERel g r (l.set i x) w (wr.setCell ⟨r, i, none⟩ (.int .u8 (x.toNat : Int))) := by
  obtain ⟨h1, h2, h3⟩ := h
  refine ⟨h1.far (by dsimp only; omega) _, ?_, grown_far h3 (by dsimp only; omega) _⟩
  rw [← cells8_set]; exact h2.set_ i _
theorem sz32d : (Tryd.prog.info? 73).map (·.size) = some 32 := by kernel_rfl
/-- 'a[l:]' of an array in memory, the end of it too. -/
theorem run_sliceArr_le {P : Program} {t e : TypeId} {n : Nat} (hu : P.underlying t = some (.array n e)) (hs : ∀ w, (sizeOf e).run P w = .ok 1 w) (g off : Nat) (l : Int) (h0 : 0 ≤ l) (hl : l ≤ n) (W : World) :
    (Instr.sliceAt t (.pointer (some ⟨g, off, none⟩)) (some (.int .i64 l)) none none).run P W = .ok (.slice (some ⟨g, if n = l.toNat then off else off + l.toNat, none⟩) (n - l.toNat) (n - l.toNat)) W := by
  by_cases hn : n = l.toNat
  · obtain ⟨h1, h2⟩ := arrLen_of hu
    have ht : P.underlying t = some (.array (P.arrayLen t) (P.elem t)) := by rw [h1, h2]; exact hu
    rw [run_sliceAt_array_l W t ⟨g, off, none⟩ ht .i64 l h0 (by rw [h1]; omega), h1, h2, hs W]
    simp only [Result.andThen, slicedAt]
    rw [if_pos hn, if_pos hn]
  · rw [run_sliceArr_l hu hs g off l h0 (by omega) W, if_neg hn]
theorem wpList_clear {P : Program} {w : World} {ops : Array Oper} {rest : List Oper} {o : Oper} {a : Act} {Q : Exit → Act → World → Prop} (hgd : o.guard = none) (d : Operand) (dT : TypeId)
    (ho : o.op = .call { callee := .builtin .clear, args := #[d], argTypes := #[dT] }) (elem : TypeId) (hu : P.underlying dT = some (.slice elem)) (hz : ∀ w, (zeroValue elem).run P w = .ok (.int .u8 0) w)
    (g off n c : Nat) (hd : a.eval d = .slice (some ⟨g, off, none⟩) n c) (cur : Array Value) (t : TypeId) (hg : Blk w g t cur) (hfit : off + n ≤ cur.size)
    (h : wpList P ops Q rest (a.put o.dst (.tuple #[])) (w.setRow g (cur.toList.take off ++ (List.replicate n (0 : UInt8)).map cb ++ cur.toList.drop (off + n)).toArray)) : wpList P ops Q (o :: rest) a w := by
  refine wpList_plain hgd fun K hK => ?_
  have hrun := run_clear (P := P) w dT o.type elem g off n c cur t hu hz hg hfit
  generalize (cur.toList.take off ++ (List.replicate n (0 : UInt8)).map cb ++ cur.toList.drop (off + n)).toArray = R at hrun h
  unfold Oper.wp
  simp [execOp, ho, resolve, invoke, builtin, hd, hrun, Result.andThen]
  exact hK _ _ h
theorem st_range {w : World} {g : Nat} {t : TypeId} {h : List Wd} {wt : List UInt8} {fill : Int} {taken : Nat} (hB : Blk w g t (stCells h wt fill taken)) : w.rangeAt g 0 (h.map cw) := fun j v hv => by
  rw [Nat.zero_add, hB.cell]
  have hj : j < h.length := by simpa using (List.getElem?_eq_some_iff.1 hv).1
  simp only [stCells, cells, Array.append_assoc]
  rw [Array.getElem?_append_left (by simpa using hj)]
  simpa using hv
theorem zero8 (w : World) : (zeroValue 5).run Tryd.prog w = .ok (.int .u8 0) w := by kernel_rfl

set_option maxRecDepth 100000 in
set_option maxHeartbeats 1000000 in
theorem end_any (g : Nat) (h0 : List Wd) (p : List UInt8) (w : World) (hG : Glob w) (hg2 : 2 ≤ g) (hA : AddPost h0 p g w w) (hsz : p.length < 2 ^ 62) :
    Calls Tryd.prog 91 #[.pointer (some ⟨g, 0, none⟩)] w fun e w' =>
      e = .returned (.agg (cells8 (outD (blake h0 p) 32))) ∧ w.grownBy w' (some g) := by
  obtain ⟨h, wt, f, q, hA, hN, hh, hB, hgr⟩ := hA
  have HA := Lib.hid hA
  have HN := Lib.hid hN
  have HG := Lib.hid hG
  have HG2 := Lib.hid hg2
  obtain ⟨_, hw64, hlen, hf64, _⟩ := hA
  clear hG hg2 hN
  have cf := st_fill hB hh hw64
  have ct := st_taken hB hh hw64
  have ff := hB.frozen 72
  have ft := hB.frozen 73
  go_enter Tryd.func91, Tryd.ntmps91
  go_wp2_with fail
  change Code.wp _ _ _ _ (w.alloc (.cells (cells8 (List.replicate 32 0)) 73))
  have hD0 : Blk (w.alloc (.cells (cells8 (List.replicate 32 0)) 73)) w.heap.size 73 (cells8 (List.replicate 32 0)) := Blk.new _ _ _
  have hglt := hB.lt
  have hB' := hB.alloc (.cells (cells8 (List.replicate 32 0)) 73)
  have hgr' := grown_alloc hgr (.cells (cells8 (List.replicate 32 0)) 73)
  clear hB hgr cf ct ff ft
  generalize w.alloc (.cells (cells8 (List.replicate 32 0)) 73) = wa at *
  have cf := st_fill hB' hh hw64
  have ct := st_taken hB' hh hw64
  have ff := hB'.frozen 72
  have ft := hB'.frozen 73
  have HLEN := Lib.hid hlen
  have v1 : IntKind.u64.wrap (f : Int) = (f : Int) := by rw [wrap_u64]; omega
  have v2 : IntKind.u64.wrap (((64 * q : Nat) : Int) + (f : Int)) = ((64 * q + f : Nat) : Int) := by rw [wrap_u64]; omega
  clear hlen
  refine wp_region_still_tail 12 (by kernel_rfl) (by kernel_rfl) ?_
  simp only [List.take_succ_cons, List.take_zero, List.drop_succ_cons, List.drop_zero]
  change wpStill _ _ wa.drew _ _ _
  repeat still_step
  refine wpStill_nil ?_
  change wpList _ _ _ _ _ wa.drew
  go_wp2_with fail
  have hB2 : Blk (wa.setCell ⟨g, 73, none⟩ (.int .u64 (IntKind.u64.wrap (64 * (q : Int) + (f : Int))))).drew g 123 (stCells h wt (f : Int) (64 * q + f)) := by
    rw [← st_setTaken hh hw64 (taken := 64 * q), ← v2, show ((64 * q : Nat) : Int) = 64 * (q : Int) by omega]; exact (hB'.set_ 73 _).drew
  have hg2 := grown_drew (grown_set hgr' 73 (.int .u64 (IntKind.u64.wrap (64 * (q : Int) + (f : Int)))))
  have hD2 := (hD0.far (p := ⟨g, 73, none⟩) (by dsimp only; omega) (.int .u64 (IntKind.u64.wrap (64 * (q : Int) + (f : Int))))).drew
  clear hB' hgr' hD0 cf ct ff ft v1 v2
  generalize (wa.setCell ⟨g, 73, none⟩ (.int .u64 (IntKind.u64.wrap (64 * (q : Int) + (f : Int))))).drew = wb at *
  generalize IntKind.u64.wrap (64 * (q : Int) + (f : Int)) = junk at *
  have cf := st_fill hB2 hh hw64
  have hsl := run_sliceArr_le Tryd.underlying46 so8 g 8 (f : Int) (by omega) (by omega)
  rw [Int.toNat_natCast] at hsl
  obtain ⟨o, ho, hrow⟩ : ∃ o, (if 64 = f then 8 else 8 + f) = o ∧ o + (64 - f) ≤ 74 ∧ ((stCells h wt (f : Int) (64 * q + f)).toList.take o ++ (List.replicate (64 - f) (0 : UInt8)).map cb ++ (stCells h wt (f : Int) (64 * q + f)).toList.drop (o + (64 - f))).toArray = stCells h (wt.take f ++ List.replicate (64 - f) 0) (f : Int) (64 * q + f) := by
    by_cases hf : 64 = f
    · refine ⟨8, if_pos hf, by omega, ?_⟩
      subst hf
      rw [List.take_of_length_le (by omega : wt.length ≤ 64)]
      simp
    · exact ⟨8 + f, if_neg hf, by omega, st_zeros hh hw64 f hf64⟩
  rw [ho] at hsl
  refine wp_region_still_tail 8 (by kernel_rfl) (by kernel_rfl) ?_
  simp only [List.take_succ_cons, List.take_zero, List.drop_succ_cons, List.drop_zero]
  change wpStill _ _ wb.drew _ _ _
  repeat still_step
  refine wpStill_nil ?_
  change wpList _ _ _ _ _ wb.drew
  refine wpList_clear rfl (.tmp 26) 52 rfl 5 Tryd.underlying52 zero8 g o (64 - f) (64 - f) rfl (stCells h wt (f : Int) (64 * q + f)) 123 hB2.drew (by rw [st_size hh hw64]; omega) ?_
  rw [hrow.2]
  have hfin := HA.out.last HN.out
  have hw2 : (wt.take f ++ List.replicate (64 - f) 0).length = 64 := by rw [List.length_append, List.length_take, List.length_replicate]; omega
  clear hrow hsl ho cf
  generalize wt.take f ++ List.replicate (64 - f) 0 = wt2 at *
  have hB3 : Blk (wb.drew.setRow g (stCells h wt2 (f : Int) (64 * q + f))) g 123 (stCells h wt2 (f : Int) (64 * q + f)) := hB2.drew.row _
  have hg3 := grown_rowSelf (grown_drew hg2) (stCells h wt2 (f : Int) (64 * q + f))
  have hD3 := hD2.drew.rowFar (g' := g) (by omega) (stCells h wt2 (f : Int) (64 * q + f))
  clear hB2 hg2 hD2
  generalize wb.drew.setRow g (stCells h wt2 (f : Int) (64 * q + f)) = wc at *
  go_wp2_with fail
  refine (take_any g h wt2 (f : Int) (64 * q + f) true wc hh hw2 (HG.out.grown hg3 HG2.out) HG2.out hB3).mono ?_
  rintro e wd ⟨rfl, hB4, hg4⟩
  rw [hfin] at hB4
  have hl8 : (blake h0 p).length = 8 := by rw [← hfin]; exact compress_len8 hh
  clear hfin HA HN
  obtain ⟨H, hE⟩ : ∃ H, blake h0 p = H := ⟨_, rfl⟩
  rw [hE] at hB4 hl8
  have HE := Lib.hid hE
  clear hE
  have hg5 := grown_trans hg3 hg4
  have hD5 := hD3.grown hg4 (by simp; omega)
  clear hB3 hg3 hg4 hD3
  have HI : Hid ((Tryd.prog.info? 115).map (·.size) = some (H.map cw).length) := Lib.hid (by rw [List.length_map, hl8]; exact sz8)
  go_wp2_with (refine wpList_load_mid rfl 115 (.tmp 31) rfl g 0 rfl (H.map cw) _ (st_range (hB4.alloc _)) Tryd.underlying115 rfl HI.out ?_)
  change Code.wp _ _ _ _ (wd.alloc (.cells (cells8 (outD H 0)) 73))
  have hr1 := hD5.lt
  have hR1 : ERel g wd.heap.size (outD H 0) w (wd.alloc (.cells (cells8 (outD H 0)) 73)) := ⟨hD5.alloc _, Blk.new _ _ _, grown_alloc hg5 _⟩
  have HL8 := Lib.hid hl8
  clear hD5 hg5 hB4 hl8 HI
  generalize wd.alloc (.cells (cells8 (outD H 0)) 73) = wb at *
  generalize wd.heap.size = r at *
  rw [show (H.map cw).toArray = cells H from rfl]
  go_loopw [33] (fun i wr => ∃ j : Nat, j ≤ 8 ∧ i = .int .i64 j ∧ ERel g r (outD H (4 * j)) w wr) (fun i _ => 8 - (intOf i).toNat)
  case atStart => exact ⟨0, by omega, rfl, hR1⟩
  case round =>
    clear hR1
    obtain ⟨i, hi, rfl, hR⟩ := hrel
    by_cases hlt : i < 8
    · have hlt' : (i : Int) < 8 := by omega
      have hix := run_indexAgg Tryd.underlying115 Tryd.underlying112 rfl so32 (cells H) i hlt _ (cells_get H i (by have := HL8.out; omega)) .i64
      go_wp2
      obtain ⟨wo, hwo⟩ : ∃ wo : World, wo = wr := ⟨_, rfl⟩
      rw [← hwo] at hR ⊢
      clear hwo hix
      go_loopw [37] (fun t wr => ∃ j : Nat, j ≤ 4 ∧ t = .int .i64 j ∧ ERel g r (outD H (4 * i + j)) w wr) (fun t _ => 4 - (intOf t).toNat)
      case atStart => exact ⟨0, by omega, rfl, hR⟩
      case round =>
        clear hR
        obtain ⟨j, hj, rfl, hR⟩ := hrel
        by_cases hlt2 : j < 4
        · have hlt2' : (j : Int) < 4 := by omega
          have cj := (hR.2.1.cell (4 * i + j)).trans (cells8_get _ (4 * i + j) (by rw [outD_len]; omega))
          have fj := hR.2.1.frozen (4 * i + j)
          go_wp2
          go_roundw
          case rel =>
            refine ⟨j + 1, by omega, by go_num, ?_⟩
            rw [byteOf_eq']
            have h1 : (4 * i + j) / 4 = i := by omega
            have h2 : (4 * i + j) % 4 = j := by omega
            have h := hR.put hr1 (4 * i + j) (byteOf (gt H i) j)
            have e : outD H (4 * i + (j + 1)) = (outD H (4 * i + j)).set (4 * i + j) (byteOf (gt H i) j) := by
              show (outD H (4 * i + j)).set (4 * i + j) (byteOf (gt H ((4 * i + j) / 4)) ((4 * i + j) % 4)) = _
              rw [h1, h2]
            rw [e]; exact h
          case measure => simp [intOf]; omega
        · obtain rfl : j = 4 := by omega
          go_wp2
          go_roundw
          case rel => exact ⟨i + 1, by omega, by go_num, hR⟩
          case measure => simp [intOf]; omega
    · obtain rfl : i = 8 := by omega
      obtain ⟨hz1, hB, hbel⟩ := hR
      rw [show 4 * 8 = 32 from rfl] at hB
      have HS : Hid ((cells8 (outD H 32)).size = 32) := Lib.hid (by rw [cells8_size, outD_len])
      obtain ⟨D, hD⟩ : ∃ D, outD H 32 = D := ⟨_, rfl⟩
      rw [hD] at hB HS
      have HD := Lib.hid hD
      clear hD
      have HZ : Hid ((cells8 (List.replicate 32 0)).size = 32) := Lib.hid (by rw [cells8_size, List.length_replicate])
      go_wp2_with (first | (refine wpList_loadB rfl 73 (.tmp 3) rfl r rfl hB Tryd.underlying73 rfl sz32d HS.out ?_) | (refine wpList_storeB rfl 73 (.tmp 2) (.tmp 52) rfl w.heap.size _ rfl rfl hz1 sz32d HS.out HZ.out (cells8_one _) ?_))
      refine bodyPost_ret (results_B rfl _ (g := w.heap.size) rfl (hz1.row _) Tryd.underlying73 rfl sz32d HS.out) rfl ⟨by rw [HE.out, HD.out], grown_row hbel (Nat.le_refl _) _⟩
end Go.Proofs.YtconhhhggckcbaaDoor
/- What a digest's state is while parts are added. -/
namespace Go.Proofs.YtconhhhggckcbaaDoor
open Go.RowKit

theorem AddPost.here {h0 : List Wd} {p : List UInt8} {g : Nat} {w w' : World} (h : AddPost h0 p g w w') : AddPost h0 p g w' w' := by
  obtain ⟨h, wt, f, q, h1, h2, h3, h4, _⟩ := h
  exact ⟨h, wt, f, q, h1, h2, h3, h4, grown_refl _ _⟩
theorem AddPost.gr {h0 : List Wd} {p : List UInt8} {g : Nat} {w w' : World} (h : AddPost h0 p g w w') : w.grownBy w' (some g) := by
  obtain ⟨h, wt, f, q, h1, h2, h3, h4, h5⟩ := h
  exact h5
theorem AddPost.join {h0 : List Wd} {p p' : List UInt8} {g : Nat} {w w' w'' : World} (h : AddPost h0 p g w w') (k : AddPost h0 p' g w' w'') : AddPost h0 p' g w w'' := by
  obtain ⟨h', wt, f, q, h1, h2, h3, h4, h5⟩ := k
  exact ⟨h', wt, f, q, h1, h2, h3, h4, grown_trans h.gr h5⟩
theorem key_post {h0 : List Wd} {g : Nat} {w : World} {k : List UInt8} (hh : h0.length = 8) (hk : k.length = 32) (hB : Blk w g 123 (stCells h0 (k ++ List.replicate 32 0) 64 0)) : AddPost h0 (k ++ List.replicate 32 0) g w w :=
  ⟨h0, k ++ List.replicate 32 0, 64, 0, ⟨rfl, by simp [hk], by simp [hk], by omega, by rw [List.take_of_length_le (by simp [hk])]; simp⟩, .inl (by omega), hh, hB, grown_refl _ _⟩
end Go.Proofs.YtconhhhggckcbaaDoor
/- The walk of hash.Keyed: the digest of parts under a key. -/
namespace Go.Proofs.YtconhhhggckcbaaDoor
open Go.RowKit

theorem sz32k : (Tryd.prog.info? 23).map (·.size) = some 32 := by kernel_rfl
theorem key_splice {k : List UInt8} (hk : k.length = 32) (h : List Wd) (hh : h.length = 8) :
    (splice (stCells h (List.replicate 64 0) 0 0).toList 8 (k.map cb)).toArray = stCells h (k ++ List.replicate 32 0) 0 0 := by
  have e := st_splice (fill := 0) (taken := 0) hh (by simp : (List.replicate 64 (0 : UInt8)).length = 64) 0 k (by omega)
  rw [List.take_zero, List.nil_append, Nat.zero_add, Nat.add_zero, hk] at e
  unfold splice
  rw [List.length_map, hk, ← List.append_assoc, e]
  rfl
set_option maxRecDepth 100000 in
set_option maxHeartbeats 1000000 in
theorem keyed_any (k : List UInt8) (l : List (List UInt8)) (v : Value) (w : World) (hk : k.length = 32) (hG : Glob w) (hS : Strs w v l) (hl : l.flatten.length < 2 ^ 60) (hn : l.length < 2 ^ 60) :
    Calls Tryd.prog 57 #[.agg (cells8 k), v] w fun e w' => e = .returned (.agg (cells8 (keyedS k l.flatten))) ∧ Below w.heap.size w w' := by
  obtain ⟨a, c, rfl⟩ := hS.len
  have HS := Lib.hid hS
  have HG := Lib.hid hG
  have HK := Lib.hid hk
  clear hS hG hk
  go_enter Tryd.func57, Tryd.ntmps57
  go_upto_region 1 with (fail)
  change Code.wp _ _ _ _ ((w.alloc (.cells (cells8 k) 23)).alloc (.cells (cells8 (List.replicate 32 0)) 73))
  have hR : Blk ((w.alloc (.cells (cells8 k) 23)).alloc (.cells (cells8 (List.replicate 32 0)) 73)) (w.heap.size + 1) 73 (cells8 (List.replicate 32 0)) := Blk.newAt _ _ _ (by simp)
  have hY : Blk ((w.alloc (.cells (cells8 k) 23)).alloc (.cells (cells8 (List.replicate 32 0)) 73)) w.heap.size 23 (cells8 k) := (Blk.new _ _ _).alloc _
  have hb : Below w.heap.size w ((w.alloc (.cells (cells8 k) 23)).alloc (.cells (cells8 (List.replicate 32 0)) 73)) := ((Below.refl _ _).alloc (Nat.le_refl _) _).alloc (by simp) _
  have hG1 := (HG.out.alloc (.cells (cells8 k) 23)).alloc (.cells (cells8 (List.replicate 32 0)) 73)
  generalize (w.alloc (.cells (cells8 k) 23)).alloc (.cells (cells8 (List.replicate 32 0)) 73) = w1 at *
  have HG1 := Lib.hid hG1
  clear hG1
  have hz := zeroSt
  obtain ⟨cs, hcs⟩ : ∃ cs, stCells (List.replicate 8 0) (List.replicate 64 0) 0 0 = cs := ⟨_, rfl⟩
  rw [hcs] at hz
  have HCSZ : Hid (cs.size = 74) := Lib.hid (by rw [← hcs]; exact st_size rfl rfl)
  clear hcs
  go_wp2_with fail
  refine (begin_any true _ HG1.out).mono ?_
  rintro e w2 ⟨rfl, hb2⟩
  have HSS : Hid ((stCells (h0Of true) (List.replicate 64 0) 0 0).size = 74) := Lib.hid (st_size rfl (by simp))
  have HON : Hid ((stCells (h0Of true) (List.replicate 64 0) 0 0).all (·.oneCell') = true) := Lib.hid st_one
  obtain ⟨S, hS⟩ : ∃ S, stCells (h0Of true) (List.replicate 64 0) 0 0 = S := ⟨_, rfl⟩
  rw [hS] at HSS HON
  have HSE := Lib.hid hS
  rw [hS]
  clear hS
  go_upto_region 2 with (refine wpList_storeNew rfl 123 (.tmp 5) (.tmp 8) rfl w2 w2.heap.size rfl rfl S rfl rfl sz74 HSS.out HCSZ.out HON.out ?_)
  have hg0 : w.heap.size + 1 < w2.heap.size := Nat.lt_of_lt_of_le hR.lt hb2.size
  have hB : Blk (w2.alloc (.cells S 123)) w2.heap.size 123 S := Blk.new _ _ _
  have hR3 : Blk (w2.alloc (.cells S 123)) (w.heap.size + 1) 73 (cells8 (List.replicate 32 0)) := (hR.below hb2 hR.lt).alloc _
  have hY3 : Blk (w2.alloc (.cells S 123)) w.heap.size 23 (cells8 k) := (hY.below hb2 hY.lt).alloc _
  have hb3 : Below w.heap.size w (w2.alloc (.cells S 123)) := (hb.trans (hb2.mono hb.size)).alloc (by omega) _
  have hG3 : Glob (w2.alloc (.cells S 123)) := (HG1.out.below hb2).alloc _
  generalize w2.alloc (.cells S 123) = w3 at *
  generalize w2.heap.size = g at *
  clear hR hb hb2 hz HCSZ HSS HON HG1 hY
  have hsl := run_sliceArr_all Tryd.underlying46 so8 g 8 (by omega)
  have hsk := run_sliceArr_all Tryd.underlying23 so8 w.heap.size 0 (by omega)
  simp only [Act.put]
  refine wp_region_still_tail 3 (by kernel_rfl) (by kernel_rfl) ?_
  simp only [List.take_succ_cons, List.take_zero, List.drop_succ_cons, List.drop_zero]
  change wpStill _ _ w3.drew _ _ _
  repeat still_step
  refine wpStill_nil ?_
  change wpList _ _ _ _ _ w3.drew
  refine wpList_copy_splice rfl (.tmp 10) (.tmp 11) 52 52 rfl 5 Tryd.underlying52 sz1b _ _ 64 64 32 32 rfl rfl g 8 S.toList 123 (by rw [Array.toArray_toList]; exact hB.drew) (k.map cb) (by rw [List.length_map, HK.out]; rfl) (fun _ => ⟨rfl, _, rfl, fun j v hv => ?_⟩) ?_ ?_ (w.heap.size + 2) w3 (Below.refl _ _).drew (by omega) ?_
  · have hj : j < k.length := by simpa using (List.getElem?_eq_some_iff.1 hv).1
    rw [addr_add, Nat.zero_add, hY3.drew.cell, ← hv]
    simp [cells8]
  · rw [List.length_map, HK.out, ← HSE.out, Array.length_toList, st_size rfl (by simp)]; omega
  · intro x hx
    simp only [List.mem_map] at hx
    obtain ⟨y, _, rfl⟩ := hx
    rfl
  rintro w4 hB4 hb4
  rw [← HSE.out, key_splice HK.out _ rfl] at hB4
  have hB4' : Blk w4 g 123 (stCells (h0Of true) (k ++ List.replicate 32 0) 0 0) := hB4.out
  have hR4 := hR3.below hb4 (by omega)
  clear hB4 hR3 hY3 hB hsl hsk
  have c4 := st_fill hB4' rfl (by simp [HK.out])
  have f4 := hB4'.frozen 72
  have HB4 := Lib.hid hb4
  have HB0 := Lib.hid hb3
  clear hb3 hb4
  go_upto_region 4 with (fail)
  have hB5 := hB4'.set_ 72 (.int .i64 64)
  rw [st_setFill rfl (by simp [HK.out])] at hB5
  have hA := key_post rfl HK.out hB5
  have HG3 : Hid (Glob (w4.setCell ⟨g, 72, none⟩ (.int .i64 64))) := Lib.hid ((hG3.keep (HB4.out.block 0 (by omega)) (HB4.out.block 1 (by have := HG.out.two; omega))).setCell (by have := HG.out.two; dsimp only; omega) _)
  have HB3 : Hid (Below w.heap.size w (w4.setCell ⟨g, 72, none⟩ (.int .i64 64))) := Lib.hid ((HB0.out.trans (HB4.out.mono (by omega))).setCell (by dsimp only; omega) _)
  have HR3 := Lib.hid (hR4.far (p := ⟨g, 72, none⟩) (by dsimp only; omega) (.int .i64 64))
  have hg3 := hB5.lt
  clear c4 f4 hB4' hB5 hR4 hG3 HB4 HB0 HSE
  generalize w4.setCell ⟨g, 72, none⟩ (.int .i64 64) = w5 at *
  have HG2 : Hid (2 ≤ g) := Lib.hid (by have := HG.out.two; omega)
  have HPL : Hid ((k ++ List.replicate 32 0).length = 64) := Lib.hid (by simp [HK.out])
  obtain ⟨P, hP⟩ : ∃ P, k ++ List.replicate 32 0 = P := ⟨_, rfl⟩
  rw [hP] at hA HPL
  have HP := Lib.hid hP
  clear hP
  go_wp2_with fail
  go_loopw [7, 16] (fun _ i wr => ∃ j : Nat, j ≤ l.length ∧ i = .int .i64 j ∧ AddPost (h0Of true) (P ++ joinTo l j) g w5 wr) (fun _ i _ => l.length - (intOf i).toNat)
  case atStart => exact ⟨0, by omega, rfl, by simpa [joinTo] using hA⟩
  case round =>
    clear hA
    obtain ⟨j, hk, rfl, hA⟩ := hrel
    have HA := Lib.hid hA
    clear hA
    by_cases hlt : j < l.length
    · have hlt' : (j : Int) < l.length := by omega
      rcases HS.out.grown HB3.out HA.out.gr (by omega) with ⟨_, h2⟩ | ⟨b, o, c', h1, h2, h3⟩
      · subst h2; simp at hlt
      · injection h1 with h1a _ h1c
        subst h1a h1c
        have hc := h3 j hlt
        clear h3
        have hj := joinTo_le l j
        have hj2 := joinTo_le l (j + 1)
        have HJ := Lib.hid (joinTo_succ l j hlt)
        rw [← HJ.out, List.length_append] at hj2
        generalize l.getD j [] = s at *
        unfold tx at hc
        go_wp2_with fail
        refine (add_any g (h0Of true) (P ++ joinTo l j) s wr (HG3.out.grown HA.out.gr HG2.out) HG2.out HA.out.here (by rw [List.length_append, HPL.out]; omega)).mono ?_
        rintro e w6 ⟨rfl, hA4⟩
        have HA4 := Lib.hid (HA.out.join hA4)
        rw [List.append_assoc, HJ.out] at HA4
        clear hA4
        go_wp2_with fail
        go_roundw
        case rel => exact ⟨j + 1, by omega, by go_num, HA4.out⟩
        case measure => simp [intOf]; omega
    · obtain rfl : j = l.length := by omega
      rw [joinTo_all] at HA
      go_wp2_with fail
      refine (end_any g (h0Of true) (P ++ l.flatten) wr (HG3.out.grown HA.out.gr HG2.out) HG2.out HA.out.here (by rw [List.length_append, HPL.out]; omega)).mono ?_
      rintro e w6 ⟨rfl, hg4⟩
      have hR4 := (HR3.out.grown HA.out.gr (by simp; omega)).grown hg4 (by simp; omega)
      have hb4 := below_grown (below_grown HB3.out HA.out.gr (by omega) HB3.out.size) hg4 (by omega) (Nat.le_trans HB3.out.size HA.out.gr.size)
      have HL : Hid ((cells8 (outD (blake (h0Of true) (P ++ l.flatten)) 32)).size = 32) := Lib.hid (by rw [cells8_size, outD_len])
      have HZ : Hid ((cells8 (List.replicate 32 0)).size = 32) := Lib.hid (by rw [cells8_size, List.length_replicate])
      have HF : Hid (outD (blake (h0Of true) (P ++ l.flatten)) 32 = keyedS k l.flatten) := Lib.hid (by rw [← HP.out]; rfl)
      obtain ⟨D, hD⟩ : ∃ D, outD (blake (h0Of true) (P ++ l.flatten)) 32 = D := ⟨_, rfl⟩
      rw [hD] at HL HF
      rw [hD]
      clear hD
      go_wp2_with (refine wpList_storeB rfl 73 (.tmp 4) (.tmp 23) rfl (w.heap.size + 1) (cells8 D) rfl rfl hR4 sz32d HL.out HZ.out (cells8_one _) ?_)
      refine bodyPost_ret (results_B rfl _ (g := w.heap.size + 1) rfl (hR4.row _) Tryd.underlying73 rfl sz32d HL.out) rfl ⟨by rw [HF.out], below_row hb4 (by omega) _⟩
end Go.Proofs.YtconhhhggckcbaaDoor
