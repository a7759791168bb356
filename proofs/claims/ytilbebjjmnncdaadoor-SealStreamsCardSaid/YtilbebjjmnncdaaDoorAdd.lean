/- The walk of hash.add: more bytes into a state. -/
import Derived.Test.YtilbebjjmnncdaaDoorTake
import Derived.Test.YtilbebjjmnncdaaDoorAbs
namespace Go.Proofs.YtilbebjjmnncdaaDoor
open Go.RowKit

theorem compress_len8 {h : List Wd} {wt : List UInt8} {t : Nat} {b : Bool} (hh : h.length = 8) : (compress h wt t b).length = 8 := by
  unfold compress
  rw [foldTo_len]; exact hh
theorem grown_rowSelf {a b : World} {g : Nat} (h : a.grownBy b (some g)) (cs : Array Value) : a.grownBy (b.setRow g cs) (some g) :=
  ⟨h.os, h.tape, h.output, by rw [setRow_size]; exact h.size, fun k hk hr => (setRow_other b g k cs (fun e => hr (by rw [e]))).trans (h.block k hk hr)⟩
theorem sz1b : (Tryd.prog.info? 5).map (·.size) = some 1 := by kernel_rfl
/-- what 'add' leaves. -/
def AddPost (h0 : List Wd) (p : List UInt8) (g : Nat) (w w' : World) : Prop :=
  ∃ (h : List Wd) (wt : List UInt8) (f q : Nat), Abs h0 p h wt f q ∧ (1 ≤ f ∨ p = []) ∧ h.length = 8 ∧ Blk w' g 66 (stCells h wt (f : Int) (64 * q)) ∧ w.grownBy w' (some g)
def textLen : Value → Nat
  | .string b => b.size
  | _ => 0
theorem textLen_mk (l : List UInt8) : textLen (.string ⟨l.toArray⟩) = l.length := by show l.toArray.size = _; simp

set_option maxRecDepth 100000 in
set_option maxHeartbeats 1000000 in
theorem add_any (g : Nat) (h0 : List Wd) (p s : List UInt8) (w : World) (hG : Glob w) (hg2 : 2 ≤ g) (hA : AddPost h0 p g w w) (hsz : p.length + s.length < 2 ^ 62) :
    Calls Tryd.prog 38 #[.pointer (some ⟨g, 0, none⟩), .string ⟨s.toArray⟩] w fun e w' =>
      e = .returned (.tuple #[]) ∧ AddPost h0 (p ++ s) g w w' := by
  have HG := Lib.hid hG
  have HG2 := Lib.hid hg2
  clear hG hg2
  go_enter Tryd.func38, Tryd.ntmps38
  go_wp2
  go_loopw [1] (fun t wr => ∃ i : Nat, i ≤ s.length ∧ t = .string ⟨(s.drop i).toArray⟩ ∧ AddPost h0 (p ++ s.take i) g w wr) (fun t _ => textLen t)
  case atStart => exact ⟨0, by omega, by simp, by simpa using hA⟩
  case round =>
    clear hA
    obtain ⟨i, hi, rfl, h, wt, f, q, hA, hN, hh, hB, hgr⟩ := hrel
    by_cases hlt : i < s.length
    · have HL : Hid ((s.drop i).length = s.length - i) := Lib.hid (List.length_drop ..)
      have HC : Hid (∀ n, n ≤ s.length - i → (p ++ s.take i) ++ (s.drop i).take n = p ++ s.take (i + n) ∧ (s.drop i).drop n = s.drop (i + n)) := Lib.hid (fun n _ => ⟨by rw [List.append_assoc, List.take_add], by rw [List.drop_drop]⟩)
      have hpl : (p ++ s.take i).length < 2 ^ 62 := by rw [List.length_append, List.length_take]; omega
      generalize s.drop i = l at *
      generalize p ++ s.take i = P at *
      have hl0 : 0 < l.length := by have := HL.out; omega
      have hl1 : (0 : Int) < (l.length : Int) := by omega
      have HA := Lib.hid hA
      obtain ⟨_, hw64, hlen, hf64, _⟩ := hA
      have cf := st_fill hB hh hw64
      have ct := st_taken hB hh hw64
      have ff := hB.frozen 72
      have ft := hB.frozen 73
      by_cases hf : f = 64
      · subst hf
        rw [show ((64 : Nat) : Int) = 64 from rfl] at *
        go_wp2_with fail
        rw [show (64 * (q : Int) + 64) = ((64 * q + 64 : Nat) : Int) by omega]
        have hB1 : Blk (wr.setCell ⟨g, 73, none⟩ (.int .u64 ((64 * q + 64 : Nat) : Int))) g 66 (stCells h wt 64 (64 * q + 64)) := by rw [← st_setTaken hh hw64]; exact hB.set_ 73 _
        have hg1 := grown_set hgr 73 (.int .u64 ((64 * q + 64 : Nat) : Int))
        generalize wr.setCell ⟨g, 73, none⟩ (.int .u64 ((64 * q + 64 : Nat) : Int)) = wa at *
        refine (take_any g h wt 64 (64 * q + 64) false wa hh hw64 (HG.out.grown hg1 HG2.out) HG2.out hB1).mono ?_
        rintro e w2 ⟨rfl, hB2, hg2⟩
        have HA2 := Lib.hid HA.out.block
        have hh2 := compress_len8 (h := h) (wt := wt) (t := 64 * q + 64) (b := false) hh
        generalize compress h wt (64 * q + 64) false = h2 at *
        have hgr2 := grown_trans hg1 hg2
        have c2 := st_fill hB2 hh2 hw64
        have HLEN := Lib.hid hlen
        clear hB1 hB hg1 hg2 hgr cf ct ff ft HA hh hlen
        have f2 := hB2.frozen 72
        go_wp2
        obtain ⟨F, Q, hF, HAX, hBX, hgX⟩ : ∃ F Q : Nat, F < 64 ∧ Hid (Abs h0 P h2 wt F Q) ∧ Blk (w2.setCell ⟨g, 72, none⟩ (.int .i64 0)) g 66 (stCells h2 wt (F : Int) (64 * Q)) ∧ w.grownBy (w2.setCell ⟨g, 72, none⟩ (.int .i64 0)) (some g) := by
          refine ⟨0, q + 1, by omega, HA2, ?_, grown_set hgr2 _ _⟩
          rw [show ((0 : Nat) : Int) = 0 from rfl, ← st_setFill hh2 hw64 (fill := 64), show 64 * (q + 1) = 64 * q + 64 by omega]
          exact hB2.set_ 72 _
        generalize w2.setCell ⟨g, 72, none⟩ (.int .i64 0) = W at *
        clear hB2 HA2 hgr2 c2 f2
        have cF := st_fill hBX hh2 hw64
        have fF := hBX.frozen 72
        have hF1 : (F : Int) < 64 := by omega
        have hsl := run_sliceArr_l Tryd.underlying63 so8 g 8 (F : Int) (by omega) hF1
        refine wp_region_still_tail 9 (by kernel_rfl) (by kernel_rfl) ?_
        simp only [List.take_succ_cons, List.take_zero, List.drop_succ_cons, List.drop_zero]
        change wpStill _ _ W.drew _ _ _
        repeat still_step
        refine wpStill_nil ?_
        change wpList _ _ _ _ _ W.drew
        clear cF fF hF1 hsl
        obtain ⟨n, hn⟩ : ∃ n, n = Nat.min l.length (64 - F) := ⟨_, rfl⟩
        have hn' : n = min l.length (64 - F) := hn
        have hx : (l.take n).length = n := by rw [List.length_take]; omega
        have hsp := st_splice (fill := (F : Int)) (taken := 64 * Q) hh2 hw64 F (l.take n) (by omega)
        have HAY := Lib.hid (HAX.out.more (l.take n) (by omega))
        rw [hx] at hsp HAY
        refine wpList_copy_str rfl (.tmp 32) (.tmp 33) 33 9 rfl 5 Tryd.underlying33 sz1b g (8 + F) (64 - F) (64 - F) l rfl rfl (stCells h2 wt (F : Int) (64 * Q)) 66 hBX.drew n hn (by rw [st_size hh2 hw64]; omega) ?_
        rw [hsp]
        have hw2 := HAY.out.2.1
        generalize wt.take F ++ l.take n ++ wt.drop (F + n) = wt2 at *
        have hBY : Blk (W.drew.setRow g (stCells h2 wt2 (F : Int) (64 * Q))) g 66 (stCells h2 wt2 (F : Int) (64 * Q)) := hBX.drew.row _
        have hgY := grown_rowSelf (grown_drew hgX) (stCells h2 wt2 (F : Int) (64 * Q))
        generalize W.drew.setRow g (stCells h2 wt2 (F : Int) (64 * Q)) = Y at *
        have cY := st_fill hBY hh2 hw2
        have fY := hBY.frozen 72
        have hn1 : 1 ≤ n := by omega
        have hn2 : F + n ≤ 64 := by omega
        have hn3 : n ≤ l.length := by omega
        have HX := Lib.hid hx
        clear hx hsp hn hn' hBX hgX hw64 HAX
        go_wp2_with (refine wpList_rest rfl 9 (.tmp 43) (.tmp 44) rfl Tryd.underlying9 l n _ rfl rfl rfl hn3 ?_)
        go_roundw
        case rel =>
          obtain ⟨e1, e2⟩ := HC.out n (by have := HL.out; omega)
          rw [e1] at HAY
          refine ⟨i + n, by have := HL.out; omega, by rw [e2], h2, wt2, F + n, Q, HAY.out, .inl (by omega), hh2, ?_, grown_set hgY _ _⟩
          rw [Int.natCast_add, ← st_setFill hh2 hw2 (fill := (F : Int))]
          exact hBY.set_ 72 _
        case measure => rw [textLen_mk, textLen_mk, List.length_drop]; omega
      · have hF : f < 64 := by omega
        have hF' : ¬ ((f : Int) = 64) := by omega
        have HAX := HA
        have hBX := hB
        have hgX := hgr
        have hh2 := hh
        go_wp2
        clear hB hgr hh HA cf ct ff ft
        generalize wr = W at *
        generalize f = F at *
        generalize q = Q at *
        generalize h = h2 at *
        have cF := st_fill hBX hh2 hw64
        have fF := hBX.frozen 72
        have hF1 : (F : Int) < 64 := by omega
        have hsl := run_sliceArr_l Tryd.underlying63 so8 g 8 (F : Int) (by omega) hF1
        refine wp_region_still_tail 9 (by kernel_rfl) (by kernel_rfl) ?_
        simp only [List.take_succ_cons, List.take_zero, List.drop_succ_cons, List.drop_zero]
        change wpStill _ _ W.drew _ _ _
        repeat still_step
        refine wpStill_nil ?_
        change wpList _ _ _ _ _ W.drew
        clear cF fF hF1 hsl
        obtain ⟨n, hn⟩ : ∃ n, n = Nat.min l.length (64 - F) := ⟨_, rfl⟩
        have hn' : n = min l.length (64 - F) := hn
        have hx : (l.take n).length = n := by rw [List.length_take]; omega
        have hsp := st_splice (fill := (F : Int)) (taken := 64 * Q) hh2 hw64 F (l.take n) (by omega)
        have HAY := Lib.hid (HAX.out.more (l.take n) (by omega))
        rw [hx] at hsp HAY
        refine wpList_copy_str rfl (.tmp 32) (.tmp 33) 33 9 rfl 5 Tryd.underlying33 sz1b g (8 + F) (64 - F) (64 - F) l rfl rfl (stCells h2 wt (F : Int) (64 * Q)) 66 hBX.drew n hn (by rw [st_size hh2 hw64]; omega) ?_
        rw [hsp]
        have hw2 := HAY.out.2.1
        generalize wt.take F ++ l.take n ++ wt.drop (F + n) = wt2 at *
        have hBY : Blk (W.drew.setRow g (stCells h2 wt2 (F : Int) (64 * Q))) g 66 (stCells h2 wt2 (F : Int) (64 * Q)) := hBX.drew.row _
        have hgY := grown_rowSelf (grown_drew hgX) (stCells h2 wt2 (F : Int) (64 * Q))
        generalize W.drew.setRow g (stCells h2 wt2 (F : Int) (64 * Q)) = Y at *
        have cY := st_fill hBY hh2 hw2
        have fY := hBY.frozen 72
        have hn1 : 1 ≤ n := by omega
        have hn2 : F + n ≤ 64 := by omega
        have hn3 : n ≤ l.length := by omega
        have HX := Lib.hid hx
        clear hx hsp hn hn' hBX hgX hw64 HAX
        go_wp2_with (refine wpList_rest rfl 9 (.tmp 43) (.tmp 44) rfl Tryd.underlying9 l n _ rfl rfl rfl hn3 ?_)
        go_roundw
        case rel =>
          obtain ⟨e1, e2⟩ := HC.out n (by have := HL.out; omega)
          rw [e1] at HAY
          refine ⟨i + n, by have := HL.out; omega, by rw [e2], h2, wt2, F + n, Q, HAY.out, .inl (by omega), hh2, ?_, grown_set hgY _ _⟩
          rw [Int.natCast_add, ← st_setFill hh2 hw2 (fill := (F : Int))]
          exact hBY.set_ 72 _
        case measure => rw [textLen_mk, textLen_mk, List.length_drop]; omega
    · obtain rfl : i = s.length := by omega
      rw [List.drop_of_length_le (Nat.le_refl _), List.take_of_length_le (Nat.le_refl _)] at *
      go_wp2
      go_end0
      exact ⟨rfl, h, wt, f, q, hA, hN, hh, hB, hgr⟩
end Go.Proofs.YtilbebjjmnncdaaDoor
