/- The walk of hash.begin. -/
import Derived.Test.YtilbebjjmnncdaaDoorState
import Derived.Deep.DeepCutAuto
namespace Go.Proofs.YtilbebjjmnncdaaDoor
open Go.RowKit

theorem sz8b : (Tryd.prog.info? 62).map (·.size) = some 8 := by kernel_rfl
theorem zeroSt (w : World) : (zeroValue 66).run Tryd.prog w = .ok (.agg (stCells (List.replicate 8 0) (List.replicate 64 0) 0 0)) w := by kernel_rfl
theorem buildSt (w : World) : (Instr.build 66 #[(0, .agg (cells eightV))]).run Tryd.prog w = .ok (.agg (stCells eightV (List.replicate 64 0) 0 0)) w := by kernel_rfl
theorem wpList_build1 {P : Program} {w : World} {ops : Array Oper} {rest : List Oper} {o : Oper} {a : Act} {Q : Exit → Act → World → Prop} (hgd : o.guard = none) (t : TypeId) (i : Nat) (x : Operand) (ho : o.op = .build t #[(i, x)]) {v r : Value} (hx : a.eval x = v)
    (hr : ∀ w, (Instr.build t #[(i, v)]).run P w = .ok r w) (h : wpList P ops Q rest (a.put o.dst r) w) : wpList P ops Q (o :: rest) a w := by
  refine wpList_plain hgd fun K hK => ?_
  unfold Oper.wp execOp
  simp [ho, hx, hr, Result.andThen]
  exact hK _ _ h
theorem sz74 : (Tryd.prog.info? 66).map (·.size) = some 74 := by kernel_rfl
theorem st_one {h : List Wd} {wt : List UInt8} {fill : Int} {taken : Nat} : (stCells h wt fill taken).all (·.oneCell') = true := by
  unfold stCells
  rw [Array.all_append, Array.all_append, cells_one, cells8_one]
  simp [Value.oneCell']
def h0Of (keyed : Bool) : List Wd := if keyed then h0K else h0U
set_option maxRecDepth 100000 in
set_option maxHeartbeats 1000000 in
theorem begin_any (keyed : Bool) (w : World) (hG : Glob w) :
    Calls Tryd.prog 37 #[.bool keyed] w fun e w' =>
      e = .returned (.agg (stCells (h0Of keyed) (List.replicate 64 0) 0 0)) ∧ Below w.heap.size w w' := by
  have hz := zeroSt
  obtain ⟨cs, hcs⟩ : ∃ cs, stCells (List.replicate 8 0) (List.replicate 64 0) 0 0 = cs := ⟨_, rfl⟩
  rw [hcs] at hz
  have HCSZ : Hid (cs.size = 74) := Lib.hid (by rw [← hcs]; exact st_size rfl rfl)
  have HCS := Lib.hid hcs
  clear hcs
  go_enter Tryd.func37, Tryd.ntmps37
  have HGA := Lib.hid (hG.alloc (.cells cs 66)).1
  have HE8 : Hid ((Tryd.prog.info? 62).map (·.size) = some (cells eightV).size) := Lib.hid sz8b
  have hbu := buildSt
  obtain ⟨S, hS⟩ : ∃ S, stCells eightV (List.replicate 64 0) 0 0 = S := ⟨_, rfl⟩
  rw [hS] at hbu
  have HSS : Hid (S.size = 74) := Lib.hid (by rw [← hS]; exact st_size rfl rfl)
  have HS := Lib.hid hS
  have HONE : Hid (S.all (·.oneCell') = true) := Lib.hid (by rw [← hS]; exact st_one)
  have HBU := Lib.hid hbu
  clear hbu hS
  obtain ⟨E, hE⟩ : ∃ E, eightV = E := ⟨_, rfl⟩
  rw [hE] at HGA HE8 HBU HS
  have HE := Lib.hid hE
  clear hE
  have HU := Lib.hid (show gt eightV 0 = 1779033703#32 from rfl)
  go_upto_region 2 with (first | (refine wpList_loadR rfl 62 (.global 0) rfl 0 rfl HGA.out Tryd.underlying62 rfl HE8.out ?_) | (refine wpList_build1 (v := .agg (cells E)) (r := .agg S) rfl 66 0 (.tmp 4) rfl rfl HBU.out ?_) | (refine wpList_storeNew rfl 66 (.tmp 3) (.tmp 5) rfl (w.alloc (.cells cs 66)) (w.heap.size + 1) (World.size_alloc _ _) rfl S rfl rfl sz74 HSS.out HCSZ.out HONE.out ?_))
  have hB1 : Blk ((w.alloc (.cells cs 66)).alloc (.cells S 66)) (w.heap.size + 1) 66 S := Blk.newAt _ _ _ (by simp)
  have hR1 : Blk ((w.alloc (.cells cs 66)).alloc (.cells S 66)) w.heap.size 66 cs := (Blk.new _ _ _).alloc _
  have hb1 : Below w.heap.size w ((w.alloc (.cells cs 66)).alloc (.cells S 66)) := (((Below.refl _ _).alloc (Nat.le_refl _) _).alloc (by simp) _)
  generalize (w.alloc (.cells cs 66)).alloc (.cells S 66) = W at *
  clear HGA hG HBU hz HONE HSS
  rw [← HS.out] at hB1
  have hl8 : E.length = 8 := (by rw [← HE.out]; rfl)
  have c0 := st_h hB1 0 (by omega)
  have f0 := hB1.frozen 0
  have HL8 := Lib.hid hl8
  clear hl8
  simp only [Act.put]
  go_upto_region 3 with (fail)
  rw [show (16842784 : Int) = nm 16842784#32 from rfl, nm_xor]
  have hB2 := hB1.set_ 0 (.int .u32 (nm (gt E 0 ^^^ 16842784#32)))
  rw [st_setH 0 _ (by have := HL8.out; omega)] at hB2
  have hR2 := hR1.far (p := ⟨w.heap.size + 1, 0, none⟩) (by dsimp only; omega) (.int .u32 (nm (gt E 0 ^^^ 16842784#32)))
  have hb2 := hb1.setCell (p := ⟨w.heap.size + 1, 0, none⟩) (by dsimp only; omega) (.int .u32 (nm (gt E 0 ^^^ 16842784#32)))
  clear c0 f0 hB1 hR1 hb1
  generalize W.setCell ⟨w.heap.size + 1, 0, none⟩ (.int .u32 (nm (gt E 0 ^^^ 16842784#32))) = W1 at *
  have HU2 : Hid (E.set 0 (gt E 0 ^^^ 16842784#32) = h0U) := Lib.hid (by rw [← HE.out]; rfl)
  have HX0 : Hid (gt (E.set 0 (gt E 0 ^^^ 16842784#32)) 0 = gt E 0 ^^^ 16842784#32) := Lib.hid (by rw [gt_set _ _ _ _ (by have := HL8.out; omega), if_pos rfl])
  have HLX : Hid ((E.set 0 (gt E 0 ^^^ 16842784#32)).length = 8) := Lib.hid (by rw [List.length_set]; exact HL8.out)
  have HK2 : Hid ((E.set 0 (gt E 0 ^^^ 16842784#32)).set 0 (gt (E.set 0 (gt E 0 ^^^ 16842784#32)) 0 ^^^ 8192#32) = h0K) := Lib.hid (by rw [HX0.out, ← HE.out]; rfl)
  generalize E.set 0 (gt E 0 ^^^ 16842784#32) = X at *
  clear HX0 HS
  cases keyed
  · have HSS : Hid ((stCells X (List.replicate 64 0) 0 0).size = 74) := Lib.hid (st_size HLX.out (by simp))
    have HH : Hid (stCells X (List.replicate 64 0) 0 0 = stCells (h0Of false) (List.replicate 64 0) 0 0) := Lib.hid (by rw [HU2.out]; rfl)
    have HON : Hid ((stCells X (List.replicate 64 0) 0 0).all (·.oneCell') = true) := Lib.hid st_one
    generalize stCells X (List.replicate 64 0) 0 0 = S2 at *
    go_wp2_with (first | (refine wpList_loadB (cs := S2) rfl 66 (.tmp 3) rfl (w.heap.size + 1) rfl hB2 Tryd.underlying66 rfl sz74 HSS.out ?_) | (refine wpList_storeB rfl 66 (.tmp 2) (.tmp 19) rfl w.heap.size S2 rfl rfl hR2 sz74 HSS.out HCSZ.out HON.out ?_))
    refine bodyPost_ret (results_B rfl _ (g := w.heap.size) rfl (hR2.row _) Tryd.underlying66 rfl sz74 HSS.out) rfl ⟨by rw [HH.out], below_row hb2 (Nat.le_refl _) _⟩
  · have c0 := st_h hB2 0 (by have := HLX.out; omega)
    have f0 := hB2.frozen 0
    go_upto_region 5 with (fail)
    rw [show (8192 : Int) = nm 8192#32 from rfl, nm_xor]
    have hB3 := hB2.set_ 0 (.int .u32 (nm (gt X 0 ^^^ 8192#32)))
    rw [st_setH 0 _ (by have := HLX.out; omega), HK2.out] at hB3
    have hR3 := hR2.far (p := ⟨w.heap.size + 1, 0, none⟩) (by dsimp only; omega) (.int .u32 (nm (gt X 0 ^^^ 8192#32)))
    have hb3 := hb2.setCell (p := ⟨w.heap.size + 1, 0, none⟩) (by dsimp only; omega) (.int .u32 (nm (gt X 0 ^^^ 8192#32)))
    clear c0 f0 hB2 hR2 hb2
    generalize W1.setCell ⟨w.heap.size + 1, 0, none⟩ (.int .u32 (nm (gt X 0 ^^^ 8192#32))) = W2 at *
    have HSS : Hid ((stCells h0K (List.replicate 64 0) 0 0).size = 74) := Lib.hid (st_size rfl (by simp))
    have HH : Hid (stCells h0K (List.replicate 64 0) 0 0 = stCells (h0Of true) (List.replicate 64 0) 0 0) := Lib.hid rfl
    have HON : Hid ((stCells h0K (List.replicate 64 0) 0 0).all (·.oneCell') = true) := Lib.hid st_one
    generalize stCells h0K (List.replicate 64 0) 0 0 = S2 at *
    go_wp2_with (first | (refine wpList_loadB (cs := S2) rfl 66 (.tmp 3) rfl (w.heap.size + 1) rfl hB3 Tryd.underlying66 rfl sz74 HSS.out ?_) | (refine wpList_storeB rfl 66 (.tmp 2) (.tmp 19) rfl w.heap.size S2 rfl rfl hR3 sz74 HSS.out HCSZ.out HON.out ?_))
    refine bodyPost_ret (results_B rfl _ (g := w.heap.size) rfl (hR3.row _) Tryd.underlying66 rfl sz74 HSS.out) rfl ⟨by rw [HH.out], below_row hb3 (Nat.le_refl _) _⟩
end Go.Proofs.YtilbebjjmnncdaaDoor
