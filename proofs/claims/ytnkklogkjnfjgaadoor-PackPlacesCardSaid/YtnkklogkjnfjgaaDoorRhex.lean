/- The walk of the reference's Hex (layer 2). -/
import Derived.Test.YtnkklogkjnfjgaaDoorHex
namespace Go.Proofs.YtnkklogkjnfjgaaDoor
open Go.RowKit

attribute [local go_sem] str_byte str_app
theorem signs_cut (n : Nat) (h : n < 16) : ((signsL.drop n).take 1) = [hxd n] := by
  have : ∀ m : Fin 16, ((signsL.drop m.val).take 1) = [hxd m.val] := by decide
  exact this ⟨n, h⟩
theorem run_sign (n : Nat) (h : n < 16) (w : World) : (Instr.slice 9 (.string ⟨signsL.toArray⟩) (some (.int .u8 (n : Int))) (some (.int .u8 ((n : Int) + 1))) none).run Tryd.prog w = .ok (.string ⟨[hxd n].toArray⟩) w := by
  rw [run_slice_string (P := Tryd.prog) w 9 ⟨signsL.toArray⟩ .u8 .u8 (n : Int) ((n : Int) + 1) Tryd.underlying9 (by omega) (by omega) (by show ((n : Int) + 1) ≤ 16; omega)]
  have e1 : ((n : Int) + 1).toNat = n + 1 := by omega
  rw [e1, Int.toNat_natCast, str_mid, show n + 1 - n = 1 by omega, signs_cut n h]
set_option maxRecDepth 100000 in
set_option maxHeartbeats 1000000 in
theorem rhex_any (d : List UInt8) (w : World) (hd : d.length = 32) :
    Calls Tryd.prog 50 #[.agg (cells8 d)] w fun e w' => e = .returned (.string ⟨(hexS d).toArray⟩) ∧ Below w.heap.size w w' := by
  have HD := Lib.hid hd
  clear hd
  go_enter Tryd.func50, Tryd.ntmps50
  go_wp2_with fail
  have hB : Blk (w.alloc (.cells (cells8 d) 37)) w.heap.size 37 (cells8 d) := Blk.new _ _ _
  have hb : Below w.heap.size w (w.alloc (.cells (cells8 d) 37)) := (Below.refl _ _).alloc (Nat.le_refl _) _
  generalize w.alloc (.cells (cells8 d) 37) = wa at *
  go_loopw [4, 5] (fun v j wr => ∃ i : Nat, i ≤ 32 ∧ j = .int .i64 i ∧ v = .string ⟨(hexS (d.take i)).toArray⟩ ∧ Blk wr w.heap.size 37 (cells8 d) ∧ Below w.heap.size w wr) (fun _ j _ => 32 - (intOf j).toNat)
  case atStart => exact ⟨0, by omega, rfl, rfl, hB, hb⟩
  case round =>
    clear hB hb
    obtain ⟨i, hi, rfl, rfl, hB, hb⟩ := hrel
    by_cases hlt : i < 32
    · have hlt' : (i : Int) < 32 := by omega
      have cd := (hB.cell i).trans (cells8_get d i (by have := HD.out; omega))
      have HSN := Lib.hid (hexS_snoc d i (by have := HD.out; omega))
      have HPL : Hid ((hexS (d.take i)).length = 2 * i) := Lib.hid (by rw [hexS_len, List.length_take, HD.out]; omega)
      generalize bt d i = x at *
      generalize hexS (d.take i) = p at *
      have hx0 := x.toNat_lt
      have hpl : p.length ≤ 64 := by have := HPL.out; omega
      have hs1 := run_sign (x.toNat / 16) (by omega)
      have hs2 := run_sign (x.toNat % 16) (by omega)
      have HE : Hid (hexB x = [hxd (x.toNat / 16)] ++ [hxd (x.toNat % 16)]) := Lib.hid rfl
      have e1 : ((x.toNat / 16 : Nat) : Int) = (x.toNat : Int) / 16 := by omega
      have e2 : ((x.toNat % 16 : Nat) : Int) = (x.toNat : Int) % 16 := by omega
      rw [e1] at hs1
      rw [e2] at hs2
      generalize hxd (x.toNat / 16) = y at *
      generalize hxd (x.toNat % 16) = z at *
      clear e1 e2
      have HPL2 := Lib.hid hpl
      have w0 : IntKind.u8.wrap ((x.toNat : Int) / 16) = (x.toNat : Int) / 16 := by rw [wrap_u8]; omega
      have w3 : (x.toNat : Int).tmod 16 = (x.toNat : Int) % 16 := Int.tmod_eq_emod_of_nonneg (by omega)
      have w1 : IntKind.u8.wrap ((x.toNat : Int) / 16 + 1) = (x.toNat : Int) / 16 + 1 := by rw [wrap_u8]; omega
      have w2 : IntKind.u8.wrap ((x.toNat : Int) % 16 + 1) = (x.toNat : Int) % 16 + 1 := by rw [wrap_u8]; omega
      have a1 : ¬ 9223372036854775807 < p.length + 1 := by omega
      have a2 : ¬ 9223372036854775807 < p.length + 1 + 1 := by omega
      unfold signsL at hs1 hs2
      go_wp2
      refine wp_region_still_lit (by kernel_rfl) (by kernel_rfl) ?_
      change wpStill _ _ wr.drew _ _ _
      repeat still_step
      refine wpStill_nil ?_
      change Exit.inBlock _ _ Exit.normal _ wr.drew
      clear w0 w1 w2 w3 hs1 hs2 a1 a2
      go_wp2
      go_roundw
      case rel => exact ⟨i + 1, by omega, by go_num, by rw [HSN.out, HE.out]; first | rfl | simp, hB.drew, hb.drew⟩
      case measure => simp [intOf]; omega
    · obtain rfl : i = 32 := by omega
      rw [List.take_of_length_le (by rw [HD.out]; omega)]
      go_wp2
      go_ret
      exact ⟨rfl, hb⟩
end Go.Proofs.YtnkklogkjnfjgaaDoor
