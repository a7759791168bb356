/- The walk of the hash laws' 'alive'. -/
import Derived.Test.YthimejahpgihkaaDoorRkeyed
import Derived.Test.YthimejahpgihkaaDoorHex
namespace Go.Proofs.YthimejahpgihkaaDoor
open Go.RowKit

theorem hex_abc : hexS (sumS [97, 98, 99]) = [53, 48, 56, 99, 53, 101, 56, 99, 51, 50, 55, 99, 49, 52, 101, 50, 101, 49, 97, 55, 50, 98, 97, 51, 52, 101, 101, 98, 52, 53, 50, 102, 51, 55, 52, 53, 56, 98, 50, 48, 57, 101, 100, 54, 51, 97, 50, 57, 52, 100, 57, 57, 57, 98, 52, 99, 56, 54, 54, 55, 53, 57, 56, 50] := by
  rw [sum_abc]; decide +kernel
theorem hex_nil : hexS (sumS []) = [54, 57, 50, 49, 55, 97, 51, 48, 55, 57, 57, 48, 56, 48, 57, 52, 101, 49, 49, 49, 50, 49, 100, 48, 52, 50, 51, 53, 52, 97, 55, 99, 49, 102, 53, 53, 98, 54, 52, 56, 50, 99, 97, 49, 97, 53, 49, 101, 49, 98, 50, 53, 48, 100, 102, 100, 49, 101, 100, 48, 101, 101, 102, 57] := by
  rw [sum_nil]; decide +kernel
set_option maxRecDepth 100000 in
set_option maxHeartbeats 1000000 in
theorem alive_any (w : World) (hG : Glob w) :
    Calls Tryd.prog 9 #[] w fun e w' => e = .returned (.bool true) ∧ Below w.heap.size w w' := by
  have HG := Lib.hid hG
  clear hG
  go_enter Tryd.func9, Tryd.ntmps9
  go_wp2_with fail
  have hS := Strs.new w [[97], [98, 99]] 9 2 #[.string { data := #[97] }, .string { data := #[98, 99] }] rfl
  refine (sum_any [[97], [98, 99]] _ _ (HG.out.alloc _) hS (by decide) (by decide)).mono ?_
  rintro e w1 ⟨rfl, hb1⟩
  have hb1' : Below w.heap.size w w1 := ((Below.refl _ _).alloc (Nat.le_refl _) _).trans (hb1.mono (by simp))
  have HG1 := Lib.hid (HG.out.below hb1')
  clear hS hb1
  rw [show ([[97], [98, 99]] : List (List UInt8)).flatten = [97, 98, 99] from rfl]
  go_wp2_with fail
  refine (hex_any (sumS [97, 98, 99]) _ (sumS_len _)).mono ?_
  rintro e w2 ⟨rfl, hb2⟩
  rw [hex_abc]
  have hb2' := hb1'.trans (hb2.mono hb1'.size)
  have HG2 := Lib.hid (HG1.out.below hb2)
  clear hb2
  go_wp2_with fail
  refine (sum_any [] _ _ HG2.out (.inl ⟨⟨_, _, rfl⟩, rfl⟩) (by decide) (by decide)).mono ?_
  rintro e w3 ⟨rfl, hb3⟩
  rw [show ([] : List (List UInt8)).flatten = [] from rfl]
  have hb3' := hb2'.trans (hb3.mono hb2'.size)
  clear hb3
  go_wp2_with fail
  refine (hex_any (sumS []) _ (sumS_len _)).mono ?_
  rintro e w4 ⟨rfl, hb4⟩
  rw [hex_nil]
  have hb4' := hb3'.trans (hb4.mono hb3'.size)
  clear hb4
  go_wp2
  go_ret
  exact ⟨rfl, hb4'⟩
end Go.Proofs.YthimejahpgihkaaDoor
