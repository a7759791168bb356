/- A box opens to what was boxed (plain); the walk of the seal laws' 'awake'. -/
import Derived.Test.YtnkklogkjnfjgaaDoorSealB
namespace Go.Proofs.YtnkklogkjnfjgaaDoor
open Go.RowKit

theorem nonceS_app (n x : List UInt8) (hn : n.length = 12) : nonceS (n ++ x) = n := by
  unfold nonceS
  rw [List.take_append_of_le_length (by omega), List.take_of_length_le (by omega), List.length_append, show 12 - (n.length + x.length) = 0 by omega]
  simp
theorem openS_seal (k nonce h d : List UInt8) (hn : nonce.length = 12) : openS k h (sealS k nonce h d) = (d, 0) := by
  have hL := sealS_len k nonce h d hn
  have hA := aheadS_len k nonce d hn
  unfold openS
  rw [if_neg (by omega), hL, show d.length + 44 - 32 = (aheadS k nonce d).length by omega]
  unfold sealS
  rw [List.take_left, List.drop_left, if_pos rfl]
  unfold aheadS
  rw [nonceS_app _ _ hn, show List.drop 12 (nonce ++ xorS (keyedS k cipherT) nonce 1 d) = xorS (keyedS k cipherT) nonce 1 d by rw [← hn, List.drop_left], xorS_back]
set_option maxRecDepth 100000 in
set_option maxHeartbeats 1000000 in
theorem awake_any (w : World) (hG : Glob w) :
    Calls Tryd.prog 12 #[] w fun e w' => e = .returned (.bool true) ∧ Below w.heap.size w w' := by
  have HG := Lib.hid hG
  clear hG
  obtain ⟨K, hK⟩ : ∃ K : List UInt8, K = 1 :: List.replicate 31 0 := ⟨_, rfl⟩
  obtain ⟨N, hN⟩ : ∃ N : List UInt8, N = List.replicate 12 0 := ⟨_, rfl⟩
  have HS := Lib.hid (sseal_any (1 :: List.replicate 31 0) (List.replicate 12 0) [104] [] w HG.out rfl rfl (by decide))
  rw [← hK, ← hN] at HS
  have HOP := Lib.hid (openS_seal K N [104] [] (by rw [hN]; rfl))
  have HSL := Lib.hid (sealS_len K N [104] [] (by rw [hN]; rfl))
  have HK : Hid (K.length = 32) := Lib.hid (by rw [hK]; rfl)
  obtain ⟨S, hS⟩ : ∃ S, sealS K N [104] [] = S := ⟨_, rfl⟩
  rw [hS] at HS HOP HSL
  clear hS
  have hsl : S.length = 44 := HSL.out
  have HKE := Lib.hid hK
  have HNE := Lib.hid hN
  clear hK hN
  go_enter Tryd.func12, Tryd.ntmps12
  go_wp2_with fail
  rw [HKE.out, HNE.out] at HS
  refine HS.out.mono ?_
  rintro e w1 ⟨rfl, hb1⟩
  have HG1 := Lib.hid (HG.out.below hb1)
  have HO := Lib.hid (sopen_any (1 :: List.replicate 31 0) [104] S w1 HG1.out rfl (by rw [hsl]; decide))
  rw [← HKE.out, HOP.out, HKE.out] at HO
  clear HS
  go_wp2_with fail
  refine HO.out.mono ?_
  rintro e w2 ⟨rfl, hb2⟩
  clear HO
  go_wp2_with fail
  go_ret
  exact ⟨rfl, hb1.trans (hb2.mono hb1.size)⟩
end Go.Proofs.YtnkklogkjnfjgaaDoor
