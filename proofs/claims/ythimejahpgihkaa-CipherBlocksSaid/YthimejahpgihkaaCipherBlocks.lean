/- CipherBlocks: for every key, nonce and number the block of package cipher is that of the reference. No condition. -/
import Derived.Test.YthimejahpgihkaaLaw1
import Derived.Test.YthimejahpgihkaaClose
namespace Go.Proofs.Ythimejahpgihkaa
open Go.ChangeShapes Go.WideShapes Go.ChangeAt Go.RowKit

theorem Try.own : ownKnob Try.prog.godebug = none := by kernel_rfl
theorem Try.laidOut : laidOutB Try.prog = true := by kernel_rfl
theorem Try.cells8b : Try.prog.cellsOf 5 = 1 := by kernel_rfl
theorem wd_of (n : Int) (h : (Lit.int .u32 n).wf = true) : ∃ x : Wd, n = nm x := by
  have hb := bounds_u32 h
  refine ⟨BitVec.ofNat 32 n.toNat, ?_⟩
  unfold nm; rw [BitVec.toNat_ofNat]; omega

set_option maxRecDepth 100000 in
theorem cipherBlocks_lifted (os : Os) (started : os.Started) (H : Type) (enc : TypeId × Value → H) :
    ReturnsInHanded {} Try.checked os 3 .any (Rows.cipherBlocksSpec.pre6 enc Try.prog Try.f3 Rows.cipherBlocksRow.domain false) (Rows.cipherBlocksSpec.post enc Try.prog Try.f3 false true false false) := by
  refine returnsInHanded_of_change (C := Try.checked) Try.own started (by kernel_rfl) Try.func3
    (ChangeSpec.witness6 (enc := enc) (C := Try.checked) false ⟨#[], #[.agg (cells8 (List.replicate 32 0)), .agg (cells8 (List.replicate 12 0)), .int .u32 0], []⟩ 8 (by kernel_rfl) (by kernel_rfl) (by kernel_rfl) (by kernel_rfl)) ?_
  intro W base args ds gs before hval0 hW hcnd _
  have hval : ∀ (j : Nat) t v, Try.f3.params[j]? = some t → args[j]? = some v → Value.okWide Try.prog W .any base t v := hval0
  have hW' := hW
  obtain ⟨p, q, hA0, hV, rfl, hfz, hnd⟩ := hW
  have hA : DataW.TrodAll enc Try.prog W 0 (fun _ => true) true Try.f3.params.toList args.toList ds p := hA0
  rw [Try.params3] at hA hval
  obtain ⟨v0, v1, v2, d0, d1, d2, p0, p1, p2, rfl, rfl, rfl, h0, h1, h2⟩ := trodAll_three hA
  obtain ⟨rfl, rfl⟩ := trodVars_none hV
  obtain ⟨k, hk, rfl⟩ := open_byteArr Try.underlying23 Try.underlying5 Try.cells8b (by kernel_rfl) (hval 0 23 v0 rfl rfl) h0
  obtain ⟨nonce, hn, rfl⟩ := open_byteArr Try.underlying24 Try.underlying5 Try.cells8b (by kernel_rfl) (hval 1 24 v1 rfl rfl) h1
  obtain ⟨n, rfl, hd2, hp2, wn⟩ := open_int Try.underlying25 (hval 2 25 v2 rfl rfl) h2
  obtain ⟨x, rfl⟩ := wd_of n wn
  refine (blocks_any k nonce x W hk hn).mono fun e W' ⟨he, hb⟩ => ?_
  exact ⟨_, he, law_post Try.laidOut (by kernel_rfl) rfl hW' hb (T := 4) rfl Try.underlying4 rfl rfl rfl⟩

theorem cipherBlocks_holds : Rows.CipherBlocksSaid :=
  OpenClaim.holds_of_wide 3 Try.f3 rfl rfl rfl rfl rfl rfl rfl ⟨rfl, rfl, rfl, rfl, rfl⟩ rfl rfl rfl rfl rfl (by kernel_rfl) Try.func3 (by kernel_rfl)
    (of_decide_eq_true (by kernel_rfl)) (by unfold Func.isWrapper; first | (rw [if_pos (by decide +kernel)]; kernel_rfl) | (rw [if_neg (by decide +kernel)]; exact ⟨rfl, rfl⟩))
    (fun os started H enc _ => cipherBlocks_lifted os started H enc)
#print axioms cipherBlocks_holds
end Go.Proofs.Ythimejahpgihkaa
