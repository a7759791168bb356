/- CipherStream: the blocks of a stream, one behind the other, are what zeros are turned into. No condition of ours. -/
import Derived.Test.YthimejahpgihkaaLaw6
import Derived.Test.YthimejahpgihkaaCipherRow
namespace Go.Proofs.Ythimejahpgihkaa
open Go.ChangeShapes Go.WideShapes Go.ChangeAt Go.RowKit
open Go.ChangeMaps (open_string shut_string)

set_option maxRecDepth 100000 in
theorem cipherStream_lifted (os : Os) (started : os.Started) (H : Type) (enc : TypeId × Value → H) :
    ReturnsInHanded {} Try.checked os 8 .any (Rows.cipherStreamSpec.pre6 enc Try.prog Try.f8 Rows.cipherStreamRow.domain false) (Rows.cipherStreamSpec.post enc Try.prog Try.f8 false true false false) := by
  refine returnsInHanded_of_change (C := Try.checked) own_knob started (by kernel_rfl) Try.func8
    (ChangeSpec.witness6 (enc := enc) (C := Try.checked) false ⟨#[], #[.agg (caseCells (List.replicate 32 0) (List.replicate 12 0) 0), .int .u8 0], []⟩ 8 (by kernel_rfl) (by kernel_rfl) (by kernel_rfl) (by kernel_rfl)) ?_
  intro W base args ds gs before hval0 hW hcnd _
  have hval : ∀ (j : Nat) t v, Try.f8.params[j]? = some t → args[j]? = some v → Value.okWide Try.prog W .any base t v := hval0
  have hW' := hW
  obtain ⟨p, q, hA0, hV, rfl, hfz, hnd⟩ := hW
  have hA : DataW.TrodAll enc Try.prog W 0 (fun _ => true) true Try.f8.params.toList args.toList ds p := hA0
  rw [Try.params8] at hA hval
  obtain ⟨v0, v1, d0, d1, p0, p1, rfl, rfl, rfl, h0, h1⟩ := trodAll_two hA
  obtain ⟨rfl, rfl⟩ := trodVars_none hV
  obtain ⟨k0, c0, n0, hk0, hn0, rfl⟩ := open_case (hval 0 31 v0 rfl rfl) h0
  obtain ⟨z1, rfl, hdz1, hpz1, wz1⟩ := open_int Try.underlying5 (hval 1 5 v1 rfl rfl) h1
  obtain ⟨b1, rfl⟩ := byte_of z1 wz1
  refine (cstream_any k0 c0 n0 b1 W hk0 hn0).mono fun e W' ⟨he, hb⟩ => ?_
  exact ⟨_, he, law_post laid_out (by kernel_rfl) rfl hW' hb (T := 4) rfl Try.underlying4 rfl rfl rfl⟩

theorem cipherStream_holds : Rows.CipherStreamSaid :=
  OpenClaim.holds_of_wide 8 Try.f8 rfl rfl rfl rfl rfl rfl rfl ⟨rfl, rfl, rfl, rfl, rfl⟩ rfl rfl rfl rfl rfl (by kernel_rfl) Try.func8 (by kernel_rfl)
    (of_decide_eq_true (by kernel_rfl)) (by unfold Func.isWrapper; first | (rw [if_pos (by decide +kernel)]; kernel_rfl) | (rw [if_neg (by decide +kernel)]; exact ⟨rfl, rfl⟩))
    (fun os started H enc _ => cipherStream_lifted os started H enc)
#print axioms cipherStream_holds
end Go.Proofs.Ythimejahpgihkaa
