/- PackBent: a pack of which one byte is another one, or that is cut short, is told where the reference tells it (up to 12 boxes of 300 bytes; for others the statement asks that the package works at all). No condition of ours. -/
import Derived.Test.YtnkklogkjnfjgaaPackLaw3
import Derived.Test.YtnkklogkjnfjgaaOpenB
import Derived.Test.YtnkklogkjnfjgaaRowP
namespace Go.Proofs.Ytnkklogkjnfjgaa
open Go.ChangeShapes Go.WideShapes Go.ChangeAt Go.RowKit
open Go.ChangeMaps (open_string shut_string)

set_option maxRecDepth 100000 in
theorem packBent_lifted (os : Os) (started : os.Started) (H : Type) (enc : TypeId × Value → H) :
    ReturnsInHanded {} Try.checked os 4 .any (Rows.packBentSpec.pre6 enc Try.prog Try.f4 Rows.packBentRow.domain false) (Rows.packBentSpec.post enc Try.prog Try.f4 false true false false) := by
  refine returnsInHanded_of_change (C := Try.checked) own_knob started (by kernel_rfl) Try.func4
    (ChangeSpec.witness6 (enc := enc) (C := Try.checked) false ⟨#[], #[.slice none 0 0, .int .u16 0, .string .empty], []⟩ 8 (by kernel_rfl) (by kernel_rfl) (by kernel_rfl) (by kernel_rfl)) ?_
  intro W base args ds gs before hval0 hW hcnd _
  have hval : ∀ (j : Nat) t v, Try.f4.params[j]? = some t → args[j]? = some v → Value.okWide Try.prog W .any base t v := hval0
  have hW' := hW
  obtain ⟨p, q, hA0, hV, rfl, hfz, hnd⟩ := hW
  have hA : DataW.TrodAll enc Try.prog W 0 (fun _ => true) true Try.f4.params.toList args.toList ds p := hA0
  rw [Try.params4] at hA hval
  obtain ⟨v0, v1, v2, d0, d1, d2, p0, p1, p2, rfl, rfl, rfl, h0, h1, h2⟩ := trodAll_three hA
  obtain ⟨rfl, rfl⟩ := trodVars_none hV
  obtain ⟨l0, hV0, hl0⟩ := open_boxes (hval 0 22 v0 rfl rfl) h0
  obtain ⟨z1, rfl, hdz1, hpz1, wz1⟩ := open_int Try.underlying31 (hval 1 31 v1 rfl rfl) h1
  obtain ⟨b1, rfl, hb1⟩ := half_of z1 wz1
  obtain ⟨s2, rfl, hds2, hps2, hs2⟩ := open_string Try.underlying9 (hval 2 9 v2 rfl rfl) h2
  obtain ⟨l2, rfl, hl2⟩ := list_of s2 hs2
  refine (lawPBent_any l0 v0 b1 l2 W hV0 hl0 hb1 hl2).mono fun e W' ⟨he, hb⟩ => ?_
  exact ⟨_, he, law_post laid_out (by kernel_rfl) rfl hW' hb (T := 4) rfl Try.underlying4 rfl rfl rfl⟩

theorem packBent_holds : Rows.PackBentSaid :=
  OpenClaim.holds_of_wide 4 Try.f4 rfl rfl rfl rfl rfl rfl rfl ⟨rfl, rfl, rfl, rfl, rfl⟩ rfl rfl rfl rfl rfl (by kernel_rfl) Try.func4 (by kernel_rfl)
    (of_decide_eq_true (by kernel_rfl)) (by unfold Func.isWrapper; first | (rw [if_pos (by decide +kernel)]; kernel_rfl) | (rw [if_neg (by decide +kernel)]; exact ⟨rfl, rfl⟩))
    (fun os started H enc _ => packBent_lifted os started H enc)
#print axioms packBent_holds
end Go.Proofs.Ytnkklogkjnfjgaa
