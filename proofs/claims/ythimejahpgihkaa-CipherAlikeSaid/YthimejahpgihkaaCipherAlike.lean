/- CipherAlike: two texts that are turned alike differ just where they did (up to 5000 bytes, as the statement says). No condition of ours. -/
import Derived.Test.YthimejahpgihkaaLaw5
import Derived.Test.YthimejahpgihkaaCipherRow
namespace Go.Proofs.Ythimejahpgihkaa
open Go.ChangeShapes Go.WideShapes Go.ChangeAt Go.RowKit
open Go.ChangeMaps (open_string shut_string)

set_option maxRecDepth 100000 in
theorem cipherAlike_lifted (os : Os) (started : os.Started) (H : Type) (enc : TypeId × Value → H) :
    ReturnsInHanded {} Try.checked os 7 .any (Rows.cipherAlikeSpec.pre6 enc Try.prog Try.f7 Rows.cipherAlikeRow.domain false) (Rows.cipherAlikeSpec.post enc Try.prog Try.f7 false true false false) := by
  refine returnsInHanded_of_change (C := Try.checked) own_knob started (by kernel_rfl) Try.func7
    (ChangeSpec.witness6 (enc := enc) (C := Try.checked) false ⟨#[], #[.agg (caseCells (List.replicate 32 0) (List.replicate 12 0) 0), .string .empty, .string .empty], []⟩ 8 (by kernel_rfl) (by kernel_rfl) (by kernel_rfl) (by kernel_rfl)) ?_
  intro W base args ds gs before hval0 hW hcnd _
  have hval : ∀ (j : Nat) t v, Try.f7.params[j]? = some t → args[j]? = some v → Value.okWide Try.prog W .any base t v := hval0
  have hW' := hW
  obtain ⟨p, q, hA0, hV, rfl, hfz, hnd⟩ := hW
  have hA : DataW.TrodAll enc Try.prog W 0 (fun _ => true) true Try.f7.params.toList args.toList ds p := hA0
  rw [Try.params7] at hA hval
  obtain ⟨v0, v1, v2, d0, d1, d2, p0, p1, p2, rfl, rfl, rfl, h0, h1, h2⟩ := trodAll_three hA
  obtain ⟨rfl, rfl⟩ := trodVars_none hV
  obtain ⟨k0, c0, n0, hk0, hn0, rfl⟩ := open_case (hval 0 31 v0 rfl rfl) h0
  obtain ⟨s1, rfl, hds1, hps1, hs1⟩ := open_string Try.underlying9 (hval 1 9 v1 rfl rfl) h1
  obtain ⟨l1, rfl, hl1⟩ := list_of s1 hs1
  obtain ⟨s2, rfl, hds2, hps2, hs2⟩ := open_string Try.underlying9 (hval 2 9 v2 rfl rfl) h2
  obtain ⟨l2, rfl, hl2⟩ := list_of s2 hs2
  refine (calike_any k0 c0 n0 l1 l2 W hk0 hn0 hl1 hl2).mono fun e W' ⟨he, hb⟩ => ?_
  exact ⟨_, he, law_post laid_out (by kernel_rfl) rfl hW' hb (T := 4) rfl Try.underlying4 rfl rfl rfl⟩

theorem cipherAlike_holds : Rows.CipherAlikeSaid :=
  OpenClaim.holds_of_wide 7 Try.f7 rfl rfl rfl rfl rfl rfl rfl ⟨rfl, rfl, rfl, rfl, rfl⟩ rfl rfl rfl rfl rfl (by kernel_rfl) Try.func7 (by kernel_rfl)
    (of_decide_eq_true (by kernel_rfl)) (by unfold Func.isWrapper; first | (rw [if_pos (by decide +kernel)]; kernel_rfl) | (rw [if_neg (by decide +kernel)]; exact ⟨rfl, rfl⟩))
    (fun os started H enc _ => cipherAlike_lifted os started H enc)
#print axioms cipherAlike_holds
end Go.Proofs.Ythimejahpgihkaa
