/- HashOf: the digest of any text, or that there is none, is the reference's; a text that is one's is that one's text (up to 300 bytes, as the statement says). The tables of package hash hold what the program's text lays (the row lists them, the card ties them). No condition of ours. -/
import Derived.Test.YthimejahpgihkaaDoorHashLaw6
import Derived.Test.YthimejahpgihkaaDoorHashRow
namespace Go.Proofs.YthimejahpgihkaaDoor
open Go.ChangeShapes Go.WideShapes Go.ChangeAt Go.RowKit
open Go.ChangeMaps (open_string shut_string)

theorem hashOf_contract (H : Type) (enc : TypeId × Value → H) (W : World) (base : Nat) (args : Array Value) (ds gs : List (DataW H)) (before : List MemPlace)
    (hval : ∀ (j : Nat) t v, Tryd.f8.params[j]? = some t → args[j]? = some v → Value.okWide Tryd.prog W .any base t v)
    (hW : DataW.Whole enc Tryd.prog Tryd.f8.params.toList Rows.hashOfSpec.vars false W args.toList ds gs before) (hL : laidMetH Tryd.prog Rows.hashOfRow.laid W) :
    Calls Tryd.prog 8 args W fun e W' => ∃ v, e = .returned v ∧ Rows.hashOfSpec.post enc Tryd.prog Tryd.f8 false true false false W args v W' := by
  have hG : Glob W := glob_of_laid (rest := []) hL
  have hW' := hW
  obtain ⟨p, q, hA0, hV, rfl, hfz, hnd⟩ := hW
  have hA : DataW.TrodAll enc Tryd.prog W 0 (fun _ => true) true Tryd.f8.params.toList args.toList ds p := hA0
  rw [Tryd.params8] at hA hval
  obtain ⟨v0, d0, rfl, rfl, h0⟩ := trodAll_one hA
  obtain ⟨rfl, rfl⟩ := trodVars_none hV
  obtain ⟨s0, rfl, hds0, hps0, hs0⟩ := open_string Tryd.underlying9 (hval 0 9 v0 rfl rfl) h0
  obtain ⟨l0, rfl, hl0⟩ := list_of s0 hs0
  refine (lawOf_any l0 W hG hl0).mono fun e W' ⟨he, hb⟩ => ?_
  exact ⟨_, he, law_post laid_out (by kernel_rfl) rfl hW' hb (T := 4) rfl Tryd.underlying4 rfl rfl rfl⟩

theorem hashOf_laid (os : Os) : laidMet Tryd.prog Rows.hashOfRow.laid ((hashWorld os).forCall (fun _ _ => 0) ⟨#[], #[.string .empty], []⟩).memory :=
  laidMet_of_run' 8 (by kernel_rfl) (by kernel_rfl)
theorem hashOf_reads (os : Os) {H : Type} (enc : TypeId × Value → H) : ∃ places, DataW.whole enc Tryd.prog ((hashWorld os).forCall (fun _ _ => 0) ⟨#[], #[.string .empty], []⟩).memory Tryd.f8.params.toList Rows.hashOfSpec.vars false #[.string .empty].toList 8 = some ([.lit (.string [])], [], places) :=
  ⟨[], by kernel_rfl⟩
set_option maxRecDepth 100000 in
theorem hashOf_lifted (os : Os) (started : os.Started) (H : Type) (enc : TypeId × Value → H) (F : Stop.Interp) :
    ReturnsInHanded {} Tryd.checked os 8 .any ((OpenSpec.ofChange Rows.hashOfSpec).preRow enc Tryd.prog Tryd.f8 Rows.hashOfRow.domain false Rows.hashOfRow.laid) (((OpenSpec.ofChange Rows.hashOfSpec).at F).post enc Tryd.prog Tryd.f8 false true false false) := by
  obtain ⟨places, hx⟩ := hashOf_reads os enc
  refine returnsInHanded_of_row (C := Tryd.checked) (s := OpenSpec.ofChange Rows.hashOfSpec) own_knob started (by kernel_rfl) Tryd.func8
    (witness_row_at (enc := enc) (C := Tryd.checked) false (hashWorld os) #[.string .empty] rfl (by kernel_rfl) (by kernel_rfl) (by kernel_rfl)
      (OpenSpec.preRow_of_cond 8 hx (by kernel_rfl) (fun k hk => by cases hk) (by kernel_rfl) (hashOf_laid os))) ?_
  intro W base args ds gs before hval hW _ _ _ hL _ _
  exact hashOf_contract H enc W base args ds gs before hval hW hL
theorem hashOf_said : Rows.HashOfSaid :=
  OpenClaim.holds_of_cond 8 Tryd.f8 rfl rfl rfl rfl rfl rfl rfl ⟨rfl, rfl, rfl, rfl, rfl⟩ rfl rfl rfl rfl rfl (by kernel_rfl) Tryd.func8 (by kernel_rfl)
    (of_decide_eq_true (by kernel_rfl)) (by unfold Func.isWrapper; first | (rw [if_pos (by decide +kernel)]; kernel_rfl) | (rw [if_neg (by decide +kernel)]; exact ⟨rfl, rfl⟩))
    (fun os started H enc _ F => by rw [OpenClaim.pre_eq_preRow]; exact hashOf_lifted os started H enc F)
theorem hashOf_plain (f : FuncId) (fn : Func) (hf : Tryd.pinned.checked.prog.funcNamed "hibernacle/hibernaclelaw02.HashOf" = some f) (hfn : Tryd.pinned.checked.prog.funcs[f]? = some fn) :
    false = Tryd.pinned.checked.prog.looks [] ∧ ∀ (j : Nat) t, fn.params[j]? = some t → Tryd.pinned.checked.prog.wantsStandIn t = false := by
  obtain rfl : f = 8 := Option.some.inj ((show Tryd.prog.funcNamed "hibernacle/hibernaclelaw02.HashOf" = some 8 by kernel_rfl).symm.trans hf) |>.symm
  obtain rfl : fn = Tryd.f8 := (Option.some.inj (Tryd.func8.symm.trans hfn)).symm
  refine ⟨by kernel_rfl, fun j t ht => ?_⟩
  rw [Tryd.params8] at ht
  have hm := Array.mem_of_getElem? ht
  simp only [List.mem_toArray, List.mem_cons, List.not_mem_nil, or_false] at hm
  rcases hm with rfl <;> (show Tryd.prog.wantsStandIn _ = false; kernel_rfl)
theorem hashOf_card : Rows.HashOfCardSaid :=
  Claim7.holds_tied_plain_at .later [] _ _ _ _ hashOf_said (fun _ h => by cases h) (by kernel_rfl) (fun _ h => by cases h) hashOf_row_tie rfl ⟨rfl, rfl⟩ (by kernel_rfl) rfl hashOf_plain (by kernel_rfl)
#print axioms hashOf_card
end Go.Proofs.YthimejahpgihkaaDoor
