/- KeysTold: the key of names, and that of any epoch's boxes, of any keys, are the reference's (up to 200 keys; for more the statement asks the chapter's example alone). The tables of package hash hold what the program's text lays (the row lists them, the card ties them). No condition of ours. -/
import Derived.Test.YtconhhhggckcbaaDoorKTold
import Derived.Test.YtconhhhggckcbaaDoorHashRow
import Derived.Test.YtconhhhggckcbaaDoorOpenL
import Derived.Carry
namespace Go.Proofs.YtconhhhggckcbaaDoor
open Go.ChangeShapes Go.WideShapes Go.ChangeAt Go.RowKit
open Go.ChangeMaps (open_string shut_string)

set_option maxRecDepth 100000 in
theorem keysTold_contract (H : Type) (enc : TypeId × Value → H) (W : World) (base : Nat) (args : Array Value) (ds gs : List (DataW H)) (before : List MemPlace)
    (hval : ∀ (j : Nat) t v, Tryd.f9.params[j]? = some t → args[j]? = some v → Value.okWide Tryd.prog W .any base t v)
    (hW : DataW.Whole enc Tryd.prog Tryd.f9.params.toList Rows.keysToldSpec.vars false W args.toList ds gs before) (hL : laidMetH Tryd.prog Rows.keysToldRow.laid W) :
    Calls Tryd.prog 9 args W fun e W' => ∃ v, e = .returned v ∧ Rows.keysToldSpec.post enc Tryd.prog Tryd.f9 false true false false W args v W' := by
  have hG : Glob W := glob_of_laid (rest := []) hL
  have hW' := hW
  obtain ⟨p, q, hA0, hV, rfl, hfz, hnd⟩ := hW
  have hA : DataW.TrodAll enc Tryd.prog W 0 (fun _ => true) true Tryd.f9.params.toList args.toList ds p := hA0
  rw [Tryd.params9] at hA hval
  obtain ⟨v0, v1, d0, d1, p0, p1, rfl, rfl, rfl, h0, h1⟩ := trodAll_two hA
  obtain ⟨rfl, rfl⟩ := trodVars_none hV
  obtain ⟨K0, u0, rfl, hV0, hT0, hl0⟩ := open_keys (hval 0 30 v0 rfl rfl) h0
  obtain ⟨z1, rfl, hdz1, hpz1, wz1⟩ := open_int Tryd.underlying3 (hval 1 3 v1 rfl rfl) h1
  refine (lawTold_any K0 u0 z1 W hG hV0 hT0).mono fun e W' ⟨he, hb⟩ => ?_
  exact ⟨_, he, law_post laid_out (by kernel_rfl) rfl hW' hb (T := 4) rfl Tryd.underlying4 rfl rfl rfl⟩

theorem keysTold_laid (os : Os) : laidMet Tryd.prog Rows.keysToldRow.laid ((hashWorld os).forCall (fun _ _ => 0) ⟨#[], #[.agg #[.slice none 0 0], .int .i64 0], []⟩).memory :=
  laidMet_of_run' 8 (by kernel_rfl) (by kernel_rfl)
theorem keysTold_reads (os : Os) {H : Type} (enc : TypeId × Value → H) : ∃ places, DataW.whole enc Tryd.prog ((hashWorld os).forCall (fun _ _ => 0) ⟨#[], #[.agg #[.slice none 0 0], .int .i64 0], []⟩).memory Tryd.f9.params.toList Rows.keysToldSpec.vars false #[.agg #[.slice none 0 0], .int .i64 0].toList 8 = some ([.agg [.nil], .lit (.int .i64 0)], [], places) :=
  ⟨[], by kernel_rfl⟩
set_option maxRecDepth 100000 in
theorem keysTold_lifted (os : Os) (started : os.Started) (H : Type) (enc : TypeId × Value → H) (F : Stop.Interp) :
    ReturnsInHanded {} Tryd.checked os 9 .any ((OpenSpec.ofChange Rows.keysToldSpec).preRow enc Tryd.prog Tryd.f9 Rows.keysToldRow.domain false Rows.keysToldRow.laid) (((OpenSpec.ofChange Rows.keysToldSpec).at F).post enc Tryd.prog Tryd.f9 false true false false) := by
  obtain ⟨places, hx⟩ := keysTold_reads os enc
  refine returnsInHanded_of_row (C := Tryd.checked) (s := OpenSpec.ofChange Rows.keysToldSpec) own_knob started (by kernel_rfl) Tryd.func9
    (witness_row_at (enc := enc) (C := Tryd.checked) false (hashWorld os) #[.agg #[.slice none 0 0], .int .i64 0] rfl (by kernel_rfl) (by kernel_rfl) (by kernel_rfl)
      (OpenSpec.preRow_of_cond 8 hx (by kernel_rfl) (fun k hk => by cases hk) (by kernel_rfl) (keysTold_laid os))) ?_
  intro W base args ds gs before hval hW _ _ _ hL _ _
  exact keysTold_contract H enc W base args ds gs before hval hW hL
theorem keysTold_said : Rows.KeysToldSaid :=
  OpenClaim.holds_of_cond 9 Tryd.f9 rfl rfl rfl rfl rfl rfl rfl ⟨rfl, rfl, rfl, rfl, rfl⟩ rfl rfl rfl rfl rfl (by kernel_rfl) Tryd.func9 (by kernel_rfl)
    (of_decide_eq_true (by kernel_rfl)) (by unfold Func.isWrapper; first | (rw [if_pos (by decide +kernel)]; kernel_rfl) | (rw [if_neg (by decide +kernel)]; exact ⟨rfl, rfl⟩))
    (fun os started H enc _ F => by rw [OpenClaim.pre_eq_preRow]; exact keysTold_lifted os started H enc F)
theorem keysTold_plain (f : FuncId) (fn : Func) (hf : Tryd.pinned.checked.prog.funcNamed "hibernacle/hibernaclelaw38.KeysTold" = some f) (hfn : Tryd.pinned.checked.prog.funcs[f]? = some fn) :
    false = Tryd.pinned.checked.prog.looks [] ∧ ∀ (j : Nat) t, fn.params[j]? = some t → Tryd.pinned.checked.prog.wantsStandIn t = false := by
  obtain rfl : f = 9 := Option.some.inj ((show Tryd.prog.funcNamed "hibernacle/hibernaclelaw38.KeysTold" = some 9 by kernel_rfl).symm.trans hf) |>.symm
  obtain rfl : fn = Tryd.f9 := (Option.some.inj (Tryd.func9.symm.trans hfn)).symm
  refine ⟨by kernel_rfl, fun j t ht => ?_⟩
  rw [Tryd.params9] at ht
  have hm := Array.mem_of_getElem? ht
  simp only [List.mem_toArray, List.mem_cons, List.not_mem_nil, or_false] at hm
  rcases hm with rfl | rfl <;> (show Tryd.prog.wantsStandIn _ = false; kernel_rfl)
theorem keysTold_card : Rows.KeysToldCardSaid :=
  Claim7.holds_tied_plain_at .later [] _ _ _ _ keysTold_said (fun _ h => by cases h) (by kernel_rfl) (fun _ h => by cases h) keysTold_row_tie rfl ⟨rfl, rfl⟩ (by kernel_rfl) rfl keysTold_plain (by kernel_rfl)
#print axioms keysTold_card
end Go.Proofs.YtconhhhggckcbaaDoor
