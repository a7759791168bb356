/- SessionFar: a thousand messages may be lost in a row, and no more (names up to 100 bytes, numbers up to 2^60(for others the statement asks the chapter's example alone). The tables of package hash hold what the program's text lays (the row lists them, the card ties them). No condition of ours. -/
import Derived.Test.YtioioibcldgknaaDoorSesE
import Derived.Test.YtioioibcldgknaaDoorHashRow
import Derived.Test.YtioioibcldgknaaDoorOpenC
import Derived.Carry
namespace Go.Proofs.YtioioibcldgknaaDoor
open Go.ChangeShapes Go.WideShapes Go.ChangeAt Go.RowKit
open Go.ChangeMaps (open_string shut_string)

set_option maxRecDepth 100000 in
theorem sessionFar_contract (H : Type) (enc : TypeId × Value → H) (W : World) (base : Nat) (args : Array Value) (ds gs : List (DataW H)) (before : List MemPlace)
    (hval : ∀ (j : Nat) t v, Tryd.f5.params[j]? = some t → args[j]? = some v → Value.okWide Tryd.prog W .any base t v)
    (hW : DataW.Whole enc Tryd.prog Tryd.f5.params.toList Rows.sessionFarSpec.vars false W args.toList ds gs before) (hL : laidMetH Tryd.prog Rows.sessionFarRow.laid W) :
    Calls Tryd.prog 5 args W fun e W' => ∃ v, e = .returned v ∧ Rows.sessionFarSpec.post enc Tryd.prog Tryd.f5 false true false false W args v W' := by
  have hG : Glob W := glob_of_laid (rest := []) hL
  have hW' := hW
  obtain ⟨p, q, hA0, hV, rfl, hfz, hnd⟩ := hW
  have hA : DataW.TrodAll enc Tryd.prog W 0 (fun _ => true) true Tryd.f5.params.toList args.toList ds p := hA0
  rw [Tryd.params5] at hA hval
  obtain ⟨v0, v1, d0, d1, p0, p1, rfl, rfl, rfl, h0, h1⟩ := trodAll_two hA
  obtain ⟨rfl, rfl⟩ := trodVars_none hV
  obtain ⟨c0, hk0, hn0, rfl⟩ := open_chan (hval 0 26 v0 rfl rfl) h0
  obtain ⟨z1, rfl, hdz1, hpz1, wz1⟩ := open_int Tryd.underlying5 (hval 1 5 v1 rfl rfl) h1
  obtain ⟨b1, rfl⟩ := byte_of z1 wz1
  refine (lawSFar_any c0 b1 W hG hk0 hn0).mono fun e W' ⟨he, hb⟩ => ?_
  exact ⟨_, he, law_post laid_out (by kernel_rfl) rfl hW' hb (T := 4) rfl Tryd.underlying4 rfl rfl rfl⟩

theorem sessionFar_laid (os : Os) : laidMet Tryd.prog Rows.sessionFarRow.laid ((hashWorld os).forCall (fun _ _ => 0) ⟨#[], #[.agg (chA noCh), .int .u8 0], []⟩).memory :=
  laidMet_of_run' 8 (by kernel_rfl) (by kernel_rfl)
theorem sessionFar_reads (os : Os) {H : Type} (enc : TypeId × Value → H) : ∃ places, DataW.whole enc Tryd.prog ((hashWorld os).forCall (fun _ _ => 0) ⟨#[], #[.agg (chA noCh), .int .u8 0], []⟩).memory Tryd.f5.params.toList Rows.sessionFarSpec.vars false #[.agg (chA noCh), .int .u8 0].toList 8 = some ([.agg [.lit (.string []), .lit (.int .u64 0), .agg ((List.replicate 32 (0 : UInt8)).map fun b => .lit (.int .u8 (b.toNat : Int)))], .lit (.int .u8 0)], [], places) :=
  ⟨[], by kernel_rfl⟩
set_option maxRecDepth 100000 in
theorem sessionFar_lifted (os : Os) (started : os.Started) (H : Type) (enc : TypeId × Value → H) (F : Stop.Interp) :
    ReturnsInHanded {} Tryd.checked os 5 .any ((OpenSpec.ofChange Rows.sessionFarSpec).preRow enc Tryd.prog Tryd.f5 Rows.sessionFarRow.domain false Rows.sessionFarRow.laid) (((OpenSpec.ofChange Rows.sessionFarSpec).at F).post enc Tryd.prog Tryd.f5 false true false false) := by
  obtain ⟨places, hx⟩ := sessionFar_reads os enc
  refine returnsInHanded_of_row (C := Tryd.checked) (s := OpenSpec.ofChange Rows.sessionFarSpec) own_knob started (by kernel_rfl) Tryd.func5
    (witness_row_at (enc := enc) (C := Tryd.checked) false (hashWorld os) #[.agg (chA noCh), .int .u8 0] rfl (by kernel_rfl) (by kernel_rfl) (by kernel_rfl)
      (OpenSpec.preRow_of_cond 8 hx (by kernel_rfl) (fun k hk => by cases hk) (by kernel_rfl) (sessionFar_laid os))) ?_
  intro W base args ds gs before hval hW _ _ _ hL _ _
  exact sessionFar_contract H enc W base args ds gs before hval hW hL
theorem sessionFar_said : Rows.SessionFarSaid :=
  OpenClaim.holds_of_cond 5 Tryd.f5 rfl rfl rfl rfl rfl rfl rfl ⟨rfl, rfl, rfl, rfl, rfl⟩ rfl rfl rfl rfl rfl (by kernel_rfl) Tryd.func5 (by kernel_rfl)
    (of_decide_eq_true (by kernel_rfl)) (by unfold Func.isWrapper; first | (rw [if_pos (by decide +kernel)]; kernel_rfl) | (rw [if_neg (by decide +kernel)]; exact ⟨rfl, rfl⟩))
    (fun os started H enc _ F => by rw [OpenClaim.pre_eq_preRow]; exact sessionFar_lifted os started H enc F)
theorem sessionFar_plain (f : FuncId) (fn : Func) (hf : Tryd.pinned.checked.prog.funcNamed "hibernacle/hibernaclelaw43.SessionFar" = some f) (hfn : Tryd.pinned.checked.prog.funcs[f]? = some fn) :
    false = Tryd.pinned.checked.prog.looks [] ∧ ∀ (j : Nat) t, fn.params[j]? = some t → Tryd.pinned.checked.prog.wantsStandIn t = false := by
  obtain rfl : f = 5 := Option.some.inj ((show Tryd.prog.funcNamed "hibernacle/hibernaclelaw43.SessionFar" = some 5 by kernel_rfl).symm.trans hf) |>.symm
  obtain rfl : fn = Tryd.f5 := (Option.some.inj (Tryd.func5.symm.trans hfn)).symm
  refine ⟨by kernel_rfl, fun j t ht => ?_⟩
  rw [Tryd.params5] at ht
  have hm := Array.mem_of_getElem? ht
  simp only [List.mem_toArray, List.mem_cons, List.not_mem_nil, or_false] at hm
  rcases hm with rfl | rfl <;> (show Tryd.prog.wantsStandIn _ = false; kernel_rfl)
theorem sessionFar_card : Rows.SessionFarCardSaid :=
  Claim7.holds_tied_plain_at .later [] _ _ _ _ sessionFar_said (fun _ h => by cases h) (by kernel_rfl) (fun _ h => by cases h) sessionFar_row_tie rfl ⟨rfl, rfl⟩ (by kernel_rfl) rfl sessionFar_plain (by kernel_rfl)
#print axioms sessionFar_card
end Go.Proofs.YtioioibcldgknaaDoor
