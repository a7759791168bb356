/- KeysFront: the first epochs of a ring that was made and rotated by up to six unlike keys are a ring: shares of an elder epoch open it, as far as that one (for others the statement asks the chapter's example alone). The tables of package hash hold what the program's text lays (the row lists them, the card ties them). No condition of ours. -/
import Derived.Test.YtconhhhggckcbaaDoorKFront
import Derived.Test.YtconhhhggckcbaaDoorHashRow
import Derived.Test.YtconhhhggckcbaaDoorOpenL
import Derived.Carry
namespace Go.Proofs.YtconhhhggckcbaaDoor
open Go.ChangeShapes Go.WideShapes Go.ChangeAt Go.RowKit
open Go.ChangeMaps (open_string shut_string)

set_option maxRecDepth 100000 in
theorem keysFront_contract (H : Type) (enc : TypeId × Value → H) (W : World) (base : Nat) (args : Array Value) (ds gs : List (DataW H)) (before : List MemPlace)
    (hval : ∀ (j : Nat) t v, Tryd.f8.params[j]? = some t → args[j]? = some v → Value.okWide Tryd.prog W .any base t v)
    (hW : DataW.Whole enc Tryd.prog Tryd.f8.params.toList Rows.keysFrontSpec.vars false W args.toList ds gs before) (hL : laidMetH Tryd.prog Rows.keysFrontRow.laid W) :
    Calls Tryd.prog 8 args W fun e W' => ∃ v, e = .returned v ∧ Rows.keysFrontSpec.post enc Tryd.prog Tryd.f8 false true false false W args v W' := by
  have hG : Glob W := glob_of_laid (rest := []) hL
  have hW' := hW
  obtain ⟨p, q, hA0, hV, rfl, hfz, hnd⟩ := hW
  have hA : DataW.TrodAll enc Tryd.prog W 0 (fun _ => true) true Tryd.f8.params.toList args.toList ds p := hA0
  rw [Tryd.params8] at hA hval
  obtain ⟨v0, v1, v2, d0, d1, d2, p0, p1, p2, rfl, rfl, rfl, h0, h1, h2⟩ := trodAll_three hA
  obtain ⟨rfl, rfl⟩ := trodVars_none hV
  obtain ⟨l0, hV0, hk0, hl0, hc0⟩ := open_keyl (hval 0 28 v0 rfl rfl) h0
  obtain ⟨k1, hk1, rfl⟩ := open_byteArr Tryd.underlying46 Tryd.underlying5 co8 (by kernel_rfl) (hval 1 46 v1 rfl rfl) h1
  obtain ⟨z2, rfl, hdz2, hpz2, wz2⟩ := open_int Tryd.underlying5 (hval 2 5 v2 rfl rfl) h2
  obtain ⟨b2, rfl⟩ := byte_of z2 wz2
  refine (lawFront_any l0 v0 k1 b2 W hG hV0 hk0 hc0 hk1).mono fun e W' ⟨he, hb⟩ => ?_
  exact ⟨_, he, law_post laid_out (by kernel_rfl) rfl hW' hb (T := 4) rfl Tryd.underlying4 rfl rfl rfl⟩

theorem keysFront_laid (os : Os) : laidMet Tryd.prog Rows.keysFrontRow.laid ((hashWorld os).forCall (fun _ _ => 0) ⟨#[], #[.slice none 0 0, .agg (cells8 (List.replicate 64 0)), .int .u8 0], []⟩).memory :=
  laidMet_of_run' 8 (by kernel_rfl) (by kernel_rfl)
theorem keysFront_reads (os : Os) {H : Type} (enc : TypeId × Value → H) : ∃ places, DataW.whole enc Tryd.prog ((hashWorld os).forCall (fun _ _ => 0) ⟨#[], #[.slice none 0 0, .agg (cells8 (List.replicate 64 0)), .int .u8 0], []⟩).memory Tryd.f8.params.toList Rows.keysFrontSpec.vars false #[.slice none 0 0, .agg (cells8 (List.replicate 64 0)), .int .u8 0].toList 8 = some ([.nil, .agg ((List.replicate 64 (0 : UInt8)).map fun b => .lit (.int .u8 (b.toNat : Int))), .lit (.int .u8 0)], [], places) :=
  ⟨[], by kernel_rfl⟩
set_option maxRecDepth 100000 in
theorem keysFront_lifted (os : Os) (started : os.Started) (H : Type) (enc : TypeId × Value → H) (F : Stop.Interp) :
    ReturnsInHanded {} Tryd.checked os 8 .any ((OpenSpec.ofChange Rows.keysFrontSpec).preRow enc Tryd.prog Tryd.f8 Rows.keysFrontRow.domain false Rows.keysFrontRow.laid) (((OpenSpec.ofChange Rows.keysFrontSpec).at F).post enc Tryd.prog Tryd.f8 false true false false) := by
  obtain ⟨places, hx⟩ := keysFront_reads os enc
  refine returnsInHanded_of_row (C := Tryd.checked) (s := OpenSpec.ofChange Rows.keysFrontSpec) own_knob started (by kernel_rfl) Tryd.func8
    (witness_row_at (enc := enc) (C := Tryd.checked) false (hashWorld os) #[.slice none 0 0, .agg (cells8 (List.replicate 64 0)), .int .u8 0] rfl (by kernel_rfl) (by kernel_rfl) (by kernel_rfl)
      (OpenSpec.preRow_of_cond 8 hx (by kernel_rfl) (fun k hk => by cases hk) (by kernel_rfl) (keysFront_laid os))) ?_
  intro W base args ds gs before hval hW _ _ _ hL _ _
  exact keysFront_contract H enc W base args ds gs before hval hW hL
theorem keysFront_said : Rows.KeysFrontSaid :=
  OpenClaim.holds_of_cond 8 Tryd.f8 rfl rfl rfl rfl rfl rfl rfl ⟨rfl, rfl, rfl, rfl, rfl⟩ rfl rfl rfl rfl rfl (by kernel_rfl) Tryd.func8 (by kernel_rfl)
    (of_decide_eq_true (by kernel_rfl)) (by unfold Func.isWrapper; first | (rw [if_pos (by decide +kernel)]; kernel_rfl) | (rw [if_neg (by decide +kernel)]; exact ⟨rfl, rfl⟩))
    (fun os started H enc _ F => by rw [OpenClaim.pre_eq_preRow]; exact keysFront_lifted os started H enc F)
theorem keysFront_plain (f : FuncId) (fn : Func) (hf : Tryd.pinned.checked.prog.funcNamed "hibernacle/hibernaclelaw38.KeysFront" = some f) (hfn : Tryd.pinned.checked.prog.funcs[f]? = some fn) :
    false = Tryd.pinned.checked.prog.looks [] ∧ ∀ (j : Nat) t, fn.params[j]? = some t → Tryd.pinned.checked.prog.wantsStandIn t = false := by
  obtain rfl : f = 8 := Option.some.inj ((show Tryd.prog.funcNamed "hibernacle/hibernaclelaw38.KeysFront" = some 8 by kernel_rfl).symm.trans hf) |>.symm
  obtain rfl : fn = Tryd.f8 := (Option.some.inj (Tryd.func8.symm.trans hfn)).symm
  refine ⟨by kernel_rfl, fun j t ht => ?_⟩
  rw [Tryd.params8] at ht
  have hm := Array.mem_of_getElem? ht
  simp only [List.mem_toArray, List.mem_cons, List.not_mem_nil, or_false] at hm
  rcases hm with rfl | rfl | rfl <;> (show Tryd.prog.wantsStandIn _ = false; kernel_rfl)
theorem keysFront_card : Rows.KeysFrontCardSaid :=
  Claim7.holds_tied_plain_at .later [] _ _ _ _ keysFront_said (fun _ h => by cases h) (by kernel_rfl) (fun _ h => by cases h) keysFront_row_tie rfl ⟨rfl, rfl⟩ (by kernel_rfl) rfl keysFront_plain (by kernel_rfl)
#print axioms keysFront_card
end Go.Proofs.YtconhhhggckcbaaDoor
