/- HashFilled: noughts behind a text count: the digests of a text, filled up, and of that without its last byte are the reference's (up to 400 bytes, as the statement says). The tables of package hash hold what the program's text lays (the row lists them, the card ties them). No condition of ours. -/
import Derived.Test.YthimejahpgihkaaDoorHashLaw4
import Derived.Test.YthimejahpgihkaaDoorHashRow
namespace Go.Proofs.YthimejahpgihkaaDoor
open Go.ChangeShapes Go.WideShapes Go.ChangeAt Go.RowKit
open Go.ChangeMaps (open_string shut_string)

theorem hashFilled_contract (H : Type) (enc : TypeId × Value → H) (W : World) (base : Nat) (args : Array Value) (ds gs : List (DataW H)) (before : List MemPlace)
    (hval : ∀ (j : Nat) t v, Tryd.f6.params[j]? = some t → args[j]? = some v → Value.okWide Tryd.prog W .any base t v)
    (hW : DataW.Whole enc Tryd.prog Tryd.f6.params.toList Rows.hashFilledSpec.vars false W args.toList ds gs before) (hL : laidMetH Tryd.prog Rows.hashFilledRow.laid W) :
    Calls Tryd.prog 6 args W fun e W' => ∃ v, e = .returned v ∧ Rows.hashFilledSpec.post enc Tryd.prog Tryd.f6 false true false false W args v W' := by
  have hG : Glob W := glob_of_laid (rest := []) hL
  have hW' := hW
  obtain ⟨p, q, hA0, hV, rfl, hfz, hnd⟩ := hW
  have hA : DataW.TrodAll enc Tryd.prog W 0 (fun _ => true) true Tryd.f6.params.toList args.toList ds p := hA0
  rw [Tryd.params6] at hA hval
  obtain ⟨v0, v1, v2, d0, d1, d2, p0, p1, p2, rfl, rfl, rfl, h0, h1, h2⟩ := trodAll_three hA
  obtain ⟨rfl, rfl⟩ := trodVars_none hV
  obtain ⟨s0, rfl, hds0, hps0, hs0⟩ := open_string Tryd.underlying9 (hval 0 9 v0 rfl rfl) h0
  obtain ⟨l0, rfl, hl0⟩ := list_of s0 hs0
  obtain ⟨z1, rfl, hdz1, hpz1, wz1⟩ := open_int Tryd.underlying5 (hval 1 5 v1 rfl rfl) h1
  obtain ⟨b1, rfl⟩ := byte_of z1 wz1
  obtain ⟨k2, hk2, rfl⟩ := open_byteArr Tryd.underlying28 Tryd.underlying5 co8 (by kernel_rfl) (hval 2 28 v2 rfl rfl) h2
  refine (lawFilled_any l0 b1 k2 W hG hl0 hk2).mono fun e W' ⟨he, hb⟩ => ?_
  exact ⟨_, he, law_post laid_out (by kernel_rfl) rfl hW' hb (T := 4) rfl Tryd.underlying4 rfl rfl rfl⟩

theorem hashFilled_laid (os : Os) : laidMet Tryd.prog Rows.hashFilledRow.laid ((hashWorld os).forCall (fun _ _ => 0) ⟨#[], #[.string .empty, .int .u8 0, .agg (cells8 (List.replicate 32 0))], []⟩).memory :=
  laidMet_of_run' 8 (by kernel_rfl) (by kernel_rfl)
theorem hashFilled_reads (os : Os) {H : Type} (enc : TypeId × Value → H) : ∃ places, DataW.whole enc Tryd.prog ((hashWorld os).forCall (fun _ _ => 0) ⟨#[], #[.string .empty, .int .u8 0, .agg (cells8 (List.replicate 32 0))], []⟩).memory Tryd.f6.params.toList Rows.hashFilledSpec.vars false #[.string .empty, .int .u8 0, .agg (cells8 (List.replicate 32 0))].toList 8 = some ([.lit (.string []), .lit (.int .u8 0), .agg ((List.replicate 32 (0 : UInt8)).map fun b => .lit (.int .u8 (b.toNat : Int)))], [], places) :=
  ⟨[], by kernel_rfl⟩
set_option maxRecDepth 100000 in
theorem hashFilled_lifted (os : Os) (started : os.Started) (H : Type) (enc : TypeId × Value → H) (F : Stop.Interp) :
    ReturnsInHanded {} Tryd.checked os 6 .any ((OpenSpec.ofChange Rows.hashFilledSpec).preRow enc Tryd.prog Tryd.f6 Rows.hashFilledRow.domain false Rows.hashFilledRow.laid) (((OpenSpec.ofChange Rows.hashFilledSpec).at F).post enc Tryd.prog Tryd.f6 false true false false) := by
  obtain ⟨places, hx⟩ := hashFilled_reads os enc
  refine returnsInHanded_of_row (C := Tryd.checked) (s := OpenSpec.ofChange Rows.hashFilledSpec) own_knob started (by kernel_rfl) Tryd.func6
    (witness_row_at (enc := enc) (C := Tryd.checked) false (hashWorld os) #[.string .empty, .int .u8 0, .agg (cells8 (List.replicate 32 0))] rfl (by kernel_rfl) (by kernel_rfl) (by kernel_rfl)
      (OpenSpec.preRow_of_cond 8 hx (by kernel_rfl) (fun k hk => by cases hk) (by kernel_rfl) (hashFilled_laid os))) ?_
  intro W base args ds gs before hval hW _ _ _ hL _ _
  exact hashFilled_contract H enc W base args ds gs before hval hW hL
theorem hashFilled_said : Rows.HashFilledSaid :=
  OpenClaim.holds_of_cond 6 Tryd.f6 rfl rfl rfl rfl rfl rfl rfl ⟨rfl, rfl, rfl, rfl, rfl⟩ rfl rfl rfl rfl rfl (by kernel_rfl) Tryd.func6 (by kernel_rfl)
    (of_decide_eq_true (by kernel_rfl)) (by unfold Func.isWrapper; first | (rw [if_pos (by decide +kernel)]; kernel_rfl) | (rw [if_neg (by decide +kernel)]; exact ⟨rfl, rfl⟩))
    (fun os started H enc _ F => by rw [OpenClaim.pre_eq_preRow]; exact hashFilled_lifted os started H enc F)
theorem hashFilled_plain (f : FuncId) (fn : Func) (hf : Tryd.pinned.checked.prog.funcNamed "hibernacle/hibernaclelaw02.HashFilled" = some f) (hfn : Tryd.pinned.checked.prog.funcs[f]? = some fn) :
    false = Tryd.pinned.checked.prog.looks [] ∧ ∀ (j : Nat) t, fn.params[j]? = some t → Tryd.pinned.checked.prog.wantsStandIn t = false := by
  obtain rfl : f = 6 := Option.some.inj ((show Tryd.prog.funcNamed "hibernacle/hibernaclelaw02.HashFilled" = some 6 by kernel_rfl).symm.trans hf) |>.symm
  obtain rfl : fn = Tryd.f6 := (Option.some.inj (Tryd.func6.symm.trans hfn)).symm
  refine ⟨by kernel_rfl, fun j t ht => ?_⟩
  rw [Tryd.params6] at ht
  have hm := Array.mem_of_getElem? ht
  simp only [List.mem_toArray, List.mem_cons, List.not_mem_nil, or_false] at hm
  rcases hm with rfl | rfl | rfl <;> (show Tryd.prog.wantsStandIn _ = false; kernel_rfl)
theorem hashFilled_card : Rows.HashFilledCardSaid :=
  Claim7.holds_tied_plain_at .later [] _ _ _ _ hashFilled_said (fun _ h => by cases h) (by kernel_rfl) (fun _ h => by cases h) hashFilled_row_tie rfl ⟨rfl, rfl⟩ (by kernel_rfl) rfl hashFilled_plain (by kernel_rfl)
#print axioms hashFilled_card
end Go.Proofs.YthimejahpgihkaaDoor
