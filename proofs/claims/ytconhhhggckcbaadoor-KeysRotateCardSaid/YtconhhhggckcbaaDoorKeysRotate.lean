/- KeysRotate: any ring rotated, by any keys, and whether these are its keys, or the error, are the reference's (as far as the statement looks at them: up to 12 epochs, or about a hundred, texts of 10000 bytes, 105 keys, a noise of 200 bytes). The tables of package hash hold what the program's text lays (the row lists them, the card ties them). No condition of ours. -/
import Derived.Test.YtconhhhggckcbaaDoorKRot
import Derived.Test.YtconhhhggckcbaaDoorHashRow
import Derived.Test.YtconhhhggckcbaaDoorOpenR
import Derived.Carry
namespace Go.Proofs.YtconhhhggckcbaaDoor
open Go.ChangeShapes Go.WideShapes Go.ChangeAt Go.RowKit
open Go.ChangeMaps (open_string shut_string)

set_option maxRecDepth 100000 in
theorem keysRotate_contract (H : Type) (enc : TypeId × Value → H) (W : World) (base : Nat) (args : Array Value) (ds gs : List (DataW H)) (before : List MemPlace)
    (hval : ∀ (j : Nat) t v, Tryd.f4.params[j]? = some t → args[j]? = some v → Value.okWide Tryd.prog W .any base t v)
    (hW : DataW.Whole enc Tryd.prog Tryd.f4.params.toList Rows.keysRotateSpec.vars false W args.toList ds gs before) (hL : laidMetH Tryd.prog Rows.keysRotateRow.laid W) :
    Calls Tryd.prog 4 args W fun e W' => ∃ v, e = .returned v ∧ Rows.keysRotateSpec.post enc Tryd.prog Tryd.f4 false true false false W args v W' := by
  have hG : Glob W := glob_of_laid (rest := []) hL
  have hW' := hW
  obtain ⟨p, q, hA0, hV, rfl, hfz, hnd⟩ := hW
  have hA : DataW.TrodAll enc Tryd.prog W 0 (fun _ => true) true Tryd.f4.params.toList args.toList ds p := hA0
  rw [Tryd.params4] at hA hval
  obtain ⟨v0, v1, v2, v3, d0, d1, d2, d3, p0, p1, p2, p3, rfl, rfl, rfl, h0, h1, h2, h3⟩ := trodAll_four hA
  obtain ⟨rfl, rfl⟩ := trodVars_none hV
  obtain ⟨E0, u0, rfl, hV0, hE0, hl0⟩ := open_ringC (hval 0 27 v0 rfl rfl) h0
  obtain ⟨K1, u1, rfl, hV1, hT1, hc1⟩ := open_keysC (hval 1 30 v1 rfl rfl) h1
  obtain ⟨k2, hk2, rfl⟩ := open_byteArr Tryd.underlying23 Tryd.underlying5 co8 (by kernel_rfl) (hval 2 23 v2 rfl rfl) h2
  obtain ⟨s3, rfl, hds3, hps3, hs3⟩ := open_string Tryd.underlying9 (hval 3 9 v3 rfl rfl) h3
  obtain ⟨l3, rfl, hl3⟩ := list_of s3 hs3
  refine (lawRotate_any E0 u0 K1 u1 k2 l3 W hG hV0 hE0 hV1 hT1 hc1 hk2 hl3).mono fun e W' ⟨he, hb⟩ => ?_
  exact ⟨_, he, law_post laid_out (by kernel_rfl) rfl hW' hb (T := 4) rfl Tryd.underlying4 rfl rfl rfl⟩

theorem keysRotate_laid (os : Os) : laidMet Tryd.prog Rows.keysRotateRow.laid ((hashWorld os).forCall (fun _ _ => 0) ⟨#[], #[.agg #[.slice none 0 0], .agg #[.slice none 0 0], .agg (cells8 (List.replicate 32 0)), .string .empty], []⟩).memory :=
  laidMet_of_run' 8 (by kernel_rfl) (by kernel_rfl)
theorem keysRotate_reads (os : Os) {H : Type} (enc : TypeId × Value → H) : ∃ places, DataW.whole enc Tryd.prog ((hashWorld os).forCall (fun _ _ => 0) ⟨#[], #[.agg #[.slice none 0 0], .agg #[.slice none 0 0], .agg (cells8 (List.replicate 32 0)), .string .empty], []⟩).memory Tryd.f4.params.toList Rows.keysRotateSpec.vars false #[.agg #[.slice none 0 0], .agg #[.slice none 0 0], .agg (cells8 (List.replicate 32 0)), .string .empty].toList 8 = some ([.agg [.nil], .agg [.nil], .agg ((List.replicate 32 (0 : UInt8)).map fun b => .lit (.int .u8 (b.toNat : Int))), .lit (.string [])], [], places) :=
  ⟨[], by kernel_rfl⟩
set_option maxRecDepth 100000 in
theorem keysRotate_lifted (os : Os) (started : os.Started) (H : Type) (enc : TypeId × Value → H) (F : Stop.Interp) :
    ReturnsInHanded {} Tryd.checked os 4 .any ((OpenSpec.ofChange Rows.keysRotateSpec).preRow enc Tryd.prog Tryd.f4 Rows.keysRotateRow.domain false Rows.keysRotateRow.laid) (((OpenSpec.ofChange Rows.keysRotateSpec).at F).post enc Tryd.prog Tryd.f4 false true false false) := by
  obtain ⟨places, hx⟩ := keysRotate_reads os enc
  refine returnsInHanded_of_row (C := Tryd.checked) (s := OpenSpec.ofChange Rows.keysRotateSpec) own_knob started (by kernel_rfl) Tryd.func4
    (witness_row_at (enc := enc) (C := Tryd.checked) false (hashWorld os) #[.agg #[.slice none 0 0], .agg #[.slice none 0 0], .agg (cells8 (List.replicate 32 0)), .string .empty] rfl (by kernel_rfl) (by kernel_rfl) (by kernel_rfl)
      (OpenSpec.preRow_of_cond 8 hx (by kernel_rfl) (fun k hk => by cases hk) (by kernel_rfl) (keysRotate_laid os))) ?_
  intro W base args ds gs before hval hW _ _ _ hL _ _
  exact keysRotate_contract H enc W base args ds gs before hval hW hL
theorem keysRotate_said : Rows.KeysRotateSaid :=
  OpenClaim.holds_of_cond 4 Tryd.f4 rfl rfl rfl rfl rfl rfl rfl ⟨rfl, rfl, rfl, rfl, rfl⟩ rfl rfl rfl rfl rfl (by kernel_rfl) Tryd.func4 (by kernel_rfl)
    (of_decide_eq_true (by kernel_rfl)) (by unfold Func.isWrapper; first | (rw [if_pos (by decide +kernel)]; kernel_rfl) | (rw [if_neg (by decide +kernel)]; exact ⟨rfl, rfl⟩))
    (fun os started H enc _ F => by rw [OpenClaim.pre_eq_preRow]; exact keysRotate_lifted os started H enc F)
theorem keysRotate_plain (f : FuncId) (fn : Func) (hf : Tryd.pinned.checked.prog.funcNamed "hibernacle/hibernaclelaw38.KeysRotate" = some f) (hfn : Tryd.pinned.checked.prog.funcs[f]? = some fn) :
    false = Tryd.pinned.checked.prog.looks [] ∧ ∀ (j : Nat) t, fn.params[j]? = some t → Tryd.pinned.checked.prog.wantsStandIn t = false := by
  obtain rfl : f = 4 := Option.some.inj ((show Tryd.prog.funcNamed "hibernacle/hibernaclelaw38.KeysRotate" = some 4 by kernel_rfl).symm.trans hf) |>.symm
  obtain rfl : fn = Tryd.f4 := (Option.some.inj (Tryd.func4.symm.trans hfn)).symm
  refine ⟨by kernel_rfl, fun j t ht => ?_⟩
  rw [Tryd.params4] at ht
  have hm := Array.mem_of_getElem? ht
  simp only [List.mem_toArray, List.mem_cons, List.not_mem_nil, or_false] at hm
  rcases hm with rfl | rfl | rfl | rfl <;> (show Tryd.prog.wantsStandIn _ = false; kernel_rfl)
theorem keysRotate_card : Rows.KeysRotateCardSaid :=
  Claim7.holds_tied_plain_at .later [] _ _ _ _ keysRotate_said (fun _ h => by cases h) (by kernel_rfl) (fun _ h => by cases h) keysRotate_row_tie rfl ⟨rfl, rfl⟩ (by kernel_rfl) rfl keysRotate_plain (by kernel_rfl)
#print axioms keysRotate_card
end Go.Proofs.YtconhhhggckcbaaDoor
