/- LzSealed: packed, sealed, opened and unpacked, any bytes are as they were (up to 600 bytes; for longer texts the statement asks the chapter's example alone). The tables of package hash hold what the program's text lays (the row lists them, the card ties them). No condition of ours. -/
import Derived.Test.YtpobmaklgnioeaaDoorLz10
import Derived.Test.YtpobmaklgnioeaaDoorHashRow
import Derived.Carry
namespace Go.Proofs.YtpobmaklgnioeaaDoor
open Go.ChangeShapes Go.WideShapes Go.ChangeAt Go.RowKit
open Go.ChangeMaps (open_string shut_string)

set_option maxRecDepth 100000 in
theorem lzSealed_contract (H : Type) (enc : TypeId × Value → H) (W : World) (base : Nat) (args : Array Value) (ds gs : List (DataW H)) (before : List MemPlace)
    (hval : ∀ (j : Nat) t v, Tryd.f11.params[j]? = some t → args[j]? = some v → Value.okWide Tryd.prog W .any base t v)
    (hW : DataW.Whole enc Tryd.prog Tryd.f11.params.toList Rows.lzSealedSpec.vars false W args.toList ds gs before) (hL : laidMetH Tryd.prog Rows.lzSealedRow.laid W) :
    Calls Tryd.prog 11 args W fun e W' => ∃ v, e = .returned v ∧ Rows.lzSealedSpec.post enc Tryd.prog Tryd.f11 false true false false W args v W' := by
  have hG : Glob W := glob_of_laid (rest := []) hL
  have hW' := hW
  obtain ⟨p, q, hA0, hV, rfl, hfz, hnd⟩ := hW
  have hA : DataW.TrodAll enc Tryd.prog W 0 (fun _ => true) true Tryd.f11.params.toList args.toList ds p := hA0
  rw [Tryd.params11] at hA hval
  obtain ⟨v0, v1, d0, d1, p0, p1, rfl, rfl, rfl, h0, h1⟩ := trodAll_two hA
  obtain ⟨rfl, rfl⟩ := trodVars_none hV
  obtain ⟨k0, hk0, rfl⟩ := open_byteArr Tryd.underlying24 Tryd.underlying5 co8 (by kernel_rfl) (hval 0 24 v0 rfl rfl) h0
  obtain ⟨s1, rfl, hds1, hps1, hs1⟩ := open_string Tryd.underlying9 (hval 1 9 v1 rfl rfl) h1
  obtain ⟨l1, rfl, hl1⟩ := list_of s1 hs1
  refine (lawZSealed_any k0 l1 W hG hk0 hl1).mono fun e W' ⟨he, hb⟩ => ?_
  exact ⟨_, he, law_post laid_out (by kernel_rfl) rfl hW' hb (T := 4) rfl Tryd.underlying4 rfl rfl rfl⟩

theorem lzSealed_laid (os : Os) : laidMet Tryd.prog Rows.lzSealedRow.laid ((hashWorld os).forCall (fun _ _ => 0) ⟨#[], #[.agg (cells8 (List.replicate 32 0)), .string .empty], []⟩).memory :=
  laidMet_of_run' 8 (by kernel_rfl) (by kernel_rfl)
theorem lzSealed_reads (os : Os) {H : Type} (enc : TypeId × Value → H) : ∃ places, DataW.whole enc Tryd.prog ((hashWorld os).forCall (fun _ _ => 0) ⟨#[], #[.agg (cells8 (List.replicate 32 0)), .string .empty], []⟩).memory Tryd.f11.params.toList Rows.lzSealedSpec.vars false #[.agg (cells8 (List.replicate 32 0)), .string .empty].toList 8 = some ([.agg ((List.replicate 32 (0 : UInt8)).map fun b => .lit (.int .u8 (b.toNat : Int))), .lit (.string [])], [], places) :=
  ⟨[], by kernel_rfl⟩
set_option maxRecDepth 100000 in
theorem lzSealed_lifted (os : Os) (started : os.Started) (H : Type) (enc : TypeId × Value → H) (F : Stop.Interp) :
    ReturnsInHanded {} Tryd.checked os 11 .any ((OpenSpec.ofChange Rows.lzSealedSpec).preRow enc Tryd.prog Tryd.f11 Rows.lzSealedRow.domain false Rows.lzSealedRow.laid) (((OpenSpec.ofChange Rows.lzSealedSpec).at F).post enc Tryd.prog Tryd.f11 false true false false) := by
  obtain ⟨places, hx⟩ := lzSealed_reads os enc
  refine returnsInHanded_of_row (C := Tryd.checked) (s := OpenSpec.ofChange Rows.lzSealedSpec) own_knob started (by kernel_rfl) Tryd.func11
    (witness_row_at (enc := enc) (C := Tryd.checked) false (hashWorld os) #[.agg (cells8 (List.replicate 32 0)), .string .empty] rfl (by kernel_rfl) (by kernel_rfl) (by kernel_rfl)
      (OpenSpec.preRow_of_cond 8 hx (by kernel_rfl) (fun k hk => by cases hk) (by kernel_rfl) (lzSealed_laid os))) ?_
  intro W base args ds gs before hval hW _ _ _ hL _ _
  exact lzSealed_contract H enc W base args ds gs before hval hW hL
theorem lzSealed_said : Rows.LzSealedSaid :=
  OpenClaim.holds_of_cond 11 Tryd.f11 rfl rfl rfl rfl rfl rfl rfl ⟨rfl, rfl, rfl, rfl, rfl⟩ rfl rfl rfl rfl rfl (by kernel_rfl) Tryd.func11 (by kernel_rfl)
    (of_decide_eq_true (by kernel_rfl)) (by unfold Func.isWrapper; first | (rw [if_pos (by decide +kernel)]; kernel_rfl) | (rw [if_neg (by decide +kernel)]; exact ⟨rfl, rfl⟩))
    (fun os started H enc _ F => by rw [OpenClaim.pre_eq_preRow]; exact lzSealed_lifted os started H enc F)
theorem lzSealed_plain (f : FuncId) (fn : Func) (hf : Tryd.pinned.checked.prog.funcNamed "hibernacle/hibernaclelaw08.LzSealed" = some f) (hfn : Tryd.pinned.checked.prog.funcs[f]? = some fn) :
    false = Tryd.pinned.checked.prog.looks [] ∧ ∀ (j : Nat) t, fn.params[j]? = some t → Tryd.pinned.checked.prog.wantsStandIn t = false := by
  obtain rfl : f = 11 := Option.some.inj ((show Tryd.prog.funcNamed "hibernacle/hibernaclelaw08.LzSealed" = some 11 by kernel_rfl).symm.trans hf) |>.symm
  obtain rfl : fn = Tryd.f11 := (Option.some.inj (Tryd.func11.symm.trans hfn)).symm
  refine ⟨by kernel_rfl, fun j t ht => ?_⟩
  rw [Tryd.params11] at ht
  have hm := Array.mem_of_getElem? ht
  simp only [List.mem_toArray, List.mem_cons, List.not_mem_nil, or_false] at hm
  rcases hm with rfl | rfl <;> (show Tryd.prog.wantsStandIn _ = false; kernel_rfl)
theorem lzSealed_card : Rows.LzSealedCardSaid :=
  Claim7.holds_tied_plain_at .later [] _ _ _ _ lzSealed_said (fun _ h => by cases h) (by kernel_rfl) (fun _ h => by cases h) lzSealed_row_tie rfl ⟨rfl, rfl⟩ (by kernel_rfl) rfl lzSealed_plain (by kernel_rfl)
#print axioms lzSealed_card
end Go.Proofs.YtpobmaklgnioeaaDoor
