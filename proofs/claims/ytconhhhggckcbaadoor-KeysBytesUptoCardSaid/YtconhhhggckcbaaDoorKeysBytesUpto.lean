/- KeysBytes, the second form: the bytes of any ring, and the ring of any bytes, or the errors, are the reference's; what has bytes is told by them again, and the other way round: where ring and bytes hold together at most 1048576 values and letters (the first form is false: a Wrap of 2^28 bytes and more has bytes that are no ring's). The tables of package hash hold what the program's text lays (the row lists them, the card ties them). No other condition of ours. -/
import Derived.Test.YtconhhhggckcbaaDoorKBytes
import Derived.Test.YtconhhhggckcbaaDoorHashRow
import Derived.Test.YtconhhhggckcbaaDoorOpenU
import Derived.Carry
namespace Go.Proofs.YtconhhhggckcbaaDoor
open Go.ChangeShapes Go.WideShapes Go.ChangeAt Go.RowKit
open Go.ChangeMaps (open_string shut_string)

set_option maxRecDepth 100000 in
theorem keysBytesUpto_contract (H : Type) (enc : TypeId × Value → H) (W : World) (base : Nat) (args : Array Value) (ds gs : List (DataW H)) (before : List MemPlace)
    (hval : ∀ (j : Nat) t v, Tryd.f11.params[j]? = some t → args[j]? = some v → Value.okWide Tryd.prog W .any base t v)
    (hW : DataW.Whole enc Tryd.prog Tryd.f11.params.toList Rows.keysBytesSpec.vars false W args.toList ds gs before) (hL : laidMetH Tryd.prog Rows.keysBytesRow.laid W)
    (hZ : Rows.uptoSmall H (ds ++ gs) = true) :
    Calls Tryd.prog 11 args W fun e W' => ∃ v, e = .returned v ∧ Rows.keysBytesSpec.post enc Tryd.prog Tryd.f11 false true false false W args v W' := by
  have hG : Glob W := glob_of_laid (rest := []) hL
  have hW' := hW
  obtain ⟨p, q, hA0, hV, rfl, hfz, hnd⟩ := hW
  have hA : DataW.TrodAll enc Tryd.prog W 0 (fun _ => true) true Tryd.f11.params.toList args.toList ds p := hA0
  rw [Tryd.params11] at hA hval
  obtain ⟨v0, v1, d0, d1, p0, p1, rfl, rfl, rfl, h0, h1⟩ := trodAll_two hA
  obtain ⟨rfl, rfl⟩ := trodVars_none hV
  have hZ0 : Rows.uptoBulk d0 ≤ 1048576 := by
    have h := of_decide_eq_true hZ
    simp only [List.cons_append, Rows.uptoBulkAll] at h
    omega
  obtain ⟨E0, u0, rfl, hV0, hE0, hW0⟩ := open_ringU (hval 0 27 v0 rfl rfl) h0 hZ0
  obtain ⟨s1, rfl, hds1, hps1, hs1⟩ := open_string Tryd.underlying9 (hval 1 9 v1 rfl rfl) h1
  obtain ⟨l1, rfl, hl1⟩ := list_of s1 hs1
  refine (lawBytes_any E0 u0 l1 W hG hV0 hE0 hW0 hl1).mono fun e W' ⟨he, hb⟩ => ?_
  exact ⟨_, he, law_post laid_out (by kernel_rfl) rfl hW' hb (T := 4) rfl Tryd.underlying4 rfl rfl rfl⟩

theorem keysBytesUpto_laid (os : Os) : laidMet Tryd.prog Rows.keysBytesRow.laid ((hashWorld os).forCall (fun _ _ => 0) ⟨#[], #[.agg #[.slice none 0 0], .string .empty], []⟩).memory :=
  laidMet_of_run' 8 (by kernel_rfl) (by kernel_rfl)
theorem keysBytesUpto_reads (os : Os) {H : Type} (enc : TypeId × Value → H) : ∃ places, DataW.whole enc Tryd.prog ((hashWorld os).forCall (fun _ _ => 0) ⟨#[], #[.agg #[.slice none 0 0], .string .empty], []⟩).memory Tryd.f11.params.toList Rows.keysBytesSpec.vars false #[.agg #[.slice none 0 0], .string .empty].toList 8 = some ([.agg [.nil], .lit (.string [])], [], places) :=
  ⟨[], by kernel_rfl⟩
set_option maxRecDepth 100000 in
theorem keysBytesUpto_lifted (os : Os) (started : os.Started) (H : Type) (enc : TypeId × Value → H) (F : Stop.Interp) :
    ReturnsInHanded {} Tryd.checked os 11 .any ((Rows.OpenSpec.upto Rows.keysBytesSpec).preRow enc Tryd.prog Tryd.f11 Rows.keysBytesUptoRow.domain false Rows.keysBytesUptoRow.laid) (((Rows.OpenSpec.upto Rows.keysBytesSpec).at F).post enc Tryd.prog Tryd.f11 false true false false) := by
  obtain ⟨places, hx⟩ := keysBytesUpto_reads os enc
  refine returnsInHanded_of_row (C := Tryd.checked) (s := Rows.OpenSpec.upto Rows.keysBytesSpec) own_knob started (by kernel_rfl) Tryd.func11
    (witness_row_at (enc := enc) (C := Tryd.checked) false (hashWorld os) #[.agg #[.slice none 0 0], .string .empty] rfl (by kernel_rfl) (by kernel_rfl) (by kernel_rfl)
      (OpenSpec.preRow_of_cond 8 hx (by kernel_rfl) (fun k hk => by cases hk; kernel_rfl) (by kernel_rfl) (keysBytesUpto_laid os))) ?_
  intro W base args ds gs before hval hW _ hcond _ hL _ _
  exact keysBytesUpto_contract H enc W base args ds gs before hval hW hL (hcond _ rfl)
theorem keysBytesUpto_said : Rows.KeysBytesUptoSaid :=
  OpenClaim.holds_of_cond 11 Tryd.f11 rfl rfl rfl rfl rfl rfl rfl ⟨rfl, rfl, rfl, rfl, rfl⟩ rfl rfl rfl rfl rfl (by kernel_rfl) Tryd.func11 (by kernel_rfl)
    (of_decide_eq_true (by kernel_rfl)) (by unfold Func.isWrapper; first | (rw [if_pos (by decide +kernel)]; kernel_rfl) | (rw [if_neg (by decide +kernel)]; exact ⟨rfl, rfl⟩))
    (fun os started H enc _ F => by rw [OpenClaim.pre_eq_preRow]; exact keysBytesUpto_lifted os started H enc F)
theorem keysBytesUpto_plain (f : FuncId) (fn : Func) (hf : Tryd.pinned.checked.prog.funcNamed "hibernacle/hibernaclelaw38.KeysBytes" = some f) (hfn : Tryd.pinned.checked.prog.funcs[f]? = some fn) :
    false = Tryd.pinned.checked.prog.looks [] ∧ ∀ (j : Nat) t, fn.params[j]? = some t → Tryd.pinned.checked.prog.wantsStandIn t = false := by
  obtain rfl : f = 11 := Option.some.inj ((show Tryd.prog.funcNamed "hibernacle/hibernaclelaw38.KeysBytes" = some 11 by kernel_rfl).symm.trans hf) |>.symm
  obtain rfl : fn = Tryd.f11 := (Option.some.inj (Tryd.func11.symm.trans hfn)).symm
  refine ⟨by kernel_rfl, fun j t ht => ?_⟩
  rw [Tryd.params11] at ht
  have hm := Array.mem_of_getElem? ht
  simp only [List.mem_toArray, List.mem_cons, List.not_mem_nil, or_false] at hm
  rcases hm with rfl | rfl <;> (show Tryd.prog.wantsStandIn _ = false; kernel_rfl)
theorem keysBytesUpto_card : Rows.KeysBytesUptoCardSaid :=
  Claim7.holds_tied_plain_at .later [] _ _ _ _ keysBytesUpto_said (fun _ h => by cases h) (by kernel_rfl) (fun _ h => by cases h) keysBytesUpto_row_tie rfl ⟨rfl, rfl⟩ (by kernel_rfl) rfl keysBytesUpto_plain (by kernel_rfl)
#print axioms keysBytesUpto_card
end Go.Proofs.YtconhhhggckcbaaDoor
