/- PackChunks: chunks that are sealed, packed and taken are opened as they were, whichever keys; the pack's name hangs on its bytes alone (up to 8 chunks of 200 bytes, 5 keys; for others the statement asks the chapter's example alone). The tables of package hash hold what the program's text lays (the row lists them, the card ties them). No condition of ours. -/
import Derived.Test.YtdjjiblijbjobaaDoorChkH
import Derived.Test.YtdjjiblijbjobaaDoorHashRow
import Derived.Test.YtdjjiblijbjobaaDoorOpenK
import Derived.Carry
namespace Go.Proofs.YtdjjiblijbjobaaDoor
open Go.ChangeShapes Go.WideShapes Go.ChangeAt Go.RowKit
open Go.ChangeMaps (open_string shut_string)

set_option maxRecDepth 100000 in
theorem packChunks_contract (H : Type) (enc : TypeId × Value → H) (W : World) (base : Nat) (args : Array Value) (ds gs : List (DataW H)) (before : List MemPlace)
    (hval : ∀ (j : Nat) t v, Tryd.f10.params[j]? = some t → args[j]? = some v → Value.okWide Tryd.prog W .any base t v)
    (hW : DataW.Whole enc Tryd.prog Tryd.f10.params.toList Rows.packChunksSpec.vars false W args.toList ds gs before) (hL : laidMetH Tryd.prog Rows.packChunksRow.laid W) :
    Calls Tryd.prog 10 args W fun e W' => ∃ v, e = .returned v ∧ Rows.packChunksSpec.post enc Tryd.prog Tryd.f10 false true false false W args v W' := by
  have hG : Glob W := glob_of_laid (rest := []) hL
  have hW' := hW
  obtain ⟨p, q, hA0, hV, rfl, hfz, hnd⟩ := hW
  have hA : DataW.TrodAll enc Tryd.prog W 0 (fun _ => true) true Tryd.f10.params.toList args.toList ds p := hA0
  rw [Tryd.params10] at hA hval
  obtain ⟨v0, v1, d0, d1, p0, p1, rfl, rfl, rfl, h0, h1⟩ := trodAll_two hA
  obtain ⟨rfl, rfl⟩ := trodVars_none hV
  obtain ⟨K0, u0, rfl, hV0, hT0, hl0⟩ := open_keys (hval 0 31 v0 rfl rfl) h0
  obtain ⟨l1, hl1⟩ := open_strs (hval 1 23 v1 rfl rfl) h1
  refine (lawPackChunks_any K0 u0 l1 v1 W hG hV0 hT0 hl1).mono fun e W' ⟨he, hb⟩ => ?_
  exact ⟨_, he, law_post laid_out (by kernel_rfl) rfl hW' hb (T := 4) rfl Tryd.underlying4 rfl rfl rfl⟩

theorem packChunks_laid (os : Os) : laidMet Tryd.prog Rows.packChunksRow.laid ((hashWorld os).forCall (fun _ _ => 0) ⟨#[], #[.agg #[.slice none 0 0], .slice none 0 0], []⟩).memory :=
  laidMet_of_run' 8 (by kernel_rfl) (by kernel_rfl)
theorem packChunks_reads (os : Os) {H : Type} (enc : TypeId × Value → H) : ∃ places, DataW.whole enc Tryd.prog ((hashWorld os).forCall (fun _ _ => 0) ⟨#[], #[.agg #[.slice none 0 0], .slice none 0 0], []⟩).memory Tryd.f10.params.toList Rows.packChunksSpec.vars false #[.agg #[.slice none 0 0], .slice none 0 0].toList 8 = some ([.agg [.nil], .nil], [], places) :=
  ⟨[], by kernel_rfl⟩
set_option maxRecDepth 100000 in
theorem packChunks_lifted (os : Os) (started : os.Started) (H : Type) (enc : TypeId × Value → H) (F : Stop.Interp) :
    ReturnsInHanded {} Tryd.checked os 10 .any ((OpenSpec.ofChange Rows.packChunksSpec).preRow enc Tryd.prog Tryd.f10 Rows.packChunksRow.domain false Rows.packChunksRow.laid) (((OpenSpec.ofChange Rows.packChunksSpec).at F).post enc Tryd.prog Tryd.f10 false true false false) := by
  obtain ⟨places, hx⟩ := packChunks_reads os enc
  refine returnsInHanded_of_row (C := Tryd.checked) (s := OpenSpec.ofChange Rows.packChunksSpec) own_knob started (by kernel_rfl) Tryd.func10
    (witness_row_at (enc := enc) (C := Tryd.checked) false (hashWorld os) #[.agg #[.slice none 0 0], .slice none 0 0] rfl (by kernel_rfl) (by kernel_rfl) (by kernel_rfl)
      (OpenSpec.preRow_of_cond 8 hx (by kernel_rfl) (fun k hk => by cases hk) (by kernel_rfl) (packChunks_laid os))) ?_
  intro W base args ds gs before hval hW _ _ _ hL _ _
  exact packChunks_contract H enc W base args ds gs before hval hW hL
theorem packChunks_said : Rows.PackChunksSaid :=
  OpenClaim.holds_of_cond 10 Tryd.f10 rfl rfl rfl rfl rfl rfl rfl ⟨rfl, rfl, rfl, rfl, rfl⟩ rfl rfl rfl rfl rfl (by kernel_rfl) Tryd.func10 (by kernel_rfl)
    (of_decide_eq_true (by kernel_rfl)) (by unfold Func.isWrapper; first | (rw [if_pos (by decide +kernel)]; kernel_rfl) | (rw [if_neg (by decide +kernel)]; exact ⟨rfl, rfl⟩))
    (fun os started H enc _ F => by rw [OpenClaim.pre_eq_preRow]; exact packChunks_lifted os started H enc F)
theorem packChunks_plain (f : FuncId) (fn : Func) (hf : Tryd.pinned.checked.prog.funcNamed "hibernacle/hibernaclelaw40.PackChunks" = some f) (hfn : Tryd.pinned.checked.prog.funcs[f]? = some fn) :
    false = Tryd.pinned.checked.prog.looks [] ∧ ∀ (j : Nat) t, fn.params[j]? = some t → Tryd.pinned.checked.prog.wantsStandIn t = false := by
  obtain rfl : f = 10 := Option.some.inj ((show Tryd.prog.funcNamed "hibernacle/hibernaclelaw40.PackChunks" = some 10 by kernel_rfl).symm.trans hf) |>.symm
  obtain rfl : fn = Tryd.f10 := (Option.some.inj (Tryd.func10.symm.trans hfn)).symm
  refine ⟨by kernel_rfl, fun j t ht => ?_⟩
  rw [Tryd.params10] at ht
  have hm := Array.mem_of_getElem? ht
  simp only [List.mem_toArray, List.mem_cons, List.not_mem_nil, or_false] at hm
  rcases hm with rfl | rfl <;> (show Tryd.prog.wantsStandIn _ = false; kernel_rfl)
theorem packChunks_card : Rows.PackChunksCardSaid :=
  Claim7.holds_tied_plain_at .later [] _ _ _ _ packChunks_said (fun _ h => by cases h) (by kernel_rfl) (fun _ h => by cases h) packChunks_row_tie rfl ⟨rfl, rfl⟩ (by kernel_rfl) rfl packChunks_plain (by kernel_rfl)
#print axioms packChunks_card
end Go.Proofs.YtdjjiblijbjobaaDoor
