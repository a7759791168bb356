/- ChunkEpochs: a sealed chunk of some keys is opened by keys that have more behind them, under the same name; sealed by these it has another epoch (up to 600 bytes, 10 keys each) (for others the statement asks the chapter's example alone). The tables of package hash hold what the program's text lays (the row lists them, the card ties them). No condition of ours. -/
import Derived.Test.YtdjjiblijbjobaaDoorChkG
import Derived.Test.YtdjjiblijbjobaaDoorHashRow
import Derived.Test.YtdjjiblijbjobaaDoorOpenK
import Derived.Carry
namespace Go.Proofs.YtdjjiblijbjobaaDoor
open Go.ChangeShapes Go.WideShapes Go.ChangeAt Go.RowKit
open Go.ChangeMaps (open_string shut_string)

set_option maxRecDepth 100000 in
theorem chunkEpochs_contract (H : Type) (enc : TypeId × Value → H) (W : World) (base : Nat) (args : Array Value) (ds gs : List (DataW H)) (before : List MemPlace)
    (hval : ∀ (j : Nat) t v, Tryd.f8.params[j]? = some t → args[j]? = some v → Value.okWide Tryd.prog W .any base t v)
    (hW : DataW.Whole enc Tryd.prog Tryd.f8.params.toList Rows.chunkEpochsSpec.vars false W args.toList ds gs before) (hL : laidMetH Tryd.prog Rows.chunkEpochsRow.laid W) :
    Calls Tryd.prog 8 args W fun e W' => ∃ v, e = .returned v ∧ Rows.chunkEpochsSpec.post enc Tryd.prog Tryd.f8 false true false false W args v W' := by
  have hG : Glob W := glob_of_laid (rest := []) hL
  have hW' := hW
  obtain ⟨p, q, hA0, hV, rfl, hfz, hnd⟩ := hW
  have hA : DataW.TrodAll enc Tryd.prog W 0 (fun _ => true) true Tryd.f8.params.toList args.toList ds p := hA0
  rw [Tryd.params8] at hA hval
  obtain ⟨v0, v1, v2, d0, d1, d2, p0, p1, p2, rfl, rfl, rfl, h0, h1, h2⟩ := trodAll_three hA
  obtain ⟨rfl, rfl⟩ := trodVars_none hV
  obtain ⟨K0, u0, rfl, hV0, hT0, hl0⟩ := open_keys (hval 0 31 v0 rfl rfl) h0
  obtain ⟨K1, u1, rfl, hV1, hT1, hl1⟩ := open_keys (hval 1 31 v1 rfl rfl) h1
  obtain ⟨s2, rfl, hds2, hps2, hs2⟩ := open_string Tryd.underlying9 (hval 2 9 v2 rfl rfl) h2
  obtain ⟨l2, rfl, hl2⟩ := list_of s2 hs2
  refine (lawEpochs39_any K0 u0 K1 u1 l2 W hG hV0 hT0 hV1 hT1 hl2).mono fun e W' ⟨he, hb⟩ => ?_
  exact ⟨_, he, law_post laid_out (by kernel_rfl) rfl hW' hb (T := 4) rfl Tryd.underlying4 rfl rfl rfl⟩

theorem chunkEpochs_laid (os : Os) : laidMet Tryd.prog Rows.chunkEpochsRow.laid ((hashWorld os).forCall (fun _ _ => 0) ⟨#[], #[.agg #[.slice none 0 0], .agg #[.slice none 0 0], .string .empty], []⟩).memory :=
  laidMet_of_run' 8 (by kernel_rfl) (by kernel_rfl)
theorem chunkEpochs_reads (os : Os) {H : Type} (enc : TypeId × Value → H) : ∃ places, DataW.whole enc Tryd.prog ((hashWorld os).forCall (fun _ _ => 0) ⟨#[], #[.agg #[.slice none 0 0], .agg #[.slice none 0 0], .string .empty], []⟩).memory Tryd.f8.params.toList Rows.chunkEpochsSpec.vars false #[.agg #[.slice none 0 0], .agg #[.slice none 0 0], .string .empty].toList 8 = some ([.agg [.nil], .agg [.nil], .lit (.string [])], [], places) :=
  ⟨[], by kernel_rfl⟩
set_option maxRecDepth 100000 in
theorem chunkEpochs_lifted (os : Os) (started : os.Started) (H : Type) (enc : TypeId × Value → H) (F : Stop.Interp) :
    ReturnsInHanded {} Tryd.checked os 8 .any ((OpenSpec.ofChange Rows.chunkEpochsSpec).preRow enc Tryd.prog Tryd.f8 Rows.chunkEpochsRow.domain false Rows.chunkEpochsRow.laid) (((OpenSpec.ofChange Rows.chunkEpochsSpec).at F).post enc Tryd.prog Tryd.f8 false true false false) := by
  obtain ⟨places, hx⟩ := chunkEpochs_reads os enc
  refine returnsInHanded_of_row (C := Tryd.checked) (s := OpenSpec.ofChange Rows.chunkEpochsSpec) own_knob started (by kernel_rfl) Tryd.func8
    (witness_row_at (enc := enc) (C := Tryd.checked) false (hashWorld os) #[.agg #[.slice none 0 0], .agg #[.slice none 0 0], .string .empty] rfl (by kernel_rfl) (by kernel_rfl) (by kernel_rfl)
      (OpenSpec.preRow_of_cond 8 hx (by kernel_rfl) (fun k hk => by cases hk) (by kernel_rfl) (chunkEpochs_laid os))) ?_
  intro W base args ds gs before hval hW _ _ _ hL _ _
  exact chunkEpochs_contract H enc W base args ds gs before hval hW hL
theorem chunkEpochs_said : Rows.ChunkEpochsSaid :=
  OpenClaim.holds_of_cond 8 Tryd.f8 rfl rfl rfl rfl rfl rfl rfl ⟨rfl, rfl, rfl, rfl, rfl⟩ rfl rfl rfl rfl rfl (by kernel_rfl) Tryd.func8 (by kernel_rfl)
    (of_decide_eq_true (by kernel_rfl)) (by unfold Func.isWrapper; first | (rw [if_pos (by decide +kernel)]; kernel_rfl) | (rw [if_neg (by decide +kernel)]; exact ⟨rfl, rfl⟩))
    (fun os started H enc _ F => by rw [OpenClaim.pre_eq_preRow]; exact chunkEpochs_lifted os started H enc F)
theorem chunkEpochs_plain (f : FuncId) (fn : Func) (hf : Tryd.pinned.checked.prog.funcNamed "hibernacle/hibernaclelaw39.ChunkEpochs" = some f) (hfn : Tryd.pinned.checked.prog.funcs[f]? = some fn) :
    false = Tryd.pinned.checked.prog.looks [] ∧ ∀ (j : Nat) t, fn.params[j]? = some t → Tryd.pinned.checked.prog.wantsStandIn t = false := by
  obtain rfl : f = 8 := Option.some.inj ((show Tryd.prog.funcNamed "hibernacle/hibernaclelaw39.ChunkEpochs" = some 8 by kernel_rfl).symm.trans hf) |>.symm
  obtain rfl : fn = Tryd.f8 := (Option.some.inj (Tryd.func8.symm.trans hfn)).symm
  refine ⟨by kernel_rfl, fun j t ht => ?_⟩
  rw [Tryd.params8] at ht
  have hm := Array.mem_of_getElem? ht
  simp only [List.mem_toArray, List.mem_cons, List.not_mem_nil, or_false] at hm
  rcases hm with rfl | rfl | rfl <;> (show Tryd.prog.wantsStandIn _ = false; kernel_rfl)
theorem chunkEpochs_card : Rows.ChunkEpochsCardSaid :=
  Claim7.holds_tied_plain_at .later [] _ _ _ _ chunkEpochs_said (fun _ h => by cases h) (by kernel_rfl) (fun _ h => by cases h) chunkEpochs_row_tie rfl ⟨rfl, rfl⟩ (by kernel_rfl) rfl chunkEpochs_plain (by kernel_rfl)
#print axioms chunkEpochs_card
end Go.Proofs.YtdjjiblijbjobaaDoor
