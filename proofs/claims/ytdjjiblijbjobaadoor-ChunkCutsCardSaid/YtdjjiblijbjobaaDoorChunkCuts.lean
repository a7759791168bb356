/- ChunkCuts: the chunks of any bytes, and their names under any keys, are the reference's (up to 1500 bytes, 20 keys) (for others the statement asks the chapter's example alone). The tables of package hash hold what the program's text lays (the row lists them, the card ties them). No condition of ours. -/
import Derived.Test.YtdjjiblijbjobaaDoorChkE
import Derived.Test.YtdjjiblijbjobaaDoorHashRow
import Derived.Test.YtdjjiblijbjobaaDoorOpenK
import Derived.Carry
namespace Go.Proofs.YtdjjiblijbjobaaDoor
open Go.ChangeShapes Go.WideShapes Go.ChangeAt Go.RowKit
open Go.ChangeMaps (open_string shut_string)

set_option maxRecDepth 100000 in
theorem chunkCuts_contract (H : Type) (enc : TypeId × Value → H) (W : World) (base : Nat) (args : Array Value) (ds gs : List (DataW H)) (before : List MemPlace)
    (hval : ∀ (j : Nat) t v, Tryd.f5.params[j]? = some t → args[j]? = some v → Value.okWide Tryd.prog W .any base t v)
    (hW : DataW.Whole enc Tryd.prog Tryd.f5.params.toList Rows.chunkCutsSpec.vars false W args.toList ds gs before) (hL : laidMetH Tryd.prog Rows.chunkCutsRow.laid W) :
    Calls Tryd.prog 5 args W fun e W' => ∃ v, e = .returned v ∧ Rows.chunkCutsSpec.post enc Tryd.prog Tryd.f5 false true false false W args v W' := by
  have hG : Glob W := glob_of_laid (rest := []) hL
  have hW' := hW
  obtain ⟨p, q, hA0, hV, rfl, hfz, hnd⟩ := hW
  have hA : DataW.TrodAll enc Tryd.prog W 0 (fun _ => true) true Tryd.f5.params.toList args.toList ds p := hA0
  rw [Tryd.params5] at hA hval
  obtain ⟨v0, v1, d0, d1, p0, p1, rfl, rfl, rfl, h0, h1⟩ := trodAll_two hA
  obtain ⟨rfl, rfl⟩ := trodVars_none hV
  obtain ⟨K0, u0, rfl, hV0, hT0, hl0⟩ := open_keys (hval 0 31 v0 rfl rfl) h0
  obtain ⟨s1, rfl, hds1, hps1, hs1⟩ := open_string Tryd.underlying9 (hval 1 9 v1 rfl rfl) h1
  obtain ⟨l1, rfl, hl1⟩ := list_of s1 hs1
  refine (lawCuts39_any K0 u0 l1 W hG hV0 hT0 hl1).mono fun e W' ⟨he, hb⟩ => ?_
  exact ⟨_, he, law_post laid_out (by kernel_rfl) rfl hW' hb (T := 4) rfl Tryd.underlying4 rfl rfl rfl⟩

theorem chunkCuts_laid (os : Os) : laidMet Tryd.prog Rows.chunkCutsRow.laid ((hashWorld os).forCall (fun _ _ => 0) ⟨#[], #[.agg #[.slice none 0 0], .string .empty], []⟩).memory :=
  laidMet_of_run' 8 (by kernel_rfl) (by kernel_rfl)
theorem chunkCuts_reads (os : Os) {H : Type} (enc : TypeId × Value → H) : ∃ places, DataW.whole enc Tryd.prog ((hashWorld os).forCall (fun _ _ => 0) ⟨#[], #[.agg #[.slice none 0 0], .string .empty], []⟩).memory Tryd.f5.params.toList Rows.chunkCutsSpec.vars false #[.agg #[.slice none 0 0], .string .empty].toList 8 = some ([.agg [.nil], .lit (.string [])], [], places) :=
  ⟨[], by kernel_rfl⟩
set_option maxRecDepth 100000 in
theorem chunkCuts_lifted (os : Os) (started : os.Started) (H : Type) (enc : TypeId × Value → H) (F : Stop.Interp) :
    ReturnsInHanded {} Tryd.checked os 5 .any ((OpenSpec.ofChange Rows.chunkCutsSpec).preRow enc Tryd.prog Tryd.f5 Rows.chunkCutsRow.domain false Rows.chunkCutsRow.laid) (((OpenSpec.ofChange Rows.chunkCutsSpec).at F).post enc Tryd.prog Tryd.f5 false true false false) := by
  obtain ⟨places, hx⟩ := chunkCuts_reads os enc
  refine returnsInHanded_of_row (C := Tryd.checked) (s := OpenSpec.ofChange Rows.chunkCutsSpec) own_knob started (by kernel_rfl) Tryd.func5
    (witness_row_at (enc := enc) (C := Tryd.checked) false (hashWorld os) #[.agg #[.slice none 0 0], .string .empty] rfl (by kernel_rfl) (by kernel_rfl) (by kernel_rfl)
      (OpenSpec.preRow_of_cond 8 hx (by kernel_rfl) (fun k hk => by cases hk) (by kernel_rfl) (chunkCuts_laid os))) ?_
  intro W base args ds gs before hval hW _ _ _ hL _ _
  exact chunkCuts_contract H enc W base args ds gs before hval hW hL
theorem chunkCuts_said : Rows.ChunkCutsSaid :=
  OpenClaim.holds_of_cond 5 Tryd.f5 rfl rfl rfl rfl rfl rfl rfl ⟨rfl, rfl, rfl, rfl, rfl⟩ rfl rfl rfl rfl rfl (by kernel_rfl) Tryd.func5 (by kernel_rfl)
    (of_decide_eq_true (by kernel_rfl)) (by unfold Func.isWrapper; first | (rw [if_pos (by decide +kernel)]; kernel_rfl) | (rw [if_neg (by decide +kernel)]; exact ⟨rfl, rfl⟩))
    (fun os started H enc _ F => by rw [OpenClaim.pre_eq_preRow]; exact chunkCuts_lifted os started H enc F)
theorem chunkCuts_plain (f : FuncId) (fn : Func) (hf : Tryd.pinned.checked.prog.funcNamed "hibernacle/hibernaclelaw39.ChunkCuts" = some f) (hfn : Tryd.pinned.checked.prog.funcs[f]? = some fn) :
    false = Tryd.pinned.checked.prog.looks [] ∧ ∀ (j : Nat) t, fn.params[j]? = some t → Tryd.pinned.checked.prog.wantsStandIn t = false := by
  obtain rfl : f = 5 := Option.some.inj ((show Tryd.prog.funcNamed "hibernacle/hibernaclelaw39.ChunkCuts" = some 5 by kernel_rfl).symm.trans hf) |>.symm
  obtain rfl : fn = Tryd.f5 := (Option.some.inj (Tryd.func5.symm.trans hfn)).symm
  refine ⟨by kernel_rfl, fun j t ht => ?_⟩
  rw [Tryd.params5] at ht
  have hm := Array.mem_of_getElem? ht
  simp only [List.mem_toArray, List.mem_cons, List.not_mem_nil, or_false] at hm
  rcases hm with rfl | rfl <;> (show Tryd.prog.wantsStandIn _ = false; kernel_rfl)
theorem chunkCuts_card : Rows.ChunkCutsCardSaid :=
  Claim7.holds_tied_plain_at .later [] _ _ _ _ chunkCuts_said (fun _ h => by cases h) (by kernel_rfl) (fun _ h => by cases h) chunkCuts_row_tie rfl ⟨rfl, rfl⟩ (by kernel_rfl) rfl chunkCuts_plain (by kernel_rfl)
#print axioms chunkCuts_card
end Go.Proofs.YtdjjiblijbjobaaDoor
