/- KeysOpen: what any shares open of any ring, or the error, is the reference's (up to 12 epochs, or about a hundred, and ten shares, as the statement says). The tables of package hash hold what the program's text lays (the row lists them, the card ties them). No condition of ours. -/
import Derived.Test.YtconhhhggckcbaaDoorKOpen
import Derived.Test.YtconhhhggckcbaaDoorHashRow
import Derived.Test.YtconhhhggckcbaaDoorOpenW
import Derived.Carry
namespace Go.Proofs.YtconhhhggckcbaaDoor
open Go.ChangeShapes Go.WideShapes Go.ChangeAt Go.RowKit
open Go.ChangeMaps (open_string shut_string)

set_option maxRecDepth 100000 in
theorem keysOpen_contract (H : Type) (enc : TypeId × Value → H) (W : World) (base : Nat) (args : Array Value) (ds gs : List (DataW H)) (before : List MemPlace)
    (hval : ∀ (j : Nat) t v, Tryd.f5.params[j]? = some t → args[j]? = some v → Value.okWide Tryd.prog W .any base t v)
    (hW : DataW.Whole enc Tryd.prog Tryd.f5.params.toList Rows.keysOpenSpec.vars false W args.toList ds gs before) (hL : laidMetH Tryd.prog Rows.keysOpenRow.laid W)
    (hZ : (DataW.weightsEach Tryd.prog (Tryd.f5.params.toList ++ (OpenSpec.ofChange Rows.keysOpenSpec).bare.plain.varTypes Tryd.prog) (ds ++ gs)).all (· ≤ reachBytes) = true) :
    Calls Tryd.prog 5 args W fun e W' => ∃ v, e = .returned v ∧ Rows.keysOpenSpec.post enc Tryd.prog Tryd.f5 false true false false W args v W' := by
  have hG : Glob W := glob_of_laid (rest := []) hL
  have hW' := hW
  obtain ⟨p, q, hA0, hV, rfl, hfz, hnd⟩ := hW
  have hA : DataW.TrodAll enc Tryd.prog W 0 (fun _ => true) true Tryd.f5.params.toList args.toList ds p := hA0
  rw [Tryd.params5] at hA hval
  obtain ⟨v0, v1, d0, d1, p0, p1, rfl, rfl, rfl, h0, h1⟩ := trodAll_two hA
  obtain ⟨rfl, rfl⟩ := trodVars_none hV
  have hZ0 : ∀ x ∈ d0.weights Tryd.prog 27, x ≤ reachBytes := fun x hx => by
    refine of_decide_eq_true (List.all_eq_true.1 hZ x ?_)
    rw [Tryd.params5]
    simp only [List.cons_append, DataW.weightsEach]
    exact List.mem_append_left _ hx
  obtain ⟨E0, u0, rfl, hV0, hE0, hW0⟩ := open_ringW (hval 0 27 v0 rfl rfl) h0 hZ0
  obtain ⟨l1, hV1⟩ := open_shares (hval 1 31 v1 rfl rfl) h1
  refine (lawOpen38_any E0 u0 l1 v1 W hG hV0 hE0 hW0 hV1).mono fun e W' ⟨he, hb⟩ => ?_
  exact ⟨_, he, law_post laid_out (by kernel_rfl) rfl hW' hb (T := 4) rfl Tryd.underlying4 rfl rfl rfl⟩

theorem keysOpen_laid (os : Os) : laidMet Tryd.prog Rows.keysOpenRow.laid ((hashWorld os).forCall (fun _ _ => 0) ⟨#[], #[.agg #[.slice none 0 0], .slice none 0 0], []⟩).memory :=
  laidMet_of_run' 8 (by kernel_rfl) (by kernel_rfl)
theorem keysOpen_reads (os : Os) {H : Type} (enc : TypeId × Value → H) : ∃ places, DataW.whole enc Tryd.prog ((hashWorld os).forCall (fun _ _ => 0) ⟨#[], #[.agg #[.slice none 0 0], .slice none 0 0], []⟩).memory Tryd.f5.params.toList Rows.keysOpenSpec.vars false #[.agg #[.slice none 0 0], .slice none 0 0].toList 8 = some ([.agg [.nil], .nil], [], places) :=
  ⟨[], by kernel_rfl⟩
set_option maxRecDepth 100000 in
theorem keysOpen_lifted (os : Os) (started : os.Started) (H : Type) (enc : TypeId × Value → H) (F : Stop.Interp) :
    ReturnsInHanded {} Tryd.checked os 5 .any ((OpenSpec.ofChange Rows.keysOpenSpec).preRow enc Tryd.prog Tryd.f5 Rows.keysOpenRow.domain false Rows.keysOpenRow.laid) (((OpenSpec.ofChange Rows.keysOpenSpec).at F).post enc Tryd.prog Tryd.f5 false true false false) := by
  obtain ⟨places, hx⟩ := keysOpen_reads os enc
  refine returnsInHanded_of_row (C := Tryd.checked) (s := OpenSpec.ofChange Rows.keysOpenSpec) own_knob started (by kernel_rfl) Tryd.func5
    (witness_row_at (enc := enc) (C := Tryd.checked) false (hashWorld os) #[.agg #[.slice none 0 0], .slice none 0 0] rfl (by kernel_rfl) (by kernel_rfl) (by kernel_rfl)
      (OpenSpec.preRow_of_cond 8 hx (by kernel_rfl) (fun k hk => by cases hk) (by kernel_rfl) (keysOpen_laid os))) ?_
  intro W base args ds gs before hval hW _ _ hZ hL _ _
  exact keysOpen_contract H enc W base args ds gs before hval hW hL hZ
theorem keysOpen_said : Rows.KeysOpenSaid :=
  OpenClaim.holds_of_cond 5 Tryd.f5 rfl rfl rfl rfl rfl rfl rfl ⟨rfl, rfl, rfl, rfl, rfl⟩ rfl rfl rfl rfl rfl (by kernel_rfl) Tryd.func5 (by kernel_rfl)
    (of_decide_eq_true (by kernel_rfl)) (by unfold Func.isWrapper; first | (rw [if_pos (by decide +kernel)]; kernel_rfl) | (rw [if_neg (by decide +kernel)]; exact ⟨rfl, rfl⟩))
    (fun os started H enc _ F => by rw [OpenClaim.pre_eq_preRow]; exact keysOpen_lifted os started H enc F)
theorem keysOpen_plain (f : FuncId) (fn : Func) (hf : Tryd.pinned.checked.prog.funcNamed "hibernacle/hibernaclelaw38.KeysOpen" = some f) (hfn : Tryd.pinned.checked.prog.funcs[f]? = some fn) :
    false = Tryd.pinned.checked.prog.looks [] ∧ ∀ (j : Nat) t, fn.params[j]? = some t → Tryd.pinned.checked.prog.wantsStandIn t = false := by
  obtain rfl : f = 5 := Option.some.inj ((show Tryd.prog.funcNamed "hibernacle/hibernaclelaw38.KeysOpen" = some 5 by kernel_rfl).symm.trans hf) |>.symm
  obtain rfl : fn = Tryd.f5 := (Option.some.inj (Tryd.func5.symm.trans hfn)).symm
  refine ⟨by kernel_rfl, fun j t ht => ?_⟩
  rw [Tryd.params5] at ht
  have hm := Array.mem_of_getElem? ht
  simp only [List.mem_toArray, List.mem_cons, List.not_mem_nil, or_false] at hm
  rcases hm with rfl | rfl <;> (show Tryd.prog.wantsStandIn _ = false; kernel_rfl)
theorem keysOpen_card : Rows.KeysOpenCardSaid :=
  Claim7.holds_tied_plain_at .later [] _ _ _ _ keysOpen_said (fun _ h => by cases h) (by kernel_rfl) (fun _ h => by cases h) keysOpen_row_tie rfl ⟨rfl, rfl⟩ (by kernel_rfl) rfl keysOpen_plain (by kernel_rfl)
#print axioms keysOpen_card
end Go.Proofs.YtconhhhggckcbaaDoor
