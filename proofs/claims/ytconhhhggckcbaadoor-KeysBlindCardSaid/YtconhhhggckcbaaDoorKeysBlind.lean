/- KeysBlind: two shares of a ring's key fit every other key (layer 6): with a third one they are joined to that, which the ring refuses, unless it has the same digest of "check". The tables of package hash hold what the program's text lays (the row lists them, the card ties them). No condition of ours. -/
import Derived.Test.YtconhhhggckcbaaDoorKBlind
import Derived.Test.YtconhhhggckcbaaDoorHashRow
import Derived.Carry
namespace Go.Proofs.YtconhhhggckcbaaDoor
open Go.ChangeShapes Go.WideShapes Go.ChangeAt Go.RowKit
open Go.ChangeMaps (open_string shut_string)

set_option maxRecDepth 100000 in
theorem keysBlind_contract (H : Type) (enc : TypeId × Value → H) (W : World) (base : Nat) (args : Array Value) (ds gs : List (DataW H)) (before : List MemPlace)
    (hval : ∀ (j : Nat) t v, Tryd.f7.params[j]? = some t → args[j]? = some v → Value.okWide Tryd.prog W .any base t v)
    (hW : DataW.Whole enc Tryd.prog Tryd.f7.params.toList Rows.keysBlindSpec.vars false W args.toList ds gs before) (hL : laidMetH Tryd.prog Rows.keysBlindRow.laid W) :
    Calls Tryd.prog 7 args W fun e W' => ∃ v, e = .returned v ∧ Rows.keysBlindSpec.post enc Tryd.prog Tryd.f7 false true false false W args v W' := by
  have hG : Glob W := glob_of_laid (rest := []) hL
  have hW' := hW
  obtain ⟨p, q, hA0, hV, rfl, hfz, hnd⟩ := hW
  have hA : DataW.TrodAll enc Tryd.prog W 0 (fun _ => true) true Tryd.f7.params.toList args.toList ds p := hA0
  rw [Tryd.params7] at hA hval
  obtain ⟨v0, v1, v2, v3, d0, d1, d2, d3, p0, p1, p2, p3, rfl, rfl, rfl, h0, h1, h2, h3⟩ := trodAll_four hA
  obtain ⟨rfl, rfl⟩ := trodVars_none hV
  obtain ⟨k0, hk0, rfl⟩ := open_byteArr Tryd.underlying23 Tryd.underlying5 co8 (by kernel_rfl) (hval 0 23 v0 rfl rfl) h0
  obtain ⟨k1, hk1, rfl⟩ := open_byteArr Tryd.underlying23 Tryd.underlying5 co8 (by kernel_rfl) (hval 1 23 v1 rfl rfl) h1
  obtain ⟨k2, hk2, rfl⟩ := open_byteArr Tryd.underlying46 Tryd.underlying5 co8 (by kernel_rfl) (hval 2 46 v2 rfl rfl) h2
  obtain ⟨z3, rfl, hdz3, hpz3, wz3⟩ := open_int Tryd.underlying5 (hval 3 5 v3 rfl rfl) h3
  obtain ⟨b3, rfl⟩ := byte_of z3 wz3
  refine (lawBlind_any k0 k1 k2 b3 W hG hk0 hk1 hk2).mono fun e W' ⟨he, hb⟩ => ?_
  exact ⟨_, he, law_post laid_out (by kernel_rfl) rfl hW' hb (T := 4) rfl Tryd.underlying4 rfl rfl rfl⟩

theorem keysBlind_laid (os : Os) : laidMet Tryd.prog Rows.keysBlindRow.laid ((hashWorld os).forCall (fun _ _ => 0) ⟨#[], #[.agg (cells8 (List.replicate 32 0)), .agg (cells8 (List.replicate 32 0)), .agg (cells8 (List.replicate 64 0)), .int .u8 0], []⟩).memory :=
  laidMet_of_run' 8 (by kernel_rfl) (by kernel_rfl)
theorem keysBlind_reads (os : Os) {H : Type} (enc : TypeId × Value → H) : ∃ places, DataW.whole enc Tryd.prog ((hashWorld os).forCall (fun _ _ => 0) ⟨#[], #[.agg (cells8 (List.replicate 32 0)), .agg (cells8 (List.replicate 32 0)), .agg (cells8 (List.replicate 64 0)), .int .u8 0], []⟩).memory Tryd.f7.params.toList Rows.keysBlindSpec.vars false #[.agg (cells8 (List.replicate 32 0)), .agg (cells8 (List.replicate 32 0)), .agg (cells8 (List.replicate 64 0)), .int .u8 0].toList 8 = some ([.agg ((List.replicate 32 (0 : UInt8)).map fun b => .lit (.int .u8 (b.toNat : Int))), .agg ((List.replicate 32 (0 : UInt8)).map fun b => .lit (.int .u8 (b.toNat : Int))), .agg ((List.replicate 64 (0 : UInt8)).map fun b => .lit (.int .u8 (b.toNat : Int))), .lit (.int .u8 0)], [], places) :=
  ⟨[], by kernel_rfl⟩
set_option maxRecDepth 100000 in
theorem keysBlind_lifted (os : Os) (started : os.Started) (H : Type) (enc : TypeId × Value → H) (F : Stop.Interp) :
    ReturnsInHanded {} Tryd.checked os 7 .any ((OpenSpec.ofChange Rows.keysBlindSpec).preRow enc Tryd.prog Tryd.f7 Rows.keysBlindRow.domain false Rows.keysBlindRow.laid) (((OpenSpec.ofChange Rows.keysBlindSpec).at F).post enc Tryd.prog Tryd.f7 false true false false) := by
  obtain ⟨places, hx⟩ := keysBlind_reads os enc
  refine returnsInHanded_of_row (C := Tryd.checked) (s := OpenSpec.ofChange Rows.keysBlindSpec) own_knob started (by kernel_rfl) Tryd.func7
    (witness_row_at (enc := enc) (C := Tryd.checked) false (hashWorld os) #[.agg (cells8 (List.replicate 32 0)), .agg (cells8 (List.replicate 32 0)), .agg (cells8 (List.replicate 64 0)), .int .u8 0] rfl (by kernel_rfl) (by kernel_rfl) (by kernel_rfl)
      (OpenSpec.preRow_of_cond 8 hx (by kernel_rfl) (fun k hk => by cases hk) (by kernel_rfl) (keysBlind_laid os))) ?_
  intro W base args ds gs before hval hW _ _ _ hL _ _
  exact keysBlind_contract H enc W base args ds gs before hval hW hL
theorem keysBlind_said : Rows.KeysBlindSaid :=
  OpenClaim.holds_of_cond 7 Tryd.f7 rfl rfl rfl rfl rfl rfl rfl ⟨rfl, rfl, rfl, rfl, rfl⟩ rfl rfl rfl rfl rfl (by kernel_rfl) Tryd.func7 (by kernel_rfl)
    (of_decide_eq_true (by kernel_rfl)) (by unfold Func.isWrapper; first | (rw [if_pos (by decide +kernel)]; kernel_rfl) | (rw [if_neg (by decide +kernel)]; exact ⟨rfl, rfl⟩))
    (fun os started H enc _ F => by rw [OpenClaim.pre_eq_preRow]; exact keysBlind_lifted os started H enc F)
theorem keysBlind_plain (f : FuncId) (fn : Func) (hf : Tryd.pinned.checked.prog.funcNamed "hibernacle/hibernaclelaw38.KeysBlind" = some f) (hfn : Tryd.pinned.checked.prog.funcs[f]? = some fn) :
    false = Tryd.pinned.checked.prog.looks [] ∧ ∀ (j : Nat) t, fn.params[j]? = some t → Tryd.pinned.checked.prog.wantsStandIn t = false := by
  obtain rfl : f = 7 := Option.some.inj ((show Tryd.prog.funcNamed "hibernacle/hibernaclelaw38.KeysBlind" = some 7 by kernel_rfl).symm.trans hf) |>.symm
  obtain rfl : fn = Tryd.f7 := (Option.some.inj (Tryd.func7.symm.trans hfn)).symm
  refine ⟨by kernel_rfl, fun j t ht => ?_⟩
  rw [Tryd.params7] at ht
  have hm := Array.mem_of_getElem? ht
  simp only [List.mem_toArray, List.mem_cons, List.not_mem_nil, or_false] at hm
  rcases hm with rfl | rfl | rfl | rfl <;> (show Tryd.prog.wantsStandIn _ = false; kernel_rfl)
theorem keysBlind_card : Rows.KeysBlindCardSaid :=
  Claim7.holds_tied_plain_at .later [] _ _ _ _ keysBlind_said (fun _ h => by cases h) (by kernel_rfl) (fun _ h => by cases h) keysBlind_row_tie rfl ⟨rfl, rfl⟩ (by kernel_rfl) rfl keysBlind_plain (by kernel_rfl)
#print axioms keysBlind_card
end Go.Proofs.YtconhhhggckcbaaDoor
