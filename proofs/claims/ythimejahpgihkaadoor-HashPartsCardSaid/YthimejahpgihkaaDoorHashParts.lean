/- HashParts: the digests of any parts, with a key and without one, are those of all of them as one text, however that is cut (up to 30 parts and 700 bytes, as the statement says). The tables of package hash hold what the program's text lays (the row lists them, the card ties them). No condition of ours. -/
import Derived.Test.YthimejahpgihkaaDoorHashLaw3
import Derived.Test.YthimejahpgihkaaDoorHashRow
namespace Go.Proofs.YthimejahpgihkaaDoor
open Go.ChangeShapes Go.WideShapes Go.ChangeAt Go.RowKit
open Go.ChangeMaps (open_string shut_string)

theorem hashParts_contract (H : Type) (enc : TypeId × Value → H) (W : World) (base : Nat) (args : Array Value) (ds gs : List (DataW H)) (before : List MemPlace)
    (hval : ∀ (j : Nat) t v, Tryd.f5.params[j]? = some t → args[j]? = some v → Value.okWide Tryd.prog W .any base t v)
    (hW : DataW.Whole enc Tryd.prog Tryd.f5.params.toList Rows.hashPartsSpec.vars false W args.toList ds gs before) (hL : laidMetH Tryd.prog Rows.hashPartsRow.laid W) :
    Calls Tryd.prog 5 args W fun e W' => ∃ v, e = .returned v ∧ Rows.hashPartsSpec.post enc Tryd.prog Tryd.f5 false true false false W args v W' := by
  have hG : Glob W := glob_of_laid (rest := []) hL
  have hW' := hW
  obtain ⟨p, q, hA0, hV, rfl, hfz, hnd⟩ := hW
  have hA : DataW.TrodAll enc Tryd.prog W 0 (fun _ => true) true Tryd.f5.params.toList args.toList ds p := hA0
  rw [Tryd.params5] at hA hval
  obtain ⟨v0, v1, v2, d0, d1, d2, p0, p1, p2, rfl, rfl, rfl, h0, h1, h2⟩ := trodAll_three hA
  obtain ⟨rfl, rfl⟩ := trodVars_none hV
  obtain ⟨k0, hk0, rfl⟩ := open_byteArr Tryd.underlying28 Tryd.underlying5 co8 (by kernel_rfl) (hval 0 28 v0 rfl rfl) h0
  obtain ⟨l1, hl1⟩ := open_strs (hval 1 31 v1 rfl rfl) h1
  obtain ⟨z2, rfl, hdz2, hpz2, wz2⟩ := open_int Tryd.underlying33 (hval 2 33 v2 rfl rfl) h2
  obtain ⟨b2, rfl, hb2⟩ := half_of z2 wz2
  refine (lawParts_any k0 l1 v1 b2 W hG hk0 hl1 hb2).mono fun e W' ⟨he, hb⟩ => ?_
  exact ⟨_, he, law_post laid_out (by kernel_rfl) rfl hW' hb (T := 4) rfl Tryd.underlying4 rfl rfl rfl⟩

theorem hashParts_laid (os : Os) : laidMet Tryd.prog Rows.hashPartsRow.laid ((hashWorld os).forCall (fun _ _ => 0) ⟨#[], #[.agg (cells8 (List.replicate 32 0)), .slice none 0 0, .int .u16 0], []⟩).memory :=
  laidMet_of_run' 8 (by kernel_rfl) (by kernel_rfl)
theorem hashParts_reads (os : Os) {H : Type} (enc : TypeId × Value → H) : ∃ places, DataW.whole enc Tryd.prog ((hashWorld os).forCall (fun _ _ => 0) ⟨#[], #[.agg (cells8 (List.replicate 32 0)), .slice none 0 0, .int .u16 0], []⟩).memory Tryd.f5.params.toList Rows.hashPartsSpec.vars false #[.agg (cells8 (List.replicate 32 0)), .slice none 0 0, .int .u16 0].toList 8 = some ([.agg ((List.replicate 32 (0 : UInt8)).map fun b => .lit (.int .u8 (b.toNat : Int))), .nil, .lit (.int .u16 0)], [], places) :=
  ⟨[], by kernel_rfl⟩
set_option maxRecDepth 100000 in
theorem hashParts_lifted (os : Os) (started : os.Started) (H : Type) (enc : TypeId × Value → H) (F : Stop.Interp) :
    ReturnsInHanded {} Tryd.checked os 5 .any ((OpenSpec.ofChange Rows.hashPartsSpec).preRow enc Tryd.prog Tryd.f5 Rows.hashPartsRow.domain false Rows.hashPartsRow.laid) (((OpenSpec.ofChange Rows.hashPartsSpec).at F).post enc Tryd.prog Tryd.f5 false true false false) := by
  obtain ⟨places, hx⟩ := hashParts_reads os enc
  refine returnsInHanded_of_row (C := Tryd.checked) (s := OpenSpec.ofChange Rows.hashPartsSpec) own_knob started (by kernel_rfl) Tryd.func5
    (witness_row_at (enc := enc) (C := Tryd.checked) false (hashWorld os) #[.agg (cells8 (List.replicate 32 0)), .slice none 0 0, .int .u16 0] rfl (by kernel_rfl) (by kernel_rfl) (by kernel_rfl)
      (OpenSpec.preRow_of_cond 8 hx (by kernel_rfl) (fun k hk => by cases hk) (by kernel_rfl) (hashParts_laid os))) ?_
  intro W base args ds gs before hval hW _ _ _ hL _ _
  exact hashParts_contract H enc W base args ds gs before hval hW hL
theorem hashParts_said : Rows.HashPartsSaid :=
  OpenClaim.holds_of_cond 5 Tryd.f5 rfl rfl rfl rfl rfl rfl rfl ⟨rfl, rfl, rfl, rfl, rfl⟩ rfl rfl rfl rfl rfl (by kernel_rfl) Tryd.func5 (by kernel_rfl)
    (of_decide_eq_true (by kernel_rfl)) (by unfold Func.isWrapper; first | (rw [if_pos (by decide +kernel)]; kernel_rfl) | (rw [if_neg (by decide +kernel)]; exact ⟨rfl, rfl⟩))
    (fun os started H enc _ F => by rw [OpenClaim.pre_eq_preRow]; exact hashParts_lifted os started H enc F)
theorem hashParts_plain (f : FuncId) (fn : Func) (hf : Tryd.pinned.checked.prog.funcNamed "hibernacle/hibernaclelaw02.HashParts" = some f) (hfn : Tryd.pinned.checked.prog.funcs[f]? = some fn) :
    false = Tryd.pinned.checked.prog.looks [] ∧ ∀ (j : Nat) t, fn.params[j]? = some t → Tryd.pinned.checked.prog.wantsStandIn t = false := by
  obtain rfl : f = 5 := Option.some.inj ((show Tryd.prog.funcNamed "hibernacle/hibernaclelaw02.HashParts" = some 5 by kernel_rfl).symm.trans hf) |>.symm
  obtain rfl : fn = Tryd.f5 := (Option.some.inj (Tryd.func5.symm.trans hfn)).symm
  refine ⟨by kernel_rfl, fun j t ht => ?_⟩
  rw [Tryd.params5] at ht
  have hm := Array.mem_of_getElem? ht
  simp only [List.mem_toArray, List.mem_cons, List.not_mem_nil, or_false] at hm
  rcases hm with rfl | rfl | rfl <;> (show Tryd.prog.wantsStandIn _ = false; kernel_rfl)
theorem hashParts_card : Rows.HashPartsCardSaid :=
  Claim7.holds_tied_plain_at .later [] _ _ _ _ hashParts_said (fun _ h => by cases h) (by kernel_rfl) (fun _ h => by cases h) hashParts_row_tie rfl ⟨rfl, rfl⟩ (by kernel_rfl) rfl hashParts_plain (by kernel_rfl)
#print axioms hashParts_card
end Go.Proofs.YthimejahpgihkaaDoor
