/- SessionGoes: messages that one end sends, some of which are lost, are taken by the other one as they were sent, in order, both ends are the same behind one that came, and the answers are read (up to 30 messages of 100 bytes, names up to 100 bytes, numbers up to 2^60(for others the statement asks the chapter's example alone). The tables of package hash hold what the program's text lays (the row lists them, the card ties them). No condition of ours. -/
import Derived.Test.YtioioibcldgknaaDoorSesG
import Derived.Test.YtioioibcldgknaaDoorHashRow
import Derived.Test.YtioioibcldgknaaDoorOpenC
import Derived.Carry
namespace Go.Proofs.YtioioibcldgknaaDoor
open Go.ChangeShapes Go.WideShapes Go.ChangeAt Go.RowKit
open Go.ChangeMaps (open_string shut_string)

set_option maxRecDepth 100000 in
theorem sessionGoes_contract (H : Type) (enc : TypeId × Value → H) (W : World) (base : Nat) (args : Array Value) (ds gs : List (DataW H)) (before : List MemPlace)
    (hval : ∀ (j : Nat) t v, Tryd.f9.params[j]? = some t → args[j]? = some v → Value.okWide Tryd.prog W .any base t v)
    (hW : DataW.Whole enc Tryd.prog Tryd.f9.params.toList Rows.sessionGoesSpec.vars false W args.toList ds gs before) (hL : laidMetH Tryd.prog Rows.sessionGoesRow.laid W) :
    Calls Tryd.prog 9 args W fun e W' => ∃ v, e = .returned v ∧ Rows.sessionGoesSpec.post enc Tryd.prog Tryd.f9 false true false false W args v W' := by
  have hG : Glob W := glob_of_laid (rest := []) hL
  have hW' := hW
  obtain ⟨p, q, hA0, hV, rfl, hfz, hnd⟩ := hW
  have hA : DataW.TrodAll enc Tryd.prog W 0 (fun _ => true) true Tryd.f9.params.toList args.toList ds p := hA0
  rw [Tryd.params9] at hA hval
  obtain ⟨v0, v1, v2, d0, d1, d2, p0, p1, p2, rfl, rfl, rfl, h0, h1, h2⟩ := trodAll_three hA
  obtain ⟨rfl, rfl⟩ := trodVars_none hV
  obtain ⟨c0, hk0, hn0, rfl⟩ := open_chan (hval 0 26 v0 rfl rfl) h0
  obtain ⟨l1, hl1⟩ := open_strs (hval 1 34 v1 rfl rfl) h1
  obtain ⟨z2, rfl, hdz2, hpz2, wz2⟩ := open_int Tryd.underlying50 (hval 2 50 v2 rfl rfl) h2
  obtain ⟨b2, rfl, hb2⟩ := word_of z2 wz2
  refine (lawSGoes_any c0 l1 v1 b2 W hG hk0 hn0 hl1 hb2).mono fun e W' ⟨he, hb⟩ => ?_
  exact ⟨_, he, law_post laid_out (by kernel_rfl) rfl hW' hb (T := 4) rfl Tryd.underlying4 rfl rfl rfl⟩

theorem sessionGoes_laid (os : Os) : laidMet Tryd.prog Rows.sessionGoesRow.laid ((hashWorld os).forCall (fun _ _ => 0) ⟨#[], #[.agg (chA noCh), .slice none 0 0, .int .u32 0], []⟩).memory :=
  laidMet_of_run' 8 (by kernel_rfl) (by kernel_rfl)
theorem sessionGoes_reads (os : Os) {H : Type} (enc : TypeId × Value → H) : ∃ places, DataW.whole enc Tryd.prog ((hashWorld os).forCall (fun _ _ => 0) ⟨#[], #[.agg (chA noCh), .slice none 0 0, .int .u32 0], []⟩).memory Tryd.f9.params.toList Rows.sessionGoesSpec.vars false #[.agg (chA noCh), .slice none 0 0, .int .u32 0].toList 8 = some ([.agg [.lit (.string []), .lit (.int .u64 0), .agg ((List.replicate 32 (0 : UInt8)).map fun b => .lit (.int .u8 (b.toNat : Int)))], .nil, .lit (.int .u32 0)], [], places) :=
  ⟨[], by kernel_rfl⟩
set_option maxRecDepth 100000 in
theorem sessionGoes_lifted (os : Os) (started : os.Started) (H : Type) (enc : TypeId × Value → H) (F : Stop.Interp) :
    ReturnsInHanded {} Tryd.checked os 9 .any ((OpenSpec.ofChange Rows.sessionGoesSpec).preRow enc Tryd.prog Tryd.f9 Rows.sessionGoesRow.domain false Rows.sessionGoesRow.laid) (((OpenSpec.ofChange Rows.sessionGoesSpec).at F).post enc Tryd.prog Tryd.f9 false true false false) := by
  obtain ⟨places, hx⟩ := sessionGoes_reads os enc
  refine returnsInHanded_of_row (C := Tryd.checked) (s := OpenSpec.ofChange Rows.sessionGoesSpec) own_knob started (by kernel_rfl) Tryd.func9
    (witness_row_at (enc := enc) (C := Tryd.checked) false (hashWorld os) #[.agg (chA noCh), .slice none 0 0, .int .u32 0] rfl (by kernel_rfl) (by kernel_rfl) (by kernel_rfl)
      (OpenSpec.preRow_of_cond 8 hx (by kernel_rfl) (fun k hk => by cases hk) (by kernel_rfl) (sessionGoes_laid os))) ?_
  intro W base args ds gs before hval hW _ _ _ hL _ _
  exact sessionGoes_contract H enc W base args ds gs before hval hW hL
theorem sessionGoes_said : Rows.SessionGoesSaid :=
  OpenClaim.holds_of_cond 9 Tryd.f9 rfl rfl rfl rfl rfl rfl rfl ⟨rfl, rfl, rfl, rfl, rfl⟩ rfl rfl rfl rfl rfl (by kernel_rfl) Tryd.func9 (by kernel_rfl)
    (of_decide_eq_true (by kernel_rfl)) (by unfold Func.isWrapper; first | (rw [if_pos (by decide +kernel)]; kernel_rfl) | (rw [if_neg (by decide +kernel)]; exact ⟨rfl, rfl⟩))
    (fun os started H enc _ F => by rw [OpenClaim.pre_eq_preRow]; exact sessionGoes_lifted os started H enc F)
theorem sessionGoes_plain (f : FuncId) (fn : Func) (hf : Tryd.pinned.checked.prog.funcNamed "hibernacle/hibernaclelaw43.SessionGoes" = some f) (hfn : Tryd.pinned.checked.prog.funcs[f]? = some fn) :
    false = Tryd.pinned.checked.prog.looks [] ∧ ∀ (j : Nat) t, fn.params[j]? = some t → Tryd.pinned.checked.prog.wantsStandIn t = false := by
  obtain rfl : f = 9 := Option.some.inj ((show Tryd.prog.funcNamed "hibernacle/hibernaclelaw43.SessionGoes" = some 9 by kernel_rfl).symm.trans hf) |>.symm
  obtain rfl : fn = Tryd.f9 := (Option.some.inj (Tryd.func9.symm.trans hfn)).symm
  refine ⟨by kernel_rfl, fun j t ht => ?_⟩
  rw [Tryd.params9] at ht
  have hm := Array.mem_of_getElem? ht
  simp only [List.mem_toArray, List.mem_cons, List.not_mem_nil, or_false] at hm
  rcases hm with rfl | rfl | rfl <;> (show Tryd.prog.wantsStandIn _ = false; kernel_rfl)
theorem sessionGoes_card : Rows.SessionGoesCardSaid :=
  Claim7.holds_tied_plain_at .later [] _ _ _ _ sessionGoes_said (fun _ h => by cases h) (by kernel_rfl) (fun _ h => by cases h) sessionGoes_row_tie rfl ⟨rfl, rfl⟩ (by kernel_rfl) rfl sessionGoes_plain (by kernel_rfl)
#print axioms sessionGoes_card
end Go.Proofs.YtioioibcldgknaaDoor
