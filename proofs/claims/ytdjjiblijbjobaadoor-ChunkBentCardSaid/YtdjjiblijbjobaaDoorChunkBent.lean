/- ChunkBent: a sealed chunk any byte of whose data, behind the first two, is another one, isn't opened, nor one with another name, where unlike texts of the tags have unlike digests (up to 400 bytes, 10 keys) (for others the statement asks the chapter's example alone). The tables of package hash hold what the program's text lays (the row lists them, the card ties them). No condition of ours. -/
import Derived.Test.YtdjjiblijbjobaaDoorChkF
import Derived.Test.YtdjjiblijbjobaaDoorHashRow
import Derived.Test.YtdjjiblijbjobaaDoorOpenT
import Derived.Test.YtdjjiblijbjobaaDoorOpenK
import Derived.Carry
namespace Go.Proofs.YtdjjiblijbjobaaDoor
open Go.ChangeShapes Go.WideShapes Go.ChangeAt Go.RowKit
open Go.ChangeMaps (open_string shut_string)

set_option maxRecDepth 100000 in
theorem chunkBent_contract (H : Type) (enc : TypeId × Value → H) (W : World) (base : Nat) (args : Array Value) (ds gs : List (DataW H)) (before : List MemPlace)
    (hval : ∀ (j : Nat) t v, Tryd.f9.params[j]? = some t → args[j]? = some v → Value.okWide Tryd.prog W .any base t v)
    (hW : DataW.Whole enc Tryd.prog Tryd.f9.params.toList Rows.chunkBentSpec.vars false W args.toList ds gs before) (hL : laidMetH Tryd.prog Rows.chunkBentRow.laid W) :
    Calls Tryd.prog 9 args W fun e W' => ∃ v, e = .returned v ∧ Rows.chunkBentSpec.post enc Tryd.prog Tryd.f9 false true false false W args v W' := by
  have hG : Glob W := glob_of_laid (rest := []) hL
  have hW' := hW
  obtain ⟨p, q, hA0, hV, rfl, hfz, hnd⟩ := hW
  have hA : DataW.TrodAll enc Tryd.prog W 0 (fun _ => true) true Tryd.f9.params.toList args.toList ds p := hA0
  rw [Tryd.params9] at hA hval
  obtain ⟨v0, v1, v2, d0, d1, d2, p0, p1, p2, rfl, rfl, rfl, h0, h1, h2⟩ := trodAll_three hA
  obtain ⟨rfl, rfl⟩ := trodVars_none hV
  obtain ⟨K0, u0, rfl, hV0, hT0, hl0⟩ := open_keys (hval 0 31 v0 rfl rfl) h0
  obtain ⟨s1, rfl, hds1, hps1, hs1⟩ := open_string Tryd.underlying9 (hval 1 9 v1 rfl rfl) h1
  obtain ⟨l1, rfl, hl1⟩ := list_of s1 hs1
  obtain ⟨p2, q2, hp2, hq2, rfl⟩ := open_two (hval 2 47 v2 rfl rfl) h2
  refine (lawBent39_any K0 u0 l1 p2 q2 W hG hV0 hT0 hl1 hp2 hq2).mono fun e W' ⟨he, hb⟩ => ?_
  exact ⟨_, he, law_post laid_out (by kernel_rfl) rfl hW' hb (T := 4) rfl Tryd.underlying4 rfl rfl rfl⟩

theorem chunkBent_laid (os : Os) : laidMet Tryd.prog Rows.chunkBentRow.laid ((hashWorld os).forCall (fun _ _ => 0) ⟨#[], #[.agg #[.slice none 0 0], .string .empty, .agg #[.int .u16 0, .int .u16 0]], []⟩).memory :=
  laidMet_of_run' 8 (by kernel_rfl) (by kernel_rfl)
theorem chunkBent_reads (os : Os) {H : Type} (enc : TypeId × Value → H) : ∃ places, DataW.whole enc Tryd.prog ((hashWorld os).forCall (fun _ _ => 0) ⟨#[], #[.agg #[.slice none 0 0], .string .empty, .agg #[.int .u16 0, .int .u16 0]], []⟩).memory Tryd.f9.params.toList Rows.chunkBentSpec.vars false #[.agg #[.slice none 0 0], .string .empty, .agg #[.int .u16 0, .int .u16 0]].toList 8 = some ([.agg [.nil], .lit (.string []), .agg [.lit (.int .u16 0), .lit (.int .u16 0)]], [], places) :=
  ⟨[], by kernel_rfl⟩
set_option maxRecDepth 100000 in
theorem chunkBent_lifted (os : Os) (started : os.Started) (H : Type) (enc : TypeId × Value → H) (F : Stop.Interp) :
    ReturnsInHanded {} Tryd.checked os 9 .any ((OpenSpec.ofChange Rows.chunkBentSpec).preRow enc Tryd.prog Tryd.f9 Rows.chunkBentRow.domain false Rows.chunkBentRow.laid) (((OpenSpec.ofChange Rows.chunkBentSpec).at F).post enc Tryd.prog Tryd.f9 false true false false) := by
  obtain ⟨places, hx⟩ := chunkBent_reads os enc
  refine returnsInHanded_of_row (C := Tryd.checked) (s := OpenSpec.ofChange Rows.chunkBentSpec) own_knob started (by kernel_rfl) Tryd.func9
    (witness_row_at (enc := enc) (C := Tryd.checked) false (hashWorld os) #[.agg #[.slice none 0 0], .string .empty, .agg #[.int .u16 0, .int .u16 0]] rfl (by kernel_rfl) (by kernel_rfl) (by kernel_rfl)
      (OpenSpec.preRow_of_cond 8 hx (by kernel_rfl) (fun k hk => by cases hk) (by kernel_rfl) (chunkBent_laid os))) ?_
  intro W base args ds gs before hval hW _ _ _ hL _ _
  exact chunkBent_contract H enc W base args ds gs before hval hW hL
theorem chunkBent_said : Rows.ChunkBentSaid :=
  OpenClaim.holds_of_cond 9 Tryd.f9 rfl rfl rfl rfl rfl rfl rfl ⟨rfl, rfl, rfl, rfl, rfl⟩ rfl rfl rfl rfl rfl (by kernel_rfl) Tryd.func9 (by kernel_rfl)
    (of_decide_eq_true (by kernel_rfl)) (by unfold Func.isWrapper; first | (rw [if_pos (by decide +kernel)]; kernel_rfl) | (rw [if_neg (by decide +kernel)]; exact ⟨rfl, rfl⟩))
    (fun os started H enc _ F => by rw [OpenClaim.pre_eq_preRow]; exact chunkBent_lifted os started H enc F)
theorem chunkBent_plain (f : FuncId) (fn : Func) (hf : Tryd.pinned.checked.prog.funcNamed "hibernacle/hibernaclelaw39.ChunkBent" = some f) (hfn : Tryd.pinned.checked.prog.funcs[f]? = some fn) :
    false = Tryd.pinned.checked.prog.looks [] ∧ ∀ (j : Nat) t, fn.params[j]? = some t → Tryd.pinned.checked.prog.wantsStandIn t = false := by
  obtain rfl : f = 9 := Option.some.inj ((show Tryd.prog.funcNamed "hibernacle/hibernaclelaw39.ChunkBent" = some 9 by kernel_rfl).symm.trans hf) |>.symm
  obtain rfl : fn = Tryd.f9 := (Option.some.inj (Tryd.func9.symm.trans hfn)).symm
  refine ⟨by kernel_rfl, fun j t ht => ?_⟩
  rw [Tryd.params9] at ht
  have hm := Array.mem_of_getElem? ht
  simp only [List.mem_toArray, List.mem_cons, List.not_mem_nil, or_false] at hm
  rcases hm with rfl | rfl | rfl <;> (show Tryd.prog.wantsStandIn _ = false; kernel_rfl)
theorem chunkBent_card : Rows.ChunkBentCardSaid :=
  Claim7.holds_tied_plain_at .later [] _ _ _ _ chunkBent_said (fun _ h => by cases h) (by kernel_rfl) (fun _ h => by cases h) chunkBent_row_tie rfl ⟨rfl, rfl⟩ (by kernel_rfl) rfl chunkBent_plain (by kernel_rfl)
#print axioms chunkBent_card
end Go.Proofs.YtdjjiblijbjobaaDoor
