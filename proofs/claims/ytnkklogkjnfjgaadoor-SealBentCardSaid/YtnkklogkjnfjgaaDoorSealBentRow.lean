/- SealBent: a box of which one byte is another one, or that is cut short, is told, and so is one with another head, where the reference tells it (texts up to 300 bytes; for longer ones the statement asks that the package works at all). The tables of package hash hold what the program's text lays (the row lists them, the card ties them). No condition of ours. -/
import Derived.Test.YtnkklogkjnfjgaaDoorSealLaw3
import Derived.Test.YtnkklogkjnfjgaaDoorHashRow
import Derived.Carry
namespace Go.Proofs.YtnkklogkjnfjgaaDoor
open Go.ChangeShapes Go.WideShapes Go.ChangeAt Go.RowKit
open Go.ChangeMaps (open_string shut_string)

theorem trodAll_many {H : Type} {enc : TypeId × Value → H} {P : Program} {w : World} {base : Nat} {spare : Nat → Bool} {held : Bool} {t0 t1 t2 t3 t4 t5 t6 : TypeId} {args : Array Value} {ds : List (DataW H)} {ps : List MemPlace} (h : DataW.TrodAll enc P w base spare held [t0, t1, t2, t3, t4, t5, t6] args.toList ds ps) :
    ∃ v0 v1 v2 v3 v4 v5 v6 d0 d1 d2 d3 d4 d5 d6 p0 p1 p2 p3 p4 p5 p6, args = #[v0, v1, v2, v3, v4, v5, v6] ∧ ds = [d0, d1, d2, d3, d4, d5, d6] ∧ ps = p0 ++ p1 ++ p2 ++ p3 ++ p4 ++ p5 ++ p6 ∧ DataW.Trod enc P w base spare held t0 v0 d0 p0 ∧ DataW.Trod enc P w base spare held t1 v1 d1 p1 ∧ DataW.Trod enc P w base spare held t2 v2 d2 p2 ∧ DataW.Trod enc P w base spare held t3 v3 d3 p3 ∧ DataW.Trod enc P w base spare held t4 v4 d4 p4 ∧ DataW.Trod enc P w base spare held t5 v5 d5 p5 ∧ DataW.Trod enc P w base spare held t6 v6 d6 p6 := by
  obtain ⟨v0, vs0, d0, ds0, p0, q0, hargs, rfl, rfl, h0, r0⟩ := trodAll_cons h
  obtain ⟨v1, vs1, d1, ds1, p1, q1, rfl, rfl, rfl, h1, r1⟩ := trodAll_cons r0
  obtain ⟨v2, vs2, d2, ds2, p2, q2, rfl, rfl, rfl, h2, r2⟩ := trodAll_cons r1
  obtain ⟨v3, vs3, d3, ds3, p3, q3, rfl, rfl, rfl, h3, r3⟩ := trodAll_cons r2
  obtain ⟨v4, vs4, d4, ds4, p4, q4, rfl, rfl, rfl, h4, r4⟩ := trodAll_cons r3
  obtain ⟨v5, vs5, d5, ds5, p5, q5, rfl, rfl, rfl, h5, r5⟩ := trodAll_cons r4
  obtain ⟨v6, vs6, d6, ds6, p6, q6, rfl, rfl, rfl, h6, r6⟩ := trodAll_cons r5
  obtain ⟨rfl, rfl, rfl⟩ := trodAll_nil r6
  exact ⟨v0, v1, v2, v3, v4, v5, v6, d0, d1, d2, d3, d4, d5, d6, p0, p1, p2, p3, p4, p5, p6, by cases args; simp_all, rfl, by simp, h0, h1, h2, h3, h4, h5, h6⟩
set_option maxRecDepth 100000 in
theorem sealBent_contract (H : Type) (enc : TypeId × Value → H) (W : World) (base : Nat) (args : Array Value) (ds gs : List (DataW H)) (before : List MemPlace)
    (hval : ∀ (j : Nat) t v, Tryd.f5.params[j]? = some t → args[j]? = some v → Value.okWide Tryd.prog W .any base t v)
    (hW : DataW.Whole enc Tryd.prog Tryd.f5.params.toList Rows.sealBentSpec.vars false W args.toList ds gs before) (hL : laidMetH Tryd.prog Rows.sealBentRow.laid W) :
    Calls Tryd.prog 5 args W fun e W' => ∃ v, e = .returned v ∧ Rows.sealBentSpec.post enc Tryd.prog Tryd.f5 false true false false W args v W' := by
  have hG : Glob W := glob_of_laid (rest := []) hL
  have hW' := hW
  obtain ⟨p, q, hA0, hV, rfl, hfz, hnd⟩ := hW
  have hA : DataW.TrodAll enc Tryd.prog W 0 (fun _ => true) true Tryd.f5.params.toList args.toList ds p := hA0
  rw [Tryd.params5] at hA hval
  obtain ⟨v0, v1, v2, v3, v4, v5, v6, d0, d1, d2, d3, d4, d5, d6, p0, p1, p2, p3, p4, p5, p6, rfl, rfl, rfl, h0, h1, h2, h3, h4, h5, h6⟩ := trodAll_many hA
  obtain ⟨rfl, rfl⟩ := trodVars_none hV
  obtain ⟨k0, hk0, rfl⟩ := open_byteArr Tryd.underlying23 Tryd.underlying5 co8 (by kernel_rfl) (hval 0 23 v0 rfl rfl) h0
  obtain ⟨k1, hk1, rfl⟩ := open_byteArr Tryd.underlying24 Tryd.underlying5 co8 (by kernel_rfl) (hval 1 24 v1 rfl rfl) h1
  obtain ⟨s2, rfl, hds2, hps2, hs2⟩ := open_string Tryd.underlying9 (hval 2 9 v2 rfl rfl) h2
  obtain ⟨l2, rfl, hl2⟩ := list_of s2 hs2
  obtain ⟨s3, rfl, hds3, hps3, hs3⟩ := open_string Tryd.underlying9 (hval 3 9 v3 rfl rfl) h3
  obtain ⟨l3, rfl, hl3⟩ := list_of s3 hs3
  obtain ⟨z4, rfl, hdz4, hpz4, wz4⟩ := open_int Tryd.underlying32 (hval 4 32 v4 rfl rfl) h4
  obtain ⟨b4, rfl, hb4⟩ := half_of z4 wz4
  obtain ⟨z5, rfl, hdz5, hpz5, wz5⟩ := open_int Tryd.underlying5 (hval 5 5 v5 rfl rfl) h5
  obtain ⟨b5, rfl⟩ := byte_of z5 wz5
  obtain ⟨s6, rfl, hds6, hps6, hs6⟩ := open_string Tryd.underlying9 (hval 6 9 v6 rfl rfl) h6
  obtain ⟨l6, rfl, hl6⟩ := list_of s6 hs6
  refine (lawBent_any k0 k1 l2 l3 b4 b5 l6 W hG hk0 hk1 hl2 hl3 hb4 hl6).mono fun e W' ⟨he, hb⟩ => ?_
  exact ⟨_, he, law_post laid_out (by kernel_rfl) rfl hW' hb (T := 4) rfl Tryd.underlying4 rfl rfl rfl⟩

theorem sealBent_laid (os : Os) : laidMet Tryd.prog Rows.sealBentRow.laid ((hashWorld os).forCall (fun _ _ => 0) ⟨#[], #[.agg (cells8 (List.replicate 32 0)), .agg (cells8 (List.replicate 12 0)), .string .empty, .string .empty, .int .u16 0, .int .u8 0, .string .empty], []⟩).memory :=
  laidMet_of_run' 8 (by kernel_rfl) (by kernel_rfl)
theorem sealBent_reads (os : Os) {H : Type} (enc : TypeId × Value → H) : ∃ places, DataW.whole enc Tryd.prog ((hashWorld os).forCall (fun _ _ => 0) ⟨#[], #[.agg (cells8 (List.replicate 32 0)), .agg (cells8 (List.replicate 12 0)), .string .empty, .string .empty, .int .u16 0, .int .u8 0, .string .empty], []⟩).memory Tryd.f5.params.toList Rows.sealBentSpec.vars false #[.agg (cells8 (List.replicate 32 0)), .agg (cells8 (List.replicate 12 0)), .string .empty, .string .empty, .int .u16 0, .int .u8 0, .string .empty].toList 8 = some ([.agg ((List.replicate 32 (0 : UInt8)).map fun b => .lit (.int .u8 (b.toNat : Int))), .agg ((List.replicate 12 (0 : UInt8)).map fun b => .lit (.int .u8 (b.toNat : Int))), .lit (.string []), .lit (.string []), .lit (.int .u16 0), .lit (.int .u8 0), .lit (.string [])], [], places) :=
  ⟨[], by kernel_rfl⟩
set_option maxRecDepth 100000 in
theorem sealBent_lifted (os : Os) (started : os.Started) (H : Type) (enc : TypeId × Value → H) (F : Stop.Interp) :
    ReturnsInHanded {} Tryd.checked os 5 .any ((OpenSpec.ofChange Rows.sealBentSpec).preRow enc Tryd.prog Tryd.f5 Rows.sealBentRow.domain false Rows.sealBentRow.laid) (((OpenSpec.ofChange Rows.sealBentSpec).at F).post enc Tryd.prog Tryd.f5 false true false false) := by
  obtain ⟨places, hx⟩ := sealBent_reads os enc
  refine returnsInHanded_of_row (C := Tryd.checked) (s := OpenSpec.ofChange Rows.sealBentSpec) own_knob started (by kernel_rfl) Tryd.func5
    (witness_row_at (enc := enc) (C := Tryd.checked) false (hashWorld os) #[.agg (cells8 (List.replicate 32 0)), .agg (cells8 (List.replicate 12 0)), .string .empty, .string .empty, .int .u16 0, .int .u8 0, .string .empty] rfl (by kernel_rfl) (by kernel_rfl) (by kernel_rfl)
      (OpenSpec.preRow_of_cond 8 hx (by kernel_rfl) (fun k hk => by cases hk) (by kernel_rfl) (sealBent_laid os))) ?_
  intro W base args ds gs before hval hW _ _ _ hL _ _
  exact sealBent_contract H enc W base args ds gs before hval hW hL
theorem sealBent_said : Rows.SealBentSaid :=
  OpenClaim.holds_of_cond 5 Tryd.f5 rfl rfl rfl rfl rfl rfl rfl ⟨rfl, rfl, rfl, rfl, rfl⟩ rfl rfl rfl rfl rfl (by kernel_rfl) Tryd.func5 (by kernel_rfl)
    (of_decide_eq_true (by kernel_rfl)) (by unfold Func.isWrapper; first | (rw [if_pos (by decide +kernel)]; kernel_rfl) | (rw [if_neg (by decide +kernel)]; exact ⟨rfl, rfl⟩))
    (fun os started H enc _ F => by rw [OpenClaim.pre_eq_preRow]; exact sealBent_lifted os started H enc F)
theorem sealBent_plain (f : FuncId) (fn : Func) (hf : Tryd.pinned.checked.prog.funcNamed "hibernacle/hibernaclelaw04.SealBent" = some f) (hfn : Tryd.pinned.checked.prog.funcs[f]? = some fn) :
    false = Tryd.pinned.checked.prog.looks [] ∧ ∀ (j : Nat) t, fn.params[j]? = some t → Tryd.pinned.checked.prog.wantsStandIn t = false := by
  obtain rfl : f = 5 := Option.some.inj ((show Tryd.prog.funcNamed "hibernacle/hibernaclelaw04.SealBent" = some 5 by kernel_rfl).symm.trans hf) |>.symm
  obtain rfl : fn = Tryd.f5 := (Option.some.inj (Tryd.func5.symm.trans hfn)).symm
  refine ⟨by kernel_rfl, fun j t ht => ?_⟩
  rw [Tryd.params5] at ht
  have hm := Array.mem_of_getElem? ht
  simp only [List.mem_toArray, List.mem_cons, List.not_mem_nil, or_false] at hm
  rcases hm with rfl | rfl | rfl | rfl | rfl | rfl | rfl <;> (show Tryd.prog.wantsStandIn _ = false; kernel_rfl)
theorem sealBent_card : Rows.SealBentCardSaid :=
  Claim7.holds_tied_plain_at .later [] _ _ _ _ sealBent_said (fun _ h => by cases h) (by kernel_rfl) (fun _ h => by cases h) sealBent_row_tie rfl ⟨rfl, rfl⟩ (by kernel_rfl) rfl sealBent_plain (by kernel_rfl)
#print axioms sealBent_card
end Go.Proofs.YtnkklogkjnfjgaaDoor
