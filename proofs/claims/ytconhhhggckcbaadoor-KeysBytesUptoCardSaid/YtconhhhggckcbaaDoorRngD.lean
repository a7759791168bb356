/- The walks of the reference's key and Open (layer 38). Printed by gen_key30.py. -/
import Derived.Test.YtconhhhggckcbaaDoorRngA
import Derived.Test.YtconhhhggckcbaaDoorShr4
namespace Go.Proofs.YtconhhhggckcbaaDoor
open Go.RowKit

attribute [local irreducible] sealS keyedS nonceS openS
def cpT (s : List UInt8) (i : Nat) : List UInt8 := (List.range 32).map fun q => if q < i then bt s q else 0
theorem cpT_len (s : List UInt8) (i : Nat) : (cpT s i).length = 32 := by simp [cpT]
theorem cpT_zero (s : List UInt8) : List.replicate 32 0 = cpT s 0 := by kernel_rfl
theorem cpT_step (s : List UInt8) (i : Nat) : (cpT s i).set i (bt s i) = cpT s (i + 1) := by
  unfold cpT
  apply List.ext_getElem?
  intro q
  rw [List.getElem?_set, List.length_map, List.length_range]
  by_cases hq : q < 32
  · rw [List.getElem?_map, List.getElem?_map, List.getElem?_range hq, Option.map_some, Option.map_some]
    by_cases h : i = q
    · subst h
      rw [if_pos rfl, if_pos hq, if_pos (by omega)]
    · rw [if_neg h]
      by_cases h1 : q < i
      · rw [if_pos h1, if_pos (by omega)]
      · rw [if_neg h1, if_neg (by omega)]
  · rw [List.getElem?_eq_none (by simp; omega), List.getElem?_eq_none (by simp; omega)]
    by_cases h : i = q
    · rw [if_pos h, if_neg (by omega)]
    · rw [if_neg h]
theorem cpT_all {s : List UInt8} (h : s.length = 32) : cpT s 32 = s := by
  unfold cpT
  apply List.ext_getElem?
  intro q
  by_cases hq : q < 32
  · rw [List.getElem?_map, List.getElem?_range hq, Option.map_some, if_pos hq, bt, List.getD_eq_getElem?_getD, List.getElem?_eq_getElem (by omega : q < s.length)]
    rfl
  · rw [List.getElem?_eq_none (by simp; omega), List.getElem?_eq_none (by omega)]
theorem dg_ep {e : Ep} {j : Nat} {u : Value} (h : (dgC e.c)[j]? = some u) : (epF e)[j]? = some u := by
  unfold epF
  rw [List.getElem?_append_left (List.getElem?_eq_some_iff.1 h).1]
  exact h
section
variable {P : Program} {D : List Deferred} {w : World} {a : Act} {o : Oper} {w0 : World} {n s : Nat} {L : List (Nat × Value)} {v u : Value} {ops : Array Oper} {rest : List Oper} {Q : Exit → Act → World → Prop} {M : List (Nat × (Obj → Prop))} {x y : Operand}
theorem results_LT {fn : Func} {s2 g : Nat} {ty : TypeId} {v2 : Value} (hF : FrD D a n L) (hr : fn.results = #[.cell s ty, .tmp s2]) (hl : lk L s = some (.pointer (some ⟨g, 0, none⟩))) (h1 : (loadVar ty ⟨g, 0, none⟩).run P w = .ok v w) (hl2 : lk L s2 = some v2) : (results fn a.tmps).run P w = .ok (.tuple #[v, v2]) w := by
  have e1 : a.tmps[s]?.getD undef = .pointer (some ⟨g, 0, none⟩) := by rw [hF.at s hl]; rfl
  have e2 : a.tmps[s2]?.getD undef = v2 := by rw [hF.at s2 hl2]; rfl
  simp [results, hr, e1, e2, asAddr, h1]
end
set_option maxRecDepth 100000 in
set_option maxHeartbeats 1000000 in
theorem rkey38_any (s : List UInt8) (w : World) (hLs : s.length = 32) : Calls Tryd.prog 53 #[.string ⟨s.toArray⟩] w fun e w' => e = .returned (.agg (cells8 s)) ∧ Below w.heap.size w w' := by
  refine walk_enter Tryd.func53 rfl rfl rfl fun a0 F0 => ?_
  have M0 := Mem.new w
  refine wsl ?_
  refine sqNew (cs := (cells8 (List.replicate 32 0))) (t := 23) F0 M0 (wantedS rfl) (run_alloc rfl (by kernel_rfl)) rfl (by decide) fun g0 a1 w1 hgg0 hb1 F1 M1 => ?_
  refine sn ?_
  clear F0 M0
  refine wsl ?_
  refine sqNew (cs := (cells8 (List.replicate 32 0))) (t := 23) F1 M1 (wantedS rfl) (run_alloc rfl (by kernel_rfl)) rfl (by decide) fun g1 a2 w2 hgg1 hb2 F2 M2 => ?_
  refine sn ?_
  clear F1 M1
  refine wp_seq ?_
  refine wsl ?_
  refine sr (v := (.int .i64 0)) F2 (run_as rfl rfl) rfl rfl rfl fun a3 F3 => ?_
  refine sn ?_
  clear F2
  refine wp_block ?_
  refine wkLoop (fun m a0 w2 => ∃ i : Nat, i ≤ 32 ∧ m = 32 - i ∧ Fr a0 15 [(0, .string ⟨s.toArray⟩), (2, .pointer (some ⟨g0, 0, none⟩)), (3, .pointer (some ⟨g1, 0, none⟩)), (4, .int .i64 (i : Int))] ∧ Mem w [(g1, isB 23 (cells8 (cpT s i))), (g0, isB 23 (cells8 (List.replicate 32 0)))] w2) 32 ⟨0, Nat.zero_le _, rfl, F3.sub ⟨rfl, rfl, rfl, rfl, trivial⟩, by rw [← cpT_zero]; exact M2⟩ ?_
  rintro m a0 w1 ⟨i, hi, rfl, F0, M0⟩
  have hcl := cpT_len s i
  by_cases h1 : i < 32
  · skip
    refine wp_seq ?_
    refine wsl ?_
    refine mvS F0 rfl rfl rfl rfl rfl fun a1 F1 => ?_
    refine sr (v := (.bool true)) F1 (run_lss rfl (F1.ev 5 rfl) rfl (decide_eq_true (by omega))) rfl rfl rfl fun a2 F2 => ?_
    refine sn ?_
    clear F0 F1
    refine cts (F2.ev 6 rfl) ?_
    refine wp_seq ?_
    refine wp_block ?_
    refine wp_region_lit ?_
    refine mvS F2 rfl rfl rfl rfl rfl fun a3 F3 => ?_
    refine mvS F3 rfl rfl rfl rfl rfl fun a4 F4 => ?_
    refine mvS F4 rfl rfl rfl rfl rfl fun a5 F5 => ?_
    refine sr (v := (.int .u8 ((bt s i).toNat : Int))) F5 (run_sAt (n := i) rfl (F5.ev 10 rfl) (F5.ev 11 rfl) Tryd.underlying9 rfl (by omega)) rfl rfl rfl fun a6 F6 => ?_
    refine sr (v := (.pointer (some ⟨g1, i, none⟩))) F6 (run_idxA (i := i) (cnt := 32) rfl (F6.ev 3 rfl) (F6.ev 9 rfl) rfl (by omega) Tryd.underlying23 (by kernel_rfl)) rfl rfl rfl fun a7 F7 => ?_
    refine sqSetA (j := 0) (l := (cpT s i)) F7 M0 rfl rfl rfl (F7.ev 13 rfl) (F7.ev 12 rfl) rfl (by omega) fun a8 w2 F8 M1 => ?_
    refine sqEnd ?_
    clear F2 F3 F4 F5 F6 F7 M0
    refine bkEnd ?_
    refine nx ?_
    refine wp_region_lit ?_
    refine mvS F8 rfl rfl rfl rfl rfl fun a9 F9 => ?_
    refine sr F9 (run_add (r := ((i + 1 : Nat) : Int)) rfl (F9.ev 7 rfl) rfl (by rw [IntKind.wrap_i64]; omega)) rfl rfl rfl fun a10 F10 => ?_
    refine asS F10 rfl rfl rfl rfl rfl fun a11 F11 => ?_
    refine sn ?_
    clear F8 F9 F10
    exact ⟨_, by omega, i + 1, by omega, rfl, F11.sub ⟨rfl, rfl, rfl, rfl, trivial⟩, by rw [← cpT_step]; exact M1⟩
  · obtain rfl : i = 32 := by omega
    refine wp_seq ?_
    refine wsl ?_
    refine mvS F0 rfl rfl rfl rfl rfl fun a1 F1 => ?_
    refine sr (v := (.bool false)) F1 (run_lss rfl (F1.ev 5 rfl) rfl (decide_eq_false (by omega))) rfl rfl rfl fun a2 F2 => ?_
    refine sn ?_
    clear F0 F1
    refine wp_cond_false (F2.ev 6 rfl) ?_
    refine wp_exit ?_
    refine nxExit ?_
    refine nxExit ?_
    refine bkHere ?_
    refine nx ?_
    refine wsl ?_
    refine sr F2 (run_ldB rfl (F2.ev 3 rfl) (M0.at 0 rfl) Tryd.underlying23 rfl sz32k (szOf (cpT_len _ _))) rfl rfl rfl fun a3 F3 => ?_
    refine sqStore (i := 1) F3 M0 rfl rfl rfl (F3.ev 2 rfl) (F3.ev 14 rfl) rfl sz32k (szOf (cpT_len _ _)) (szOf List.length_replicate) (cells8_one _) fun a4 w2 F4 M1 => ?_
    refine sn ?_
    clear F2 F3 M0
    refine wp_ret ?_
    exact retB F4 rfl rfl (M1.at 1 rfl) Tryd.underlying23 rfl sz32k (szOf (cpT_len _ _)) ⟨by rw [cpT_all hLs], M1.below⟩
end Go.Proofs.YtconhhhggckcbaaDoor
