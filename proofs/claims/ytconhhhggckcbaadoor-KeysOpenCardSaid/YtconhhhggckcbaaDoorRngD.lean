/- The walks of the reference's key and Open (layer 38). Printed by gen_key30.py. -/
import Derived.Test.YtconhhhggckcbaaDoorShT
import Derived.Test.YtconhhhggckcbaaDoorEpQ
import Derived.Test.YtconhhhggckcbaaDoorShr6
namespace Go.Proofs.YtconhhhggckcbaaDoor
open Go.RowKit

attribute [local irreducible] sealS keyedS nonceS openS
def cpT (s : List UInt8) (i : Nat) : List UInt8 := (List.range 32).map fun q => if q < i then bt s q else 0
theorem cpT_len (s : List UInt8) (i : Nat) : (cpT s i).length = 32 := by simp [cpT]
theorem cpT_zero (s : List UInt8) : List.replicate 32 0 = cpT s 0 := by kernel_rfl
theorem cpT_step (s : List UInt8) (i : Nat) : (cpT s i).set i (bt s i) = cpT s (i + 1) := by
  unfold cpT
  apply List.ext_getElem?
  intro q
  rw [List.getElem?_set, List.length_map, List.length_range]
  by_cases hq : q < 32
  · rw [List.getElem?_map, List.getElem?_map, List.getElem?_range hq, Option.map_some, Option.map_some]
    by_cases h : i = q
    · subst h
      rw [if_pos rfl, if_pos hq, if_pos (by omega)]
    · rw [if_neg h]
      by_cases h1 : q < i
      · rw [if_pos h1, if_pos (by omega)]
      · rw [if_neg h1, if_neg (by omega)]
  · rw [List.getElem?_eq_none (by simp; omega), List.getElem?_eq_none (by simp; omega)]
    by_cases h : i = q
    · rw [if_pos h, if_neg (by omega)]
    · rw [if_neg h]
theorem cpT_all {s : List UInt8} (h : s.length = 32) : cpT s 32 = s := by
  unfold cpT
  apply List.ext_getElem?
  intro q
  by_cases hq : q < 32
  · rw [List.getElem?_map, List.getElem?_range hq, Option.map_some, if_pos hq, bt, List.getD_eq_getElem?_getD, List.getElem?_eq_getElem (by omega : q < s.length)]
    rfl
  · rw [List.getElem?_eq_none (by simp; omega), List.getElem?_eq_none (by omega)]
theorem dg_ep {e : Ep} {j : Nat} {u : Value} (h : (dgC e.c)[j]? = some u) : (epF e)[j]? = some u := by
  unfold epF
  rw [List.getElem?_append_left (List.getElem?_eq_some_iff.1 h).1]
  exact h
theorem back_step {E : List Ep} {k : List UInt8} {j : Nat} (h : j < E.length) : (allS E k).drop j = kyI E k j :: (allS E k).drop (j + 1) := by
  rw [List.drop_eq_getElem_cons (by rw [allS_len]; exact h)]
  congr 1
  simp [allS]
theorem back_last {E : List Ep} {k : List UInt8} (h : 0 < E.length) : (allS E k).drop (E.length - 1) = [k] := by
  rw [back_step (by omega), kyI_last (by omega), List.drop_of_length_le (by rw [allS_len]; omega)]
theorem back_cells {E : List Ep} {k x : List UInt8} {j : Nat} (h : j < E.length) (hx : kyI E k j = x) : dgC x ++ ((allS E k).drop (j + 1)).flatMap dgC = ((allS E k).drop j).flatMap dgC := by
  rw [back_step h, hx, List.flatMap_cons]
section
variable {P : Program} {D : List Deferred} {w : World} {a : Act} {o : Oper} {w0 : World} {n s : Nat} {L : List (Nat × Value)} {v u : Value} {ops : Array Oper} {rest : List Oper} {Q : Exit → Act → World → Prop} {M : List (Nat × (Obj → Prop))} {x y : Operand}
theorem results_LT {fn : Func} {s2 g : Nat} {ty : TypeId} {v2 : Value} (hF : FrD D a n L) (hr : fn.results = #[.cell s ty, .tmp s2]) (hl : lk L s = some (.pointer (some ⟨g, 0, none⟩))) (h1 : (loadVar ty ⟨g, 0, none⟩).run P w = .ok v w) (hl2 : lk L s2 = some v2) : (results fn a.tmps).run P w = .ok (.tuple #[v, v2]) w := by
  have e1 : a.tmps[s]?.getD undef = .pointer (some ⟨g, 0, none⟩) := by rw [hF.at s hl]; rfl
  have e2 : a.tmps[s2]?.getD undef = v2 := by rw [hF.at s2 hl2]; rfl
  simp [results, hr, e1, e2, asAddr, h1]
/-- a row joined to another one, which isn't empty. -/
theorem sqAppendL {t e : TypeId} {size bytes n0 m : Nat} {xs news : List Value} (E : ElT P t e size bytes) (hF : FrD D a n L) (hM : Mem w0 M w) (hO : OwnR w0 M w e size v n0 xs) (hgd : o.guard = none)
    (ho : o.op = .call { callee := .builtin .append, args := #[x, y], argTypes := #[t, t] }) (hx : a.eval x = v) (hy : a.eval y = u) (hs : Sl w u size m news) (hm : 0 < m) (h1 : ∀ u ∈ news, u.oneCell' = true)
    (h63 : n0 + m ≤ maxLen) (hbytes : (n0 + m) * bytes ≤ 140737488355328) (hd : o.dst = some s) (hsn : s < n)
    (h : ∀ v2 a2 w2, OwnR w0 M w2 e size v2 (n0 + m) (xs ++ news) → Mem w0 M w2 → FrD D a2 n ((s, v2) :: L) → wpList P ops Q rest a2 w2) : wpList P ops Q (o :: rest) a w := by
  rcases hs.2 with ⟨_, h0⟩ | ⟨b, off, c, rfl, _, hc⟩
  · omega
  · exact sqAppend E hF hM hO hgd ho hx hy hs.1 (fun j u hj => by rw [addr_add]; exact hc j u hj) h1 h63 hbytes hd hsn fun v2 a2 w2 h2 h3 _ h4 => h v2 a2 w2 h2 h3 h4
end
set_option maxRecDepth 100000 in
set_option maxHeartbeats 1000000 in
theorem rkey38_any (s : List UInt8) (w : World) (hLs : s.length = 32) : Calls Tryd.prog 53 #[.string ⟨s.toArray⟩] w fun e w' => e = .returned (.agg (cells8 s)) ∧ Below w.heap.size w w' := by
  refine walk_enter Tryd.func53 rfl rfl rfl fun a0 F0 => ?_
  have M0 := Mem.new w
  refine wsl ?_
  refine sqNew (cs := (cells8 (List.replicate 32 0))) (t := 23) F0 M0 (wantedS rfl) (run_alloc rfl (by kernel_rfl)) rfl (by decide) fun g0 a1 w1 hgg0 hb1 F1 M1 => ?_
  refine sn ?_
  clear F0 M0
  refine wsl ?_
  refine sqNew (cs := (cells8 (List.replicate 32 0))) (t := 23) F1 M1 (wantedS rfl) (run_alloc rfl (by kernel_rfl)) rfl (by decide) fun g1 a2 w2 hgg1 hb2 F2 M2 => ?_
  refine sn ?_
  clear F1 M1
  refine wp_seq ?_
  refine wsl ?_
  refine sr (v := (.int .i64 0)) F2 (run_as rfl rfl) rfl rfl rfl fun a3 F3 => ?_
  refine sn ?_
  clear F2
  refine wp_block ?_
  refine wkLoop (fun m a0 w2 => ∃ i : Nat, i ≤ 32 ∧ m = 32 - i ∧ Fr a0 15 [(0, .string ⟨s.toArray⟩), (2, .pointer (some ⟨g0, 0, none⟩)), (3, .pointer (some ⟨g1, 0, none⟩)), (4, .int .i64 (i : Int))] ∧ Mem w [(g1, isB 23 (cells8 (cpT s i))), (g0, isB 23 (cells8 (List.replicate 32 0)))] w2) 32 ⟨0, Nat.zero_le _, rfl, F3.sub ⟨rfl, rfl, rfl, rfl, trivial⟩, by rw [← cpT_zero]; exact M2⟩ ?_
  rintro m a0 w1 ⟨i, hi, rfl, F0, M0⟩
  have hcl := cpT_len s i
  by_cases h1 : i < 32
  · skip
    refine wp_seq ?_
    refine wsl ?_
    refine mvS F0 rfl rfl rfl rfl rfl fun a1 F1 => ?_
    refine sr (v := (.bool true)) F1 (run_lss rfl (F1.ev 5 rfl) rfl (decide_eq_true (by omega))) rfl rfl rfl fun a2 F2 => ?_
    refine sn ?_
    clear F0 F1
    refine cts (F2.ev 6 rfl) ?_
    refine wp_seq ?_
    refine wp_block ?_
    refine wp_region_lit ?_
    refine mvS F2 rfl rfl rfl rfl rfl fun a3 F3 => ?_
    refine mvS F3 rfl rfl rfl rfl rfl fun a4 F4 => ?_
    refine mvS F4 rfl rfl rfl rfl rfl fun a5 F5 => ?_
    refine sr (v := (.int .u8 ((bt s i).toNat : Int))) F5 (run_sAt (n := i) rfl (F5.ev 10 rfl) (F5.ev 11 rfl) Tryd.underlying9 rfl (by omega)) rfl rfl rfl fun a6 F6 => ?_
    refine sr (v := (.pointer (some ⟨g1, i, none⟩))) F6 (run_idxA (i := i) (cnt := 32) rfl (F6.ev 3 rfl) (F6.ev 9 rfl) rfl (by omega) Tryd.underlying23 (by kernel_rfl)) rfl rfl rfl fun a7 F7 => ?_
    refine sqSetA (j := 0) (l := (cpT s i)) F7 M0 rfl rfl rfl (F7.ev 13 rfl) (F7.ev 12 rfl) rfl (by omega) fun a8 w2 F8 M1 => ?_
    refine sqEnd ?_
    clear F2 F3 F4 F5 F6 F7 M0
    refine bkEnd ?_
    refine nx ?_
    refine wp_region_lit ?_
    refine mvS F8 rfl rfl rfl rfl rfl fun a9 F9 => ?_
    refine sr F9 (run_add (r := ((i + 1 : Nat) : Int)) rfl (F9.ev 7 rfl) rfl (by rw [IntKind.wrap_i64]; omega)) rfl rfl rfl fun a10 F10 => ?_
    refine asS F10 rfl rfl rfl rfl rfl fun a11 F11 => ?_
    refine sn ?_
    clear F8 F9 F10
    exact ⟨_, by omega, i + 1, by omega, rfl, F11.sub ⟨rfl, rfl, rfl, rfl, trivial⟩, by rw [← cpT_step]; exact M1⟩
  · obtain rfl : i = 32 := by omega
    refine wp_seq ?_
    refine wsl ?_
    refine mvS F0 rfl rfl rfl rfl rfl fun a1 F1 => ?_
    refine sr (v := (.bool false)) F1 (run_lss rfl (F1.ev 5 rfl) rfl (decide_eq_false (by omega))) rfl rfl rfl fun a2 F2 => ?_
    refine sn ?_
    clear F0 F1
    refine wp_cond_false (F2.ev 6 rfl) ?_
    refine wp_exit ?_
    refine nxExit ?_
    refine nxExit ?_
    refine bkHere ?_
    refine nx ?_
    refine wsl ?_
    refine sr F2 (run_ldB rfl (F2.ev 3 rfl) (M0.at 0 rfl) Tryd.underlying23 rfl sz32k (szOf (cpT_len _ _))) rfl rfl rfl fun a3 F3 => ?_
    refine sqStore (i := 1) F3 M0 rfl rfl rfl (F3.ev 2 rfl) (F3.ev 14 rfl) rfl sz32k (szOf (cpT_len _ _)) (szOf List.length_replicate) (cells8_one _) fun a4 w2 F4 M1 => ?_
    refine sn ?_
    clear F2 F3 M0
    refine wp_ret ?_
    exact retB F4 rfl rfl (M1.at 1 rfl) Tryd.underlying23 rfl sz32k (szOf (cpT_len _ _)) ⟨by rw [cpT_all hLs], M1.below⟩
set_option maxRecDepth 100000 in
set_option maxHeartbeats 1000000 in
theorem ropen38_any (E : List Ep) (l : List Sh) (v u : Value) (w : World) (hV : Sl w v 33 E.length (E.flatMap epF)) (hE32 : ∀ e ∈ E, e.c.length = 32) (hEw : ∀ e ∈ E, e.wr.length ≤ 140737488351232) (hU : Sl w u 33 l.length (l.flatMap shareC)) (hEl : E.length < 2 ^ 36) : Calls Tryd.prog 24 #[.agg #[v], u] w fun e w' => ∃ u, e = .returned u ∧ Kp.sat w.heap.size (.tup2 (.st (.row 23 32 ((opnS E l).1.length) ((opnS E l).1.flatMap dgC))) (.val (.int .i64 ((opnS E l).2)))) u w' ∧ Below w.heap.size w w' := by
  by_cases hE : E = []
  · have hl0 : E.length = 0 := by rw [hE]; rfl
    have hs : opnS E l = ([], 1) := by unfold opnS; rw [if_pos hE]
    refine walk_enter Tryd.func24 rfl rfl rfl fun a0 F0 => ?_
    have M0 := Mem.new w
    refine wsl ?_
    refine sqNew (cs := #[v]) (t := 27) F0 M0 (wantedS rfl) (run_box rfl (F0.ev 0 rfl)) rfl (by decide) fun g0 a1 w1 hgg0 hb1 F1 M1 => ?_
    refine sqNew (cs := #[.slice none 0 0]) (t := 30) F1 M1 (wantedS rfl) (run_alloc rfl (by kernel_rfl)) rfl (by decide) fun g1 a2 w2 hgg1 hb2 F2 M2 => ?_
    refine sr (v := (.int .i64 0)) F2 (run_as rfl rfl) rfl rfl rfl fun a3 F3 => ?_
    refine sn ?_
    clear F0 F1 F2 M0 M1
    refine wp_seq ?_
    refine wsl ?_
    refine sr F3 (run_fldA (m := 1) (s := 0) rfl (F3.ev 2 rfl) Tryd.underlying27 rfl rfl (by kernel_rfl) (by decide)) rfl rfl rfl fun a4 F4 => ?_
    refine sr (v := v) F4 (run_ldF rfl (F4.ev 12 rfl) (M2.at 1 rfl) rfl (by kernel_rfl)) rfl rfl rfl fun a5 F5 => ?_
    refine sr F5 (run_lenS rfl (F5.ev 13 rfl) (hV.below M2.below) rfl Tryd.underlying25) rfl rfl rfl fun a6 F6 => ?_
    refine sr (v := (.bool true)) F6 (run_eqi rfl (F6.ev 14 rfl) rfl (beq_iff_eq.2 (by omega))) rfl rfl rfl fun a7 F7 => ?_
    refine sn ?_
    clear F3 F4 F5 F6
    refine wp_cond_true (F7.ev 15 rfl) ?_
    refine wsl ?_
    refine sr (v := (.agg #[.slice none 0 0])) F7 (run_blt (vs := #[]) (cs := #[.slice none 0 0]) rfl (by simp) (by kernel_rfl)) rfl rfl rfl fun a8 F8 => ?_
    refine sqStore (i := 0) F8 M2 rfl rfl rfl (F8.ev 4 rfl) (F8.ev 16 rfl) rfl szKy rfl rfl (arr_one rfl) fun a9 w3 F9 M3 => ?_
    refine sr (v := (.int .i64 1)) F9 (run_as rfl rfl) rfl rfl rfl fun a10 F10 => ?_
    refine sn ?_
    clear F7 F8 F9 M2
    refine wp_ret ?_
    refine nxRet ?_
    exact retV F10 (results_LT F10 rfl rfl (loadVar_all (M3.at 0 rfl) Tryd.underlying30 rfl szKy rfl) rfl) ⟨_, rfl, by rw [hs]; exact ⟨_, _, rfl, ⟨_, rfl, ⟨rfl, .inl ⟨rfl, rfl⟩⟩⟩, rfl⟩, M3.below⟩
  have hE0 : 0 < E.length := List.length_pos_iff.2 hE
  cases hJ : joinT l with
  | none =>
    have hs : opnS E l = ([], 1) := by unfold opnS; rw [if_neg hE, hJ]
    refine walk_enter Tryd.func24 rfl rfl rfl fun a0 F0 => ?_
    have M0 := Mem.new w
    refine wsl ?_
    refine sqNew (cs := #[v]) (t := 27) F0 M0 (wantedS rfl) (run_box rfl (F0.ev 0 rfl)) rfl (by decide) fun g0 a1 w1 hgg0 hb1 F1 M1 => ?_
    refine sqNew (cs := #[.slice none 0 0]) (t := 30) F1 M1 (wantedS rfl) (run_alloc rfl (by kernel_rfl)) rfl (by decide) fun g1 a2 w2 hgg1 hb2 F2 M2 => ?_
    refine sr (v := (.int .i64 0)) F2 (run_as rfl rfl) rfl rfl rfl fun a3 F3 => ?_
    refine sn ?_
    clear F0 F1 F2 M0 M1
    refine wp_seq ?_
    refine wsl ?_
    refine sr F3 (run_fldA (m := 1) (s := 0) rfl (F3.ev 2 rfl) Tryd.underlying27 rfl rfl (by kernel_rfl) (by decide)) rfl rfl rfl fun a4 F4 => ?_
    refine sr (v := v) F4 (run_ldF rfl (F4.ev 12 rfl) (M2.at 1 rfl) rfl (by kernel_rfl)) rfl rfl rfl fun a5 F5 => ?_
    refine sr F5 (run_lenS rfl (F5.ev 13 rfl) (hV.below M2.below) rfl Tryd.underlying25) rfl rfl rfl fun a6 F6 => ?_
    refine sr (v := (.bool false)) F6 (run_eqi rfl (F6.ev 14 rfl) rfl (beq_eq_false_iff_ne.2 (by omega))) rfl rfl rfl fun a7 F7 => ?_
    refine sn ?_
    clear F3 F4 F5 F6
    refine cfs (F7.ev 15 rfl) ?_
    refine wsl ?_
    refine mvS F7 rfl rfl rfl rfl rfl fun a8 F8 => ?_
    refine sqC (v := (.tuple #[(.agg (cells8 (List.replicate 32 0))), (.int .i64 1)])) F8 M2 (wantedS rfl) (run_call rfl Tryd.func50 (by kernel_rfl) rfl (mapE1 (F8.ev 18 rfl))) rfl (by decide) ((by have h := rjoin_any l u w2 (hU.below M2.below); rw [hJ] at h; exact h)) fun a9 w3 hb3 F9 M3 => ?_
    refine mvS F9 rfl rfl rfl rfl rfl fun a10 F10 => ?_
    refine sr (v := (.agg (cells8 (List.replicate 32 0)))) F10 (run_ext rfl (F10.ev 17 rfl) rfl) rfl rfl rfl fun a11 F11 => ?_
    refine sr (v := (.int .i64 1)) F11 (run_ext rfl (F11.ev 17 rfl) rfl) rfl rfl rfl fun a12 F12 => ?_
    refine sqNew (cs := (cells8 (List.replicate 32 0))) (t := 23) F12 M3 (wantedS rfl) (run_alloc rfl (by kernel_rfl)) rfl (by decide) fun g2 a13 w4 hgg2 hb4 F13 M4 => ?_
    refine sqStore (i := 0) F13 M4 rfl rfl rfl (F13.ev 6 rfl) (F13.ev 20 rfl) rfl sz32k (szOf List.length_replicate) (szOf List.length_replicate) (cells8_one _) fun a14 w5 F14 M5 => ?_
    refine asS F14 rfl rfl rfl rfl rfl fun a15 F15 => ?_
    refine sn ?_
    clear F7 F8 F9 F10 F11 F12 F13 F14 M2 M3 M4
    refine wp_seq ?_
    refine wsl ?_
    refine mvS F15 rfl rfl rfl rfl rfl fun a16 F16 => ?_
    refine sr (v := (.bool true)) F16 (run_nei rfl (F16.ev 22 rfl) rfl (bne_iff_ne.2 (by omega))) rfl rfl rfl fun a17 F17 => ?_
    refine sn ?_
    clear F15 F16
    refine wp_cond_true (F17.ev 23 rfl) ?_
    refine wsl ?_
    refine sr (v := (.agg #[.slice none 0 0])) F17 (run_blt (vs := #[]) (cs := #[.slice none 0 0]) rfl (by simp) (by kernel_rfl)) rfl rfl rfl fun a18 F18 => ?_
    refine mvS F18 rfl rfl rfl rfl rfl fun a19 F19 => ?_
    refine sqStore (i := 1) F19 M5 rfl rfl rfl (F19.ev 4 rfl) (F19.ev 24 rfl) rfl szKy rfl rfl (arr_one rfl) fun a20 w6 F20 M6 => ?_
    refine asS F20 rfl rfl rfl rfl rfl fun a21 F21 => ?_
    refine sn ?_
    clear F17 F18 F19 F20 M5
    refine wp_ret ?_
    refine nxRet ?_
    exact retV F21 (results_LT F21 rfl rfl (loadVar_all (M6.at 1 rfl) Tryd.underlying30 rfl szKy rfl) rfl) ⟨_, rfl, by rw [hs]; exact ⟨_, _, rfl, ⟨_, rfl, ⟨rfl, .inl ⟨rfl, rfl⟩⟩⟩, rfl⟩, M6.below⟩
  | some k =>
    have hLk := joinT_len hJ
    have hs0 : opnS E l = opnK E k := by unfold opnS; rw [if_neg hE, hJ]
    refine walk_enter Tryd.func24 rfl rfl rfl fun a0 F0 => ?_
    have M0 := Mem.new w
    refine wsl ?_
    refine sqNew (cs := #[v]) (t := 27) F0 M0 (wantedS rfl) (run_box rfl (F0.ev 0 rfl)) rfl (by decide) fun g0 a1 w1 hgg0 hb1 F1 M1 => ?_
    refine sqNew (cs := #[.slice none 0 0]) (t := 30) F1 M1 (wantedS rfl) (run_alloc rfl (by kernel_rfl)) rfl (by decide) fun g1 a2 w2 hgg1 hb2 F2 M2 => ?_
    refine sr (v := (.int .i64 0)) F2 (run_as rfl rfl) rfl rfl rfl fun a3 F3 => ?_
    refine sn ?_
    clear F0 F1 F2 M0 M1
    refine wp_seq ?_
    refine wsl ?_
    refine sr F3 (run_fldA (m := 1) (s := 0) rfl (F3.ev 2 rfl) Tryd.underlying27 rfl rfl (by kernel_rfl) (by decide)) rfl rfl rfl fun a4 F4 => ?_
    refine sr (v := v) F4 (run_ldF rfl (F4.ev 12 rfl) (M2.at 1 rfl) rfl (by kernel_rfl)) rfl rfl rfl fun a5 F5 => ?_
    refine sr F5 (run_lenS rfl (F5.ev 13 rfl) (hV.below M2.below) rfl Tryd.underlying25) rfl rfl rfl fun a6 F6 => ?_
    refine sr (v := (.bool false)) F6 (run_eqi rfl (F6.ev 14 rfl) rfl (beq_eq_false_iff_ne.2 (by omega))) rfl rfl rfl fun a7 F7 => ?_
    refine sn ?_
    clear F3 F4 F5 F6
    refine cfs (F7.ev 15 rfl) ?_
    refine wsl ?_
    refine mvS F7 rfl rfl rfl rfl rfl fun a8 F8 => ?_
    refine sqC (v := (.tuple #[(.agg (cells8 k)), (.int .i64 0)])) F8 M2 (wantedS rfl) (run_call rfl Tryd.func50 (by kernel_rfl) rfl (mapE1 (F8.ev 18 rfl))) rfl (by decide) ((by have h := rjoin_any l u w2 (hU.below M2.below); rw [hJ] at h; exact h)) fun a9 w3 hb3 F9 M3 => ?_
    refine mvS F9 rfl rfl rfl rfl rfl fun a10 F10 => ?_
    refine sr (v := (.agg (cells8 k))) F10 (run_ext rfl (F10.ev 17 rfl) rfl) rfl rfl rfl fun a11 F11 => ?_
    refine sr (v := (.int .i64 0)) F11 (run_ext rfl (F11.ev 17 rfl) rfl) rfl rfl rfl fun a12 F12 => ?_
    refine sqNew (cs := (cells8 (List.replicate 32 0))) (t := 23) F12 M3 (wantedS rfl) (run_alloc rfl (by kernel_rfl)) rfl (by decide) fun g2 a13 w4 hgg2 hb4 F13 M4 => ?_
    refine sqStore (i := 0) F13 M4 rfl rfl rfl (F13.ev 6 rfl) (F13.ev 20 rfl) rfl sz32k (szOf hLk) (szOf List.length_replicate) (cells8_one _) fun a14 w5 F14 M5 => ?_
    refine asS F14 rfl rfl rfl rfl rfl fun a15 F15 => ?_
    refine sn ?_
    clear F7 F8 F9 F10 F11 F12 F13 F14 M2 M3 M4
    refine wp_seq ?_
    refine wsl ?_
    refine mvS F15 rfl rfl rfl rfl rfl fun a16 F16 => ?_
    refine sr (v := (.bool false)) F16 (run_nei rfl (F16.ev 22 rfl) rfl (bne_eq_false_iff_eq.2 (by omega))) rfl rfl rfl fun a17 F17 => ?_
    refine sn ?_
    clear F15 F16
    refine cfs (F17.ev 23 rfl) ?_
    refine wsl ?_
    refine sr F17 (run_ldB rfl (F17.ev 6 rfl) (M5.at 0 rfl) Tryd.underlying23 rfl sz32k (szOf hLk)) rfl rfl rfl fun a18 F18 => ?_
    refine sqOwnN (cs := ([k].flatMap dgC)) (size := 32) (e := 23) (m := 1) F18 M5 (wantedS rfl) (run_keys1 hLk rfl (F18.ev 26 rfl)) (flat_lenG dgC_len [k]) (by unfold maxLen; omega) rfl (by decide) fun v3 a19 w6 hO1 hb6 M6 F19 => ?_
    refine asS F19 rfl rfl rfl rfl rfl fun a20 F20 => ?_
    refine sn ?_
    clear F17 F18 F19 M5
    refine wp_seq ?_
    refine wsl ?_
    refine sr F20 (run_fldA (m := 1) (s := 0) rfl (F20.ev 2 rfl) Tryd.underlying27 rfl rfl (by kernel_rfl) (by decide)) rfl rfl rfl fun a21 F21 => ?_
    refine sr (v := v) F21 (run_ldF rfl (F21.ev 28 rfl) (M6.at 2 rfl) rfl (by kernel_rfl)) rfl rfl rfl fun a22 F22 => ?_
    refine sr F22 (run_lenS rfl (F22.ev 29 rfl) (hV.below M6.below) rfl Tryd.underlying25) rfl rfl rfl fun a23 F23 => ?_
    refine sr F23 (run_sub (r := ((E.length - 1 : Nat) : Int)) rfl (F23.ev 30 rfl) rfl (by rw [IntKind.wrap_i64]; omega)) rfl rfl rfl fun a24 F24 => ?_
    refine asS F24 rfl rfl rfl rfl rfl fun a25 F25 => ?_
    refine sn ?_
    clear F20 F21 F22 F23 F24
    refine wp_block ?_
    have hk0 : kyI E k (E.length - 1) = k := kyI_last (by omega)
    refine wkLoop (fun m a0 w2 => ∃ (i : Nat) (vo : Value), i < E.length ∧ m = i ∧ (∀ q, i < q → q < E.length → okI E k q) ∧ Fr a0 76 [(1, u), (2, .pointer (some ⟨g0, 0, none⟩)), (4, .pointer (some ⟨g1, 0, none⟩)), (6, .pointer (some ⟨g2, 0, none⟩)), (8, vo), (9, .int .i64 (i : Int))] ∧ Mem w [(g2, isB 23 (cells8 (kyI E k i))), (g1, isB 30 #[.slice none 0 0]), (g0, isB 27 #[v])] w2 ∧ OwnR w [(g2, isB 23 (cells8 (kyI E k i))), (g1, isB 30 #[.slice none 0 0]), (g0, isB 27 #[v])] w2 23 32 vo (E.length - i) (((allS E k).drop i).flatMap dgC)) (E.length - 1) ⟨E.length - 1, v3, by omega, rfl, fun q h1 h2 => by omega, F25.sub ⟨rfl, rfl, rfl, rfl, rfl, rfl, trivial⟩, by rw [hk0]; exact M6.sub (.cons_cons _ (.cons_cons _ (.cons_cons _ .slnil))), by rw [hk0, back_last hE0, show E.length - (E.length - 1) = 1 by omega]; exact hO1.sub (.cons_cons _ (.cons_cons _ (.cons_cons _ .slnil)))⟩ ?_
    rintro m a0 w1 ⟨i, vo, hi, rfl, hok, F0, M0, hO0⟩
    obtain ⟨e, he⟩ : ∃ e, E[m]? = some e := ⟨E[m], List.getElem?_eq_getElem hi⟩
    have hLe := hE32 e (List.mem_of_getElem? he)
    have hLky := kyI_len (E := E) (k := k) hLk hi hok
    obtain ⟨ky, hky⟩ : ∃ ky, kyI E k m = ky := ⟨_, rfl⟩
    rw [hky] at M0 hLky hO0
    refine wp_seq ?_
    refine wsl ?_
    refine mvS F0 rfl rfl rfl rfl rfl fun a1 F1 => ?_
    refine sr (v := (.bool true)) F1 (run_geq rfl (F1.ev 32 rfl) rfl (decide_eq_true (by omega))) rfl rfl rfl fun a2 F2 => ?_
    refine sn ?_
    clear F0 F1
    refine cts (F2.ev 33 rfl) ?_
    refine wp_seq ?_
    refine wp_block ?_
    refine wp_seq ?_
    refine wp_seq ?_
    by_cases hck : keyedS ky [99, 104, 101, 99, 107] = e.c
    · skip
      obtain ⟨KL, hKL⟩ : ∃ KL, KL = [kval (.agg (cells8 ky)), kval (.agg (cells8 (keyedS ky [99, 104, 101, 99, 107]))), kval (.pointer (some ⟨g0, 0, none⟩)), kval v, kval (.int .i64 (m : Int)), kval (slPtr v (m * 33)), kval (slPtr v (m * 33 + 0)), kval (.agg (cells8 e.c)), kval (.bool false)] := ⟨_, rfl⟩
      have K0 := getK hKL 0
      have K1 := getK hKL 1
      have K2 := getK hKL 2
      have K3 := getK hKL 3
      have K4 := getK hKL 4
      have K5 := getK hKL 5
      have K6 := getK hKL 6
      have K7 := getK hKL 7
      have K8 := getK hKL 8
      clear hKL
      refine wp_region_kd 76 (by kernel_rfl) (by kernel_rfl) (by kernel_rfl) F2.size KL ?_ ?_
      · refine ⟨?_, ?_, ?_, ?_, ?_, ?_, ?_, ?_, ?_, trivial⟩
        · exact asksY rfl fun a W hS hh hd => giv_run (run_ldB rfl (eval_tmp (hh 6 _ rfl (F2.at 6 rfl))) ((M0.grow hS).at 0 rfl) Tryd.underlying23 rfl sz32k (szOf hLky)) K0
        · exact asksY rfl fun a W hS hh hd => giv_call (run_call rfl Tryd.func51 (by kernel_rfl) rfl (mapE2 (eval_tmp (hd.vl 0 36 (by kernel_rfl) K0)) rfl)) (of38_any ky [99, 104, 101, 99, 107] W hLky (by first | omega | decide | (simp; done) | (simp; omega))) K1
        · exact asksY rfl fun a W hS hh hd => giv_run (run_fldA (m := 1) (s := 0) rfl (eval_tmp (hh 2 _ rfl (F2.at 2 rfl))) Tryd.underlying27 rfl rfl (by kernel_rfl) (by decide)) K2
        · exact asksY rfl fun a W hS hh hd => giv_run (run_ldF rfl (eval_tmp (hd.vl 2 38 (by kernel_rfl) K2)) ((M0.grow hS).at 2 rfl) rfl (by kernel_rfl)) K3
        · exact asksY rfl fun a W hS hh hd => giv_run (run_mv rfl (eval_tmp (hh 9 _ rfl (F2.at 9 rfl)))) K4
        · exact asksY rfl fun a W hS hh hd => giv_run (run_atP (i := m) rfl (eval_tmp (hd.vl 3 39 (by kernel_rfl) K3)) (eval_tmp (hd.vl 4 40 (by kernel_rfl) K4)) rfl (hV.below (M0.grow hS).below) (by omega) elEp.un (by kernel_rfl)) K5
        · exact asksY rfl fun a W hS hh hd => giv_run (run_fldP (m2 := 32) (s := 0) rfl (eval_tmp (hd.vl 5 41 (by kernel_rfl) K5)) (hV.below (M0.grow hS).below) (by omega) Tryd.underlying76 rfl rfl (by kernel_rfl) (by decide)) K6
        · exact asksY rfl fun a W hS hh hd => giv_run (ldKey hLe (run_ldPS (ys := dgC e.c) rfl (eval_tmp (hd.vl 6 42 (by kernel_rfl) K6)) (hV.below (M0.grow hS).below) (by omega) (fun j u hj => by rw [Nat.add_zero]; exact flat_at epF_len he j (dg_ep hj)) (by kernel_rfl) (by rw [dgC_len]; kernel_rfl))) K7
        · exact asksY rfl fun a W hS hh hd => giv_run (run_neDB (keyedS_len _ _) hLe (beq_iff_eq.2 hck) rfl (eval_tmp (hd.vl 1 37 (by kernel_rfl) K1)) (eval_tmp (hd.vl 7 43 (by kernel_rfl) K7))) K8
      · intro a3 w2 hb2 hK
        have e0 := hK.vl 0 36 (by kernel_rfl) K0
        have e1 := hK.vl 1 37 (by kernel_rfl) K1
        have e2 := hK.vl 2 38 (by kernel_rfl) K2
        have e3 := hK.vl 3 39 (by kernel_rfl) K3
        have e4 := hK.vl 4 40 (by kernel_rfl) K4
        have e5 := hK.vl 5 41 (by kernel_rfl) K5
        have e6 := hK.vl 6 42 (by kernel_rfl) K6
        have e7 := hK.vl 7 43 (by kernel_rfl) K7
        have e8 := hK.vl 8 44 (by kernel_rfl) K8
        have F3 : Fr a3 76 [(1, u), (2, (.pointer (some ⟨g0, 0, none⟩))), (4, (.pointer (some ⟨g1, 0, none⟩))), (6, (.pointer (some ⟨g2, 0, none⟩))), (8, vo), (9, (.int .i64 (m : Int))), (32, (.int .i64 (m : Int))), (33, (.bool true)), (44, (.bool false))] := (hK.fr F2 [_, _, _, _, _, _, _, _, _] ⟨e0, e1, e2, e3, e4, e5, e6, e7, e8, trivial⟩).sub ⟨rfl, rfl, rfl, rfl, rfl, rfl, rfl, rfl, rfl, trivial⟩
        have M1 := M0.grow hb2
        have hO1 := hO0.grow hb2
        clear hK K0 e0 K1 e1 K2 e2 K3 e3 K4 e4 K5 e5 K6 e6 K7 e7 K8 e8
        clear F2 M0
        refine nx ?_
        refine cfs (F3.ev 44 rfl) ?_
        refine wp_seq ?_
        refine wp_seq ?_
        rcases Nat.eq_zero_or_pos m with hi0 | hi0
        · subst hi0
          have hoki : okI E k 0 := (okI_at he).2 (by rw [hky]; exact ⟨hck, fun h => absurd h (by omega)⟩)
          have hs : opnS E l = (allS E k, 0) := by
            rw [hs0, opnK, if_pos]
            intro q hq
            rcases Nat.eq_zero_or_pos q with rfl | h1
            · exact hoki
            · exact hok q h1 hq
          refine wp_region_lit ?_
          refine mvS F3 rfl rfl rfl rfl rfl fun a4 F4 => ?_
          refine sr (v := (.bool true)) F4 (run_eqi rfl (F4.ev 46 rfl) rfl (beq_iff_eq.2 (by omega))) rfl rfl rfl fun a5 F5 => ?_
          refine sn ?_
          clear F3 F4
          refine wp_cond_true (F5.ev 47 rfl) ?_
          refine wp_exit ?_
          refine nxExit ?_
          refine bkFar (by decide) ?_
          refine nxExit ?_
          refine nxExit ?_
          refine bkHere ?_
          refine nx ?_
          refine wsl ?_
          refine mvS F5 rfl rfl rfl rfl rfl fun a6 F6 => ?_
          refine sr (v := (.agg #[vo])) F6 (run_blt1 rfl (F6.ev 74 rfl) (own_slice hO1.owns) fun _ _ _ => by kernel_rfl) rfl rfl rfl fun a7 F7 => ?_
          refine sqStoreG (i := 1) F7 M1 rfl rfl rfl (F7.ev 4 rfl) (F7.ev 75 rfl) rfl szKy rfl rfl (one_own hO1.owns) fun a8 w3 hgr3 F8 M2 => ?_
          have hO2 := hO1.upd 1 (S2 := isB 30 #[vo]) rfl hgr3
          refine sr (v := (.int .i64 0)) F8 (run_as rfl rfl) rfl rfl rfl fun a9 F9 => ?_
          refine sn ?_
          clear F5 F6 F7 F8 M1
          refine wp_ret ?_
          exact retV F9 (results_LT F9 rfl rfl (loadVar_all (M2.at 1 rfl) Tryd.underlying30 rfl szKy rfl) rfl) ⟨_, rfl, by rw [hs]; exact ⟨_, _, rfl, ⟨_, rfl, by have h9 := hO2.owns; rw [List.drop_zero, Nat.sub_zero] at h9; rw [allS_len]; exact h9⟩, rfl⟩, M2.below⟩
        · obtain ⟨od, hod⟩ : ∃ od, openS (keyedS ky [119, 114, 97, 112]) [114, 105, 110, 103] e.wr = od := ⟨_, rfl⟩
          refine wp_region_lit ?_
          refine mvS F3 rfl rfl rfl rfl rfl fun a4 F4 => ?_
          refine sr (v := (.bool false)) F4 (run_eqi rfl (F4.ev 46 rfl) rfl (beq_eq_false_iff_ne.2 (by omega))) rfl rfl rfl fun a5 F5 => ?_
          refine sn ?_
          clear F3 F4
          refine cfs (F5.ev 47 rfl) ?_
          refine wp_seq ?_
          obtain ⟨KL, hKL⟩ : ∃ KL, KL = [kval (.agg (cells8 ky)), kval (.agg (cells8 (keyedS ky [119, 114, 97, 112]))), kval (.pointer (some ⟨g0, 0, none⟩)), kval v, kval (.int .i64 (m : Int)), kval (slPtr v (m * 33)), kval (slPtr v (m * 33 + 32)), kval (.string ⟨e.wr.toArray⟩), kval (.tuple #[(.string ⟨od.1.toArray⟩), (.int .i64 od.2)]), kval (.tuple #[(.string ⟨od.1.toArray⟩), (.int .i64 od.2)]), kval (.string ⟨od.1.toArray⟩), kval (.int .i64 od.2), kval (.string ⟨od.1.toArray⟩), kval (.int .i64 od.2)] := ⟨_, rfl⟩
          have K0 := getK hKL 0
          have K1 := getK hKL 1
          have K2 := getK hKL 2
          have K3 := getK hKL 3
          have K4 := getK hKL 4
          have K5 := getK hKL 5
          have K6 := getK hKL 6
          have K7 := getK hKL 7
          have K8 := getK hKL 8
          have K9 := getK hKL 9
          have K10 := getK hKL 10
          have K11 := getK hKL 11
          have K12 := getK hKL 12
          have K13 := getK hKL 13
          clear hKL
          refine wp_region_kd 76 (by kernel_rfl) (by kernel_rfl) (by kernel_rfl) F5.size KL ?_ ?_
          · refine ⟨?_, ?_, ?_, ?_, ?_, ?_, ?_, ?_, ?_, ?_, ?_, ?_, ?_, ?_, trivial⟩
            · exact asksY rfl fun a W hS hh hd => giv_run (run_ldB rfl (eval_tmp (hh 6 _ rfl (F5.at 6 rfl))) ((M1.grow hS).at 0 rfl) Tryd.underlying23 rfl sz32k (szOf hLky)) K0
            · exact asksY rfl fun a W hS hh hd => giv_call (run_call rfl Tryd.func51 (by kernel_rfl) rfl (mapE2 (eval_tmp (hd.vl 0 49 (by kernel_rfl) K0)) rfl)) (of38_any ky [119, 114, 97, 112] W hLky (by first | omega | decide | (simp; done) | (simp; omega))) K1
            · exact asksY rfl fun a W hS hh hd => giv_run (run_fldA (m := 1) (s := 0) rfl (eval_tmp (hh 2 _ rfl (F5.at 2 rfl))) Tryd.underlying27 rfl rfl (by kernel_rfl) (by decide)) K2
            · exact asksY rfl fun a W hS hh hd => giv_run (run_ldF rfl (eval_tmp (hd.vl 2 51 (by kernel_rfl) K2)) ((M1.grow hS).at 2 rfl) rfl (by kernel_rfl)) K3
            · exact asksY rfl fun a W hS hh hd => giv_run (run_mv rfl (eval_tmp (hh 9 _ rfl (F5.at 9 rfl)))) K4
            · exact asksY rfl fun a W hS hh hd => giv_run (run_atP (i := m) rfl (eval_tmp (hd.vl 3 52 (by kernel_rfl) K3)) (eval_tmp (hd.vl 4 53 (by kernel_rfl) K4)) rfl (hV.below (M1.grow hS).below) (by omega) elEp.un (by kernel_rfl)) K5
            · exact asksY rfl fun a W hS hh hd => giv_run (run_fldP (m2 := 1) (s := 32) rfl (eval_tmp (hd.vl 5 54 (by kernel_rfl) K5)) (hV.below (M1.grow hS).below) (by omega) Tryd.underlying76 rfl rfl (by kernel_rfl) (by decide)) K6
            · exact asksY rfl fun a W hS hh hd => giv_run (run_ldP rfl (eval_tmp (hd.vl 6 55 (by kernel_rfl) K6)) (hV.below (M1.grow hS).below) (flat_at epF_len he 32 rfl) (by kernel_rfl)) K7
            · exact asksY rfl fun a W hS hh hd => giv_call (run_call rfl Tryd.func52 (by kernel_rfl) rfl (mapE3 (eval_tmp (hd.vl 1 50 (by kernel_rfl) K1)) rfl (eval_tmp (hd.vl 7 56 (by kernel_rfl) K7)))) ((by have h := ropen_any (keyedS ky [119, 114, 97, 112]) [114, 105, 110, 103] e.wr W (keyedS_len _ _) (by have := hEw e (List.mem_of_getElem? he); simp; omega); rw [hod] at h; exact h)) K8
            · exact asksY rfl fun a W hS hh hd => giv_run (run_mv rfl (eval_tmp (hd.vl 8 57 (by kernel_rfl) K8))) K9
            · exact asksY rfl fun a W hS hh hd => giv_run (run_ext rfl (eval_tmp (hd.vl 9 48 (by kernel_rfl) K9)) rfl) K10
            · exact asksY rfl fun a W hS hh hd => giv_run (run_ext rfl (eval_tmp (hd.vl 9 48 (by kernel_rfl) K9)) rfl) K11
            · exact asksY rfl fun a W hS hh hd => giv_run (run_as rfl (eval_tmp (hd.vl 10 58 (by kernel_rfl) K10))) K12
            · exact asksY rfl fun a W hS hh hd => giv_run (run_as rfl (eval_tmp (hd.vl 11 59 (by kernel_rfl) K11))) K13
          · intro a6 w3 hb3 hK
            have e0 := hK.vl 0 49 (by kernel_rfl) K0
            have e1 := hK.vl 1 50 (by kernel_rfl) K1
            have e2 := hK.vl 2 51 (by kernel_rfl) K2
            have e3 := hK.vl 3 52 (by kernel_rfl) K3
            have e4 := hK.vl 4 53 (by kernel_rfl) K4
            have e5 := hK.vl 5 54 (by kernel_rfl) K5
            have e6 := hK.vl 6 55 (by kernel_rfl) K6
            have e7 := hK.vl 7 56 (by kernel_rfl) K7
            have e8 := hK.vl 8 57 (by kernel_rfl) K8
            have e9 := hK.vl 9 48 (by kernel_rfl) K9
            have e10 := hK.vl 10 58 (by kernel_rfl) K10
            have e11 := hK.vl 11 59 (by kernel_rfl) K11
            have e12 := hK.vl 12 10 (by kernel_rfl) K12
            have e13 := hK.vl 13 11 (by kernel_rfl) K13
            have F6 : Fr a6 76 [(1, u), (2, (.pointer (some ⟨g0, 0, none⟩))), (4, (.pointer (some ⟨g1, 0, none⟩))), (6, (.pointer (some ⟨g2, 0, none⟩))), (8, vo), (9, (.int .i64 (m : Int))), (10, (.string ⟨od.1.toArray⟩)), (11, (.int .i64 od.2)), (32, (.int .i64 (m : Int))), (33, (.bool true)), (44, (.bool false)), (46, (.int .i64 (m : Int))), (47, (.bool false))] := (hK.fr F5 [_, _, _, _, _, _, _, _, _, _, _, _, _, _] ⟨e0, e1, e2, e3, e4, e5, e6, e7, e8, e9, e10, e11, e12, e13, trivial⟩).sub ⟨rfl, rfl, rfl, rfl, rfl, rfl, rfl, rfl, rfl, rfl, rfl, rfl, rfl, trivial⟩
            have M2 := M1.grow hb3
            have hO2 := hO1.grow hb3
            clear hK K0 e0 K1 e1 K2 e2 K3 e3 K4 e4 K5 e5 K6 e6 K7 e7 K8 e8 K9 e9 K10 e10 K11 e11 K12 e12 K13 e13
            clear F5 M1
            refine nx ?_
            refine wp_seq ?_
            refine wp_seq ?_
            have hcs3 : (od.2 = 0 ∧ od.1.length = 32) ∨ (od.2 = 0 ∧ od.1.length ≠ 32) ∨ od.2 ≠ 0 := by omega
            rcases hcs3 with ⟨ho0, ho32⟩ | ⟨ho0, ho32⟩ | ho0
            · have hoki : okI E k m := (okI_at he).2 (by rw [hky]; exact ⟨hck, fun _ => by rw [show openS (keyedS ky wrapT) ringT e.wr = od from hod]; exact ⟨ho0, ho32⟩⟩)
              obtain ⟨j, rfl⟩ : ∃ j, m = j + 1 := ⟨m - 1, by omega⟩
              have hk1 : kyI E k j = od.1 := by
                rw [kyI_step he, hky, show openS (keyedS ky wrapT) ringT e.wr = od from hod]
              refine wp_region_lit ?_
              refine mvS F6 rfl rfl rfl rfl rfl fun a7 F7 => ?_
              refine sr (v := (.bool false)) F7 (run_nei rfl (F7.ev 60 rfl) rfl (bne_eq_false_iff_eq.2 ho0)) rfl rfl rfl fun a8 F8 => ?_
              refine mvS F8 rfl rfl rfl rfl rfl fun a9 F9 => ?_
              refine sq (v := (.string ⟨od.1.toArray⟩)) F9 (wantedG F9 rfl rfl rfl rfl rfl) (run_mv rfl (F9.ev 10 rfl)) rfl (by decide) fun a10 F10 => ?_
              refine sq (v := (.int .i64 (od.1.length : Int))) F10 (wantedG F10 rfl rfl rfl rfl rfl) (run_len rfl (F10.ev 63 rfl) rfl Tryd.underlying9) rfl (by decide) fun a11 F11 => ?_
              refine sq (v := (.bool false)) F11 (wantedG F11 rfl rfl rfl rfl rfl) (run_nei rfl (F11.ev 64 rfl) rfl (bne_eq_false_iff_eq.2 (by omega))) rfl (by decide) fun a12 F12 => ?_
              refine sr (v := (.bool false)) F12 (run_pick rfl (F12.ev 62 rfl) rfl (F12.ev 65 rfl)) rfl rfl rfl fun a13 F13 => ?_
              refine sn ?_
              clear F6 F7 F8 F9 F10 F11 F12
              refine cfs (F13.ev 66 rfl) ?_
              refine wsl ?_
              refine mvS F13 rfl rfl rfl rfl rfl fun a14 F14 => ?_
              refine sqC (v := (.agg (cells8 od.1))) F14 M2 (wantedS rfl) (run_call rfl Tryd.func53 (by kernel_rfl) rfl (mapE1 (F14.ev 68 rfl))) rfl (by decide) (rkey38_any od.1 w3 ho32) fun a15 w4 hb4 F15 M3 => ?_
              have hO3 := hO2.grow hb4
              refine sqStoreG (i := 0) F15 M3 rfl rfl rfl (F15.ev 6 rfl) (F15.ev 69 rfl) rfl sz32k (szOf ho32) (szOf hLky) (cells8_one _) fun a16 w5 hgr5 F16 M4 => ?_
              have hO4 := hO3.upd 0 (S2 := isB 23 (cells8 od.1)) rfl hgr5
              refine sn ?_
              clear F13 F14 F15 M2 M3
              refine wp_region_lit ?_
              refine sr F16 (run_ldB rfl (F16.ev 6 rfl) (M4.at 0 rfl) Tryd.underlying23 rfl sz32k (szOf ho32)) rfl rfl rfl fun a17 F17 => ?_
              refine sqOwnN (cs := ([od.1].flatMap dgC)) (size := 32) (e := 23) (m := 1) F17 M4 (wantedS rfl) (run_keys1 ho32 rfl (F17.ev 70 rfl)) (flat_lenG dgC_len [od.1]) (by unfold maxLen; omega) rfl (by decide) fun v4 a18 w6 hO5 hb6 M5 F18 => ?_
              have hO6 := hO4.grow hb6
              refine mvS F18 rfl rfl rfl rfl rfl fun a19 F19 => ?_
              refine sqAppendL (m := E.length - (j + 1)) (news := ((allS E k).drop (j + 1)).flatMap dgC) elKey F19 M5 hO5 rfl rfl (F19.ev 71 rfl) (F19.ev 72 rfl) (Sl.own hO6) (by omega) (flat_one dgC_one _) (by unfold maxLen; omega) (by omega) rfl (by decide) fun v5 a20 w7 hO7 M6 F20 => ?_
              refine asS F20 rfl rfl rfl rfl rfl fun a21 F21 => ?_
              refine sqEnd ?_
              refine bkEnd ?_
              refine nx ?_
              refine wp_region_lit ?_
              refine mvS F21 rfl rfl rfl rfl rfl fun a22 F22 => ?_
              refine sr F22 (run_sub (r := (j : Int)) rfl (F22.ev 34 rfl) rfl (by rw [IntKind.wrap_i64]; omega)) rfl rfl rfl fun a23 F23 => ?_
              refine asS F23 rfl rfl rfl rfl rfl fun a24 F24 => ?_
              refine sn ?_
              clear F21 F22 F23
              exact ⟨_, by omega, j, v5, by omega, rfl, fun q h1 h2 => by
                  rcases Nat.eq_or_lt_of_le h1 with h1 | h1
                  · exact h1 ▸ hoki
                  · exact hok q h1 h2, F24.sub ⟨rfl, rfl, rfl, rfl, rfl, rfl, trivial⟩, by rw [hk1]; exact M6, by rw [hk1, ← back_cells (by omega) hk1, show E.length - j = 1 + (E.length - (j + 1)) by omega]; exact hO7⟩
            · have hbad : ¬ okE m (kyI E k m) e := by
                rw [hky]
                intro h
                have h2 := (h.2 hi0).2
                rw [show openS (keyedS ky wrapT) ringT e.wr = od from hod] at h2
                exact ho32 h2
              have hs : opnS E l = ([], 21) := by rw [hs0, opnK_bad he hbad]
              refine wp_region_lit ?_
              refine mvS F6 rfl rfl rfl rfl rfl fun a7 F7 => ?_
              refine sr (v := (.bool false)) F7 (run_nei rfl (F7.ev 60 rfl) rfl (bne_eq_false_iff_eq.2 ho0)) rfl rfl rfl fun a8 F8 => ?_
              refine mvS F8 rfl rfl rfl rfl rfl fun a9 F9 => ?_
              refine sq (v := (.string ⟨od.1.toArray⟩)) F9 (wantedG F9 rfl rfl rfl rfl rfl) (run_mv rfl (F9.ev 10 rfl)) rfl (by decide) fun a10 F10 => ?_
              refine sq (v := (.int .i64 (od.1.length : Int))) F10 (wantedG F10 rfl rfl rfl rfl rfl) (run_len rfl (F10.ev 63 rfl) rfl Tryd.underlying9) rfl (by decide) fun a11 F11 => ?_
              refine sq (v := (.bool true)) F11 (wantedG F11 rfl rfl rfl rfl rfl) (run_nei rfl (F11.ev 64 rfl) rfl (bne_iff_ne.2 (by omega))) rfl (by decide) fun a12 F12 => ?_
              refine sr (v := (.bool true)) F12 (run_pick rfl (F12.ev 62 rfl) rfl (F12.ev 65 rfl)) rfl rfl rfl fun a13 F13 => ?_
              refine sn ?_
              clear F6 F7 F8 F9 F10 F11 F12
              refine wp_cond_true (F13.ev 66 rfl) ?_
              refine wsl ?_
              refine sr (v := (.agg #[.slice none 0 0])) F13 (run_blt (vs := #[]) (cs := #[.slice none 0 0]) rfl (by simp) (by kernel_rfl)) rfl rfl rfl fun a14 F14 => ?_
              refine sqStoreG (i := 1) F14 M2 rfl rfl rfl (F14.ev 4 rfl) (F14.ev 67 rfl) rfl szKy rfl rfl (arr_one rfl) fun a15 w4 hgr4 F15 M3 => ?_
              have hO3 := hO2.upd 1 (S2 := isB 30 (#[.slice none 0 0])) rfl hgr4
              refine sr (v := (.int .i64 21)) F15 (run_as rfl rfl) rfl rfl rfl fun a16 F16 => ?_
              refine sn ?_
              clear F13 F14 F15 M2
              refine wp_ret ?_
              refine nxRet ?_
              refine bkRet ?_
              refine nxRet ?_
              refine nxRet ?_
              refine bkRet ?_
              refine nxRet ?_
              exact retV F16 (results_LT F16 rfl rfl (loadVar_all (M3.at 1 rfl) Tryd.underlying30 rfl szKy rfl) rfl) ⟨_, rfl, by rw [hs]; exact ⟨_, _, rfl, ⟨_, rfl, ⟨rfl, .inl ⟨rfl, rfl⟩⟩⟩, rfl⟩, M3.below⟩
            · have hbad : ¬ okE m (kyI E k m) e := by
                rw [hky]
                intro h
                have h2 := (h.2 hi0).1
                rw [show openS (keyedS ky wrapT) ringT e.wr = od from hod] at h2
                exact ho0 h2
              have hs : opnS E l = ([], 21) := by rw [hs0, opnK_bad he hbad]
              refine wp_region_lit ?_
              refine mvS F6 rfl rfl rfl rfl rfl fun a7 F7 => ?_
              refine sr (v := (.bool true)) F7 (run_nei rfl (F7.ev 60 rfl) rfl (bne_iff_ne.2 ho0)) rfl rfl rfl fun a8 F8 => ?_
              refine mvS F8 rfl rfl rfl rfl rfl fun a9 F9 => ?_
              refine sqSkip F9 (unwantedG F9 rfl rfl rfl rfl rfl) rfl (by decide) fun a10 F10 => ?_
              refine sqSkip F10 (unwantedG F10 rfl rfl rfl rfl rfl) rfl (by decide) fun a11 F11 => ?_
              refine sqSkip F11 (unwantedG F11 rfl rfl rfl rfl rfl) rfl (by decide) fun a12 F12 => ?_
              refine sr (v := (.bool true)) F12 (run_pick rfl (F12.ev 62 rfl) rfl (F12.ev 65 rfl)) rfl rfl rfl fun a13 F13 => ?_
              refine sn ?_
              clear F6 F7 F8 F9 F10 F11 F12
              refine wp_cond_true (F13.ev 66 rfl) ?_
              refine wsl ?_
              refine sr (v := (.agg #[.slice none 0 0])) F13 (run_blt (vs := #[]) (cs := #[.slice none 0 0]) rfl (by simp) (by kernel_rfl)) rfl rfl rfl fun a14 F14 => ?_
              refine sqStoreG (i := 1) F14 M2 rfl rfl rfl (F14.ev 4 rfl) (F14.ev 67 rfl) rfl szKy rfl rfl (arr_one rfl) fun a15 w4 hgr4 F15 M3 => ?_
              have hO3 := hO2.upd 1 (S2 := isB 30 (#[.slice none 0 0])) rfl hgr4
              refine sr (v := (.int .i64 21)) F15 (run_as rfl rfl) rfl rfl rfl fun a16 F16 => ?_
              refine sn ?_
              clear F13 F14 F15 M2
              refine wp_ret ?_
              refine nxRet ?_
              refine bkRet ?_
              refine nxRet ?_
              refine nxRet ?_
              refine bkRet ?_
              refine nxRet ?_
              exact retV F16 (results_LT F16 rfl rfl (loadVar_all (M3.at 1 rfl) Tryd.underlying30 rfl szKy rfl) rfl) ⟨_, rfl, by rw [hs]; exact ⟨_, _, rfl, ⟨_, rfl, ⟨rfl, .inl ⟨rfl, rfl⟩⟩⟩, rfl⟩, M3.below⟩
    · have hbad : ¬ okE m (kyI E k m) e := by rw [hky]; exact fun h => hck h.1
      have hs : opnS E l = ([], 21) := by rw [hs0, opnK_bad he hbad]
      obtain ⟨KL, hKL⟩ : ∃ KL, KL = [kval (.agg (cells8 ky)), kval (.agg (cells8 (keyedS ky [99, 104, 101, 99, 107]))), kval (.pointer (some ⟨g0, 0, none⟩)), kval v, kval (.int .i64 (m : Int)), kval (slPtr v (m * 33)), kval (slPtr v (m * 33 + 0)), kval (.agg (cells8 e.c)), kval (.bool true)] := ⟨_, rfl⟩
      have K0 := getK hKL 0
      have K1 := getK hKL 1
      have K2 := getK hKL 2
      have K3 := getK hKL 3
      have K4 := getK hKL 4
      have K5 := getK hKL 5
      have K6 := getK hKL 6
      have K7 := getK hKL 7
      have K8 := getK hKL 8
      clear hKL
      refine wp_region_kd 76 (by kernel_rfl) (by kernel_rfl) (by kernel_rfl) F2.size KL ?_ ?_
      · refine ⟨?_, ?_, ?_, ?_, ?_, ?_, ?_, ?_, ?_, trivial⟩
        · exact asksY rfl fun a W hS hh hd => giv_run (run_ldB rfl (eval_tmp (hh 6 _ rfl (F2.at 6 rfl))) ((M0.grow hS).at 0 rfl) Tryd.underlying23 rfl sz32k (szOf hLky)) K0
        · exact asksY rfl fun a W hS hh hd => giv_call (run_call rfl Tryd.func51 (by kernel_rfl) rfl (mapE2 (eval_tmp (hd.vl 0 36 (by kernel_rfl) K0)) rfl)) (of38_any ky [99, 104, 101, 99, 107] W hLky (by first | omega | decide | (simp; done) | (simp; omega))) K1
        · exact asksY rfl fun a W hS hh hd => giv_run (run_fldA (m := 1) (s := 0) rfl (eval_tmp (hh 2 _ rfl (F2.at 2 rfl))) Tryd.underlying27 rfl rfl (by kernel_rfl) (by decide)) K2
        · exact asksY rfl fun a W hS hh hd => giv_run (run_ldF rfl (eval_tmp (hd.vl 2 38 (by kernel_rfl) K2)) ((M0.grow hS).at 2 rfl) rfl (by kernel_rfl)) K3
        · exact asksY rfl fun a W hS hh hd => giv_run (run_mv rfl (eval_tmp (hh 9 _ rfl (F2.at 9 rfl)))) K4
        · exact asksY rfl fun a W hS hh hd => giv_run (run_atP (i := m) rfl (eval_tmp (hd.vl 3 39 (by kernel_rfl) K3)) (eval_tmp (hd.vl 4 40 (by kernel_rfl) K4)) rfl (hV.below (M0.grow hS).below) (by omega) elEp.un (by kernel_rfl)) K5
        · exact asksY rfl fun a W hS hh hd => giv_run (run_fldP (m2 := 32) (s := 0) rfl (eval_tmp (hd.vl 5 41 (by kernel_rfl) K5)) (hV.below (M0.grow hS).below) (by omega) Tryd.underlying76 rfl rfl (by kernel_rfl) (by decide)) K6
        · exact asksY rfl fun a W hS hh hd => giv_run (ldKey hLe (run_ldPS (ys := dgC e.c) rfl (eval_tmp (hd.vl 6 42 (by kernel_rfl) K6)) (hV.below (M0.grow hS).below) (by omega) (fun j u hj => by rw [Nat.add_zero]; exact flat_at epF_len he j (dg_ep hj)) (by kernel_rfl) (by rw [dgC_len]; kernel_rfl))) K7
        · exact asksY rfl fun a W hS hh hd => giv_run (run_neDB (keyedS_len _ _) hLe (beq_eq_false_iff_ne.2 hck) rfl (eval_tmp (hd.vl 1 37 (by kernel_rfl) K1)) (eval_tmp (hd.vl 7 43 (by kernel_rfl) K7))) K8
      · intro a3 w2 hb2 hK
        have e0 := hK.vl 0 36 (by kernel_rfl) K0
        have e1 := hK.vl 1 37 (by kernel_rfl) K1
        have e2 := hK.vl 2 38 (by kernel_rfl) K2
        have e3 := hK.vl 3 39 (by kernel_rfl) K3
        have e4 := hK.vl 4 40 (by kernel_rfl) K4
        have e5 := hK.vl 5 41 (by kernel_rfl) K5
        have e6 := hK.vl 6 42 (by kernel_rfl) K6
        have e7 := hK.vl 7 43 (by kernel_rfl) K7
        have e8 := hK.vl 8 44 (by kernel_rfl) K8
        have F3 : Fr a3 76 [(1, u), (2, (.pointer (some ⟨g0, 0, none⟩))), (4, (.pointer (some ⟨g1, 0, none⟩))), (6, (.pointer (some ⟨g2, 0, none⟩))), (8, vo), (9, (.int .i64 (m : Int))), (32, (.int .i64 (m : Int))), (33, (.bool true)), (44, (.bool true))] := (hK.fr F2 [_, _, _, _, _, _, _, _, _] ⟨e0, e1, e2, e3, e4, e5, e6, e7, e8, trivial⟩).sub ⟨rfl, rfl, rfl, rfl, rfl, rfl, rfl, rfl, rfl, trivial⟩
        have M1 := M0.grow hb2
        have hO1 := hO0.grow hb2
        clear hK K0 e0 K1 e1 K2 e2 K3 e3 K4 e4 K5 e5 K6 e6 K7 e7 K8 e8
        clear F2 M0
        refine nx ?_
        refine wp_cond_true (F3.ev 44 rfl) ?_
        refine wsl ?_
        refine sr (v := (.agg #[.slice none 0 0])) F3 (run_blt (vs := #[]) (cs := #[.slice none 0 0]) rfl (by simp) (by kernel_rfl)) rfl rfl rfl fun a4 F4 => ?_
        refine sqStoreG (i := 1) F4 M1 rfl rfl rfl (F4.ev 4 rfl) (F4.ev 45 rfl) rfl szKy rfl rfl (arr_one rfl) fun a5 w3 hgr3 F5 M2 => ?_
        have hO2 := hO1.upd 1 (S2 := isB 30 (#[.slice none 0 0])) rfl hgr3
        refine sr (v := (.int .i64 21)) F5 (run_as rfl rfl) rfl rfl rfl fun a6 F6 => ?_
        refine sn ?_
        clear F3 F4 F5 M1
        refine wp_ret ?_
        refine nxRet ?_
        refine bkRet ?_
        refine nxRet ?_
        refine nxRet ?_
        refine bkRet ?_
        refine nxRet ?_
        exact retV F6 (results_LT F6 rfl rfl (loadVar_all (M2.at 1 rfl) Tryd.underlying30 rfl szKy rfl) rfl) ⟨_, rfl, by rw [hs]; exact ⟨_, _, rfl, ⟨_, rfl, ⟨rfl, .inl ⟨rfl, rfl⟩⟩⟩, rfl⟩, M2.below⟩
end Go.Proofs.YtconhhhggckcbaaDoor
