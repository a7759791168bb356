/- Laws and walks that many claims share: EqV, Dig0, KyB. -/
import Derived.Stop.BytesEq
import Derived.Test.YtconhhhggckcbaaDoorOpsB
import Derived.Test.YtconhhhggckcbaaDoorRef04B
import Derived.Test.YtconhhhggckcbaaDoorKyP
/- Equality of keys and of structs; hash.Keyed of one text; a guard on an operation that was skipped. -/
namespace Go.Proofs.YtconhhhggckcbaaDoor
open Go.RowKit
variable {D : List Deferred}

theorem list32 {k : List UInt8} (h : k.length = 32) : ∃ a0 a1 a2 a3 a4 a5 a6 a7 a8 a9 b0 b1 b2 b3 b4 b5 b6 b7 b8 b9 c0 c1 c2 c3 c4 c5 c6 c7 c8 c9 d0 d1, k = [a0, a1, a2, a3, a4, a5, a6, a7, a8, a9, b0, b1, b2, b3, b4, b5, b6, b7, b8, b9, c0, c1, c2, c3, c4, c5, c6, c7, c8, c9, d0, d1] := by
  match k, h with
  | [a0, a1, a2, a3, a4, a5, a6, a7, a8, a9, b0, b1, b2, b3, b4, b5, b6, b7, b8, b9, c0, c1, c2, c3, c4, c5, c6, c7, c8, c9, d0, d1], _ => exact ⟨a0, a1, a2, a3, a4, a5, a6, a7, a8, a9, b0, b1, b2, b3, b4, b5, b6, b7, b8, b9, c0, c1, c2, c3, c4, c5, c6, c7, c8, c9, d0, d1, rfl⟩
theorem len3 {α : Type} {l : List α} (h : l.length = 3) : ∃ a b c, l = [a, b, c] := by
  match l, h with
  | [a, b, c], _ => exact ⟨a, b, c, rfl⟩
theorem part_one {P : Program} {w : World} {t : TypeId} {A : Array Value} {i : Nat} {v : Value} (h : A[i]? = some v) (ha : (isAgg t).run P w = .ok false w) : (part t A i).run P w = .ok v w := by simp [part, h, ha]
theorem part_agg {P : Program} {w : World} {t : TypeId} {A B : Array Value} {i m : Nat} (h : A.extract i (i + m) = B) (ha : (isAgg t).run P w = .ok true w) (hz : (sizeOf t).run P w = .ok m w) : (part t A i).run P w = .ok (.agg B) w := by simp [part, h, ha, hz]
section
variable {a : Act} {o : Oper} {w w0 : World} {n s : Nat} {L : List (Nat × Value)} {v : Value} {x y z : Operand} {g : Nat} {t2 : TypeId}
end
theorem keyed1 (k x : List UInt8) (v : Value) (w : World) (hk : k.length = 32) (hG : Glob w) (hs : Strs w v [x]) (hx : x.length < 2 ^ 45) :
    Calls Tryd.prog 57 #[.agg (cells8 k), v] w fun e w' => e = .returned (.agg (cells8 (keyedS k x))) ∧ Below w.heap.size w w' := by
  have h := keyed_any k [x] v w hk hG hs (by simp; omega) (by simp)
  rwa [show [x].flatten = x by simp] at h
end Go.Proofs.YtconhhhggckcbaaDoor
/- Rows of digests: their cells, whole elements, equality. -/
namespace Go.Proofs.YtconhhhggckcbaaDoor
open Go.RowKit

def dgC (d : List UInt8) : List Value := (List.range 32).map fun i => cb (bt d i)
theorem dgC_len (d : List UInt8) : (dgC d).length = 32 := by simp [dgC]
theorem dgC_of {d : List UInt8} (h : d.length = 32) : dgC d = d.map cb := by
  apply List.ext_getElem?
  intro i
  unfold dgC
  rw [List.getElem?_map, List.getElem?_map]
  by_cases hi : i < 32
  · rw [List.getElem?_range hi, List.getElem?_eq_getElem (by omega)]
    simp [bt, h, hi]
  · rw [List.getElem?_eq_none (by simp; omega), List.getElem?_eq_none (by omega)]
    rfl
theorem dgC_one (d : List UInt8) : ∀ u ∈ dgC d, u.oneCell' = true := by
  intro u hu
  unfold dgC at hu
  obtain ⟨i, _, rfl⟩ := List.mem_map.1 hu
  rfl
theorem eqDg (C E : List UInt8) (hC : C.length = 32) (hE : E.length = 32) (w : World) : (Op.equalIn 10000 73 (.agg (cells8 C)) (.agg (cells8 E))).run Tryd.prog w = .ok (C == E) w :=
  run_equalIn_bytes (P := Tryd.prog) w 9998 73 5 32 Tryd.underlying73 Tryd.underlying5 so8 C E hC hE
/-- have unlike texts unlike sums? -/
def unB (l S : List (List UInt8)) (i k : Nat) : Bool := !((S.getD i [] == S.getD k []) && !(l.getD i [] == l.getD k []))
def unS (l S : List (List UInt8)) (i : Nat) : Bool := (List.range i).all (unB l S i)
def unlikeS (l S : List (List UInt8)) : Bool := (List.range l.length).all (unS l S)
end Go.Proofs.YtconhhhggckcbaaDoor
/- The walks of keys.Id, keys.Box and of the reference's. Printed by gen_chk3.py. -/
namespace Go.Proofs.YtconhhhggckcbaaDoor
open Go.RowKit

theorem szKy : (Tryd.prog.info? 30).map (·.size) = some 1 := by kernel_rfl
theorem szKk : (Tryd.prog.info? 23).map (·.size) = some 32 := by kernel_rfl
theorem elKey : ElT Tryd.prog 28 23 32 32 := by
  refine ⟨Tryd.underlying28, ?_, by decide⟩
  obtain ⟨i, hi, hz⟩ : ∃ i, Tryd.prog.info? 23 = some i ∧ (i.zero.map (·.cells.size), i.size, i.bytes) = (some 32, 32, 32) := by
    have h : ((Tryd.prog.info? 23).map fun i => (i.zero.map (·.cells.size), i.size, i.bytes)) = some (some 32, 32, 32) := by kernel_rfl
    cases hi : Tryd.prog.info? 23 with
    | none => rw [hi] at h; cases h
    | some i => rw [hi] at h; exact ⟨i, rfl, Option.some.inj h⟩
  simp only [Prod.mk.injEq] at hz
  obtain ⟨h1, h2, h3⟩ := hz
  cases hzz : i.zero with
  | none => rw [hzz] at h1; cases h1
  | some z => rw [hzz] at h1; exact ⟨i, z, hi, hzz, h2, h3, Option.some.inj h1⟩
theorem ldKey {d : List UInt8} (h : d.length = 32) {r : Result Next} {w : World} (hr : r = .ok (.value (.agg (dgC d).toArray)) w) : r = .ok (.value (.agg (cells8 d))) w := by
  rw [hr, dgC_of h]; rfl
set_option maxRecDepth 100000 in
set_option maxHeartbeats 1000000 in
theorem of38_any (k x : List UInt8) (w : World) (hLk : k.length = 32) (hx : x.length < 2 ^ 45) : Calls Tryd.prog 51 #[.agg (cells8 k), .string ⟨x.toArray⟩] w fun e w' => e = .returned (.agg (cells8 (keyedS k x))) ∧ Below w.heap.size w w' := by
  refine walk_enter Tryd.func51 rfl rfl rfl fun a0 F0 => ?_
  have M0 := Mem.new w
  refine wsl ?_
  refine sqNew (cs := (cells8 k)) (t := 23) F0 M0 (wantedS rfl) (run_box rfl (F0.ev 0 rfl)) rfl (by decide) fun g0 a1 w1 hgg0 hb1 F1 M1 => ?_
  refine sqNew (cs := (cells8 (List.replicate 32 0))) (t := 23) F1 M1 (wantedS rfl) (run_alloc rfl (by kernel_rfl)) rfl (by decide) fun g1 a2 w2 hgg1 hb2 F2 M2 => ?_
  refine sn ?_
  clear F0 F1 M0 M1
  refine wsl ?_
  refine sr F2 (run_ldB rfl (F2.ev 2 rfl) (M2.at 1 rfl) Tryd.underlying23 rfl szKk (szOf hLk)) rfl rfl rfl fun a3 F3 => ?_
  refine mvS F3 rfl rfl rfl rfl rfl fun a4 F4 => ?_
  refine sqStrs [x] F4 M2 (wantedS rfl) (run_strs1 rfl (F4.ev 6 rfl)) rfl (by decide) fun v2 a5 w3 hsv2 hb3 F5 M3 => ?_
  refine sqC (v := (.agg (cells8 (keyedS k x)))) F5 M3 (wantedS rfl) (run_call rfl Tryd.func54 (by kernel_rfl) rfl (mapE2 (F5.ev 5 rfl) (F5.ev 7 rfl))) rfl (by decide) (rkeyed1 k x _ w3 hLk hsv2 (by first | omega | decide | (simp; done) | (simp; omega))) fun a6 w4 hb4 F6 M4 => ?_
  have hS1 := hsv2.below hb4
  refine sqStore (i := 0) F6 M4 rfl rfl rfl (F6.ev 4 rfl) (F6.ev 8 rfl) rfl szKk (szOf (keyedS_len _ _)) (szOf List.length_replicate) (cells8_one _) fun a7 w5 F7 M5 => ?_
  refine sn ?_
  clear F2 F3 F4 F5 F6 M2 M3 M4
  refine wp_ret ?_
  exact retB F7 rfl rfl (M5.at 0 rfl) Tryd.underlying23 rfl szKk (szOf (keyedS_len _ _)) ⟨rfl, M5.below⟩
set_option maxRecDepth 100000 in
set_option maxHeartbeats 1000000 in
theorem kid_any (K : List (List UInt8)) (v : Value) (w : World) (HG : Glob w) (hV : Sl w v 32 K.length (K.flatMap dgC)) (h32 : ∀ k ∈ K, k.length = 32) : Calls Tryd.prog 31 #[.agg #[v]] w fun e w' => e = .returned (.agg (cells8 (idS K))) ∧ Below w.heap.size w w' := by
  by_cases hK : K = []
  · have hl0 : K.length = 0 := by rw [hK]; rfl
    have hid : idS K = List.replicate 32 0 := by unfold idS; rw [if_pos hK]
    rw [hid]
    refine walk_enter Tryd.func31 rfl rfl rfl fun a0 F0 => ?_
    have M0 := Mem.new w
    refine wsl ?_
    refine sqNew (cs := #[v]) (t := 30) F0 M0 (wantedS rfl) (run_box rfl (F0.ev 0 rfl)) rfl (by decide) fun g0 a1 w1 hgg0 hb1 F1 M1 => ?_
    refine sqNew (cs := (cells8 (List.replicate 32 0))) (t := 23) F1 M1 (wantedS rfl) (run_alloc rfl (by kernel_rfl)) rfl (by decide) fun g1 a2 w2 hgg1 hb2 F2 M2 => ?_
    refine sn ?_
    clear F0 F1 M0 M1
    refine wp_seq ?_
    refine wsl ?_
    refine sr F2 (run_fldA (m := 1) (s := 0) rfl (F2.ev 1 rfl) Tryd.underlying30 rfl rfl (by kernel_rfl) (by decide)) rfl rfl rfl fun a3 F3 => ?_
    refine sr (v := v) F3 (run_ldF rfl (F3.ev 3 rfl) (M2.at 1 rfl) rfl (by kernel_rfl)) rfl rfl rfl fun a4 F4 => ?_
    refine sr F4 (run_lenS rfl (F4.ev 4 rfl) (hV.below M2.below) rfl Tryd.underlying28) rfl rfl rfl fun a5 F5 => ?_
    refine sr (v := (.bool true)) F5 (run_eqi rfl (F5.ev 5 rfl) rfl (beq_iff_eq.2 (by omega))) rfl rfl rfl fun a6 F6 => ?_
    refine sn ?_
    clear F2 F3 F4 F5
    refine wp_cond_true (F6.ev 6 rfl) ?_
    refine wsl ?_
    refine sr (v := (.agg (cells8 (List.replicate 32 0)))) F6 (run_blt (vs := #[]) (cs := cells8 (List.replicate 32 0)) rfl (by simp) (by kernel_rfl)) rfl rfl rfl fun a7 F7 => ?_
    refine sqStore (i := 0) F7 M2 rfl rfl rfl (F7.ev 2 rfl) (F7.ev 7 rfl) rfl szKk (szOf List.length_replicate) (szOf List.length_replicate) (cells8_one _) fun a8 w3 F8 M3 => ?_
    refine sn ?_
    clear F6 F7 M2
    refine wp_ret ?_
    refine nxRet ?_
    exact retB F8 rfl rfl (M3.at 0 rfl) Tryd.underlying23 rfl szKk (szOf List.length_replicate) ⟨rfl, M3.below⟩
  · have hl0 : 0 < K.length := List.length_pos_iff.2 hK
    obtain ⟨x, hx⟩ : ∃ x, K[0]? = some x := ⟨K[0], List.getElem?_eq_getElem hl0⟩
    have hx32 := h32 x (List.mem_of_getElem? hx)
    have hid : idS K = keyedS x [110, 97, 109, 101, 115] := by unfold idS; rw [if_neg hK, List.getD_eq_getElem?_getD, hx]; rfl
    rw [hid]
    refine walk_enter Tryd.func31 rfl rfl rfl fun a0 F0 => ?_
    have M0 := Mem.new w
    refine wsl ?_
    refine sqNew (cs := #[v]) (t := 30) F0 M0 (wantedS rfl) (run_box rfl (F0.ev 0 rfl)) rfl (by decide) fun g0 a1 w1 hgg0 hb1 F1 M1 => ?_
    refine sqNew (cs := (cells8 (List.replicate 32 0))) (t := 23) F1 M1 (wantedS rfl) (run_alloc rfl (by kernel_rfl)) rfl (by decide) fun g1 a2 w2 hgg1 hb2 F2 M2 => ?_
    refine sn ?_
    clear F0 F1 M0 M1
    refine wp_seq ?_
    refine wsl ?_
    refine sr F2 (run_fldA (m := 1) (s := 0) rfl (F2.ev 1 rfl) Tryd.underlying30 rfl rfl (by kernel_rfl) (by decide)) rfl rfl rfl fun a3 F3 => ?_
    refine sr (v := v) F3 (run_ldF rfl (F3.ev 3 rfl) (M2.at 1 rfl) rfl (by kernel_rfl)) rfl rfl rfl fun a4 F4 => ?_
    refine sr F4 (run_lenS rfl (F4.ev 4 rfl) (hV.below M2.below) rfl Tryd.underlying28) rfl rfl rfl fun a5 F5 => ?_
    refine sr (v := (.bool false)) F5 (run_eqi rfl (F5.ev 5 rfl) rfl (beq_eq_false_iff_ne.2 (by omega))) rfl rfl rfl fun a6 F6 => ?_
    refine sn ?_
    clear F2 F3 F4 F5
    refine cfs (F6.ev 6 rfl) ?_
    refine wsl ?_
    refine sr F6 (run_fldA (m := 1) (s := 0) rfl (F6.ev 1 rfl) Tryd.underlying30 rfl rfl (by kernel_rfl) (by decide)) rfl rfl rfl fun a7 F7 => ?_
    refine sr (v := v) F7 (run_ldF rfl (F7.ev 8 rfl) (M2.at 1 rfl) rfl (by kernel_rfl)) rfl rfl rfl fun a8 F8 => ?_
    refine sr (v := (slPtr v (0 * 32))) F8 (run_atP (i := 0) rfl (F8.ev 9 rfl) rfl rfl (hV.below M2.below) (by omega) elKey.un (by kernel_rfl)) rfl rfl rfl fun a9 F9 => ?_
    refine sr (v := (.agg (cells8 x))) F9 (ldKey hx32 (run_ldPS (ys := dgC x) rfl (F9.ev 10 rfl) (hV.below M2.below) (by omega) (fun j u hj => flat_at dgC_len hx j hj) (by kernel_rfl) (by kernel_rfl))) rfl rfl rfl fun a10 F10 => ?_
    refine sqStrs [[110, 97, 109, 101, 115]] F10 M2 (wantedS rfl) (run_strs1 rfl rfl) rfl (by decide) fun v2 a11 w3 hsv2 hb3 F11 M3 => ?_
    refine sqC (v := (.agg (cells8 (keyedS x [110, 97, 109, 101, 115])))) F11 M3 (wantedS rfl) (run_call rfl Tryd.func57 (by kernel_rfl) rfl (mapE2 (F11.ev 11 rfl) (F11.ev 12 rfl))) rfl (by decide) (keyed1 x [110, 97, 109, 101, 115] _ w3 hx32 (HG.below M3.below) hsv2 (by first | omega | decide | (simp; done) | (simp; omega))) fun a12 w4 hb4 F12 M4 => ?_
    have hS1 := hsv2.below hb4
    refine sqStore (i := 0) F12 M4 rfl rfl rfl (F12.ev 2 rfl) (F12.ev 13 rfl) rfl szKk (szOf (keyedS_len _ _)) (szOf List.length_replicate) (cells8_one _) fun a13 w5 F13 M5 => ?_
    refine sn ?_
    clear F6 F7 F8 F9 F10 F11 F12 M2 M3 M4
    refine wp_ret ?_
    exact retB F13 rfl rfl (M5.at 0 rfl) Tryd.underlying23 rfl szKk (szOf (keyedS_len _ _)) ⟨rfl, M5.below⟩
set_option maxRecDepth 100000 in
set_option maxHeartbeats 1000000 in
theorem rid_any (K : List (List UInt8)) (v : Value) (w : World) (hV : Sl w v 32 K.length (K.flatMap dgC)) (h32 : ∀ k ∈ K, k.length = 32) : Calls Tryd.prog 32 #[.agg #[v]] w fun e w' => e = .returned (.agg (cells8 (idS K))) ∧ Below w.heap.size w w' := by
  by_cases hK : K = []
  · have hl0 : K.length = 0 := by rw [hK]; rfl
    have hid : idS K = List.replicate 32 0 := by unfold idS; rw [if_pos hK]
    rw [hid]
    refine walk_enter Tryd.func32 rfl rfl rfl fun a0 F0 => ?_
    have M0 := Mem.new w
    refine wsl ?_
    refine sqNew (cs := #[v]) (t := 30) F0 M0 (wantedS rfl) (run_box rfl (F0.ev 0 rfl)) rfl (by decide) fun g0 a1 w1 hgg0 hb1 F1 M1 => ?_
    refine sqNew (cs := (cells8 (List.replicate 32 0))) (t := 23) F1 M1 (wantedS rfl) (run_alloc rfl (by kernel_rfl)) rfl (by decide) fun g1 a2 w2 hgg1 hb2 F2 M2 => ?_
    refine sn ?_
    clear F0 F1 M0 M1
    refine wp_seq ?_
    refine wsl ?_
    refine sr F2 (run_fldA (m := 1) (s := 0) rfl (F2.ev 1 rfl) Tryd.underlying30 rfl rfl (by kernel_rfl) (by decide)) rfl rfl rfl fun a3 F3 => ?_
    refine sr (v := v) F3 (run_ldF rfl (F3.ev 3 rfl) (M2.at 1 rfl) rfl (by kernel_rfl)) rfl rfl rfl fun a4 F4 => ?_
    refine sr F4 (run_lenS rfl (F4.ev 4 rfl) (hV.below M2.below) rfl Tryd.underlying28) rfl rfl rfl fun a5 F5 => ?_
    refine sr (v := (.bool true)) F5 (run_eqi rfl (F5.ev 5 rfl) rfl (beq_iff_eq.2 (by omega))) rfl rfl rfl fun a6 F6 => ?_
    refine sn ?_
    clear F2 F3 F4 F5
    refine wp_cond_true (F6.ev 6 rfl) ?_
    refine wsl ?_
    refine sr (v := (.agg (cells8 (List.replicate 32 0)))) F6 (run_blt (vs := #[]) (cs := cells8 (List.replicate 32 0)) rfl (by simp) (by kernel_rfl)) rfl rfl rfl fun a7 F7 => ?_
    refine sqStore (i := 0) F7 M2 rfl rfl rfl (F7.ev 2 rfl) (F7.ev 7 rfl) rfl szKk (szOf List.length_replicate) (szOf List.length_replicate) (cells8_one _) fun a8 w3 F8 M3 => ?_
    refine sn ?_
    clear F6 F7 M2
    refine wp_ret ?_
    refine nxRet ?_
    exact retB F8 rfl rfl (M3.at 0 rfl) Tryd.underlying23 rfl szKk (szOf List.length_replicate) ⟨rfl, M3.below⟩
  · have hl0 : 0 < K.length := List.length_pos_iff.2 hK
    obtain ⟨x, hx⟩ : ∃ x, K[0]? = some x := ⟨K[0], List.getElem?_eq_getElem hl0⟩
    have hx32 := h32 x (List.mem_of_getElem? hx)
    have hid : idS K = keyedS x [110, 97, 109, 101, 115] := by unfold idS; rw [if_neg hK, List.getD_eq_getElem?_getD, hx]; rfl
    rw [hid]
    refine walk_enter Tryd.func32 rfl rfl rfl fun a0 F0 => ?_
    have M0 := Mem.new w
    refine wsl ?_
    refine sqNew (cs := #[v]) (t := 30) F0 M0 (wantedS rfl) (run_box rfl (F0.ev 0 rfl)) rfl (by decide) fun g0 a1 w1 hgg0 hb1 F1 M1 => ?_
    refine sqNew (cs := (cells8 (List.replicate 32 0))) (t := 23) F1 M1 (wantedS rfl) (run_alloc rfl (by kernel_rfl)) rfl (by decide) fun g1 a2 w2 hgg1 hb2 F2 M2 => ?_
    refine sn ?_
    clear F0 F1 M0 M1
    refine wp_seq ?_
    refine wsl ?_
    refine sr F2 (run_fldA (m := 1) (s := 0) rfl (F2.ev 1 rfl) Tryd.underlying30 rfl rfl (by kernel_rfl) (by decide)) rfl rfl rfl fun a3 F3 => ?_
    refine sr (v := v) F3 (run_ldF rfl (F3.ev 3 rfl) (M2.at 1 rfl) rfl (by kernel_rfl)) rfl rfl rfl fun a4 F4 => ?_
    refine sr F4 (run_lenS rfl (F4.ev 4 rfl) (hV.below M2.below) rfl Tryd.underlying28) rfl rfl rfl fun a5 F5 => ?_
    refine sr (v := (.bool false)) F5 (run_eqi rfl (F5.ev 5 rfl) rfl (beq_eq_false_iff_ne.2 (by omega))) rfl rfl rfl fun a6 F6 => ?_
    refine sn ?_
    clear F2 F3 F4 F5
    refine cfs (F6.ev 6 rfl) ?_
    refine wsl ?_
    refine sr F6 (run_fldA (m := 1) (s := 0) rfl (F6.ev 1 rfl) Tryd.underlying30 rfl rfl (by kernel_rfl) (by decide)) rfl rfl rfl fun a7 F7 => ?_
    refine sr (v := v) F7 (run_ldF rfl (F7.ev 8 rfl) (M2.at 1 rfl) rfl (by kernel_rfl)) rfl rfl rfl fun a8 F8 => ?_
    refine sr (v := (slPtr v (0 * 32))) F8 (run_atP (i := 0) rfl (F8.ev 9 rfl) rfl rfl (hV.below M2.below) (by omega) elKey.un (by kernel_rfl)) rfl rfl rfl fun a9 F9 => ?_
    refine sr (v := (.agg (cells8 x))) F9 (ldKey hx32 (run_ldPS (ys := dgC x) rfl (F9.ev 10 rfl) (hV.below M2.below) (by omega) (fun j u hj => flat_at dgC_len hx j hj) (by kernel_rfl) (by kernel_rfl))) rfl rfl rfl fun a10 F10 => ?_
    refine sqC (v := (.agg (cells8 (keyedS x [110, 97, 109, 101, 115])))) F10 M2 (wantedS rfl) (run_call rfl Tryd.func51 (by kernel_rfl) rfl (mapE2 (F10.ev 11 rfl) rfl)) rfl (by decide) (of38_any x [110, 97, 109, 101, 115] w2 hx32 (by first | omega | decide | (simp; done) | (simp; omega))) fun a11 w3 hb3 F11 M3 => ?_
    refine sqStore (i := 0) F11 M3 rfl rfl rfl (F11.ev 2 rfl) (F11.ev 12 rfl) rfl szKk (szOf (keyedS_len _ _)) (szOf List.length_replicate) (cells8_one _) fun a12 w4 F12 M4 => ?_
    refine sn ?_
    clear F6 F7 F8 F9 F10 F11 M2 M3
    refine wp_ret ?_
    exact retB F12 rfl rfl (M4.at 0 rfl) Tryd.underlying23 rfl szKk (szOf (keyedS_len _ _)) ⟨rfl, M4.below⟩
set_option maxRecDepth 100000 in
set_option maxHeartbeats 1000000 in
theorem kbox_any (K : List (List UInt8)) (v : Value) (n : Int) (w : World) (HG : Glob w) (hV : Sl w v 32 K.length (K.flatMap dgC)) (h32 : ∀ k ∈ K, k.length = 32) : Calls Tryd.prog 29 #[.agg #[v], .int .i64 n] w fun e w' => e = .returned (.tuple #[.agg (cells8 (boxK K n).1), .int .i64 (boxK K n).2]) ∧ Below w.heap.size w w' := by
  by_cases h1 : n < 0
  · have hb : boxK K n = (List.replicate 32 0, 1) := by unfold boxK; rw [if_pos (.inl h1)]
    rw [hb]
    dsimp only
    refine walk_enter Tryd.func29 rfl rfl rfl fun a0 F0 => ?_
    have M0 := Mem.new w
    refine wsl ?_
    refine sqNew (cs := #[v]) (t := 30) F0 M0 (wantedS rfl) (run_box rfl (F0.ev 0 rfl)) rfl (by decide) fun g0 a1 w1 hgg0 hb1 F1 M1 => ?_
    refine sqNew (cs := (cells8 (List.replicate 32 0))) (t := 23) F1 M1 (wantedS rfl) (run_alloc rfl (by kernel_rfl)) rfl (by decide) fun g1 a2 w2 hgg1 hb2 F2 M2 => ?_
    refine sr (v := (.int .i64 0)) F2 (run_as rfl rfl) rfl rfl rfl fun a3 F3 => ?_
    refine sn ?_
    clear F0 F1 F2 M0 M1
    refine wp_seq ?_
    refine wsl ?_
    refine mvS F3 rfl rfl rfl rfl rfl fun a4 F4 => ?_
    refine sr (v := (.bool true)) F4 (run_lss rfl (F4.ev 6 rfl) rfl (decide_eq_true (by omega))) rfl rfl rfl fun a5 F5 => ?_
    refine mvS F5 rfl rfl rfl rfl rfl fun a6 F6 => ?_
    refine sqSkip F6 (unwantedG F6 rfl rfl rfl rfl rfl) rfl (by decide) fun a7 F7 => ?_
    refine sqSkip F7 (unwantedG F7 rfl rfl rfl rfl rfl) rfl (by decide) fun a8 F8 => ?_
    refine sqSkip F8 (unwantedG F8 rfl rfl rfl rfl rfl) rfl (by decide) fun a9 F9 => ?_
    refine sqSkip F9 (unwantedG F9 rfl rfl rfl rfl rfl) rfl (by decide) fun a10 F10 => ?_
    refine sqSkip F10 (unwantedG F10 rfl rfl rfl rfl rfl) rfl (by decide) fun a11 F11 => ?_
    refine sr (v := (.bool true)) F11 (run_pick rfl (F11.ev 8 rfl) rfl (F11.ev 13 rfl)) rfl rfl rfl fun a12 F12 => ?_
    refine sn ?_
    clear F3 F4 F5 F6 F7 F8 F9 F10 F11
    refine wp_cond_true (F12.ev 14 rfl) ?_
    refine wsl ?_
    refine sr (v := (.agg (cells8 (List.replicate 32 0)))) F12 (run_blt (vs := #[]) (cs := cells8 (List.replicate 32 0)) rfl (by simp) (by kernel_rfl)) rfl rfl rfl fun a13 F13 => ?_
    refine sqStore (i := 0) F13 M2 rfl rfl rfl (F13.ev 4 rfl) (F13.ev 15 rfl) rfl szKk (szOf List.length_replicate) (szOf List.length_replicate) (cells8_one _) fun a14 w3 F14 M3 => ?_
    refine sr (v := (.int .i64 1)) F14 (run_as rfl rfl) rfl rfl rfl fun a15 F15 => ?_
    refine sn ?_
    clear F12 F13 F14 M2
    refine wp_ret ?_
    refine nxRet ?_
    exact retBT F15 rfl rfl (M3.at 0 rfl) Tryd.underlying23 rfl szKk (szOf List.length_replicate) rfl ⟨rfl, M3.below⟩
  obtain ⟨j, rfl⟩ : ∃ j : Nat, n = j := ⟨n.toNat, by omega⟩
  by_cases h2 : K.length ≤ j
  · have hb : boxK K (j : Int) = (List.replicate 32 0, 1) := by unfold boxK; rw [if_pos (.inr (by omega))]
    rw [hb]
    dsimp only
    refine walk_enter Tryd.func29 rfl rfl rfl fun a0 F0 => ?_
    have M0 := Mem.new w
    refine wsl ?_
    refine sqNew (cs := #[v]) (t := 30) F0 M0 (wantedS rfl) (run_box rfl (F0.ev 0 rfl)) rfl (by decide) fun g0 a1 w1 hgg0 hb1 F1 M1 => ?_
    refine sqNew (cs := (cells8 (List.replicate 32 0))) (t := 23) F1 M1 (wantedS rfl) (run_alloc rfl (by kernel_rfl)) rfl (by decide) fun g1 a2 w2 hgg1 hb2 F2 M2 => ?_
    refine sr (v := (.int .i64 0)) F2 (run_as rfl rfl) rfl rfl rfl fun a3 F3 => ?_
    refine sn ?_
    clear F0 F1 F2 M0 M1
    refine wp_seq ?_
    refine wsl ?_
    refine mvS F3 rfl rfl rfl rfl rfl fun a4 F4 => ?_
    refine sr (v := (.bool false)) F4 (run_lss rfl (F4.ev 6 rfl) rfl (decide_eq_false (by omega))) rfl rfl rfl fun a5 F5 => ?_
    refine mvS F5 rfl rfl rfl rfl rfl fun a6 F6 => ?_
    refine sq (v := (.int .i64 (j : Int))) F6 (wantedG F6 rfl rfl rfl rfl rfl) (run_mv rfl (F6.ev 1 rfl)) rfl (by decide) fun a7 F7 => ?_
    refine sq (v := (.pointer (some ⟨g0, 0, none⟩))) F7 (wantedG F7 rfl rfl rfl rfl rfl) (run_fldA (m := 1) (s := 0) rfl (F7.ev 2 rfl) Tryd.underlying30 rfl rfl (by kernel_rfl) (by decide)) rfl (by decide) fun a8 F8 => ?_
    refine sq (v := v) F8 (wantedG F8 rfl rfl rfl rfl rfl) (run_ldF rfl (F8.ev 10 rfl) (M2.at 1 rfl) rfl (by kernel_rfl)) rfl (by decide) fun a9 F9 => ?_
    refine sq (v := (.int .i64 (K.length : Int))) F9 (wantedG F9 rfl rfl rfl rfl rfl) (run_lenS rfl (F9.ev 11 rfl) (hV.below M2.below) rfl Tryd.underlying28) rfl (by decide) fun a10 F10 => ?_
    refine sq (v := (.bool true)) F10 (wantedG F10 rfl rfl rfl rfl rfl) (run_geq rfl (F10.ev 9 rfl) (F10.ev 12 rfl) (decide_eq_true (by omega))) rfl (by decide) fun a11 F11 => ?_
    refine sr (v := (.bool true)) F11 (run_pick rfl (F11.ev 8 rfl) rfl (F11.ev 13 rfl)) rfl rfl rfl fun a12 F12 => ?_
    refine sn ?_
    clear F3 F4 F5 F6 F7 F8 F9 F10 F11
    refine wp_cond_true (F12.ev 14 rfl) ?_
    refine wsl ?_
    refine sr (v := (.agg (cells8 (List.replicate 32 0)))) F12 (run_blt (vs := #[]) (cs := cells8 (List.replicate 32 0)) rfl (by simp) (by kernel_rfl)) rfl rfl rfl fun a13 F13 => ?_
    refine sqStore (i := 0) F13 M2 rfl rfl rfl (F13.ev 4 rfl) (F13.ev 15 rfl) rfl szKk (szOf List.length_replicate) (szOf List.length_replicate) (cells8_one _) fun a14 w3 F14 M3 => ?_
    refine sr (v := (.int .i64 1)) F14 (run_as rfl rfl) rfl rfl rfl fun a15 F15 => ?_
    refine sn ?_
    clear F12 F13 F14 M2
    refine wp_ret ?_
    refine nxRet ?_
    exact retBT F15 rfl rfl (M3.at 0 rfl) Tryd.underlying23 rfl szKk (szOf List.length_replicate) rfl ⟨rfl, M3.below⟩
  · obtain ⟨x, hx⟩ : ∃ x, K[j]? = some x := ⟨K[j]'(by omega), List.getElem?_eq_getElem (by omega)⟩
    have hx32 := h32 x (List.mem_of_getElem? hx)
    have hb : boxK K (j : Int) = (keyedS x [98, 111, 120, 101, 115], 0) := by unfold boxK; rw [if_neg (by omega)]; unfold bkeyS; rw [Int.toNat_natCast, List.getD_eq_getElem?_getD, hx]; rfl
    rw [hb]
    dsimp only
    refine walk_enter Tryd.func29 rfl rfl rfl fun a0 F0 => ?_
    have M0 := Mem.new w
    refine wsl ?_
    refine sqNew (cs := #[v]) (t := 30) F0 M0 (wantedS rfl) (run_box rfl (F0.ev 0 rfl)) rfl (by decide) fun g0 a1 w1 hgg0 hb1 F1 M1 => ?_
    refine sqNew (cs := (cells8 (List.replicate 32 0))) (t := 23) F1 M1 (wantedS rfl) (run_alloc rfl (by kernel_rfl)) rfl (by decide) fun g1 a2 w2 hgg1 hb2 F2 M2 => ?_
    refine sr (v := (.int .i64 0)) F2 (run_as rfl rfl) rfl rfl rfl fun a3 F3 => ?_
    refine sn ?_
    clear F0 F1 F2 M0 M1
    refine wp_seq ?_
    refine wsl ?_
    refine mvS F3 rfl rfl rfl rfl rfl fun a4 F4 => ?_
    refine sr (v := (.bool false)) F4 (run_lss rfl (F4.ev 6 rfl) rfl (decide_eq_false (by omega))) rfl rfl rfl fun a5 F5 => ?_
    refine mvS F5 rfl rfl rfl rfl rfl fun a6 F6 => ?_
    refine sq (v := (.int .i64 (j : Int))) F6 (wantedG F6 rfl rfl rfl rfl rfl) (run_mv rfl (F6.ev 1 rfl)) rfl (by decide) fun a7 F7 => ?_
    refine sq (v := (.pointer (some ⟨g0, 0, none⟩))) F7 (wantedG F7 rfl rfl rfl rfl rfl) (run_fldA (m := 1) (s := 0) rfl (F7.ev 2 rfl) Tryd.underlying30 rfl rfl (by kernel_rfl) (by decide)) rfl (by decide) fun a8 F8 => ?_
    refine sq (v := v) F8 (wantedG F8 rfl rfl rfl rfl rfl) (run_ldF rfl (F8.ev 10 rfl) (M2.at 1 rfl) rfl (by kernel_rfl)) rfl (by decide) fun a9 F9 => ?_
    refine sq (v := (.int .i64 (K.length : Int))) F9 (wantedG F9 rfl rfl rfl rfl rfl) (run_lenS rfl (F9.ev 11 rfl) (hV.below M2.below) rfl Tryd.underlying28) rfl (by decide) fun a10 F10 => ?_
    refine sq (v := (.bool false)) F10 (wantedG F10 rfl rfl rfl rfl rfl) (run_geq rfl (F10.ev 9 rfl) (F10.ev 12 rfl) (decide_eq_false (by omega))) rfl (by decide) fun a11 F11 => ?_
    refine sr (v := (.bool false)) F11 (run_pick rfl (F11.ev 8 rfl) rfl (F11.ev 13 rfl)) rfl rfl rfl fun a12 F12 => ?_
    refine sn ?_
    clear F3 F4 F5 F6 F7 F8 F9 F10 F11
    refine cfs (F12.ev 14 rfl) ?_
    refine wsl ?_
    refine sr F12 (run_fldA (m := 1) (s := 0) rfl (F12.ev 2 rfl) Tryd.underlying30 rfl rfl (by kernel_rfl) (by decide)) rfl rfl rfl fun a13 F13 => ?_
    refine sr (v := v) F13 (run_ldF rfl (F13.ev 16 rfl) (M2.at 1 rfl) rfl (by kernel_rfl)) rfl rfl rfl fun a14 F14 => ?_
    refine mvS F14 rfl rfl rfl rfl rfl fun a15 F15 => ?_
    refine sr (v := (slPtr v (j * 32))) F15 (run_atP (i := j) rfl (F15.ev 17 rfl) (F15.ev 18 rfl) rfl (hV.below M2.below) (by omega) elKey.un (by kernel_rfl)) rfl rfl rfl fun a16 F16 => ?_
    refine sr (v := (.agg (cells8 x))) F16 (ldKey hx32 (run_ldPS (ys := dgC x) rfl (F16.ev 19 rfl) (hV.below M2.below) (by omega) (fun j u hj => flat_at dgC_len hx j hj) (by kernel_rfl) (by kernel_rfl))) rfl rfl rfl fun a17 F17 => ?_
    refine sqStrs [[98, 111, 120, 101, 115]] F17 M2 (wantedS rfl) (run_strs1 rfl rfl) rfl (by decide) fun v2 a18 w3 hsv2 hb3 F18 M3 => ?_
    refine sqC (v := (.agg (cells8 (keyedS x [98, 111, 120, 101, 115])))) F18 M3 (wantedS rfl) (run_call rfl Tryd.func57 (by kernel_rfl) rfl (mapE2 (F18.ev 20 rfl) (F18.ev 21 rfl))) rfl (by decide) (keyed1 x [98, 111, 120, 101, 115] _ w3 hx32 (HG.below M3.below) hsv2 (by first | omega | decide | (simp; done) | (simp; omega))) fun a19 w4 hb4 F19 M4 => ?_
    have hS1 := hsv2.below hb4
    refine sqStore (i := 0) F19 M4 rfl rfl rfl (F19.ev 4 rfl) (F19.ev 22 rfl) rfl szKk (szOf (keyedS_len _ _)) (szOf List.length_replicate) (cells8_one _) fun a20 w5 F20 M5 => ?_
    refine sr (v := (.int .i64 0)) F20 (run_as rfl rfl) rfl rfl rfl fun a21 F21 => ?_
    refine sn ?_
    clear F12 F13 F14 F15 F16 F17 F18 F19 F20 M2 M3 M4
    refine wp_ret ?_
    exact retBT F21 rfl rfl (M5.at 0 rfl) Tryd.underlying23 rfl szKk (szOf (keyedS_len _ _)) rfl ⟨rfl, M5.below⟩
set_option maxRecDepth 100000 in
set_option maxHeartbeats 1000000 in
theorem rbox38_any (K : List (List UInt8)) (v : Value) (n : Int) (w : World) (hV : Sl w v 32 K.length (K.flatMap dgC)) (h32 : ∀ k ∈ K, k.length = 32) : Calls Tryd.prog 30 #[.agg #[v], .int .i64 n] w fun e w' => e = .returned (.tuple #[.agg (cells8 (boxK K n).1), .int .i64 (boxK K n).2]) ∧ Below w.heap.size w w' := by
  by_cases h1 : n < 0
  · have hb : boxK K n = (List.replicate 32 0, 1) := by unfold boxK; rw [if_pos (.inl h1)]
    rw [hb]
    dsimp only
    refine walk_enter Tryd.func30 rfl rfl rfl fun a0 F0 => ?_
    have M0 := Mem.new w
    refine wsl ?_
    refine sqNew (cs := #[v]) (t := 30) F0 M0 (wantedS rfl) (run_box rfl (F0.ev 0 rfl)) rfl (by decide) fun g0 a1 w1 hgg0 hb1 F1 M1 => ?_
    refine sqNew (cs := (cells8 (List.replicate 32 0))) (t := 23) F1 M1 (wantedS rfl) (run_alloc rfl (by kernel_rfl)) rfl (by decide) fun g1 a2 w2 hgg1 hb2 F2 M2 => ?_
    refine sr (v := (.int .i64 0)) F2 (run_as rfl rfl) rfl rfl rfl fun a3 F3 => ?_
    refine sn ?_
    clear F0 F1 F2 M0 M1
    refine wp_seq ?_
    refine wsl ?_
    refine mvS F3 rfl rfl rfl rfl rfl fun a4 F4 => ?_
    refine sr (v := (.bool true)) F4 (run_lss rfl (F4.ev 6 rfl) rfl (decide_eq_true (by omega))) rfl rfl rfl fun a5 F5 => ?_
    refine mvS F5 rfl rfl rfl rfl rfl fun a6 F6 => ?_
    refine sqSkip F6 (unwantedG F6 rfl rfl rfl rfl rfl) rfl (by decide) fun a7 F7 => ?_
    refine sqSkip F7 (unwantedG F7 rfl rfl rfl rfl rfl) rfl (by decide) fun a8 F8 => ?_
    refine sqSkip F8 (unwantedG F8 rfl rfl rfl rfl rfl) rfl (by decide) fun a9 F9 => ?_
    refine sqSkip F9 (unwantedG F9 rfl rfl rfl rfl rfl) rfl (by decide) fun a10 F10 => ?_
    refine sqSkip F10 (unwantedG F10 rfl rfl rfl rfl rfl) rfl (by decide) fun a11 F11 => ?_
    refine sr (v := (.bool true)) F11 (run_pick rfl (F11.ev 8 rfl) rfl (F11.ev 13 rfl)) rfl rfl rfl fun a12 F12 => ?_
    refine sn ?_
    clear F3 F4 F5 F6 F7 F8 F9 F10 F11
    refine wp_cond_true (F12.ev 14 rfl) ?_
    refine wsl ?_
    refine sr (v := (.agg (cells8 (List.replicate 32 0)))) F12 (run_blt (vs := #[]) (cs := cells8 (List.replicate 32 0)) rfl (by simp) (by kernel_rfl)) rfl rfl rfl fun a13 F13 => ?_
    refine sqStore (i := 0) F13 M2 rfl rfl rfl (F13.ev 4 rfl) (F13.ev 15 rfl) rfl szKk (szOf List.length_replicate) (szOf List.length_replicate) (cells8_one _) fun a14 w3 F14 M3 => ?_
    refine sr (v := (.int .i64 1)) F14 (run_as rfl rfl) rfl rfl rfl fun a15 F15 => ?_
    refine sn ?_
    clear F12 F13 F14 M2
    refine wp_ret ?_
    refine nxRet ?_
    exact retBT F15 rfl rfl (M3.at 0 rfl) Tryd.underlying23 rfl szKk (szOf List.length_replicate) rfl ⟨rfl, M3.below⟩
  obtain ⟨j, rfl⟩ : ∃ j : Nat, n = j := ⟨n.toNat, by omega⟩
  by_cases h2 : K.length ≤ j
  · have hb : boxK K (j : Int) = (List.replicate 32 0, 1) := by unfold boxK; rw [if_pos (.inr (by omega))]
    rw [hb]
    dsimp only
    refine walk_enter Tryd.func30 rfl rfl rfl fun a0 F0 => ?_
    have M0 := Mem.new w
    refine wsl ?_
    refine sqNew (cs := #[v]) (t := 30) F0 M0 (wantedS rfl) (run_box rfl (F0.ev 0 rfl)) rfl (by decide) fun g0 a1 w1 hgg0 hb1 F1 M1 => ?_
    refine sqNew (cs := (cells8 (List.replicate 32 0))) (t := 23) F1 M1 (wantedS rfl) (run_alloc rfl (by kernel_rfl)) rfl (by decide) fun g1 a2 w2 hgg1 hb2 F2 M2 => ?_
    refine sr (v := (.int .i64 0)) F2 (run_as rfl rfl) rfl rfl rfl fun a3 F3 => ?_
    refine sn ?_
    clear F0 F1 F2 M0 M1
    refine wp_seq ?_
    refine wsl ?_
    refine mvS F3 rfl rfl rfl rfl rfl fun a4 F4 => ?_
    refine sr (v := (.bool false)) F4 (run_lss rfl (F4.ev 6 rfl) rfl (decide_eq_false (by omega))) rfl rfl rfl fun a5 F5 => ?_
    refine mvS F5 rfl rfl rfl rfl rfl fun a6 F6 => ?_
    refine sq (v := (.int .i64 (j : Int))) F6 (wantedG F6 rfl rfl rfl rfl rfl) (run_mv rfl (F6.ev 1 rfl)) rfl (by decide) fun a7 F7 => ?_
    refine sq (v := (.pointer (some ⟨g0, 0, none⟩))) F7 (wantedG F7 rfl rfl rfl rfl rfl) (run_fldA (m := 1) (s := 0) rfl (F7.ev 2 rfl) Tryd.underlying30 rfl rfl (by kernel_rfl) (by decide)) rfl (by decide) fun a8 F8 => ?_
    refine sq (v := v) F8 (wantedG F8 rfl rfl rfl rfl rfl) (run_ldF rfl (F8.ev 10 rfl) (M2.at 1 rfl) rfl (by kernel_rfl)) rfl (by decide) fun a9 F9 => ?_
    refine sq (v := (.int .i64 (K.length : Int))) F9 (wantedG F9 rfl rfl rfl rfl rfl) (run_lenS rfl (F9.ev 11 rfl) (hV.below M2.below) rfl Tryd.underlying28) rfl (by decide) fun a10 F10 => ?_
    refine sq (v := (.bool true)) F10 (wantedG F10 rfl rfl rfl rfl rfl) (run_geq rfl (F10.ev 9 rfl) (F10.ev 12 rfl) (decide_eq_true (by omega))) rfl (by decide) fun a11 F11 => ?_
    refine sr (v := (.bool true)) F11 (run_pick rfl (F11.ev 8 rfl) rfl (F11.ev 13 rfl)) rfl rfl rfl fun a12 F12 => ?_
    refine sn ?_
    clear F3 F4 F5 F6 F7 F8 F9 F10 F11
    refine wp_cond_true (F12.ev 14 rfl) ?_
    refine wsl ?_
    refine sr (v := (.agg (cells8 (List.replicate 32 0)))) F12 (run_blt (vs := #[]) (cs := cells8 (List.replicate 32 0)) rfl (by simp) (by kernel_rfl)) rfl rfl rfl fun a13 F13 => ?_
    refine sqStore (i := 0) F13 M2 rfl rfl rfl (F13.ev 4 rfl) (F13.ev 15 rfl) rfl szKk (szOf List.length_replicate) (szOf List.length_replicate) (cells8_one _) fun a14 w3 F14 M3 => ?_
    refine sr (v := (.int .i64 1)) F14 (run_as rfl rfl) rfl rfl rfl fun a15 F15 => ?_
    refine sn ?_
    clear F12 F13 F14 M2
    refine wp_ret ?_
    refine nxRet ?_
    exact retBT F15 rfl rfl (M3.at 0 rfl) Tryd.underlying23 rfl szKk (szOf List.length_replicate) rfl ⟨rfl, M3.below⟩
  · obtain ⟨x, hx⟩ : ∃ x, K[j]? = some x := ⟨K[j]'(by omega), List.getElem?_eq_getElem (by omega)⟩
    have hx32 := h32 x (List.mem_of_getElem? hx)
    have hb : boxK K (j : Int) = (keyedS x [98, 111, 120, 101, 115], 0) := by unfold boxK; rw [if_neg (by omega)]; unfold bkeyS; rw [Int.toNat_natCast, List.getD_eq_getElem?_getD, hx]; rfl
    rw [hb]
    dsimp only
    refine walk_enter Tryd.func30 rfl rfl rfl fun a0 F0 => ?_
    have M0 := Mem.new w
    refine wsl ?_
    refine sqNew (cs := #[v]) (t := 30) F0 M0 (wantedS rfl) (run_box rfl (F0.ev 0 rfl)) rfl (by decide) fun g0 a1 w1 hgg0 hb1 F1 M1 => ?_
    refine sqNew (cs := (cells8 (List.replicate 32 0))) (t := 23) F1 M1 (wantedS rfl) (run_alloc rfl (by kernel_rfl)) rfl (by decide) fun g1 a2 w2 hgg1 hb2 F2 M2 => ?_
    refine sr (v := (.int .i64 0)) F2 (run_as rfl rfl) rfl rfl rfl fun a3 F3 => ?_
    refine sn ?_
    clear F0 F1 F2 M0 M1
    refine wp_seq ?_
    refine wsl ?_
    refine mvS F3 rfl rfl rfl rfl rfl fun a4 F4 => ?_
    refine sr (v := (.bool false)) F4 (run_lss rfl (F4.ev 6 rfl) rfl (decide_eq_false (by omega))) rfl rfl rfl fun a5 F5 => ?_
    refine mvS F5 rfl rfl rfl rfl rfl fun a6 F6 => ?_
    refine sq (v := (.int .i64 (j : Int))) F6 (wantedG F6 rfl rfl rfl rfl rfl) (run_mv rfl (F6.ev 1 rfl)) rfl (by decide) fun a7 F7 => ?_
    refine sq (v := (.pointer (some ⟨g0, 0, none⟩))) F7 (wantedG F7 rfl rfl rfl rfl rfl) (run_fldA (m := 1) (s := 0) rfl (F7.ev 2 rfl) Tryd.underlying30 rfl rfl (by kernel_rfl) (by decide)) rfl (by decide) fun a8 F8 => ?_
    refine sq (v := v) F8 (wantedG F8 rfl rfl rfl rfl rfl) (run_ldF rfl (F8.ev 10 rfl) (M2.at 1 rfl) rfl (by kernel_rfl)) rfl (by decide) fun a9 F9 => ?_
    refine sq (v := (.int .i64 (K.length : Int))) F9 (wantedG F9 rfl rfl rfl rfl rfl) (run_lenS rfl (F9.ev 11 rfl) (hV.below M2.below) rfl Tryd.underlying28) rfl (by decide) fun a10 F10 => ?_
    refine sq (v := (.bool false)) F10 (wantedG F10 rfl rfl rfl rfl rfl) (run_geq rfl (F10.ev 9 rfl) (F10.ev 12 rfl) (decide_eq_false (by omega))) rfl (by decide) fun a11 F11 => ?_
    refine sr (v := (.bool false)) F11 (run_pick rfl (F11.ev 8 rfl) rfl (F11.ev 13 rfl)) rfl rfl rfl fun a12 F12 => ?_
    refine sn ?_
    clear F3 F4 F5 F6 F7 F8 F9 F10 F11
    refine cfs (F12.ev 14 rfl) ?_
    refine wsl ?_
    refine sr F12 (run_fldA (m := 1) (s := 0) rfl (F12.ev 2 rfl) Tryd.underlying30 rfl rfl (by kernel_rfl) (by decide)) rfl rfl rfl fun a13 F13 => ?_
    refine sr (v := v) F13 (run_ldF rfl (F13.ev 16 rfl) (M2.at 1 rfl) rfl (by kernel_rfl)) rfl rfl rfl fun a14 F14 => ?_
    refine mvS F14 rfl rfl rfl rfl rfl fun a15 F15 => ?_
    refine sr (v := (slPtr v (j * 32))) F15 (run_atP (i := j) rfl (F15.ev 17 rfl) (F15.ev 18 rfl) rfl (hV.below M2.below) (by omega) elKey.un (by kernel_rfl)) rfl rfl rfl fun a16 F16 => ?_
    refine sr (v := (.agg (cells8 x))) F16 (ldKey hx32 (run_ldPS (ys := dgC x) rfl (F16.ev 19 rfl) (hV.below M2.below) (by omega) (fun j u hj => flat_at dgC_len hx j hj) (by kernel_rfl) (by kernel_rfl))) rfl rfl rfl fun a17 F17 => ?_
    refine sqC (v := (.agg (cells8 (keyedS x [98, 111, 120, 101, 115])))) F17 M2 (wantedS rfl) (run_call rfl Tryd.func51 (by kernel_rfl) rfl (mapE2 (F17.ev 20 rfl) rfl)) rfl (by decide) (of38_any x [98, 111, 120, 101, 115] w2 hx32 (by first | omega | decide | (simp; done) | (simp; omega))) fun a18 w3 hb3 F18 M3 => ?_
    refine sqStore (i := 0) F18 M3 rfl rfl rfl (F18.ev 4 rfl) (F18.ev 21 rfl) rfl szKk (szOf (keyedS_len _ _)) (szOf List.length_replicate) (cells8_one _) fun a19 w4 F19 M4 => ?_
    refine sr (v := (.int .i64 0)) F19 (run_as rfl rfl) rfl rfl rfl fun a20 F20 => ?_
    refine sn ?_
    clear F12 F13 F14 F15 F16 F17 F18 F19 M2 M3
    refine wp_ret ?_
    exact retBT F20 rfl rfl (M4.at 0 rfl) Tryd.underlying23 rfl szKk (szOf (keyedS_len _ _)) rfl ⟨rfl, M4.below⟩
end Go.Proofs.YtconhhhggckcbaaDoor
