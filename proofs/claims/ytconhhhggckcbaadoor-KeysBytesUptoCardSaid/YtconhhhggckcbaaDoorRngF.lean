/- A text copied into a key or into an epoch's Check; an epoch's Check out of memory. -/
import Derived.Test.YtconhhhggckcbaaDoorRng2
import Derived.Test.YtconhhhggckcbaaDoorBaseB
import Derived.Test.YtconhhhggckcbaaDoorShr3
namespace Go.Proofs.YtconhhhggckcbaaDoor
open Go.RowKit
variable {D : List Deferred}

section
variable {a : Act} {o : Oper} {w w0 : World} {n s : Nat} {L : List (Nat × Value)} {v : Value} {ops : Array Oper} {rest : List Oper} {Q : Exit → Act → World → Prop} {M : List (Nat × (Obj → Prop))} {x y z : Operand} {g i : Nat} {d k : List UInt8}
theorem sqCopyG {dT sT t : TypeId} {j c : Nat} {cur cs2 : Array Value} (hu : Tryd.prog.underlying dT = some (.slice 5)) (hF : FrD D a n L) (hM : Mem w0 M w) (hgd : o.guard = none) (ho : o.op = .call { callee := .builtin .copy, args := #[x, y], argTypes := #[dT, sT] }) (hx : a.eval x = .slice (some ⟨g, 0, none⟩) 32 c) (hy : a.eval y = .string ⟨d.toArray⟩) (h32 : d.length = 32)
    (e : M[j]? = some (g, isB t cur)) (hfit : 32 ≤ cur.size) (hcs : (d.map cb ++ cur.toList.drop 32).toArray = cs2) (hd : o.dst = some s) (hs : s < n)
    (h : ∀ a2 w2, w.grownBy w2 (some g) → FrD D a2 n ((s, .int .i64 32) :: L) → Mem w0 (M.set j (g, isB t cs2)) w2 → wpList Tryd.prog ops Q rest a2 w2) : wpList Tryd.prog ops Q (o :: rest) a w := by
  have hB := hM.at j e
  have hrun := run_copy_str (P := Tryd.prog) w dT sT o.type 5 g 0 32 c d cur t 32 hu (by kernel_rfl) hB (by rw [h32]; rfl) (by omega)
  have hcs' : (cur.toList.take 0 ++ (d.take 32).map cb ++ cur.toList.drop (0 + 32)).toArray = cs2 := by
    rw [List.take_zero, List.nil_append, List.take_of_length_le (by omega), Nat.zero_add, hcs]
  rw [hcs'] at hrun
  have hg := grown_setRow w g cs2
  refine sq hF (wantedS hgd) (v := .int .i64 32) (w2 := w.setRow g cs2) ?_ hd hs fun a2 hF2 => h a2 _ hg hF2 (hM.upd j e hg ⟨_, hB.row _, rfl⟩)
  simp [execOp, ho, resolve, invoke, builtin, hx, hy, hrun, Result.andThen]
theorem copy_key (hk : k.length = 32) : (d.map cb ++ (cells8 k).toList.drop 32).toArray = cells8 d := by
  rw [show (cells8 k).toList = k.map cb from rfl, List.drop_of_length_le (by simp [hk]), List.append_nil]; rfl
theorem copy_ep {c wr : List UInt8} (hc : c.length = 32) : (d.map cb ++ (epC ⟨c, wr⟩).toList.drop 32).toArray = epC ⟨d, wr⟩ := by
  simp only [epC, epL]
  rw [List.drop_left' (by simp [hc])]
theorem run_ldEC {t : TypeId} {e : Ep} (ho : o.op = .load 73 x) (hx : a.eval x = .pointer (some ⟨g, 0, none⟩)) (hB : Blk w g t (epC e)) (h : e.c.length = 32) : (execOp a.eval o).run Tryd.prog w = .ok (.value (.agg (cells8 e.c))) w := by
  refine run_ldS (cs := e.c.map cb) ho hx (by kernel_rfl) (by rw [List.length_map, h]; kernel_rfl) fun j u hj => ?_
  rw [hB.cell, Nat.zero_add]
  simp only [epC, epL, List.getElem?_toArray]
  rw [List.getElem?_append_left (List.getElem?_eq_some_iff.1 hj).1]
  exact hj
end
theorem shareC_one (s : Sh) : ∀ u ∈ shareC s, u.oneCell' = true := by
  intro u hu
  unfold shareC at hu
  rcases List.mem_cons.1 hu with rfl | hu
  · rfl
  · obtain ⟨i, _, rfl⟩ := List.mem_map.1 hu
    rfl
theorem flat_one {α : Type} {f : α → List Value} (hf : ∀ x, ∀ u ∈ f x, u.oneCell' = true) (l : List α) : ∀ u ∈ l.flatMap f, u.oneCell' = true := by
  intro u hu
  obtain ⟨x, _, hx⟩ := List.mem_flatMap.1 hu
  exact hf x u hx
theorem joinT_len {l : List Sh} {k : List UInt8} (h : joinT l = some k) : k.length = 32 := by
  by_cases hl : l.length = 3
  · match l, hl with
    | [s0, s1, s2], _ =>
      rw [joinT] at h
      split at h
      · cases h
      · split at h
        · injection h with h; rw [← h]; exact keyT_len _ _ _ _
        · cases h
  · rw [joinT_none hl] at h; cases h
theorem ownK2 {w : World} {B g m : Nat} {l : List (List UInt8)} (hB : Blk w g 23 (kysA l)) (hg : B ≤ g) (hm : l.length = m) (hl : m ≤ maxLen) : w.ownsRow B 23 32 (.slice (some ⟨g, 0, none⟩) m m) m (l.flatMap dgC) := by
  subst hm
  exact ⟨flat_len l, .inr ⟨g, l.length, kysA l, rfl, hg, hB, Nat.le_refl _, hl, kysA_size l, List.take_of_length_le (by rw [← flat_len l]; exact Nat.le_refl _)⟩⟩
/-- the keys as they are filled in from behind. -/
def fillS (E : List Ep) (k : List UInt8) (i : Nat) : List (List UInt8) := (List.range E.length).map fun q => if i ≤ q then kyI E k q else List.replicate 32 0
theorem fillS_len (E : List Ep) (k : List UInt8) (i : Nat) : (fillS E k i).length = E.length := by simp [fillS]
theorem fillS_all (E : List Ep) (k : List UInt8) : fillS E k 0 = allS E k := by
  unfold fillS allS
  exact List.map_congr_left fun q _ => if_pos (Nat.zero_le q)
theorem fillS_none (E : List Ep) (k : List UInt8) : List.replicate E.length (List.replicate 32 0) = fillS E k E.length := by
  apply List.ext_getElem?
  intro q
  unfold fillS
  by_cases hq : q < E.length
  · rw [List.getElem?_replicate, if_pos hq, List.getElem?_map, List.getElem?_range hq, Option.map_some, if_neg (by omega)]
  · rw [List.getElem?_eq_none (by simp; omega), List.getElem?_eq_none (by simp; omega)]
theorem fillS_step (E : List Ep) (k : List UInt8) {i : Nat} (hi : i < E.length) : (fillS E k (i + 1)).set i (kyI E k i) = fillS E k i := by
  apply List.ext_getElem?
  intro q
  rw [List.getElem?_set, fillS_len]
  by_cases hq : i = q
  · subst hq
    rw [if_pos rfl, if_pos hi, fillS, List.getElem?_map, List.getElem?_range hi, Option.map_some, if_pos (Nat.le_refl _)]
  · rw [if_neg hq]
    unfold fillS
    by_cases hl : q < E.length
    · rw [List.getElem?_map, List.getElem?_map, List.getElem?_range hl, Option.map_some, Option.map_some]
      by_cases h1 : i + 1 ≤ q
      · rw [if_pos h1, if_pos (by omega)]
      · rw [if_neg h1, if_neg (by omega)]
    · rw [List.getElem?_eq_none (by simp; omega), List.getElem?_eq_none (by simp; omega)]
theorem kyI_len {E : List Ep} {k : List UInt8} (hk : k.length = 32) : ∀ {i : Nat}, i < E.length → (∀ q, i < q → q < E.length → okI E k q) → (kyI E k i).length = 32 := by
  intro i hi hok
  by_cases h : i + 1 = E.length
  · rw [kyI_last h]; exact hk
  · have he : E[i + 1]? = some (E[i + 1]'(by omega)) := List.getElem?_eq_getElem (by omega)
    rw [kyI_step he]
    have := (okI_at he).1 (hok (i + 1) (by omega) (by omega))
    exact (this.2 (by omega)).2
end Go.Proofs.YtconhhhggckcbaaDoor
