/- Plain: unlike names are found each; chunks as boxes. -/
import Derived.Test.YtdjjiblijbjobaaDoorPackT
import Derived.Test.YtdjjiblijbjobaaDoorChkPB
namespace Go.Proofs.YtdjjiblijbjobaaDoor
open Go.RowKit

theorem names_apart : ∀ (l : List Bx) (seen : List (List UInt8)), namesF seen l = 0 → (∀ x ∈ l, x.1 ∉ seen) ∧ (l.map (·.1)).Nodup
  | [], seen, _ => ⟨by simp, .nil⟩
  | b :: l, seen, h => by
    unfold namesF at h
    by_cases hm : mayS seen b.1 = 0
    · rw [if_pos hm] at h
      obtain ⟨h1, h2⟩ := names_apart l (seen ++ [b.1]) h
      have hns : b.1 ∉ seen := by
        unfold mayS at hm
        intro hc
        split at hm
        · cases hm
        · rw [List.contains_iff_mem.2 hc] at hm; cases hm
      refine ⟨fun x hx => ?_, ?_⟩
      · rcases List.mem_cons.1 hx with rfl | hx
        · exact hns
        · exact fun hc => h1 x hx (by simp [hc])
      · rw [List.map_cons, List.nodup_cons]
        refine ⟨fun hc => ?_, h2⟩
        obtain ⟨y, hy, he⟩ := List.mem_map.1 hc
        exact h1 y hy (by simp [he])
    · rw [if_neg hm] at h; exact absurd h hm
theorem find_own {l : List Bx} (hnd : (l.map (·.1)).Nodup) : ∀ {i : Nat} {x : Bx}, l[i]? = some x → (l.find? fun y => y.1 == x.1) = some x := by
  induction l with
  | nil => intro i x h; simp at h
  | cons b l ih =>
    intro i x h
    rw [List.map_cons, List.nodup_cons] at hnd
    cases i with
    | zero => simp only [List.getElem?_cons_zero, Option.some.injEq] at h; subst h; rw [List.find?_cons]; simp
    | succ i =>
      rw [List.getElem?_cons_succ] at h
      have hne : b.1 ≠ x.1 := fun e => hnd.1 (by rw [e]; exact List.mem_map.2 ⟨x, List.mem_of_getElem? h, rfl⟩)
      rw [List.find?_cons, beq_eq_false_iff_ne.2 hne]
      exact ih hnd.2 h
/-- a sealed chunk as a box. -/
def bxC (K : List (List UInt8)) (d : List UInt8) : Bx := (nameC K d, dataC K d)
theorem map_bx (K D : List (List UInt8)) (i : Nat) {X : List UInt8} (hX : D[i]? = some X) : (D.take (i + 1)).map (bxC K) = (D.take i).map (bxC K) ++ [bxC K X] := by
  obtain ⟨hi, he⟩ := List.getElem?_eq_some_iff.1 hX
  rw [List.take_succ_eq_append_getElem hi, he, List.map_append]
  rfl
theorem textsB_cons (b : Bx) (l : List Bx) : textsB (b :: l) = b.1 :: b.2 :: textsB l := rfl
theorem texts_small (K : List (List UInt8)) : ∀ D : List (List UInt8), (∀ s ∈ D, s.length ≤ 200) → (textsB (D.map (bxC K))).flatten.length ≤ D.length * 400
  | [], _ => by simp [textsB]
  | X :: D, h => by
    have e : textsB ((X :: D).map (bxC K)) = nameC K X :: dataC K X :: textsB (D.map (bxC K)) := by
      rw [List.map_cons, textsB_cons]
      dsimp only [bxC]
    have h1 := texts_small K D fun s hs => h s (List.mem_cons_of_mem _ hs)
    have h2 := h X (List.mem_cons_self ..)
    have h3 := pack_len X
    rw [e, List.flatten_cons, List.flatten_cons, List.length_append, List.length_append, nameC_len, dataC_len, List.length_cons]
    omega
end Go.Proofs.YtdjjiblijbjobaaDoor
