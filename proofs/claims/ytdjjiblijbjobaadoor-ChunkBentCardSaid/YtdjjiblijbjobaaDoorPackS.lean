/- Plain mathematics of packs (layer 40); no program in sight. -/
import Derived.Test.YtdjjiblijbjobaaDoorBaseB
import Derived.Test.YtdjjiblijbjobaaDoorOpsB
namespace Go.Proofs.YtdjjiblijbjobaaDoor
open Go.RowKit

/-- a box: its name, its data. -/
abbrev Bx := List UInt8 × List UInt8
def boxC (b : Bx) : List Value := [tx b.1, tx b.2]
theorem boxC_len (b : Bx) : (boxC b).length = 2 := rfl
def hibp : List UInt8 := [104, 105, 98, 112]
/-- why a name may not stand behind others. -/
def mayS (seen : List (List UInt8)) (nm : List UInt8) : Int := if nm.length < 1 ∨ 100 < nm.length then 7 else if seen.contains nm then 8 else 0
def namesF : List (List UInt8) → List Bx → Int
  | _, [] => 0
  | seen, b :: r => if mayS seen b.1 = 0 then namesF (seen ++ [b.1]) r else mayS seen b.1
def namesS (l : List Bx) : Int := namesF [] l
/-- the boxes as texts. -/
def textsB (l : List Bx) : List (List UInt8) := l.flatMap fun b => [b.1, b.2]
def bytesS (l : List Bx) : List UInt8 := rowS (hibp :: textsB l)
/-- the bytes of a pack, and the error. -/
def makeS (l : List Bx) : List UInt8 × Int :=
  if l = [] then ([], 1) else if namesS l ≠ 0 then ([], namesS l) else if 65536 < (bytesS l).length then ([], 6) else (bytesS l, 0)
/-- texts as boxes. -/
def boxesOf : List (List UInt8) → List Bx
  | n :: d :: r => (n, d) :: boxesOf r
  | _ => []
theorem boxesOf_texts : ∀ l : List Bx, boxesOf (textsB l) = l
  | [] => rfl
  | b :: l => by
    have h : textsB (b :: l) = b.1 :: b.2 :: textsB l := rfl
    rw [h, boxesOf, boxesOf_texts l]
theorem texts_boxesOf : ∀ (r : List (List UInt8)), r.length % 2 = 0 → textsB (boxesOf r) = r
  | [], _ => rfl
  | [x], h => by simp at h
  | n :: d :: r, h => by
    have h2 := texts_boxesOf r (by simp only [List.length_cons] at h; omega)
    show textsB ((n, d) :: boxesOf r) = _
    have h3 : textsB ((n, d) :: boxesOf r) = n :: d :: textsB (boxesOf r) := rfl
    rw [h3, h2]
theorem textsB_len (l : List Bx) : (textsB l).length = 2 * l.length := by
  induction l with
  | nil => rfl
  | cons b l ih =>
    have h : textsB (b :: l) = b.1 :: b.2 :: textsB l := rfl
    rw [h, List.length_cons, List.length_cons, List.length_cons, ih]; omega
theorem textsB_snoc (l : List Bx) (i : Nat) {x : Bx} (hx : l[i]? = some x) : textsB (l.take (i + 1)) = textsB (l.take i) ++ [x.1, x.2] := by
  obtain ⟨hl, rfl⟩ := List.getElem?_eq_some_iff.1 hx
  unfold textsB
  rw [List.take_succ_eq_append_getElem hl, List.flatMap_append]
  rfl
theorem namesF_step (seen : List (List UInt8)) (l : List Bx) (i : Nat) {x : Bx} (hx : l[i]? = some x) : namesF seen (l.drop i) = if mayS seen x.1 = 0 then namesF (seen ++ [x.1]) (l.drop (i + 1)) else mayS seen x.1 := by
  obtain ⟨hl, rfl⟩ := List.getElem?_eq_some_iff.1 hx
  rw [List.drop_eq_getElem_cons hl, namesF]
theorem map_snoc (l : List Bx) (i : Nat) {x : Bx} (hx : l[i]? = some x) : (l.take (i + 1)).map (·.1) = (l.take i).map (·.1) ++ [x.1] := by
  obtain ⟨hl, rfl⟩ := List.getElem?_eq_some_iff.1 hx
  rw [List.take_succ_eq_append_getElem hl, List.map_append]
  rfl
/-- how many bytes a text has in a row. -/
def rowedS (s : List UInt8) : Nat := (lenB s.length).length + s.length
theorem rowS_sum (l : List (List UInt8)) : (rowS l).length = (l.map rowedS).sum := by
  induction l with
  | nil => rfl
  | cons s l ih => rw [rowS_cons, List.map_cons, List.sum_cons, ← ih, List.length_append, List.length_append]; unfold rowedS; omega
theorem lenB_bound (n : Nat) (h : n < 2 ^ 42) : (lenB n).length ≤ 6 := by
  have key : ∀ k m, m < 128 ^ (k + 1) → (lenB m).length ≤ k + 1 := by
    intro k
    induction k with
    | zero => intro m hm; rw [lenB_lt m (by omega)]; simp
    | succ k ih =>
      intro m hm
      by_cases h8 : m < 128
      · rw [lenB_lt m h8]; simp
      · rw [lenB_ge m h8, List.length_cons]
        have := ih (m / 128) (by rw [Nat.div_lt_iff_lt_mul (by decide)]; rw [Nat.pow_succ] at hm; omega)
        omega
  exact key 5 n (by omega)
theorem lenB_pos (n : Nat) : 0 < (lenB n).length := List.length_pos_iff.2 (lenB_ne n)
/-- what is still to be counted of a length. -/
def more7 (m : Nat) : Nat := if m = 0 then 0 else (lenB m).length
theorem more7_step (m : Nat) (h : m ≠ 0) : more7 m = 1 + more7 (m / 128) := by
  unfold more7
  rw [if_neg h]
  by_cases h8 : m < 128
  · rw [lenB_lt m h8, if_pos (by omega)]; simp
  · rw [lenB_ge m h8, if_neg (by omega), List.length_cons]; omega
theorem lenB_more (m : Nat) : (lenB m).length = 1 + more7 (m / 128) := by
  by_cases h : m = 0
  · subst h; rw [lenB_lt 0 (by decide)]; rfl
  · have := more7_step m h
    unfold more7 at this ⊢
    rw [if_neg h] at this
    exact this
end Go.Proofs.YtdjjiblijbjobaaDoor
