/- Small facts that the rows of the hash laws share. -/
import Derived.Test.YtdjjiblijbjobaaDoorCards
import Derived.Test.YtdjjiblijbjobaaDoorTie
import Derived.Test.YtdjjiblijbjobaaDoorMixB
import Derived.Test.YtdjjiblijbjobaaDoorBaseB
import Derived.SliceStrings
import Derived.ProofKit
import Derived.Deep.DeepHandedRow
namespace Go.Proofs.YtdjjiblijbjobaaDoor
open Go.ChangeShapes Go.WideShapes Go.ChangeAt Go.RowKit

theorem own_knob : ownKnob Tryd.prog.godebug = none := by kernel_rfl
theorem laid_out : laidOutB Tryd.prog = true := by kernel_rfl
theorem list_of (s : ByteArray) (h : s.size ≤ maxLen) : ∃ l : List UInt8, s = ⟨l.toArray⟩ ∧ l.length ≤ maxLen := by
  refine ⟨s.data.toList, ?_, ?_⟩
  · cases s; simp
  · have e : s.data.toList.length = s.size := by rw [Array.length_toList]; rfl
    omega
theorem half_of (z : Int) (h : (Lit.int .u16 z).wf = true) : ∃ b : Nat, z = (b : Int) ∧ b < 65536 := by
  have hb := bounds_u16 h
  exact ⟨z.toNat, by omega, by omega⟩
set_option maxRecDepth 100000 in
/-- a slice of texts that came in. -/
theorem open_strs {H : Type} {enc : TypeId × Value → H} {W : World} {base : Nat} {v : Value} {d : DataW H} {ps : List MemPlace} {sp : Nat → Bool} {hd : Bool} {b0 : Nat} (hval : Value.okWide Tryd.prog W .any base 23 v)
    (h : DataW.Trod enc Tryd.prog W b0 sp hd 23 v d ps) : ∃ l : List (List UInt8), Strs W v l ∧ l.length ≤ maxLen := by
  obtain ⟨fuel, hf⟩ := h
  have hcs : v.cells.toList = [v] := by
    obtain ⟨a, n, c, rfl⟩ := okWide_slice Tryd.underlying23 hval
    rfl
  rw [hcs] at hf
  rcases open_strings Tryd.underlying23 Tryd.underlying9 (by kernel_rfl) hf with ⟨h1, _⟩ | ⟨a, len, cap, ss, h1, _, hl, hm, hss, _, hc, _⟩
  · injection h1 with h1
    subst h1
    exact ⟨[], .inl ⟨⟨_, _, rfl⟩, rfl⟩, by simp⟩
  · injection h1 with h1
    subst h1
    have hsl : len ≤ ss.length := by rw [hss]; split <;> omega
    refine ⟨(ss.take len).map (fun s => s.data.toList), ?_, by simp; omega⟩
    rcases Nat.eq_zero_or_pos len with h0 | h0
    · subst h0
      exact .inl ⟨⟨_, _, rfl⟩, by simp⟩
    · have h00 := hc 0 (by omega)
      have hsp : a.spot = none ∧ a.block < W.heap.size := by
        unfold World.cell? at h00
        have e : (a.add 0).block = a.block ∧ (a.add 0).spot = a.spot := by unfold Addr.add; rw [if_pos rfl]; exact ⟨rfl, rfl⟩
        rw [e.1, e.2] at h00
        split at h00
        · rename_i c t fr hb
          constructor
          · cases hs : a.spot with
            | none => rfl
            | some x => rw [hs] at h00; simp at h00
          · rcases Nat.lt_or_ge a.block W.heap.size with hlt | hge
            · exact hlt
            · rw [Array.getElem?_eq_none hge] at hb; cases hb
        · cases h00
      obtain ⟨b, o, sp'⟩ := a
      simp only at hsp
      obtain ⟨rfl, hb⟩ := hsp
      have hlen : ((ss.take len).map (fun s => s.data.toList)).length = len := by simp; omega
      refine .inr ⟨b, o, cap, by rw [hlen], hb, fun i hi => ?_⟩
      rw [hlen] at hi
      have := hc i (by omega)
      rw [addr_add] at this
      rw [this]
      have hi' : i < ss.length := by omega
      simp [tx, hi, hi']
def laidIn (cs : Array Value) : Obj → Obj
  | .cells _ t frozen => .cells cs t frozen
  | o => o
/-- A WORLD FOR THE WITNESS: the settled one, the tables holding what their initialisers lay. -/
noncomputable def hashWorld (os : Os) : World :=
  { World.holding Tryd.prog os ⟨#[], #[], []⟩ with heap := ((World.holding Tryd.prog os ⟨#[], #[], []⟩).heap.modify 0 (laidIn (cells eightV))).modify 1 (laidIn sigCells) }
end Go.Proofs.YtdjjiblijbjobaaDoor
