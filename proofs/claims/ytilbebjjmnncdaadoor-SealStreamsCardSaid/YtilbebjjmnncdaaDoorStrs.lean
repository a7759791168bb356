/- Slices of texts in memory; what a digest's state is while parts are added. -/
import Derived.Test.YtilbebjjmnncdaaDoorEnd
import Derived.Test.YtilbebjjmnncdaaDoorBegin
namespace Go.Proofs.YtilbebjjmnncdaaDoor
open Go.RowKit

/-- a text. -/
def tx (l : List UInt8) : Value := .string ⟨l.toArray⟩
/-- a slice of texts, as it reads in a world. -/
def Strs (w : World) (v : Value) (l : List (List UInt8)) : Prop :=
  ((∃ a c, v = .slice a 0 c) ∧ l = []) ∨ ∃ b o c : Nat, v = .slice (some ⟨b, o, none⟩) l.length c ∧ b < w.heap.size ∧ ∀ i, i < l.length → w.cell? ⟨b, o + i, none⟩ = some (tx (l.getD i []))
theorem Strs.keep {w w' : World} {v : Value} {l : List (List UInt8)} (h : Strs w v l) (hs : w.heap.size ≤ w'.heap.size) (hk : ∀ b, b < w.heap.size → w'.heap[b]? = w.heap[b]?) : Strs w' v l := by
  rcases h with h | ⟨b, o, c, h1, h2, h3⟩
  · exact .inl h
  · refine .inr ⟨b, o, c, h1, by omega, fun i hi => ?_⟩
    rw [← h3 i hi]
    unfold World.cell?
    simp only [hk b h2]
theorem Strs.below {w w' : World} {v : Value} {l : List (List UInt8)} (h : Strs w v l) (hb : Below w.heap.size w w') : Strs w' v l := h.keep hb.size (fun b hl => hb.block b hl)
theorem Strs.grown {w0 w w' : World} {g : Nat} {v : Value} {l : List (List UInt8)} (h : Strs w0 v l) (h0 : Below w0.heap.size w0 w) (hb : w.grownBy w' (some g)) (hg : w0.heap.size ≤ g) : Strs w' v l :=
  h.keep (Nat.le_trans h0.size hb.size) (fun b hl => (hb.block b (Nat.lt_of_lt_of_le hl h0.size) (by simp; omega)).trans (h0.block b hl))
theorem Strs.len {w : World} {v : Value} {l : List (List UInt8)} (h : Strs w v l) : ∃ a c, v = .slice a l.length c := by
  rcases h with ⟨⟨a, c, rfl⟩, rfl⟩ | ⟨b, o, c, h1, _, _⟩
  · exact ⟨_, _, rfl⟩
  · exact ⟨_, _, h1⟩
theorem AddPost.here {h0 : List Wd} {p : List UInt8} {g : Nat} {w w' : World} (h : AddPost h0 p g w w') : AddPost h0 p g w' w' := by
  obtain ⟨h, wt, f, q, h1, h2, h3, h4, _⟩ := h
  exact ⟨h, wt, f, q, h1, h2, h3, h4, grown_refl _ _⟩
theorem AddPost.gr {h0 : List Wd} {p : List UInt8} {g : Nat} {w w' : World} (h : AddPost h0 p g w w') : w.grownBy w' (some g) := by
  obtain ⟨h, wt, f, q, h1, h2, h3, h4, h5⟩ := h
  exact h5
theorem AddPost.join {h0 : List Wd} {p p' : List UInt8} {g : Nat} {w w' w'' : World} (h : AddPost h0 p g w w') (k : AddPost h0 p' g w' w'') : AddPost h0 p' g w w'' := by
  obtain ⟨h', wt, f, q, h1, h2, h3, h4, h5⟩ := k
  exact ⟨h', wt, f, q, h1, h2, h3, h4, grown_trans h.gr h5⟩
theorem AddPost.from_ {h0 : List Wd} {p : List UInt8} {g : Nat} {w0 w w' : World} (h : AddPost h0 p g w w') (hb : Below g w0 w) (hg : g ≤ w.heap.size) : Below g w0 w' := below_grown hb h.gr (Nat.le_refl _) hg
/-- the parts, one behind the other, up to the i-th. -/
def joinTo (l : List (List UInt8)) (i : Nat) : List UInt8 := (l.take i).flatten
theorem joinTo_succ (l : List (List UInt8)) (i : Nat) (h : i < l.length) : joinTo l i ++ l.getD i [] = joinTo l (i + 1) := by
  unfold joinTo
  rw [List.take_succ_eq_append_getElem h, List.flatten_append]
  simp [h]
theorem joinTo_le (l : List (List UInt8)) (i : Nat) : (joinTo l i).length ≤ l.flatten.length := by
  have : l.flatten = joinTo l i ++ (l.drop i).flatten := by unfold joinTo; rw [← List.flatten_append, List.take_append_drop]
  rw [this, List.length_append]; omega
theorem joinTo_all (l : List (List UInt8)) : joinTo l l.length = l.flatten := by unfold joinTo; rw [List.take_length]
theorem start_post {h0 : List Wd} {g : Nat} {w : World} (hh : h0.length = 8) (hB : Blk w g 66 (stCells h0 (List.replicate 64 0) 0 0)) : AddPost h0 [] g w w :=
  ⟨h0, List.replicate 64 0, 0, 0, ⟨rfl, by simp, by simp, by omega, by simp⟩, .inr rfl, hh, hB, grown_refl _ _⟩
theorem key_post {h0 : List Wd} {g : Nat} {w : World} {k : List UInt8} (hh : h0.length = 8) (hk : k.length = 32) (hB : Blk w g 66 (stCells h0 (k ++ List.replicate 32 0) 64 0)) : AddPost h0 (k ++ List.replicate 32 0) g w w :=
  ⟨h0, k ++ List.replicate 32 0, 64, 0, ⟨rfl, by simp [hk], by simp [hk], by omega, by rw [List.take_of_length_le (by simp [hk])]; simp⟩, .inl (by omega), hh, hB, grown_refl _ _⟩
theorem Strs.new (w : World) (l : List (List UInt8)) (t : TypeId) (c : Nat) (cs : Array Value) (h : cs = (l.map tx).toArray) : Strs (w.alloc (.cells cs t)) (.slice (some ⟨w.heap.size, 0, none⟩) l.length c) l := by
  subst h
  refine .inr ⟨w.heap.size, 0, c, rfl, by simp, fun i hi => ?_⟩
  rw [(Blk.new w t (l.map tx).toArray).cell]
  simp [hi]
end Go.Proofs.YtilbebjjmnncdaaDoor
