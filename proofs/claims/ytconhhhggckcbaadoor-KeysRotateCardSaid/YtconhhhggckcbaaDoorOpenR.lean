/- Rings and keys as parameters: what the row says of them. -/
import Derived.Test.YtconhhhggckcbaaDoorOpenL
namespace Go.Proofs.YtconhhhggckcbaaDoor
open Go.ChangeShapes Go.WideShapes Go.ChangeAt Go.RowKit

section
variable {H : Type} {enc : TypeId × Value → H} {W : World} {base : Nat} {v : Value} {d : DataW H} {ps : List MemPlace} {sp : Nat → Bool} {hd : Bool} {b0 : Nat}
set_option maxRecDepth 100000 in
theorem epoch_of_trod {n : Nat} {cs : List Value} {z : DataW H × List MemPlace} (h : DataW.trod enc Tryd.prog W b0 sp hd n 76 cs = some z) : ∃ e : Ep, e.c.length = 32 ∧ cs = epF e := by
  have ke : Tryd.prog.cellsOf 76 = 33 := by kernel_rfl
  have kd : Tryd.prog.cellsOf 73 = 32 := by kernel_rfl
  have ks : Tryd.prog.cellsOf 9 = 1 := by kernel_rfl
  obtain ⟨xs, n', _, _, hlen, hxl, hq⟩ := DataW.trod_struct Tryd.underlying76 h
  rw [ke] at hlen
  have f0 := hq 0 _ rfl
  have f1 := hq 1 _ rfl
  have f0' : DataW.trod enc Tryd.prog W b0 sp hd n' 73 (cs.take 32) = xs[0]? := by simpa [kd] using f0
  have f1' : DataW.trod enc Tryd.prog W b0 sp hd n' 9 ((cs.drop 32).take 1) = xs[1]? := by simpa [ks] using f1
  have hx2 : xs.length = 2 := by simpa using hxl
  obtain ⟨y0, hy0⟩ : ∃ y, xs[0]? = some y := ⟨xs[0], by simp [hx2]⟩
  obtain ⟨y1, hy1⟩ : ∃ y, xs[1]? = some y := ⟨xs[1], by simp [hx2]⟩
  obtain ⟨c, hc, hcc⟩ := bytes_of_trod Tryd.underlying73 Tryd.underlying5 co8 kd (f0'.trans hy0)
  obtain ⟨s1, e1, _, _⟩ := DataW.trod_string Tryd.underlying9 (f1'.trans hy1)
  refine ⟨⟨c, s1.data.toList⟩, hc, ?_⟩
  have hd1 : (cs.drop 32).take 1 = cs.drop 32 := List.take_of_length_le (by rw [List.length_drop, hlen]; exact Nat.le_refl _)
  rw [epF_of hc, epL, ← List.take_append_drop 32 cs, hcc, ← hd1, e1]
set_option maxRecDepth 100000 in
theorem open_ringC (hval : Value.okWide Tryd.prog W .any base 27 v)
    (h : DataW.Trod enc Tryd.prog W b0 sp hd 27 v d ps) : ∃ (E : List Ep) (u : Value), v = .agg #[u] ∧ Sl W u 33 E.length (E.flatMap epF) ∧ (∀ e ∈ E, e.c.length = 32) ∧ E.length ≤ maxLen := by
  obtain ⟨u, n, y, rfl, h2⟩ := one_field Tryd.underlying27 (by kernel_rfl) (by kernel_rfl) rfl hval h
  obtain ⟨E, h3, h4, h5, _⟩ := slice_open (f := epF) (G := fun e : Ep => e.c.length = 32) epF_len (by decide) Tryd.underlying25 (by kernel_rfl) (fun _ _ _ ht => epoch_of_trod ht) h2
  exact ⟨E, u, rfl, h3, h4, h5⟩
set_option maxRecDepth 100000 in
theorem open_keysC (hval : Value.okWide Tryd.prog W .any base 30 v)
    (h : DataW.Trod enc Tryd.prog W b0 sp hd 30 v d ps) : ∃ (K : List (List UInt8)) (u : Value), v = .agg #[u] ∧ Sl W u 32 K.length (K.flatMap dgC) ∧ (∀ k ∈ K, k.length = 32) ∧ capOk u := by
  obtain ⟨u, n, y, rfl, h2⟩ := one_field Tryd.underlying30 (by kernel_rfl) (by kernel_rfl) rfl hval h
  obtain ⟨K, h3, h4, _, h6⟩ := keys_open h2
  exact ⟨K, u, rfl, h3, h4, h6⟩
end
end Go.Proofs.YtconhhhggckcbaaDoor
