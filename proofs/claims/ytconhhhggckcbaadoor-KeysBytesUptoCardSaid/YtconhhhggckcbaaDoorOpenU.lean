/- Rings whose bulk is bounded, as parameters: what the row's second form says of them. -/
import Derived.Test.YtconhhhggckcbaaDoorOpenL
namespace Go.Proofs.YtconhhhggckcbaaDoor
open Go.ChangeShapes Go.WideShapes Go.ChangeAt Go.RowKit

theorem bulk_part {H : Type} {d : DataW H} : ∀ {l : List (DataW H)}, d ∈ l → Rows.uptoBulk d ≤ Rows.uptoBulkAll l
  | [], h => by cases h
  | y :: l, h => by
    rw [Rows.uptoBulkAll]
    rcases List.mem_cons.1 h with rfl | h
    · omega
    · have := bulk_part h
      omega
section
variable {H : Type} {enc : TypeId × Value → H} {W : World} {base : Nat} {v : Value} {d : DataW H} {ps : List MemPlace} {sp : Nat → Bool} {hd : Bool} {b0 : Nat}
set_option maxRecDepth 100000 in
theorem epoch_of_trodU {n : Nat} {cs : List Value} {z : DataW H × List MemPlace} (h : DataW.trod enc Tryd.prog W b0 sp hd n 76 cs = some z) (hw : Rows.uptoBulk z.1 ≤ 1048576) : ∃ e : Ep, (e.c.length = 32 ∧ e.wr.length ≤ 1048576) ∧ cs = epF e := by
  have ke : Tryd.prog.cellsOf 76 = 33 := by kernel_rfl
  have kd : Tryd.prog.cellsOf 73 = 32 := by kernel_rfl
  have ks : Tryd.prog.cellsOf 9 = 1 := by kernel_rfl
  obtain ⟨xs, n', _, hz, hlen, hxl, hq⟩ := DataW.trod_struct Tryd.underlying76 h
  rw [ke] at hlen
  have f0 := hq 0 _ rfl
  have f1 := hq 1 _ rfl
  have f0' : DataW.trod enc Tryd.prog W b0 sp hd n' 73 (cs.take 32) = xs[0]? := by simpa [kd] using f0
  have f1' : DataW.trod enc Tryd.prog W b0 sp hd n' 9 ((cs.drop 32).take 1) = xs[1]? := by simpa [ks] using f1
  have hx2 : xs.length = 2 := by simpa using hxl
  match xs, hx2 with
  | [y0, y1], _ =>
    obtain ⟨c, hc, hcc⟩ := bytes_of_trod Tryd.underlying73 Tryd.underlying5 co8 kd f0'
    obtain ⟨s1, e1, e2, _⟩ := DataW.trod_string Tryd.underlying9 f1'
    refine ⟨⟨c, s1.data.toList⟩, ⟨hc, ?_⟩, ?_⟩
    · have hz1 : z.1 = .agg [y0.1, y1.1] := congrArg Prod.fst hz
      rw [hz1, congrArg Prod.fst e2] at hw
      simp only [Rows.uptoBulk, Rows.uptoBulkAll] at hw
      show s1.data.toList.length ≤ 1048576
      omega
    · have hd1 : (cs.drop 32).take 1 = cs.drop 32 := List.take_of_length_le (by rw [List.length_drop, hlen]; exact Nat.le_refl _)
      rw [epF_of hc, epL, ← List.take_append_drop 32 cs, hcc, ← hd1, e1]
set_option maxRecDepth 100000 in
theorem open_ringU (hval : Value.okWide Tryd.prog W .any base 27 v)
    (h : DataW.Trod enc Tryd.prog W b0 sp hd 27 v d ps) (hw : Rows.uptoBulk d ≤ 1048576) : ∃ (E : List Ep) (u : Value), v = .agg #[u] ∧ Sl W u 33 E.length (E.flatMap epF) ∧ (∀ e ∈ E, e.c.length = 32) ∧ ∀ e ∈ E, e.wr.length ≤ 1048576 := by
  obtain ⟨u, n, y, rfl, hdy, h2⟩ := one_fieldD Tryd.underlying27 (by kernel_rfl) (by kernel_rfl) rfl hval h
  obtain ⟨E, h3, h4, _, _⟩ := slice_openP (f := epF) (G := fun e : Ep => e.c.length = 32 ∧ e.wr.length ≤ 1048576) epF_len (by decide) (fun z => Rows.uptoBulk z ≤ 1048576) Tryd.underlying25 (by kernel_rfl) (fun _ _ _ ht hp => epoch_of_trodU ht hp) (fun es rs hy z hz => by
    rw [hdy, hy] at hw
    simp only [Rows.uptoBulk, Rows.uptoBulkAll] at hw
    have := bulk_part hz
    omega) h2
  exact ⟨E, u, rfl, h3, fun e he => (h4 e he).1, fun e he => (h4 e he).2⟩
end
end Go.Proofs.YtconhhhggckcbaaDoor
