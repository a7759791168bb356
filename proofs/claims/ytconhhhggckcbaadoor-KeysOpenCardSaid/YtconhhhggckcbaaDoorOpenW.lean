/- Rings whose texts' lengths are bounded, and shares, as parameters: what the row says of them. -/
import Derived.Test.YtconhhhggckcbaaDoorOpenL
namespace Go.Proofs.YtconhhhggckcbaaDoor
open Go.ChangeShapes Go.WideShapes Go.ChangeAt Go.RowKit

theorem weightsAll_mem {H : Type} {P : Program} {e : TypeId} {d : DataW H} {x : Nat} (hx : x ∈ d.weights P e) : ∀ {l : List (DataW H)}, d ∈ l → x ∈ DataW.weightsAll P e l
  | [], h => by cases h
  | y :: l, h => by
    rw [DataW.weightsAll]
    rcases List.mem_cons.1 h with rfl | h
    · exact List.mem_append_left _ hx
    · exact List.mem_append_right _ (weightsAll_mem hx h)
section
variable {H : Type} {enc : TypeId × Value → H} {W : World} {base : Nat} {v : Value} {d : DataW H} {ps : List MemPlace} {sp : Nat → Bool} {hd : Bool} {b0 : Nat}
set_option maxRecDepth 100000 in
theorem epoch_of_trodW {n : Nat} {cs : List Value} {z : DataW H × List MemPlace} (h : DataW.trod enc Tryd.prog W b0 sp hd n 76 cs = some z) (hw : ∀ x ∈ z.1.weights Tryd.prog 76, x ≤ reachBytes) : ∃ e : Ep, (e.c.length = 32 ∧ e.wr.length ≤ 140737488351232) ∧ cs = epF e := by
  have ke : Tryd.prog.cellsOf 76 = 33 := by kernel_rfl
  have kd : Tryd.prog.cellsOf 73 = 32 := by kernel_rfl
  have ks : Tryd.prog.cellsOf 9 = 1 := by kernel_rfl
  obtain ⟨xs, n', _, hz, hlen, hxl, hq⟩ := DataW.trod_struct Tryd.underlying76 h
  rw [ke] at hlen
  have f0 := hq 0 _ rfl
  have f1 := hq 1 _ rfl
  have f0' : DataW.trod enc Tryd.prog W b0 sp hd n' 73 (cs.take 32) = xs[0]? := by simpa [kd] using f0
  have f1' : DataW.trod enc Tryd.prog W b0 sp hd n' 9 ((cs.drop 32).take 1) = xs[1]? := by simpa [ks] using f1
  have hx2 : xs.length = 2 := by simpa using hxl
  match xs, hx2 with
  | [y0, y1], _ =>
    obtain ⟨c, hc, hcc⟩ := bytes_of_trod Tryd.underlying73 Tryd.underlying5 co8 kd f0'
    obtain ⟨s1, e1, e2, _⟩ := DataW.trod_string Tryd.underlying9 f1'
    refine ⟨⟨c, s1.data.toList⟩, ⟨hc, ?_⟩, ?_⟩
    · refine hw _ ?_
      rw [congrArg Prod.fst hz]
      show s1.data.toList.length ∈ DataW.weights Tryd.prog 76 (.agg [y0.1, y1.1])
      rw [congrArg Prod.fst e2]
      simp only [DataW.weights, Tryd.underlying76, List.map_cons, List.map_nil, DataW.weightsEach, List.append_nil]
      exact List.mem_append_right _ (List.mem_singleton.2 rfl)
    · have hd1 : (cs.drop 32).take 1 = cs.drop 32 := List.take_of_length_le (by rw [List.length_drop, hlen]; exact Nat.le_refl _)
      rw [epF_of hc, epL, ← List.take_append_drop 32 cs, hcc, ← hd1, e1]
set_option maxRecDepth 100000 in
theorem open_ringW (hval : Value.okWide Tryd.prog W .any base 27 v)
    (h : DataW.Trod enc Tryd.prog W b0 sp hd 27 v d ps) (hw : ∀ x ∈ d.weights Tryd.prog 27, x ≤ reachBytes) : ∃ (E : List Ep) (u : Value), v = .agg #[u] ∧ Sl W u 33 E.length (E.flatMap epF) ∧ (∀ e ∈ E, e.c.length = 32) ∧ ∀ e ∈ E, e.wr.length ≤ 140737488351232 := by
  obtain ⟨u, n, y, rfl, hdy, h2⟩ := one_fieldD Tryd.underlying27 (by kernel_rfl) (by kernel_rfl) rfl hval h
  obtain ⟨E, h3, h4, _, _⟩ := slice_openP (f := epF) (G := fun e : Ep => e.c.length = 32 ∧ e.wr.length ≤ 140737488351232) epF_len (by decide) (fun z => ∀ x ∈ z.weights Tryd.prog 76, x ≤ reachBytes) Tryd.underlying25 (by kernel_rfl) (fun _ _ _ ht hp => epoch_of_trodW ht hp) (fun es rs hy z hz x hx => by
    refine hw x ?_
    rw [hdy, hy]
    simp only [DataW.weights, Tryd.underlying27, List.map_cons, List.map_nil, DataW.weightsEach, List.append_nil, Tryd.underlying25]
    exact List.mem_cons_of_mem _ (List.mem_append_left _ (weightsAll_mem hx hz))) h2
  exact ⟨E, u, rfl, h3, fun e he => (h4 e he).1, fun e he => (h4 e he).2⟩
set_option maxRecDepth 100000 in
theorem share_of_trod {n : Nat} {cs : List Value} {z : DataW H × List MemPlace} (h : DataW.trod enc Tryd.prog W b0 sp hd n 54 cs = some z) : ∃ s : Sh, True ∧ cs = shareC s := by
  have ke : Tryd.prog.cellsOf 54 = 33 := by kernel_rfl
  have kd : Tryd.prog.cellsOf 23 = 32 := by kernel_rfl
  have k1 : Tryd.prog.cellsOf 5 = 1 := by kernel_rfl
  obtain ⟨xs, n', _, _, hlen, hxl, hq⟩ := DataW.trod_struct Tryd.underlying54 h
  rw [ke] at hlen
  have f0 := hq 0 _ rfl
  have f1 := hq 1 _ rfl
  have f0' : DataW.trod enc Tryd.prog W b0 sp hd n' 5 (cs.take 1) = xs[0]? := by simpa [k1] using f0
  have f1' : DataW.trod enc Tryd.prog W b0 sp hd n' 23 ((cs.drop 1).take 32) = xs[1]? := by simpa [kd] using f1
  have hx2 : xs.length = 2 := by simpa using hxl
  match xs, hx2 with
  | [y0, y1], _ =>
    obtain ⟨z0, hz0, _, hwf⟩ := DataW.trod_int Tryd.underlying5 f0'
    have hb := bounds_u8 hwf
    obtain ⟨l, hl, hlc⟩ := bytes_of_trod Tryd.underlying23 Tryd.underlying5 co8 kd f1'
    refine ⟨⟨UInt8.ofNat z0.toNat, l⟩, trivial, ?_⟩
    have hd1 : (cs.drop 1).take 32 = cs.drop 1 := List.take_of_length_le (by rw [List.length_drop, hlen]; exact Nat.le_refl _)
    have hcb : Value.int .u8 z0 = cb (UInt8.ofNat z0.toNat) := by
      unfold cb
      congr 1
      rw [UInt8.toNat_ofNat']
      omega
    have hlm : l.map cb = (List.range 32).map fun i => cb (l.getD i 0) := by
      apply List.ext_getElem?
      intro i
      by_cases hi : i < 32
      · rw [List.getElem?_map, List.getElem?_map, List.getElem?_range hi, List.getElem?_eq_getElem (by omega : i < l.length)]
        show some (cb l[i]) = some (cb (l.getD i 0))
        rw [List.getD_eq_getElem?_getD, List.getElem?_eq_getElem (by omega : i < l.length)]
        rfl
      · rw [List.getElem?_eq_none (by simp; omega), List.getElem?_eq_none (by simp; omega)]
    rw [← List.take_append_drop 1 cs, hz0, ← hd1, hlc, hlm, hcb]
    rfl
set_option maxRecDepth 100000 in
theorem open_shares (hval : Value.okWide Tryd.prog W .any base 31 v)
    (h : DataW.Trod enc Tryd.prog W b0 sp hd 31 v d ps) : ∃ l : List Sh, Sl W v 33 l.length (l.flatMap shareC) := by
  obtain ⟨fuel, hf⟩ := h
  have hcs : v.cells.toList = [v] := by
    obtain ⟨a, n, c, rfl⟩ := okWide_slice Tryd.underlying31 hval
    rfl
  rw [hcs] at hf
  obtain ⟨l, h1, _⟩ := slice_open (f := shareC) (G := fun _ => True) shareC_len (by decide) Tryd.underlying31 (by kernel_rfl) (fun _ _ _ ht => share_of_trod ht) hf
  exact ⟨l, h1⟩
end
end Go.Proofs.YtconhhhggckcbaaDoor
