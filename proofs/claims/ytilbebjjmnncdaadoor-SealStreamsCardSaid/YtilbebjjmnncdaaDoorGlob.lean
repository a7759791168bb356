/- The two tables of package hash lie in memory as the row's list says. -/
import Derived.Test.YtilbebjjmnncdaaDoorState
import Derived.Test.YtilbebjjmnncdaaDoorClose
import Derived.Lib.LaidTab
import Derived.OpenShut
import Derived.Stop.LaidErr
namespace Go.Proofs.YtilbebjjmnncdaaDoor
open Go.RowKit

theorem var_heap {P : Program} {W : World} {name : String} {g : Nat} {cs : Array Value} (hg : P.globalNamed name = some g) (h : W.var? P name = some cs) : ∃ t fr, W.heap[g]? = some (.cells cs t fr) := by
  unfold World.var? at h
  rw [hg] at h
  simp only [Option.bind_some] at h
  split at h
  · rename_i c t fr e
    injection h with h
    subst h
    exact ⟨_, _, e⟩
  · cases h
theorem gEight : Tryd.prog.globalNamed "hibernacle/hash.eight" = some 0 := by kernel_rfl
theorem gEightT : (Tryd.prog.globals[0]?).map (·.type) = some 62 := by kernel_rfl
theorem gRows : Tryd.prog.globalNamed "hibernacle/hash.rows" = some 1 := by kernel_rfl
theorem gRowsT : (Tryd.prog.globals[1]?).map (·.type) = some 114 := by kernel_rfl
theorem co32 : Tryd.prog.cellsOf 58 = 1 := by kernel_rfl
theorem co8w : Tryd.prog.cellsOf 62 = 8 := by kernel_rfl
theorem co8 : Tryd.prog.cellsOf 5 = 1 := by kernel_rfl
theorem co16b : Tryd.prog.cellsOf 113 = 16 := by kernel_rfl
theorem co160 : Tryd.prog.cellsOf 114 = 160 := by kernel_rfl

theorem eight_cells {W : World} {rest : List (String × DataW Unit)} (h : laidMet Tryd.prog (("hibernacle/hash.eight", Rows.laid_hibernacle_hash_eight) :: rest) W) : ∃ t fr, W.heap[0]? = some (.cells (cells eightV) t fr) := by
  have hT : Lib.TabIs Tryd.prog W "hibernacle/hash.eight" .u32 [1779033703, 3144134277, 1013904242, 2773480762, 1359893119, 2600822924, 528734635, 1541459225] :=
    Lib.tabIs_of_head (rest := rest) gEight gEightT Tryd.underlying62 Tryd.underlying58 co32 co8w h
  exact var_heap gEight hT
set_option maxRecDepth 100000 in
theorem rows_cells {W : World} {rest : List (String × DataW Unit)} (h : laidMet Tryd.prog (("hibernacle/hash.rows", Rows.laid_hibernacle_hash_rows) :: rest) W) : ∃ t fr, W.heap[1]? = some (.cells sigCells t fr) := by
  obtain ⟨ps, ⟨g', t', cs, fuel, p, q, hg', ht', hvar, hd, _, _⟩, _⟩ := h
  obtain rfl := Option.some.inj (gRows.symm.trans hg')
  obtain rfl := Option.some.inj (gRowsT.symm.trans ht')
  obtain ⟨xs, m, rfl, hx, hlen, hxl, hall⟩ := DataW.trod_array Tryd.underlying114 hd
  have hx1 : xs.map (·.1) = sigma.map (fun l => Lib.tabData .u8 (l.map fun b : UInt8 => (b.toNat : Int))) := by
    have e1 := congrArg Prod.fst hx
    have e2 : (Rows.laid_hibernacle_hash_rows : DataW Unit) = .agg (sigma.map (fun l => Lib.tabData .u8 (l.map fun b : UInt8 => (b.toNat : Int)))) := rfl
    have e3 : (DataW.agg (sigma.map (fun l => Lib.tabData .u8 (l.map fun b : UInt8 => (b.toNat : Int)))) : DataW Unit) = .agg (xs.map (·.1)) := e2.symm.trans e1
    injection e3 with e4
    exact e4.symm
  have hrow : ∀ r, r < 10 → (cs.toList.drop (r * 16)).take 16 = (sigma.getD r []).map cb := by
    intro r hr
    have h1 := hall r hr
    rw [co16b] at h1
    obtain ⟨x, hxr⟩ : ∃ x, xs[r]? = some x := ⟨xs[r]'(by omega), List.getElem?_eq_getElem (by omega)⟩
    rw [hxr] at h1
    have h2 : x.1 = Lib.tabData .u8 ((sigma.getD r []).map fun b : UInt8 => (b.toNat : Int)) := by
      have h3 : (xs.map (·.1))[r]? = some x.1 := by simp [hxr]
      rw [hx1] at h3
      have hs : r < sigma.length := hr
      simp only [List.getElem?_map, List.getElem?_eq_getElem hs, Option.map_some, Option.some.injEq] at h3
      rw [← h3]
      simp [hs]
    obtain ⟨x1, x2⟩ := x
    simp only at h2
    subst h2
    have h4 := Lib.cells_of_tab Tryd.underlying113 Tryd.underlying5 co8 co16b h1
    rw [h4, List.map_map]
    rfl
  have hcs : cs = sigCells := by
    apply Array.toList_inj.1
    have hl : cs.toList.length = 160 := by rw [hlen, co160]
    have hcat : ∀ r, r ≤ 10 → cs.toList.take (r * 16) = ((sigma.take r).map (fun l => l.map cb)).flatten := by
      intro r
      induction r with
      | zero => intro _; simp
      | succ r ih =>
        intro hr
        have hs : r < sigma.length := by show r < 10; omega
        rw [show (r + 1) * 16 = r * 16 + 16 by omega, List.take_add, ih (by omega), hrow r (by omega), List.take_succ_eq_append_getElem hs, List.map_append, List.flatten_append]
        have e : sigma.getD r [] = sigma[r] := by simp [hs]
        rw [e]
        simp only [List.map_cons, List.map_nil, List.flatten_cons, List.flatten_nil, List.append_nil]
    have h10 := hcat 10 (Nat.le_refl _)
    rw [List.take_of_length_le (by omega)] at h10
    rw [h10]
    rfl
  rw [← hcs]
  exact var_heap gRows hvar
theorem glob_of_laid {W : World} {rest : List (String × DataW Unit)} (h : laidMet Tryd.prog (("hibernacle/hash.eight", Rows.laid_hibernacle_hash_eight) :: ("hibernacle/hash.rows", Rows.laid_hibernacle_hash_rows) :: rest) W) : Glob W :=
  ⟨eight_cells h, rows_cells h.tail⟩
end Go.Proofs.YtilbebjjmnncdaaDoor
