/- An array of two numbers of sixteen bits as a parameter: what the row says of it. -/
import Derived.Test.YtdjjiblijbjobaaDoorOpenK
namespace Go.Proofs.YtdjjiblijbjobaaDoor
open Go.ChangeShapes Go.WideShapes Go.ChangeAt Go.RowKit

set_option maxRecDepth 100000 in
theorem open_two {H : Type} {enc : TypeId × Value → H} {W : World} {base : Nat} {v : Value} {d : DataW H} {ps : List MemPlace} {sp : Nat → Bool} {hd : Bool} {b0 : Nat} (hval : Value.okWide Tryd.prog W .any base 47 v)
    (h : DataW.Trod enc Tryd.prog W b0 sp hd 47 v d ps) : ∃ p q : Nat, p < 65536 ∧ q < 65536 ∧ v = .agg #[.int .u16 (p : Int), .int .u16 (q : Int)] := by
  unfold Value.okWide at hval
  rw [Tryd.underlying47] at hval
  obtain ⟨cs, rfl, hsz, _⟩ := hval
  obtain ⟨fuel, hf⟩ := h
  have k2 : Tryd.prog.cellsOf 47 = 2 := by kernel_rfl
  have ke : Tryd.prog.cellsOf 46 = 1 := by kernel_rfl
  obtain ⟨xs, m, rfl, _, hlen, hxl, hall⟩ := DataW.trod_array Tryd.underlying47 hf
  simp only [Value.cells] at hlen hall
  rw [k2] at hlen
  rw [ke] at hall
  obtain ⟨l, hl⟩ : ∃ l, cs.toList = l := ⟨_, rfl⟩
  rw [hl] at hlen hall
  match l, hlen with
  | [c0, c1], _ =>
    obtain ⟨y0, hy0⟩ : ∃ y, xs[0]? = some y := ⟨xs[0], by simp [hxl]⟩
    obtain ⟨y1, hy1⟩ : ∃ y, xs[1]? = some y := ⟨xs[1], by simp [hxl]⟩
    obtain ⟨z0, e0, _, w0⟩ := DataW.trod_int Tryd.underlying46 ((show DataW.trod enc Tryd.prog W b0 sp hd m 46 [c0] = xs[0]? from hall 0 (by omega)).trans hy0)
    obtain ⟨z1, e1, _, w1⟩ := DataW.trod_int Tryd.underlying46 ((show DataW.trod enc Tryd.prog W b0 sp hd m 46 [c1] = xs[1]? from hall 1 (by omega)).trans hy1)
    injection e0 with e0
    injection e1 with e1
    obtain ⟨p, rfl, hp⟩ := half_of z0 w0
    obtain ⟨q, rfl, hq⟩ := half_of z1 w1
    refine ⟨p, q, hp, hq, ?_⟩
    congr 1
    apply Array.ext'
    rw [hl, e0, e1]
end Go.Proofs.YtdjjiblijbjobaaDoor
