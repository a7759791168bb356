/- An end of a channel as a parameter: what the row says of it. -/
import Derived.Deep.Strs
import Derived.Test.YtioioibcldgknaaDoorSesV
import Derived.Test.YtioioibcldgknaaDoorHashRow
namespace Go.Proofs.YtioioibcldgknaaDoor
open Go.ChangeShapes Go.WideShapes Go.ChangeAt Go.RowKit

theorem bytes_of_trod {H : Type} {enc : TypeId × Value → H} {P : Program} {W : World} {sp : Nat → Bool} {hd : Bool} {b0 : Nat} {t e : TypeId} {n fuel : Nat} {cs : List Value} {x : DataW H × List MemPlace} (hu : P.underlying t = some (.array n e)) (he : P.underlying e = some (.int .u8)) (hce : P.cellsOf e = 1)
    (hct : P.cellsOf t = n) (hf : DataW.trod enc P W b0 sp hd fuel t cs = some x) : ∃ l : List UInt8, l.length = n ∧ cs = l.map cb := by
  obtain ⟨xs, m, rfl, _, hlen, hxl, hall⟩ := DataW.trod_array hu hf
  have hcs : cs.length = n := by rw [hlen, hct]
  have hget : ∀ i, i < n → ∃ b : UInt8, cs[i]? = some (cb b) := by
    intro i hi
    have h1 := hall i hi
    rw [hce] at h1
    obtain ⟨x, hx⟩ : ∃ x, xs[i]? = some x := ⟨xs[i]'(by omega), List.getElem?_eq_getElem (by omega)⟩
    rw [hx] at h1
    obtain ⟨z, hz, _, hwf⟩ := DataW.trod_int he h1
    simp only [Nat.mul_one] at hz
    have hb := bounds_u8 hwf
    refine ⟨UInt8.ofNat z.toNat, ?_⟩
    have hi' : i < cs.length := by omega
    rw [List.drop_eq_getElem_cons hi', List.take_succ_cons, List.take_zero] at hz
    injection hz with hz
    rw [List.getElem?_eq_getElem hi', hz]
    unfold cb
    congr 2
    rw [UInt8.toNat_ofNat']
    omega
  refine ⟨(List.range n).map (fun i => byteV (cs[i]?.getD undef)), by simp, ?_⟩
  apply List.ext_getElem?
  intro i
  by_cases hi : i < n
  · obtain ⟨b, hb⟩ := hget i hi
    rw [hb]
    simp [hi, hb, byteV_cb]
  · rw [List.getElem?_eq_none (by omega)]
    simp [hi]
theorem bounds_u64 {z : Int} (h : (Lit.int .u64 z).wf = true) : 0 ≤ z ∧ z < 2 ^ 64 := by
  have h2 : IntKind.u64.min ≤ z ∧ z ≤ IntKind.u64.max := by simpa [Lit.wf] using h
  have e1 : IntKind.u64.min = 0 := by decide
  have e2 : IntKind.u64.max = 18446744073709551615 := by decide
  rw [e1, e2] at h2
  omega
theorem word_of (z : Int) (h : (Lit.int .u32 z).wf = true) : ∃ b : Nat, z = (b : Int) ∧ b < 2 ^ 32 := by
  have h2 : IntKind.u32.min ≤ z ∧ z ≤ IntKind.u32.max := by simpa [Lit.wf] using h
  have e1 : IntKind.u32.min = 0 := by decide
  have e2 : IntKind.u32.max = 4294967295 := by decide
  rw [e1, e2] at h2
  exact ⟨z.toNat, by omega, by omega⟩
set_option maxRecDepth 100000 in
theorem open_chan {H : Type} {enc : TypeId × Value → H} {W : World} {base : Nat} {v : Value} {d : DataW H} {ps : List MemPlace} {sp : Nat → Bool} {hd : Bool} {b0 : Nat} (hval : Value.okWide Tryd.prog W .any base 26 v)
    (h : DataW.Trod enc Tryd.prog W b0 sp hd 26 v d ps) : ∃ c : Ch, c.k.length = 32 ∧ c.n < 2 ^ 64 ∧ v = .agg (chA c) := by
  unfold Value.okWide at hval
  rw [Tryd.underlying26] at hval
  obtain ⟨cs, rfl, hsz, _⟩ := hval
  obtain ⟨fuel, hf⟩ := h
  have k34 : Tryd.prog.cellsOf 26 = 34 := by kernel_rfl
  have ks : Tryd.prog.cellsOf 9 = 1 := by kernel_rfl
  have ku : Tryd.prog.cellsOf 22 = 1 := by kernel_rfl
  have kk : Tryd.prog.cellsOf 24 = 32 := by kernel_rfl
  obtain ⟨y0, y1, y2, n, _, hlen, h0, h1, h2⟩ := Deep.trod_struct3 Tryd.underlying26 hf
  simp only [Value.cells] at hlen h0 h1 h2
  rw [k34] at hlen
  simp only [ks, ku, kk] at h0 h1 h2
  obtain ⟨l, hl⟩ : ∃ l, cs.toList = l := ⟨_, rfl⟩
  rw [hl] at hlen h0 h1 h2
  match l, hlen with
  | c0 :: c1 :: r, hlen =>
    have hr : r.length = 32 := by simpa using hlen
    obtain ⟨s0, e0, _, _⟩ := DataW.trod_string Tryd.underlying9 (show DataW.trod enc Tryd.prog W b0 sp hd n 9 [c0] = some y0 from h0)
    obtain ⟨z, e1, _, hwf⟩ := DataW.trod_int Tryd.underlying22 (show DataW.trod enc Tryd.prog W b0 sp hd n 22 [c1] = some y1 from h1)
    have h2' : DataW.trod enc Tryd.prog W b0 sp hd n 24 r = some y2 := by
      have e : (List.drop 2 (c0 :: c1 :: r)).take 32 = r := by rw [List.drop_succ_cons, List.drop_succ_cons, List.drop_zero, List.take_of_length_le (by omega)]
      rw [← e]; exact h2
    obtain ⟨k, hk, hkr⟩ := bytes_of_trod Tryd.underlying24 Tryd.underlying5 co8 kk h2'
    injection e0 with e0
    injection e1 with e1
    obtain ⟨hz0, hz1⟩ := bounds_u64 hwf
    refine ⟨⟨s0.data.toList, z.toNat, k⟩, hk, by simp only; omega, ?_⟩
    congr 1
    apply Array.ext'
    rw [hl, hkr, e0, e1]
    simp only [chA]
    rw [Int.toNat_of_nonneg hz0]
end Go.Proofs.YtioioibcldgknaaDoor
