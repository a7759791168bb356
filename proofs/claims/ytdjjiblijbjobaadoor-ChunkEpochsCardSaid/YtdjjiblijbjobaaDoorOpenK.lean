/- Keys by epochs, and a box, as parameters: what the row says of them. -/
import Derived.Deep.Slices
import Derived.Test.YtdjjiblijbjobaaDoorOpenB
import Derived.Test.YtdjjiblijbjobaaDoorKyBB
import Derived.Test.YtdjjiblijbjobaaDoorHashRow
namespace Go.Proofs.YtdjjiblijbjobaaDoor
open Go.ChangeShapes Go.WideShapes Go.ChangeAt Go.RowKit

theorem bytes_of_trod {H : Type} {enc : TypeId × Value → H} {P : Program} {W : World} {sp : Nat → Bool} {hd : Bool} {b0 : Nat} {t e : TypeId} {n fuel : Nat} {cs : List Value} {x : DataW H × List MemPlace} (hu : P.underlying t = some (.array n e)) (he : P.underlying e = some (.int .u8)) (hce : P.cellsOf e = 1)
    (hct : P.cellsOf t = n) (hf : DataW.trod enc P W b0 sp hd fuel t cs = some x) : ∃ l : List UInt8, l.length = n ∧ cs = l.map cb := by
  obtain ⟨xs, m, rfl, _, hlen, hxl, hall⟩ := DataW.trod_array hu hf
  have hcs : cs.length = n := by rw [hlen, hct]
  have hget : ∀ i, i < n → ∃ b : UInt8, cs[i]? = some (cb b) := by
    intro i hi
    have h1 := hall i hi
    rw [hce] at h1
    obtain ⟨x, hx⟩ : ∃ x, xs[i]? = some x := ⟨xs[i]'(by omega), List.getElem?_eq_getElem (by omega)⟩
    rw [hx] at h1
    obtain ⟨z, hz, _, hwf⟩ := DataW.trod_int he h1
    simp only [Nat.mul_one] at hz
    have hb := bounds_u8 hwf
    refine ⟨UInt8.ofNat z.toNat, ?_⟩
    have hi' : i < cs.length := by omega
    rw [List.drop_eq_getElem_cons hi', List.take_succ_cons, List.take_zero] at hz
    injection hz with hz
    rw [List.getElem?_eq_getElem hi', hz]
    unfold cb
    congr 2
    rw [UInt8.toNat_ofNat']
    omega
  refine ⟨(List.range n).map (fun i => byteV (cs[i]?.getD undef)), by simp, ?_⟩
  apply List.ext_getElem?
  intro i
  by_cases hi : i < n
  · obtain ⟨b, hb⟩ := hget i hi
    rw [hb]
    simp [hi, hb, byteV_cb]
  · rw [List.getElem?_eq_none (by omega)]
    simp [hi]
set_option maxRecDepth 100000 in
theorem open_keys {H : Type} {enc : TypeId × Value → H} {W : World} {base : Nat} {v : Value} {d : DataW H} {ps : List MemPlace} {sp : Nat → Bool} {hd : Bool} {b0 : Nat} (hval : Value.okWide Tryd.prog W .any base 31 v)
    (h : DataW.Trod enc Tryd.prog W b0 sp hd 31 v d ps) : ∃ (K : List (List UInt8)) (u : Value), v = .agg #[u] ∧ Sl W u 32 K.length (K.flatMap dgC) ∧ (∀ k ∈ K, k.length = 32) ∧ K.length ≤ maxLen := by
  unfold Value.okWide at hval
  rw [Tryd.underlying31] at hval
  obtain ⟨cs, rfl, hsz, _⟩ := hval
  obtain ⟨fuel, hf⟩ := h
  have k1 : Tryd.prog.cellsOf 31 = 1 := by kernel_rfl
  have k2 : Tryd.prog.cellsOf 29 = 1 := by kernel_rfl
  have kk : Tryd.prog.cellsOf 50 = 32 := by kernel_rfl
  obtain ⟨xs, n', _, _, hlen, hxl, hq⟩ := DataW.trod_struct Tryd.underlying31 hf
  simp only [Value.cells] at hlen hq
  rw [k1] at hlen
  obtain ⟨l0, hl0⟩ : ∃ l, cs.toList = l := ⟨_, rfl⟩
  rw [hl0] at hlen hq
  match l0, hlen with
  | [c0], _ =>
    have f0 := hq 0 _ rfl
    have f0' : DataW.trod enc Tryd.prog W b0 sp hd n' 29 [c0] = xs[0]? := by simpa [k2] using f0
    have hx1 : xs.length = 1 := by assumption
    obtain ⟨y0, hy0⟩ : ∃ y, xs[0]? = some y := ⟨xs[0], by simp [hx1]⟩
    have hag : Value.agg cs = .agg #[c0] := by congr 1; apply Array.ext'; rw [hl0]
    rcases Deep.open_slice Tryd.underlying29 (f0'.trans hy0) with ⟨h1, _⟩ | ⟨a, len, cap, m, n, D, Pl, h1, _, hl, hm, hmm, _, hc⟩
    · injection h1 with h1
      exact ⟨[], c0, hag, ⟨by simp, .inl ⟨⟨_, _, h1⟩, rfl⟩⟩, by simp, by simp⟩
    · injection h1 with h1
      have hlm : len ≤ m := by rw [hmm]; split <;> omega
      rw [kk] at hc
      obtain ⟨l, hll, hlp⟩ := list_choice (p := fun i (x : List UInt8) => x.length = 32 ∧ ∀ j, j < 32 → W.cell? ((a.add (i * 32)).add j) = some (cb (bt x j))) len (fun i hi => by
        obtain ⟨cs', hcs, ht⟩ := hc i (by omega)
        obtain ⟨_, hcl, hat⟩ := World.cells?_some hcs
        obtain ⟨x, hx, hxc⟩ := bytes_of_trod Tryd.underlying50 Tryd.underlying5 co8 kk ht
        refine ⟨x, hx, fun j hj => ?_⟩
        rw [hat j (by omega)]
        subst hxc
        simp [bt, hx, hj])
      refine ⟨l, c0, hag, ⟨flat_len dgC_len l, ?_⟩, fun k hk => ?_, by omega⟩
      · rw [h1]
        rcases Nat.eq_zero_or_pos len with h0 | h0
        · exact .inl ⟨⟨_, _, by rw [h0]⟩, by omega⟩
        · obtain ⟨x0, hx0⟩ : ∃ x, l[0]? = some x := ⟨l[0], by simp [show 0 < l.length by omega]⟩
          have c0' := (hlp 0 x0 hx0).2 0 (by omega)
          have e00 : (a.add (0 * 32)).add 0 = a.add 0 := by unfold Addr.add; simp
          rw [e00] at c0'
          obtain ⟨hsp, hb⟩ := plain_addr c0'
          obtain ⟨b, o, sp'⟩ := a
          simp only at hsp hb
          subst hsp
          refine .inr ⟨b, o, cap, by rw [hll], hb, fun j u hu => ?_⟩
          obtain ⟨i, x, r, rfl, hx, hr⟩ := flat_inv dgC_len l j u hu
          have hr32 : r < 32 := by have := (List.getElem?_eq_some_iff.1 hr).1; rwa [dgC_len] at this
          have q := (hlp i x hx).2 r hr32
          rw [addr_add, addr_add] at q
          unfold dgC at hr
          rw [List.getElem?_map, List.getElem?_range hr32] at hr
          simp only [Option.map_some, Option.some.injEq] at hr
          rw [← hr, ← q, Nat.add_assoc]
      · obtain ⟨i, hi⟩ := List.mem_iff_getElem?.1 hk
        exact (hlp i k hi).1
end Go.Proofs.YtdjjiblijbjobaaDoor
