/- Keys, epochs, shares by value and in slices, as parameters: what the row says of them. -/
import Derived.Deep.Slices
import Derived.ProofKit
import Derived.Test.YtconhhhggckcbaaDoorClnQ
import Derived.Test.YtconhhhggckcbaaDoorHashRow
namespace Go.Proofs.YtconhhhggckcbaaDoor
open Go.ChangeShapes Go.WideShapes Go.ChangeAt Go.RowKit

theorem list_choice {α : Type} {p : Nat → α → Prop} : ∀ n : Nat, (∀ i, i < n → ∃ x, p i x) → ∃ l : List α, l.length = n ∧ ∀ i x, l[i]? = some x → p i x
  | 0, _ => ⟨[], rfl, fun i x h => by simp at h⟩
  | n + 1, h => by
    obtain ⟨l, hl, hp⟩ := list_choice n fun i hi => h i (by omega)
    obtain ⟨y, hy⟩ := h n (by omega)
    refine ⟨l ++ [y], by simp [hl], fun i x hx => ?_⟩
    by_cases hi : i < l.length
    · rw [List.getElem?_append_left hi] at hx; exact hp i x hx
    · rw [List.getElem?_append_right (by omega)] at hx
      have hlt := (List.getElem?_eq_some_iff.1 hx).1
      simp only [List.length_singleton] at hlt
      have e : i = n := by omega
      subst e
      rw [hl, Nat.sub_self] at hx
      simp only [List.getElem?_cons_zero, Option.some.injEq] at hx
      subst hx
      exact hy
theorem flat_inv {α : Type} {f : α → List Value} {m : Nat} (hf : ∀ x, (f x).length = m) : ∀ (l : List α) (j : Nat) (u : Value), (l.flatMap f)[j]? = some u → ∃ i x r, j = i * m + r ∧ l[i]? = some x ∧ (f x)[r]? = some u
  | [], j, u, h => by simp at h
  | y :: l, j, u, h => by
    rw [List.flatMap_cons] at h
    by_cases hj : j < (f y).length
    · rw [List.getElem?_append_left hj] at h
      exact ⟨0, y, j, by omega, rfl, h⟩
    · rw [List.getElem?_append_right (by omega), hf] at h
      obtain ⟨i, x, r, h1, h2, h3⟩ := flat_inv hf l (j - m) u h
      rw [hf] at hj
      exact ⟨i + 1, x, r, by rw [Nat.add_mul]; omega, by simpa using h2, h3⟩
theorem plain_addr {W : World} {a : Addr} {u : Value} (h : W.cell? (a.add 0) = some u) : a.spot = none ∧ a.block < W.heap.size := by
  unfold World.cell? at h
  have e : (a.add 0).block = a.block ∧ (a.add 0).spot = a.spot := by unfold Addr.add; rw [if_pos rfl]; exact ⟨rfl, rfl⟩
  rw [e.1, e.2] at h
  split at h
  · rename_i c t fr hb
    constructor
    · cases hs : a.spot with
      | none => rfl
      | some x => rw [hs] at h; simp at h
    · rcases Nat.lt_or_ge a.block W.heap.size with hlt | hge
      · exact hlt
      · rw [Array.getElem?_eq_none hge] at hb; cases hb
  · cases h
theorem bytes_of_trod {H : Type} {enc : TypeId × Value → H} {P : Program} {W : World} {sp : Nat → Bool} {hd : Bool} {b0 : Nat} {t e : TypeId} {n fuel : Nat} {cs : List Value} {x : DataW H × List MemPlace} (hu : P.underlying t = some (.array n e)) (he : P.underlying e = some (.int .u8)) (hce : P.cellsOf e = 1)
    (hct : P.cellsOf t = n) (hf : DataW.trod enc P W b0 sp hd fuel t cs = some x) : ∃ l : List UInt8, l.length = n ∧ cs = l.map cb := by
  obtain ⟨xs, m, rfl, _, hlen, hxl, hall⟩ := DataW.trod_array hu hf
  have hcs : cs.length = n := by rw [hlen, hct]
  have hget : ∀ i, i < n → ∃ b : UInt8, cs[i]? = some (cb b) := by
    intro i hi
    have h1 := hall i hi
    rw [hce] at h1
    obtain ⟨x, hx⟩ : ∃ x, xs[i]? = some x := ⟨xs[i]'(by omega), List.getElem?_eq_getElem (by omega)⟩
    rw [hx] at h1
    obtain ⟨z, hz, _, hwf⟩ := DataW.trod_int he h1
    simp only [Nat.mul_one] at hz
    have hb := bounds_u8 hwf
    refine ⟨UInt8.ofNat z.toNat, ?_⟩
    have hi' : i < cs.length := by omega
    rw [List.drop_eq_getElem_cons hi', List.take_succ_cons, List.take_zero] at hz
    injection hz with hz
    rw [List.getElem?_eq_getElem hi', hz]
    unfold cb
    congr 2
    rw [UInt8.toNat_ofNat']
    omega
  refine ⟨(List.range n).map (fun i => byteV (cs[i]?.getD undef)), by simp, ?_⟩
  apply List.ext_getElem?
  intro i
  by_cases hi : i < n
  · obtain ⟨b, hb⟩ := hget i hi
    rw [hb]
    simp [hi, hb, byteV_cb]
  · rw [List.getElem?_eq_none (by omega)]
    simp [hi]
/-- a slice whose elements are known, as far as its data are. -/
theorem slice_openP {α : Type} {f : α → List Value} {G : α → Prop} {m : Nat} (hfl : ∀ x, (f x).length = m) (hm0 : 0 < m) {H : Type} {enc : TypeId × Value → H} {P : Program} {W : World} {sp : Nat → Bool} {hd : Bool} {b0 fuel : Nat} {t e : TypeId} {c0 : Value} {y : DataW H × List MemPlace} (Pr : DataW H → Prop) (hu : P.underlying t = some (.slice e)) (hce : P.cellsOf e = m)
    (hel : ∀ (n : Nat) (cs' : List Value) (z : DataW H × List MemPlace), DataW.trod enc P W b0 sp hd n e cs' = some z → Pr z.1 → ∃ x, G x ∧ cs' = f x) (hPr : ∀ es rs, y.1 = .slice es rs → ∀ d ∈ es, Pr d) (h : DataW.trod enc P W b0 sp hd fuel t [c0] = some y) : ∃ l : List α, Sl W c0 m l.length (l.flatMap f) ∧ (∀ x ∈ l, G x) ∧ l.length ≤ maxLen ∧ capOk c0 := by
  rcases Deep.open_slice hu h with ⟨h1, _⟩ | ⟨a, len, cap, mm, n, D, Pl, h1, _, hl, hm, hmm, hye, hc⟩
  · injection h1 with h1
    exact ⟨[], ⟨by simp, .inl ⟨⟨_, _, h1⟩, rfl⟩⟩, by simp, by simp, fun a k c e => by rw [h1] at e; injection e with _ e2 e3; omega⟩
  · injection h1 with h1
    have hlm : len ≤ mm := by rw [hmm]; split <;> omega
    rw [hce] at hc
    obtain ⟨l, hll, hlp⟩ := list_choice (p := fun i (x : α) => G x ∧ ∀ j u, (f x)[j]? = some u → W.cell? ((a.add (i * m)).add j) = some u) len (fun i hi => by
      obtain ⟨cs', hcs, ht⟩ := hc i (by omega)
      obtain ⟨_, hcl, hat⟩ := World.cells?_some hcs
      obtain ⟨x, hx, rfl⟩ := hel _ _ _ ht (hPr _ _ (congrArg Prod.fst hye) _ (List.mem_map.2 ⟨i, List.mem_range.2 hi, rfl⟩))
      refine ⟨x, hx, fun j u hj => ?_⟩
      have hjm : j < m := by have := (List.getElem?_eq_some_iff.1 hj).1; rwa [hfl] at this
      rw [hat j hjm]
      exact hj)
    refine ⟨l, ⟨flat_lenG hfl l, ?_⟩, fun x hx => ?_, by omega, fun a k c e => by rw [h1] at e; injection e with _ e2 e3; omega⟩
    · rw [h1]
      rcases Nat.eq_zero_or_pos len with h0 | h0
      · exact .inl ⟨⟨_, _, by rw [h0]⟩, by omega⟩
      · obtain ⟨x0, hx0⟩ : ∃ x, l[0]? = some x := ⟨l[0], by simp [show 0 < l.length by omega]⟩
        obtain ⟨u0, hu0⟩ : ∃ u, (f x0)[0]? = some u := ⟨(f x0)[0]'(by rw [hfl]; exact hm0), List.getElem?_eq_getElem _⟩
        have c0' := (hlp 0 x0 hx0).2 0 u0 hu0
        have e00 : (a.add (0 * m)).add 0 = a.add 0 := by unfold Addr.add; simp
        rw [e00] at c0'
        obtain ⟨hsp, hb⟩ := plain_addr c0'
        obtain ⟨b, o, sp'⟩ := a
        simp only at hsp hb
        subst hsp
        refine .inr ⟨b, o, cap, by rw [hll], hb, fun j u hu => ?_⟩
        obtain ⟨i, x, r, rfl, hx, hr⟩ := flat_inv hfl l j u hu
        have q := (hlp i x hx).2 r u hr
        rw [addr_add, addr_add] at q
        rw [← q, Nat.add_assoc]
    · obtain ⟨i, hi⟩ := List.mem_iff_getElem?.1 hx
      exact (hlp i x hi).1
section
variable {H : Type} {enc : TypeId × Value → H} {W : World} {base : Nat} {v : Value} {d : DataW H} {ps : List MemPlace} {sp : Nat → Bool} {hd : Bool} {b0 : Nat}
set_option maxRecDepth 100000 in
/-- a struct of one slice. -/
theorem one_fieldD {fd : Field} {t : TypeId} (hu : Tryd.prog.underlying t = some (.struct #[fd])) (hct : Tryd.prog.cellsOf t = 1) (hcf : Tryd.prog.cellsOf fd.type = 1) (ho : fd.offset = 0) (hval : Value.okWide Tryd.prog W .any base t v)
    (h : DataW.Trod enc Tryd.prog W b0 sp hd t v d ps) : ∃ (u : Value) (n : Nat) (y : DataW H × List MemPlace), v = .agg #[u] ∧ d = .agg [y.1] ∧ DataW.trod enc Tryd.prog W b0 sp hd n fd.type [u] = some y := by
  unfold Value.okWide at hval
  rw [hu] at hval
  obtain ⟨cs, rfl, hsz, _⟩ := hval
  obtain ⟨fuel, hf⟩ := h
  obtain ⟨xs, n', _, hxe, hlen, hxl, hq⟩ := DataW.trod_struct hu hf
  simp only [Value.cells] at hlen hq
  rw [hct] at hlen
  obtain ⟨l0, hl0⟩ : ∃ l, cs.toList = l := ⟨_, rfl⟩
  rw [hl0] at hlen hq
  match l0, hlen with
  | [c0], _ =>
    have f0 := hq 0 _ rfl
    have f0' : DataW.trod enc Tryd.prog W b0 sp hd n' fd.type [c0] = xs[0]? := by simpa [hcf, ho] using f0
    have hx1 : xs.length = 1 := by simpa using hxl
    obtain ⟨y0, hy0⟩ : ∃ y, xs[0]? = some y := ⟨xs[0], by simp [hx1]⟩
    have hd : d = .agg [y0.1] := by
      have hd0 : d = .agg (xs.map (·.1)) := congrArg Prod.fst hxe
      rw [hd0]
      match xs, hx1, hy0 with
      | [z], _, hz => simp only [List.getElem?_cons_zero, Option.some.injEq] at hz; subst hz; rfl
    exact ⟨c0, n', y0, by congr 1; apply Array.ext'; rw [hl0], hd, f0'.trans hy0⟩
end
end Go.Proofs.YtconhhhggckcbaaDoor
