/- From a law's walk to its row: a law that answers true and leaves all old memory as it was meets its specification; arrays of bytes, opened. -/
import Derived.Test.YtilbebjjmnncdaaDoorPlain
import Derived.ProofKit
import Derived.OpenShut
import Derived.OpenVars
namespace Go.Proofs.YtilbebjjmnncdaaDoor
open Go.ChangeShapes Go.WideShapes Go.ChangeAt Go.RowKit

section
variable {H : Type} {enc : TypeId × Value → H} {P : Program} {W W' : World}
theorem trodAll_below (hl : laidOutB P = true) (hb : Below W.heap.size W W') : ∀ {ts : List TypeId} {vs : List Value} {ds : List (DataW H)} {ps : List MemPlace},
    (ts.all fun t => P.readableRec t && decide (t < P.types.size)) = true → DataW.TrodAll enc P W 0 (fun _ => true) true ts vs ds ps → (∀ x ∈ ps, x.block < W.heap.size) →
    DataW.TrodAll enc P W' 0 (fun b => decide (b < W.heap.size)) true ts vs ds ps
  | [], [], [], _, _, h, _ => h
  | [], _ :: _, _, _, _, h, _ => h.elim
  | [], [], _ :: _, _, _, h, _ => h.elim
  | _ :: _, [], _, _, _, h, _ => h.elim
  | _ :: _, _ :: _, [], _, _, h, _ => h.elim
  | t :: ts, v :: vs, d :: ds, ps, hr, h, hlt => by
    obtain ⟨p, q, h1, h2, rfl⟩ := h
    simp only [List.all_cons, Bool.and_eq_true, decide_eq_true_eq] at hr
    exact ⟨p, q, Below.trod hl hr.1.1 hr.1.2 h1 hb (fun x hx => hlt x (by simp [hx])), trodAll_below hl hb (by simpa [Bool.and_eq_true] using hr.2) h2 (fun x hx => hlt x (by simp [hx])), rfl⟩

theorem law_post {f : Func} {s : ChangeSpec} {args : Array Value} {ds gs : List (DataW H)} {before : List MemPlace} (hl : laidOutB P = true) (hr : (f.params.toList.all fun t => P.readableRec t && decide (t < P.types.size)) = true)
    (hv : varsRowed P s.vars = true) (hW : DataW.Whole enc P f.params.toList s.vars false W args.toList ds gs before) (hb : Below W.heap.size W W') {T : TypeId} (hres : f.resultTypes = #[T]) (hT : P.underlying T = some .bool)
    (h1 : (s.fn H (ds ++ gs)).results = [.lit (.bool true)]) (h2 : (s.fn H (ds ++ gs)).args = ds) (h3 : (s.fn H (ds ++ gs)).vars = gs) :
    s.post enc P f false true false false W args (.bool true) W' := by
  have hW0 := hW
  obtain ⟨p, q, hA, hV, rfl, hfz, hnd⟩ := hW
  have hlt := hW0.lt
  refine ⟨ds, gs, _, [], p, q, hW0, ?_, ?_, ?_, Below.frame hb _, fun h => by cases h⟩
  · rw [h1, hres]
    exact trodAll_mk1 (shut_bool hT true)
  · rw [h2]; exact trodAll_below hl hb hr hA (fun x hx => hlt x (by simp [hx]))
  · rw [h3]; exact Below.trodVars hl hb hv hV

/-- a cell's byte. -/
def byteV : Value → UInt8
  | .int _ z => UInt8.ofNat z.toNat
  | _ => 0
theorem byteV_cb (b : UInt8) : byteV (cb b) = b := by simp [byteV, cb]
/-- an array of bytes that came in. -/
theorem open_byteArr {base : Nat} {t e : TypeId} {n : Nat} {v : Value} {d : DataW H} {ps : List MemPlace} {sp : Nat → Bool} {hd : Bool} {b0 : Nat} (hu : P.underlying t = some (.array n e)) (he : P.underlying e = some (.int .u8)) (hce : P.cellsOf e = 1)
    (hct : P.cellsOf t = n) (hval : Value.okWide P W .any base t v) (h : DataW.Trod enc P W b0 sp hd t v d ps) : ∃ l : List UInt8, l.length = n ∧ v = .agg (cells8 l) := by
  unfold Value.okWide at hval
  rw [hu] at hval
  obtain ⟨cs, rfl, hsz, _⟩ := hval
  obtain ⟨fuel, hf⟩ := h
  obtain ⟨xs, m, rfl, _, hlen, hxl, hall⟩ := DataW.trod_array hu hf
  have hcs : cs.size = n := by rw [hsz, hct]
  have hget : ∀ i, i < n → ∃ b : UInt8, cs[i]? = some (cb b) := by
    intro i hi
    have h1 := hall i hi
    rw [hce] at h1
    have hx : ∃ x, xs[i]? = some x := ⟨xs[i]'(by omega), List.getElem?_eq_getElem (by omega)⟩
    obtain ⟨x, hx⟩ := hx
    rw [hx] at h1
    obtain ⟨z, hz, _, hwf⟩ := DataW.trod_int he h1
    simp only [Nat.mul_one, Value.cells] at hz
    have hb := bounds_u8 hwf
    refine ⟨UInt8.ofNat z.toNat, ?_⟩
    have hi' : i < cs.toList.length := by simpa [hcs] using hi
    rw [List.drop_eq_getElem_cons hi'] at hz
    simp at hz
    have e1 : cs[i]? = some cs[i] := Array.getElem?_eq_getElem (by omega)
    rw [e1, hz]
    unfold cb
    congr 2
    rw [UInt8.toNat_ofNat']
    omega
  refine ⟨(List.range n).map (fun i => byteV (cs[i]?.getD undef)), by simp, ?_⟩
  congr 1
  apply Array.ext_getElem?
  intro i
  by_cases hi : i < n
  · obtain ⟨b, hb⟩ := hget i hi
    rw [hb]
    simp [cells8, hi, hb, byteV_cb]
  · rw [Array.getElem?_eq_none (by omega)]
    simp [cells8, hi]
end
end Go.Proofs.YtilbebjjmnncdaaDoor
