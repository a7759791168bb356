/- Laws and walks that many claims share: FldS, FldA, FldB, FldR. -/
import Derived.ProofKit
/- Plain: the field of 256 elements, as the program reckons; polynomials of three coefficients. -/
namespace Go.Proofs.YtconhhhggckcbaaDoor

/-- an element times x. -/
def xtF (a : UInt8) : UInt8 := if 128 ≤ a.toNat then UInt8.ofNat (a.toNat * 2) ^^^ 29 else UInt8.ofNat (a.toNat * 2)
def mulA (a : UInt8) : Nat → UInt8
  | 0 => a
  | i + 1 => xtF (mulA a i)
def mulP (a b : UInt8) : Nat → UInt8
  | 0 => 0
  | i + 1 => if b.toNat / 2 ^ i % 2 = 1 then mulP a b i ^^^ mulA a i else mulP a b i
def mulS (a b : UInt8) : UInt8 := mulP a b 8
def invT (a : UInt8) : Nat → UInt8 × UInt8
  | 0 => (a, 1)
  | i + 1 => (mulS (invT a i).1 (invT a i).1, mulS (invT a i).2 (mulS (invT a i).1 (invT a i).1))
def invS (a : UInt8) : UInt8 := (invT a 7).2
/-- a polynomial's value behind so many coefficients, the highest one first. -/
def evalT (l : List UInt8) (x : UInt8) : Nat → UInt8
  | 0 => 0
  | i + 1 => mulS (evalT l x i) x ^^^ l.getD (l.length - 1 - i) 0
def evalS (l : List UInt8) (x : UInt8) : UInt8 := evalT l x l.length
/-- what stands above and below the line of one term of the value at x of a polynomial through points. -/
def aboT (xs : List UInt8) (x y : UInt8) (i : Nat) : Nat → UInt8
  | 0 => y
  | j + 1 => if j = i then aboT xs x y i j else mulS (aboT xs x y i j) (x ^^^ xs.getD j 0)
def belT (xs : List UInt8) (i : Nat) : Nat → UInt8
  | 0 => 1
  | j + 1 => if j = i then belT xs i j else mulS (belT xs i j) (xs.getD i 0 ^^^ xs.getD j 0)
def atT (xs ys : List UInt8) (x : UInt8) : Nat → UInt8
  | 0 => 0
  | i + 1 => atT xs ys x i ^^^ mulS (aboT xs x (ys.getD i 0) i xs.length) (invS (belT xs i xs.length))
def atS (xs ys : List UInt8) (x : UInt8) : UInt8 × Bool := if xs.length = ys.length ∧ xs.Nodup then (atT xs ys x xs.length, true) else (0, false)
/-- which elements stand among the first ones. -/
def metF (l : List UInt8) (i : Nat) (q : Nat) : Bool := (l.take i).any fun b => b.toNat == q
theorem metF_step {l : List UInt8} {i : Nat} {x : UInt8} (hx : l[i]? = some x) : (fun q => if q = x.toNat then true else metF l i q) = metF l (i + 1) := by
  funext q
  obtain ⟨hi, he⟩ := List.getElem?_eq_some_iff.1 hx
  unfold metF
  rw [List.take_succ_eq_append_getElem hi, he, List.any_append]
  by_cases h : q = x.toNat
  · rw [if_pos h]; simp [h]
  · rw [if_neg h]
    have h2 : (x.toNat == q) = false := beq_eq_false_iff_ne.2 fun e => h e.symm
    rw [List.any_cons, h2, List.any_nil, Bool.false_or, Bool.or_false]
theorem metF_mem {l : List UInt8} {i : Nat} {x : UInt8} : metF l i x.toNat = true ↔ x ∈ l.take i := by
  unfold metF
  rw [List.any_eq_true]
  constructor
  · rintro ⟨b, hb, he⟩
    have : b = x := UInt8.toNat_inj.1 (by simpa using he)
    rw [← this]; exact hb
  · intro h; exact ⟨x, h, by simp⟩
theorem nodup_take_succ {l : List UInt8} {i : Nat} {x : UInt8} (hx : l[i]? = some x) (h : (l.take i).Nodup) : metF l i x.toNat = false → (l.take (i + 1)).Nodup := by
  intro hm
  obtain ⟨hi, he⟩ := List.getElem?_eq_some_iff.1 hx
  have hn : x ∉ l.take i := fun hc => by rw [metF_mem.2 hc] at hm; cases hm
  rw [List.take_succ_eq_append_getElem hi, he, List.nodup_append]
  refine ⟨h, by simp, fun a ha b hb => ?_⟩
  rw [List.mem_singleton] at hb
  subst hb
  exact fun e => hn (e ▸ ha)
theorem not_nodup_at {l : List UInt8} {i : Nat} {x : UInt8} (hx : l[i]? = some x) (hm : metF l i x.toNat = true) : ¬ l.Nodup := by
  intro h
  obtain ⟨hi, he⟩ := List.getElem?_eq_some_iff.1 hx
  obtain ⟨j, hj⟩ := List.mem_iff_getElem?.1 (metF_mem.1 hm)
  have hji : j < i := by have := (List.getElem?_eq_some_iff.1 hj).1; rw [List.length_take] at this; omega
  rw [List.getElem?_take_of_lt hji] at hj
  obtain ⟨hj2, hje⟩ := List.getElem?_eq_some_iff.1 hj
  have := List.pairwise_iff_getElem.1 h j i hj2 hi hji
  exact this (by rw [hje, he])
end Go.Proofs.YtconhhhggckcbaaDoor
/- Plain: the field of 256 elements is one. -/
namespace Go.Proofs.YtconhhhggckcbaaDoor

theorem hi_bit (x : Nat) (h : x < 256) : (128 ≤ x) = (x.testBit 7 = true) := by
  have : ∀ m : Nat, m < 256 → (128 ≤ m ↔ m.testBit 7 = true) := by decide +kernel
  exact propext (this x h)
theorem dbl_xor (a c : UInt8) : UInt8.ofNat ((a ^^^ c).toNat * 2) = UInt8.ofNat (a.toNat * 2) ^^^ UInt8.ofNat (c.toNat * 2) := by
  apply UInt8.toNat_inj.1
  rw [UInt8.toNat_ofNat', UInt8.toNat_xor, UInt8.toNat_xor, UInt8.toNat_ofNat', UInt8.toNat_ofNat', ← Nat.xor_mod_two_pow]
  congr 1
  have h := Nat.shiftLeft_xor_distrib (a := a.toNat) (b := c.toNat) (i := 1)
  simpa [Nat.shiftLeft_eq] using h
theorem xor_ac (a b c d : UInt8) : (a ^^^ b) ^^^ (c ^^^ d) = (a ^^^ c) ^^^ (b ^^^ d) := by
  rw [UInt8.xor_assoc, UInt8.xor_assoc, ← UInt8.xor_assoc b, ← UInt8.xor_assoc c, UInt8.xor_comm b c]
theorem xtF_xor (a c : UInt8) : xtF (a ^^^ c) = xtF a ^^^ xtF c := by
  have e1 : (128 ≤ (a ^^^ c).toNat) = ((a.toNat.testBit 7 ^^ c.toNat.testBit 7) = true) := by rw [hi_bit _ (UInt8.toNat_lt _), UInt8.toNat_xor, Nat.testBit_xor]
  have e2 := hi_bit _ a.toNat_lt
  have e3 := hi_bit _ c.toNat_lt
  have ed := dbl_xor a c
  unfold xtF
  rw [ed]
  simp only [e1, e2, e3]
  generalize UInt8.ofNat (a.toNat * 2) = A
  generalize UInt8.ofNat (c.toNat * 2) = C
  cases a.toNat.testBit 7 <;> cases c.toNat.testBit 7
  · rfl
  · show (A ^^^ C) ^^^ 29 = A ^^^ (C ^^^ 29)
    rw [UInt8.xor_assoc]
  · show (A ^^^ C) ^^^ 29 = (A ^^^ 29) ^^^ C
    rw [UInt8.xor_assoc, UInt8.xor_comm C, ← UInt8.xor_assoc]
  · show A ^^^ C = (A ^^^ 29) ^^^ (C ^^^ 29)
    rw [xor_ac, UInt8.xor_self, UInt8.xor_zero]
theorem mulA_xor (a c : UInt8) : ∀ i, mulA (a ^^^ c) i = mulA a i ^^^ mulA c i
  | 0 => rfl
  | i + 1 => by rw [mulA, mulA, mulA, mulA_xor a c i, xtF_xor]
theorem mulP_xorL (a c b : UInt8) : ∀ i, mulP (a ^^^ c) b i = mulP a b i ^^^ mulP c b i
  | 0 => by simp [mulP]
  | i + 1 => by
    rw [mulP, mulP, mulP, mulP_xorL a c b i, mulA_xor]
    split
    · exact xor_ac _ _ _ _
    · rfl
theorem mulS_xorL (a c b : UInt8) : mulS (a ^^^ c) b = mulS a b ^^^ mulS c b := mulP_xorL a c b 8
theorem bit_eq (x i : Nat) : (x / 2 ^ i % 2 = 1) = (x.testBit i = true) := by
  rw [Nat.testBit_eq_decide_div_mod_eq, decide_eq_true_eq]
theorem mulP_xorR (a b c : UInt8) : ∀ i, mulP a (b ^^^ c) i = mulP a b i ^^^ mulP a c i
  | 0 => by simp [mulP]
  | i + 1 => by
    rw [mulP, mulP, mulP, mulP_xorR a b c i]
    simp only [bit_eq, UInt8.toNat_xor, Nat.testBit_xor]
    generalize mulP a b i = p
    generalize mulP a c i = q
    generalize mulA a i = r
    cases b.toNat.testBit i <;> cases c.toNat.testBit i <;> simp
    · rw [UInt8.xor_assoc]
    · rw [UInt8.xor_assoc, UInt8.xor_comm q, ← UInt8.xor_assoc]
    · rw [xor_ac]; simp
theorem mulS_xorR (a b c : UInt8) : mulS a (b ^^^ c) = mulS a b ^^^ mulS a c := mulP_xorR a b c 8
def uptoB (a : UInt8) : Nat → UInt8
  | 0 => 0
  | i + 1 => if a.toNat / 2 ^ i % 2 = 1 then uptoB a i ^^^ UInt8.ofNat (2 ^ i) else uptoB a i
theorem all8 {p : UInt8 → Prop} (h : ∀ n, n < 256 → p (UInt8.ofNat n)) (a : UInt8) : p a := by
  have := h a.toNat a.toNat_lt
  rwa [UInt8.ofNat_toNat] at this
theorem upto_all (a : UInt8) : uptoB a 8 = a := by
  have : ∀ n, n < 256 → uptoB (UInt8.ofNat n) 8 = UInt8.ofNat n := by decide +kernel
  exact all8 (p := fun a => uptoB a 8 = a) this a
theorem bits_ind {P : UInt8 → Prop} (h0 : P 0) (hb : ∀ i, i < 8 → P (UInt8.ofNat (2 ^ i))) (hx : ∀ a b, P a → P b → P (a ^^^ b)) (a : UInt8) : P a := by
  have key : ∀ i, i ≤ 8 → P (uptoB a i) := by
    intro i
    induction i with
    | zero => intro _; exact h0
    | succ i ih =>
      intro hi
      rw [uptoB]
      split
      · exact hx _ _ (ih (by omega)) (hb i (by omega))
      · exact ih (by omega)
  have := key 8 (Nat.le_refl _)
  rwa [upto_all] at this
theorem mulS_zeroL (b : UInt8) : mulS 0 b = 0 := by
  have h := mulS_xorL 0 0 b
  rw [UInt8.xor_self] at h
  rw [h, UInt8.xor_self]
theorem mulS_zeroR (a : UInt8) : mulS a 0 = 0 := by
  have h := mulS_xorR a 0 0
  rw [UInt8.xor_self] at h
  rw [h, UInt8.xor_self]
theorem mulS_comm (a b : UInt8) : mulS a b = mulS b a := by
  refine bits_ind (P := fun a => mulS a b = mulS b a) (by rw [mulS_zeroL, mulS_zeroR]) (fun i hi => ?_) (fun x y h1 h2 => by show mulS (x ^^^ y) b = mulS b (x ^^^ y); rw [mulS_xorL, mulS_xorR, h1, h2]) a
  refine bits_ind (P := fun b => mulS (UInt8.ofNat (2 ^ i)) b = mulS b (UInt8.ofNat (2 ^ i))) (by rw [mulS_zeroL, mulS_zeroR]) (fun j hj => ?_) (fun x y h1 h2 => by show mulS _ (x ^^^ y) = mulS (x ^^^ y) _; rw [mulS_xorL, mulS_xorR, h1, h2]) b
  have : ∀ i, i < 8 → ∀ j, j < 8 → mulS (UInt8.ofNat (2 ^ i)) (UInt8.ofNat (2 ^ j)) = mulS (UInt8.ofNat (2 ^ j)) (UInt8.ofNat (2 ^ i)) := by decide +kernel
  exact this i hi j hj
theorem mulS_assoc (a b c : UInt8) : mulS (mulS a b) c = mulS a (mulS b c) := by
  refine bits_ind (P := fun a => mulS (mulS a b) c = mulS a (mulS b c)) (by rw [mulS_zeroL, mulS_zeroL, mulS_zeroL]) (fun i hi => ?_) (fun x y h1 h2 => by show mulS (mulS (x ^^^ y) b) c = mulS (x ^^^ y) (mulS b c); rw [mulS_xorL, mulS_xorL, mulS_xorL, h1, h2]) a
  refine bits_ind (P := fun b => mulS (mulS (UInt8.ofNat (2 ^ i)) b) c = mulS (UInt8.ofNat (2 ^ i)) (mulS b c)) (by rw [mulS_zeroR, mulS_zeroL, mulS_zeroR]) (fun j hj => ?_) (fun x y h1 h2 => by show mulS (mulS _ (x ^^^ y)) c = mulS _ (mulS (x ^^^ y) c); rw [mulS_xorR, mulS_xorL, mulS_xorL, mulS_xorR, h1, h2]) b
  refine bits_ind (P := fun c => mulS (mulS (UInt8.ofNat (2 ^ i)) (UInt8.ofNat (2 ^ j))) c = mulS (UInt8.ofNat (2 ^ i)) (mulS (UInt8.ofNat (2 ^ j)) c)) (by rw [mulS_zeroR, mulS_zeroR, mulS_zeroR]) (fun k hk => ?_) (fun x y h1 h2 => by show mulS _ (x ^^^ y) = mulS _ (mulS _ (x ^^^ y)); rw [mulS_xorR, mulS_xorR, mulS_xorR, h1, h2]) c
  have : ∀ i, i < 8 → ∀ j, j < 8 → ∀ k, k < 8 → mulS (mulS (UInt8.ofNat (2 ^ i)) (UInt8.ofNat (2 ^ j))) (UInt8.ofNat (2 ^ k)) = mulS (UInt8.ofNat (2 ^ i)) (mulS (UInt8.ofNat (2 ^ j)) (UInt8.ofNat (2 ^ k))) := by decide +kernel
  exact this i hi j hj k hk
theorem mulS_one (a : UInt8) : mulS a 1 = a := by
  have : ∀ n, n < 256 → mulS (UInt8.ofNat n) 1 = UInt8.ofNat n := by decide +kernel
  exact all8 (p := fun a => mulS a 1 = a) this a
theorem mulS_oneL (a : UInt8) : mulS 1 a = a := by rw [mulS_comm, mulS_one]
theorem mulS_inv (a : UInt8) (h : a ≠ 0) : mulS a (invS a) = 1 := by
  have : ∀ n, n < 256 → n ≠ 0 → mulS (UInt8.ofNat n) (invS (UInt8.ofNat n)) = 1 := by decide +kernel
  have h2 := this a.toNat a.toNat_lt (fun e => h (UInt8.toNat_inj.1 (by simpa using e)))
  rwa [UInt8.ofNat_toNat] at h2
end Go.Proofs.YtconhhhggckcbaaDoor
/- Plain: polynomials of three coefficients over the field of 256 elements: their values, and that three values tell them. -/
namespace Go.Proofs.YtconhhhggckcbaaDoor

instance xorAssoc : Std.Associative (α := UInt8) (· ^^^ ·) := ⟨UInt8.xor_assoc⟩
instance xorComm : Std.Commutative (α := UInt8) (· ^^^ ·) := ⟨UInt8.xor_comm⟩
instance mulAssoc : Std.Associative mulS := ⟨mulS_assoc⟩
instance mulComm : Std.Commutative mulS := ⟨mulS_comm⟩
theorem xor_eq_zero {a b : UInt8} (h : a ^^^ b = 0) : a = b := by
  have h2 : (a ^^^ b) ^^^ b = 0 ^^^ b := by rw [h]
  rwa [UInt8.xor_assoc, UInt8.xor_self, UInt8.xor_zero, UInt8.zero_xor] at h2
theorem mulS_zero {a b : UInt8} (h : mulS a b = 0) (ha : a ≠ 0) : b = 0 := by
  have h2 : mulS (invS a) (mulS a b) = 0 := by rw [h, mulS_zeroR]
  rwa [← mulS_assoc, mulS_comm (invS a), mulS_inv a ha, mulS_oneL] at h2
theorem eval3 (s p q x : UInt8) : evalS [s, p, q] x = s ^^^ mulS p x ^^^ mulS q (mulS x x) := by
  show mulS (mulS (mulS 0 x ^^^ q) x ^^^ p) x ^^^ s = _
  rw [mulS_zeroL, UInt8.zero_xor, mulS_xorL, mulS_assoc]
  ac_rfl
/-- a polynomial of degree two with three unlike roots is none. -/
theorem quad_zero {a b c x y z : UInt8} (hxy : x ≠ y) (hxz : x ≠ z) (hyz : y ≠ z) (h1 : a ^^^ mulS b x ^^^ mulS c (mulS x x) = 0) (h2 : a ^^^ mulS b y ^^^ mulS c (mulS y y) = 0) (h3 : a ^^^ mulS b z ^^^ mulS c (mulS z z) = 0) : a = 0 ∧ b = 0 ∧ c = 0 := by
  have ne : ∀ {u v : UInt8}, u ≠ v → u ^^^ v ≠ 0 := fun h e => h (xor_eq_zero e)
  have key : ∀ {u v : UInt8}, u ≠ v → a ^^^ mulS b u ^^^ mulS c (mulS u u) = 0 → a ^^^ mulS b v ^^^ mulS c (mulS v v) = 0 → b = mulS c (u ^^^ v) := by
    intro u v huv e1 e2
    have e3 : mulS (u ^^^ v) (b ^^^ mulS c (u ^^^ v)) = 0 := by
      have : mulS (u ^^^ v) (b ^^^ mulS c (u ^^^ v)) = (a ^^^ mulS b u ^^^ mulS c (mulS u u)) ^^^ (a ^^^ mulS b v ^^^ mulS c (mulS v v)) ^^^ (mulS u (mulS c v) ^^^ mulS v (mulS c u)) ^^^ (a ^^^ a) := by
        simp only [mulS_xorL, mulS_xorR]
        have e5 : a ^^^ a = 0 := UInt8.xor_self
        have e4 : (a ^^^ mulS b u ^^^ mulS c (mulS u u)) ^^^ (a ^^^ mulS b v ^^^ mulS c (mulS v v)) ^^^ (mulS u (mulS c v) ^^^ mulS v (mulS c u)) ^^^ (a ^^^ a) = (a ^^^ a) ^^^ (a ^^^ a) ^^^ (mulS u b ^^^ mulS v b ^^^ (mulS u (mulS c u) ^^^ mulS v (mulS c u) ^^^ (mulS u (mulS c v) ^^^ mulS v (mulS c v)))) := by ac_rfl
        rw [e4, e5, UInt8.xor_self, UInt8.zero_xor]
      rw [this, e1, e2, UInt8.xor_self, UInt8.xor_self]
      have : mulS u (mulS c v) = mulS v (mulS c u) := by ac_rfl
      rw [this, UInt8.xor_self]
      rfl
    exact xor_eq_zero (mulS_zero e3 (ne huv))
  have b1 := key hxy h1 h2
  have b2 := key hxz h1 h3
  have hc : mulS (y ^^^ z) c = 0 := by
    have e : mulS (y ^^^ z) c = mulS c (x ^^^ y) ^^^ mulS c (x ^^^ z) := by
      rw [mulS_xorR, mulS_xorR, xor_ac, UInt8.xor_self, UInt8.zero_xor, ← mulS_xorR, mulS_comm]
    rw [e, ← b1, ← b2, UInt8.xor_self]
  have c0 := mulS_zero hc (ne hyz)
  rw [c0, mulS_zeroL] at b1
  rw [b1, c0, mulS_zeroL, mulS_zeroL, UInt8.xor_zero, UInt8.xor_zero] at h1
  exact ⟨h1, b1, c0⟩
theorem atT3 (x0 x1 x2 y0 y1 y2 z : UInt8) : atT [x0, x1, x2] [y0, y1, y2] z 3 =
    mulS (mulS y0 (invS (mulS (x0 ^^^ x1) (x0 ^^^ x2)))) (mulS (z ^^^ x1) (z ^^^ x2)) ^^^ mulS (mulS y1 (invS (mulS (x1 ^^^ x0) (x1 ^^^ x2)))) (mulS (z ^^^ x0) (z ^^^ x2)) ^^^
    mulS (mulS y2 (invS (mulS (x2 ^^^ x0) (x2 ^^^ x1)))) (mulS (z ^^^ x0) (z ^^^ x1)) := by
  have h : atT [x0, x1, x2] [y0, y1, y2] z 3 = 0 ^^^ mulS (mulS (mulS y0 (z ^^^ x1)) (z ^^^ x2)) (invS (mulS (mulS 1 (x0 ^^^ x1)) (x0 ^^^ x2))) ^^^ mulS (mulS (mulS y1 (z ^^^ x0)) (z ^^^ x2)) (invS (mulS (mulS 1 (x1 ^^^ x0)) (x1 ^^^ x2))) ^^^
      mulS (mulS (mulS y2 (z ^^^ x0)) (z ^^^ x1)) (invS (mulS (mulS 1 (x2 ^^^ x0)) (x2 ^^^ x1))) := rfl
  rw [h, UInt8.zero_xor, mulS_oneL, mulS_oneL, mulS_oneL]
  generalize invS _ = a
  generalize invS _ = b
  generalize invS _ = c
  have e : ∀ y u v a : UInt8, mulS (mulS (mulS y u) v) a = mulS (mulS y a) (mulS u v) := fun y u v a => by ac_rfl
  rw [e, e, e]
theorem cancel3 (y d e : UInt8) (hd : d ≠ 0) (he : e ≠ 0) : mulS (mulS y (invS (mulS d e))) (mulS d e) = y := by
  have hde : mulS d e ≠ 0 := fun h => he (mulS_zero h hd)
  rw [mulS_assoc, mulS_comm (invS _), mulS_inv _ hde, mulS_one]
/-- the value at any place of the polynomial through three of its points is its own. -/
theorem at_eval (s p q x0 x1 x2 z : UInt8) (h01 : x0 ≠ x1) (h02 : x0 ≠ x2) (h12 : x1 ≠ x2) : atT [x0, x1, x2] [evalS [s, p, q] x0, evalS [s, p, q] x1, evalS [s, p, q] x2] z 3 = evalS [s, p, q] z := by
  have ne : ∀ {u v : UInt8}, u ≠ v → u ^^^ v ≠ 0 := fun h e => h (xor_eq_zero e)
  obtain ⟨W0, hW0⟩ : ∃ W, mulS (evalS [s, p, q] x0) (invS (mulS (x0 ^^^ x1) (x0 ^^^ x2))) = W := ⟨_, rfl⟩
  obtain ⟨W1, hW1⟩ : ∃ W, mulS (evalS [s, p, q] x1) (invS (mulS (x1 ^^^ x0) (x1 ^^^ x2))) = W := ⟨_, rfl⟩
  obtain ⟨W2, hW2⟩ : ∃ W, mulS (evalS [s, p, q] x2) (invS (mulS (x2 ^^^ x0) (x2 ^^^ x1))) = W := ⟨_, rfl⟩
  have c0 : mulS W0 (mulS (x0 ^^^ x1) (x0 ^^^ x2)) = evalS [s, p, q] x0 := by rw [← hW0]; exact cancel3 _ _ _ (ne h01) (ne h02)
  have c1 : mulS W1 (mulS (x1 ^^^ x0) (x1 ^^^ x2)) = evalS [s, p, q] x1 := by rw [← hW1]; exact cancel3 _ _ _ (ne (Ne.symm h01)) (ne h12)
  have c2 : mulS W2 (mulS (x2 ^^^ x0) (x2 ^^^ x1)) = evalS [s, p, q] x2 := by rw [← hW2]; exact cancel3 _ _ _ (ne (Ne.symm h02)) (ne (Ne.symm h12))
  have hz : ∀ z, atT [x0, x1, x2] [evalS [s, p, q] x0, evalS [s, p, q] x1, evalS [s, p, q] x2] z 3 = mulS W0 (mulS (z ^^^ x1) (z ^^^ x2)) ^^^ mulS W1 (mulS (z ^^^ x0) (z ^^^ x2)) ^^^ mulS W2 (mulS (z ^^^ x0) (z ^^^ x1)) := fun z => by rw [atT3, hW0, hW1, hW2]
  have hg : ∀ z, (mulS W0 (mulS (z ^^^ x1) (z ^^^ x2)) ^^^ mulS W1 (mulS (z ^^^ x0) (z ^^^ x2)) ^^^ mulS W2 (mulS (z ^^^ x0) (z ^^^ x1))) ^^^ evalS [s, p, q] z =
      (s ^^^ (mulS W0 (mulS x1 x2) ^^^ mulS W1 (mulS x0 x2) ^^^ mulS W2 (mulS x0 x1))) ^^^ mulS (p ^^^ (mulS W0 (x1 ^^^ x2) ^^^ mulS W1 (x0 ^^^ x2) ^^^ mulS W2 (x0 ^^^ x1))) z ^^^ mulS (q ^^^ (W0 ^^^ W1 ^^^ W2)) (mulS z z) := by
    intro z
    rw [eval3]
    simp only [mulS_xorL, mulS_xorR]
    ac_rfl
  have hs : ∀ u : UInt8, mulS (u ^^^ u) z = 0 := fun u => by rw [UInt8.xor_self, mulS_zeroL]
  have g0 := hg x0
  have g1 := hg x1
  have g2 := hg x2
  rw [UInt8.xor_self, mulS_zeroL, mulS_zeroL, mulS_zeroR, mulS_zeroR, c0, UInt8.xor_zero, UInt8.xor_zero, UInt8.xor_self] at g0
  rw [UInt8.xor_self, mulS_zeroL, mulS_zeroR, mulS_zeroR, mulS_zeroR, c1, UInt8.xor_zero, UInt8.zero_xor, UInt8.xor_self] at g1
  rw [UInt8.xor_self, mulS_zeroR, mulS_zeroR, mulS_zeroR, mulS_zeroR, c2, UInt8.xor_zero, UInt8.zero_xor, UInt8.xor_self] at g2
  obtain ⟨q1, q2, q3⟩ := quad_zero h01 h02 h12 g0.symm g1.symm g2.symm
  have g := hg z
  rw [q1, q2, q3, mulS_zeroL, mulS_zeroL, UInt8.xor_self, UInt8.xor_self] at g
  rw [hz]
  exact xor_eq_zero g
end Go.Proofs.YtconhhhggckcbaaDoor
/- Plain: products, inverses, values and polynomials as the reference reckons them are the field's. -/
namespace Go.Proofs.YtconhhhggckcbaaDoor

def rxT (a b : Nat) : Nat → Nat
  | 0 => 0
  | i + 1 => if b / 2 ^ i % 2 = 1 then rxT a b i ^^^ (a * 2 ^ i) else rxT a b i
def redT (x : Nat) : Nat → Nat
  | 0 => x
  | k + 1 => if redT x k / 2 ^ (14 - k) % 2 = 1 then redT x k ^^^ (285 * 2 ^ (6 - k)) else redT x k
def mulR (a b : Nat) : Nat := redT (rxT a b 8) 7
/-- a polynomial's value, the lowest coefficient first. -/
def sumE (l : List UInt8) (x : UInt8) : Nat → UInt8 × UInt8
  | 0 => (0, 1)
  | i + 1 => ((sumE l x i).1 ^^^ mulS (l.getD i 0) (sumE l x i).2, mulS (sumE l x i).2 x)
/-- one term of the value at x of a polynomial through points. -/
def parT (xs : List UInt8) (x y : UInt8) (i : Nat) : Nat → UInt8
  | 0 => y
  | j + 1 => if j = i then parT xs x y i j else mulS (parT xs x y i j) (mulS (x ^^^ xs.getD j 0) (invS (xs.getD i 0 ^^^ xs.getD j 0)))
def sumA (xs ys : List UInt8) (x : UInt8) : Nat → UInt8
  | 0 => 0
  | i + 1 => sumA xs ys x i ^^^ parT xs x (ys.getD i 0) i xs.length
end Go.Proofs.YtconhhhggckcbaaDoor
