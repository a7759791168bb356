/- Plain: rings of keys: what is checked, rotated, opened. -/
import Derived.Test.YtconhhhggckcbaaDoorEpo2
import Derived.Test.YtconhhhggckcbaaDoorOpenSeal
import Derived.Test.YtconhhhggckcbaaDoorShQ
import Derived.Test.YtconhhhggckcbaaDoorFldQ
namespace Go.Proofs.YtconhhhggckcbaaDoor
open Go.RowKit

attribute [local irreducible] sealS keyedS nonceS openS
abbrev checkT : List UInt8 := [99, 104, 101, 99, 107]
abbrev wrapT : List UInt8 := [119, 114, 97, 112]
abbrev ringT : List UInt8 := [114, 105, 110, 103]
instance epDec : DecidableEq Ep := fun x y => decidable_of_iff (x.c = y.c ∧ x.wr = y.wr) ⟨fun ⟨h1, h2⟩ => by cases x; cases y; simp_all, fun h => by rw [h]; exact ⟨rfl, rfl⟩⟩
abbrev noEp : Ep := ⟨[], []⟩
/-- the epoch of a ring's key. -/
def epAt (K : List (List UInt8)) (i : Nat) : Ep := if i = 0 then ⟨keyedS (K.getD 0 []) checkT, []⟩ else epS (K.getD i []) (K.getD (i - 1) [])
theorem epAt_c (K : List (List UInt8)) (i : Nat) : (epAt K i).c = keyedS (K.getD i []) checkT := by
  unfold epAt
  by_cases h : i = 0
  · rw [if_pos h, h]
  · rw [if_neg h]; rfl
theorem epAt_len (K : List (List UInt8)) (i : Nat) : (epAt K i).c.length = 32 := by rw [epAt_c]; exact keyedS_len _ _
def ringS (K : List (List UInt8)) : List Ep := (List.range K.length).map (epAt K)
theorem ringS_len (K : List (List UInt8)) : (ringS K).length = K.length := by simp [ringS]
theorem ringS_at {K : List (List UInt8)} {i : Nat} (h : i < K.length) : (ringS K)[i]? = some (epAt K i) := by
  rw [ringS, List.getElem?_map, List.getElem?_range h]; rfl
theorem ringS_c32 (K : List (List UInt8)) : ∀ e ∈ ringS K, e.c.length = 32 := by
  intro e he
  obtain ⟨i, _, rfl⟩ := List.mem_map.1 he
  exact epAt_len K i
/-- are these the ring's keys? -/
def checkS (E : List Ep) (K : List (List UInt8)) : Int := if K = [] ∨ K.length ≠ E.length then 1 else if E = ringS K then 0 else 21
theorem ringS_eq {E : List Ep} {K : List (List UInt8)} (hl : K.length = E.length) (h : ∀ i, i < E.length → E[i]? = some (epAt K i)) : E = ringS K := by
  apply List.ext_getElem?
  intro i
  by_cases hi : i < E.length
  · rw [h i hi, ringS_at (by omega)]
  · rw [List.getElem?_eq_none (by omega), List.getElem?_eq_none (by rw [ringS_len]; omega)]
theorem ringS_ne {E : List Ep} {K : List (List UInt8)} {i : Nat} {e : Ep} (hi : i < K.length) (he : E[i]? = some e) (hne : e ≠ epAt K i) : E ≠ ringS K := by
  intro h
  rw [h, ringS_at hi] at he
  exact hne (Option.some.inj he).symm
/-- the key of the epoch that stands j places ahead of the last one, as the boxes tell it. -/
def kyN (E : List Ep) (k : List UInt8) : Nat → List UInt8
  | 0 => k
  | j + 1 => (openS (keyedS (kyN E k j) wrapT) ringT (E.getD (E.length - 1 - j) noEp).wr).1
def kyI (E : List Ep) (k : List UInt8) (i : Nat) : List UInt8 := kyN E k (E.length - 1 - i)
theorem kyI_last {E : List Ep} {k : List UInt8} {i : Nat} (h : i + 1 = E.length) : kyI E k i = k := by
  have : E.length - 1 - i = 0 := by omega
  unfold kyI
  rw [this]; rfl
theorem kyI_step {E : List Ep} {k : List UInt8} {i : Nat} {e : Ep} (he : E[i + 1]? = some e) : kyI E k i = (openS (keyedS (kyI E k (i + 1)) wrapT) ringT e.wr).1 := by
  have hi := (List.getElem?_eq_some_iff.1 he).1
  obtain ⟨m, hm⟩ : ∃ m, E.length - 1 - i = m + 1 := ⟨E.length - 2 - i, by omega⟩
  have h2 : E.length - 1 - (i + 1) = m := by omega
  have h3 : E.length - 1 - m = i + 1 := by omega
  unfold kyI
  rw [hm, h2, kyN, h3, List.getD_eq_getElem?_getD, he]
  rfl
/-- what an epoch must hold to be opened by its key. -/
def okE (i : Nat) (k : List UInt8) (e : Ep) : Prop := keyedS k checkT = e.c ∧ (0 < i → (openS (keyedS k wrapT) ringT e.wr).2 = 0 ∧ (openS (keyedS k wrapT) ringT e.wr).1.length = 32)
instance okEDec (i : Nat) (k : List UInt8) (e : Ep) : Decidable (okE i k e) := by unfold okE; infer_instance
def okI (E : List Ep) (k : List UInt8) (i : Nat) : Prop := okE i (kyI E k i) (E.getD i noEp)
instance okIDec (E : List Ep) (k : List UInt8) (i : Nat) : Decidable (okI E k i) := by unfold okI; infer_instance
theorem okI_at {E : List Ep} {k : List UInt8} {i : Nat} {e : Ep} (he : E[i]? = some e) : okI E k i ↔ okE i (kyI E k i) e := by
  unfold okI
  rw [List.getD_eq_getElem?_getD, he]; rfl
def allS (E : List Ep) (k : List UInt8) : List (List UInt8) := (List.range E.length).map (kyI E k)
theorem allS_len (E : List Ep) (k : List UInt8) : (allS E k).length = E.length := by simp [allS]
def opnK (E : List Ep) (k : List UInt8) : List (List UInt8) × Int := if ∀ i, i < E.length → okI E k i then (allS E k, 0) else ([], 21)
theorem opnK_bad {E : List Ep} {k : List UInt8} {i : Nat} {e : Ep} (he : E[i]? = some e) (h : ¬ okE i (kyI E k i) e) : opnK E k = ([], 21) := by
  unfold opnK
  exact if_neg fun hall => h ((okI_at he).1 (hall i (List.getElem?_eq_some_iff.1 he).1))
def opnS (E : List Ep) (l : List Sh) : List (List UInt8) × Int := if E = [] then ([], 1) else match joinT l with
  | none => ([], 1)
  | some k => opnK E k
/-- the keys of a ring are opened by its last one. -/
theorem kyI_ring {K : List (List UInt8)} {k : List UInt8} (hk : K[K.length - 1]? = some k) : ∀ j, j < K.length → kyN (ringS K) k j = K.getD (K.length - 1 - j) []
  | 0, h => by
    rw [List.getD_eq_getElem?_getD, Nat.sub_zero, hk]; rfl
  | j + 1, h => by
    have ih := kyI_ring hk j (by omega)
    have hi : K.length - 1 - j < K.length := by omega
    have h0 : K.length - 1 - j ≠ 0 := by omega
    have h1 : K.length - 1 - j - 1 = K.length - 1 - (j + 1) := by omega
    rw [kyN, ih, ringS_len, List.getD_eq_getElem?_getD (l := ringS K), ringS_at hi, Option.getD_some, epAt, if_neg h0, h1]
    show (openS _ _ (sealS _ _ _ _)).1 = _
    rw [openS_seal _ _ _ _ (nonceS_len _)]
theorem open_ring {K : List (List UInt8)} {k : List UInt8} (hk : K[K.length - 1]? = some k) (h32 : ∀ x ∈ K, x.length = 32) : opnK (ringS K) k = (K, 0) := by
  have hn : 0 < K.length := by have := (List.getElem?_eq_some_iff.1 hk).1; omega
  have hky : ∀ i, i < K.length → kyI (ringS K) k i = K.getD i [] := by
    intro i hi
    have := kyI_ring hk (K.length - 1 - i) (by omega)
    unfold kyI
    rw [ringS_len, this]
    congr 1
    omega
  unfold opnK
  rw [if_pos]
  · congr 1
    unfold allS
    rw [ringS_len]
    apply List.ext_getElem?
    intro i
    by_cases hi : i < K.length
    · rw [List.getElem?_map, List.getElem?_range hi, Option.map_some, hky i hi, List.getD_eq_getElem?_getD, List.getElem?_eq_getElem hi]; rfl
    · rw [List.getElem?_eq_none (by simp; omega), List.getElem?_eq_none (by omega)]
  · intro i hi
    rw [ringS_len] at hi
    refine (okI_at (ringS_at hi)).2 ⟨by rw [hky i hi, epAt_c], fun h0 => ?_⟩
    have hw : (epAt K i).wr = wrapS (K.getD i []) (K.getD (i - 1) []) := by unfold epAt; rw [if_neg (by omega)]; rfl
    have hl : (K.getD (i - 1) []).length = 32 := by
      rw [List.getD_eq_getElem?_getD, List.getElem?_eq_getElem (by omega : i - 1 < K.length), Option.getD_some]
      exact h32 _ (List.getElem_mem _)
    have ho : openS (keyedS (K.getD i []) wrapT) ringT (wrapS (K.getD i []) (K.getD (i - 1) [])) = (K.getD (i - 1) [], 0) := openS_seal _ _ _ _ (nonceS_len _)
    rw [hky i hi, hw, ho]
    exact ⟨rfl, hl⟩
theorem open_other {K : List (List UInt8)} {k k2 : List UInt8} (hk : K[K.length - 1]? = some k) (hne : keyedS k2 checkT ≠ keyedS k checkT) : opnK (ringS K) k2 = ([], 21) := by
  have hi := (List.getElem?_eq_some_iff.1 hk).1
  refine opnK_bad (ringS_at hi) fun h => hne ?_
  have h1 := h.1
  rw [kyI_last (by rw [ringS_len]; omega), epAt_c, List.getD_eq_getElem?_getD, hk] at h1
  exact h1
/-- a ring is made. -/
def makeS (k no : List UInt8) : List Ep × List (List UInt8) × List Sh × Int := if no.length = 64 then (ringS [k], [k], shS k no, 0) else ([], [], [], 1)
/-- why a ring isn't rotated. -/
def rotE (E : List Ep) (K : List (List UInt8)) (k no : List UInt8) : Int := if checkS E K ≠ 0 then checkS E K else if 100 ≤ K.length then 6 else if k ∈ K then 8 else if no.length = 64 then 0 else 1
def rotS (E : List Ep) (K : List (List UInt8)) (k no : List UInt8) : List Ep × List (List UInt8) × List Sh × Int := if rotE E K k no = 0 then (E ++ [epS k (K.getD (K.length - 1) [])], K ++ [k], shS k no, 0) else ([], [], [], rotE E K k no)
theorem ring_app {K : List (List UInt8)} {k : List UInt8} (h : K ≠ []) : ringS K ++ [epS k (K.getD (K.length - 1) [])] = ringS (K ++ [k]) := by
  have hn : 0 < K.length := List.length_pos_iff.2 h
  unfold ringS
  rw [List.length_append, List.length_singleton, List.range_succ, List.map_append, List.map_singleton]
  congr 1
  · apply List.map_congr_left
    intro i hi
    have hi := List.mem_range.1 hi
    unfold epAt
    by_cases h0 : i = 0
    · rw [if_pos h0, if_pos h0]
      simp [hn]
    · rw [if_neg h0, if_neg h0]
      have h1 : i - 1 < K.length := by omega
      simp [List.getElem?_append, hi, h1]
  · unfold epAt
    rw [if_neg (by omega)]
    have h1 : K.length - 1 < K.length := by omega
    simp [List.getElem?_append, h1]
theorem check_ring {K : List (List UInt8)} (h : K ≠ []) : checkS (ringS K) K = 0 := by
  unfold checkS
  rw [if_neg (by rw [ringS_len]; simp [h]), if_pos rfl]
theorem rot_ring {K : List (List UInt8)} {k no : List UInt8} (h : K ≠ []) (hl : K.length < 100) (hk : k ∉ K) (hno : no.length = 64) : rotS (ringS K) K k no = (ringS (K ++ [k]), K ++ [k], shS k no, 0) := by
  have he : rotE (ringS K) K k no = 0 := by
    unfold rotE
    rw [check_ring h, if_neg (by simp), if_neg (by omega), if_neg hk, if_pos hno]
  unfold rotS
  rw [if_pos he, ring_app h]
/-- any three shares tell the secret. -/
theorem ofNat_inj5 {i j : Nat} (hi : i < 5) (hj : j < 5) (h : UInt8.ofNat (i + 1) = UInt8.ofNat (j + 1)) : i = j := by
  have := congrArg UInt8.toNat h
  rw [UInt8.toNat_ofNat', UInt8.toNat_ofNat'] at this
  omega
theorem ofNat_ne0 {i : Nat} (hi : i < 5) : UInt8.ofNat (i + 1) ≠ 0 := by
  intro h
  have := congrArg UInt8.toNat h
  rw [UInt8.toNat_ofNat'] at this
  have h0 : (0 : UInt8).toNat = 0 := rfl
  omega
theorem eval_zero (s p q : UInt8) : evalS [s, p, q] 0 = s := by
  rw [eval3, mulS_zeroR, mulS_zeroR, mulS_zeroR, UInt8.xor_zero, UInt8.xor_zero]
theorem keyT_shares {k no : List UInt8} {i j l : Nat} (hk : k.length = 32) (hi : i < 5) (hj : j < 5) (hl : l < 5) (hij : i ≠ j) (hil : i ≠ l) (hjl : j ≠ l) : keyT (shOf k no i) (shOf k no j) (shOf k no l) 32 = k := by
  apply List.ext_getElem?
  intro q
  by_cases hq : q < 32
  · have hget : ∀ m, (shOf k no m).d.getD q 0 = evalS (polS k no q) (UInt8.ofNat (m + 1)) := by
      intro m
      simp only [shOf]
      rw [List.getD_eq_getElem?_getD, List.getElem?_map, List.getElem?_range hq]; rfl
    unfold keyT
    rw [List.getElem?_map, List.getElem?_range hq, Option.map_some, if_pos hq, hget, hget, hget]
    simp only [shOf, polS]
    rw [at_eval _ _ _ _ _ _ _ (fun h => hij (ofNat_inj5 hi hj h)) (fun h => hil (ofNat_inj5 hi hl h)) (fun h => hjl (ofNat_inj5 hj hl h)), eval_zero, List.getD_eq_getElem?_getD, List.getElem?_eq_getElem (by omega : q < k.length)]
    rfl
  · rw [List.getElem?_eq_none (by rw [keyT_len]; omega), List.getElem?_eq_none (by omega)]
theorem join_shares {k no : List UInt8} {i j l : Nat} (hk : k.length = 32) (hi : i < 5) (hj : j < 5) (hl : l < 5) (hij : i ≠ j) (hil : i ≠ l) (hjl : j ≠ l) : joinT [shOf k no i, shOf k no j, shOf k no l] = some k := by
  have hx : ∀ m, (shOf k no m).x = UInt8.ofNat (m + 1) := fun m => rfl
  rw [joinT, if_neg, if_pos, keyT_shares hk hi hj hl hij hil hjl]
  · rw [hx, hx, hx]
    simp only [List.nodup_cons, List.mem_cons, List.not_mem_nil, or_false, not_or, not_false_eq_true, List.nodup_nil, and_true]
    exact ⟨⟨fun h => hij (ofNat_inj5 hi hj h), fun h => hil (ofNat_inj5 hi hl h)⟩, fun h => hjl (ofNat_inj5 hj hl h)⟩
  · rw [hx, hx, hx]
    rintro (h | h | h)
    · exact ofNat_ne0 hi h
    · exact ofNat_ne0 hj h
    · exact ofNat_ne0 hl h
theorem join_twice {k no : List UInt8} {i j l : Nat} (h : i = j ∨ i = l ∨ j = l) : joinT [shOf k no i, shOf k no j, shOf k no l] = none := by
  rw [joinT]
  by_cases h1 : (shOf k no i).x = 0 ∨ (shOf k no j).x = 0 ∨ (shOf k no l).x = 0
  · rw [if_pos h1]
  · rw [if_neg h1, if_neg]
    simp only [List.nodup_cons, List.mem_cons, List.not_mem_nil, or_false, not_or, not_false_eq_true, List.nodup_nil, and_true]
    rcases h with rfl | rfl | rfl <;> simp
end Go.Proofs.YtconhhhggckcbaaDoor
