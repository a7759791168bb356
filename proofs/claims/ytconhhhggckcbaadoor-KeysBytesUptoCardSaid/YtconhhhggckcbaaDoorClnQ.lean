/- Laws and walks that many claims share: Cln, OpenSeal, RngS, RngE. -/
import Derived.Test.YtconhhhggckcbaaDoorPredQ
import Derived.Test.YtconhhhggckcbaaDoorShQ
import Derived.Test.YtconhhhggckcbaaDoorKyBB
import Derived.Test.YtconhhhggckcbaaDoorEpQ
import Derived.Test.YtconhhhggckcbaaDoorSealB
import Derived.Test.YtconhhhggckcbaaDoorFldQ
/- slices.Clone of rows; slices.Index and Contains of keys. Printed by gen_key13.py. -/
namespace Go.Proofs.YtconhhhggckcbaaDoor
open Go.RowKit

theorem cell_below {w w2 : World} {ad : Addr} {j : Nat} (hb : Below w.heap.size w w2) (h : ad.block < w.heap.size) : w2.cell? (ad.add j) = w.cell? (ad.add j) := by
  have e1 : (ad.add j).block = ad.block := by unfold Addr.add; split <;> rfl
  exact World.cell?_of_block (by rw [e1]; exact hb.block _ h)
def epF (e : Ep) : List Value := dgC e.c ++ [.string ⟨e.wr.toArray⟩]
theorem epF_len (e : Ep) : (epF e).length = 33 := by simp [epF, dgC_len]
theorem epF_of {e : Ep} (h : e.c.length = 32) : epF e = epL e := by rw [epF, dgC_of h, epL]
theorem epF_one (e : Ep) : ∀ u ∈ epF e, u.oneCell' = true := by
  intro u hu
  rcases List.mem_append.1 hu with h | h
  · exact dgC_one _ u h
  · rw [List.mem_singleton.1 h]; rfl
theorem elEp : ElT Tryd.prog 25 76 33 48 := by
  refine ⟨Tryd.underlying25, ?_, by decide⟩
  obtain ⟨i, hi, hz⟩ : ∃ i, Tryd.prog.info? 76 = some i ∧ (i.zero.map (·.cells.size), i.size, i.bytes) = (some 33, 33, 48) := by
    have h : ((Tryd.prog.info? 76).map fun i => (i.zero.map (·.cells.size), i.size, i.bytes)) = some (some 33, 33, 48) := by kernel_rfl
    cases hi : Tryd.prog.info? 76 with
    | none => rw [hi] at h; cases h
    | some i => rw [hi] at h; exact ⟨i, rfl, Option.some.inj h⟩
  simp only [Prod.mk.injEq] at hz
  obtain ⟨h1, h2, h3⟩ := hz
  cases hzz : i.zero with
  | none => rw [hzz] at h1; cases h1
  | some z => rw [hzz] at h1; exact ⟨i, z, hi, hzz, h2, h3, Option.some.inj h1⟩
set_option maxRecDepth 100000 in
set_option maxHeartbeats 1000000 in
theorem clone_sh (n : Nat) (xs : List Value) (v : Value) (w : World) (hV : Sl w v 33 n xs) (h1 : ∀ u ∈ xs, u.oneCell' = true) (hn : n < 2 ^ 36) : Calls Tryd.prog 47 #[v] w fun e w' => ∃ u, e = .returned u ∧ Kp.sat w.heap.size (.row 54 33 n xs) u w' ∧ Below w.heap.size w w' := by
  have hl := hV.1
  have hcs : (∃ c, v = .slice none 0 c ∧ n = 0) ∨ ∃ ad c, v = .slice (some ad) n c ∧ (n = 0 ∨ ad.block < w.heap.size) ∧ ∃ b off, (n ≠ 0 → ad = ⟨b, off, none⟩) ∧ ∀ (j : Nat) (u : Value), xs[j]? = some u → w.cell? ⟨b, off + j, none⟩ = some u := by
    rcases hV.2 with ⟨⟨ad, c, rfl⟩, rfl⟩ | ⟨b, off, c, rfl, hb, hc⟩
    · cases ad with
      | none => exact .inl ⟨c, rfl, rfl⟩
      | some ad => exact .inr ⟨ad, c, rfl, .inl rfl, 0, 0, fun h => absurd rfl h, fun j u hj => by rw [List.eq_nil_of_length_eq_zero (by omega : xs.length = 0)] at hj; simp at hj⟩
    · exact .inr ⟨_, c, rfl, .inr hb, b, off, fun _ => rfl, hc⟩
  rcases hcs with ⟨c, rfl, rfl⟩ | ⟨ad, c, rfl, hbl, b, off, hade, hc⟩
  · have hx0 : xs = [] := List.eq_nil_of_length_eq_zero (by omega)
    subst hx0
    refine walk_enter Tryd.func47 rfl rfl rfl fun a0 F0 => ?_
    have M0 := Mem.new w
    refine wsl ?_
    refine sr (v := (.slice none 0 0)) F0 (run_as rfl rfl) rfl rfl rfl fun a1 F1 => ?_
    refine sn ?_
    clear F0
    refine wp_seq ?_
    refine wsl ?_
    refine mvS F1 rfl rfl rfl rfl rfl fun a2 F2 => ?_
    refine sr (v := (.bool true)) F2 (run_eqnil rfl (F2.ev 3 rfl) rfl Tryd.underlying31) rfl rfl rfl fun a3 F3 => ?_
    refine sn ?_
    refine wp_cond_true (F3.ev 4 rfl) ?_
    refine wsl ?_
    refine sr (v := (.slice none 0 0)) F3 (run_as rfl rfl) rfl rfl rfl fun a4 F4 => ?_
    refine sn ?_
    clear F3
    refine wp_ret ?_
    refine nxRet ?_
    exact ret1 F4 rfl rfl ⟨_, rfl, ⟨rfl, .inl ⟨rfl, rfl⟩⟩, M0.below⟩
  · have hc : ∀ (j : Nat) (u : Value), xs[j]? = some u → w.cell? (ad.add j) = some u := by
      intro j u hj
      have hn0 : n ≠ 0 := by
        rintro rfl
        rw [List.eq_nil_of_length_eq_zero (by omega : xs.length = 0)] at hj
        simp at hj
      rw [hade hn0, addr_add]
      exact hc j u hj
    have hbl : ∀ (j : Nat) (u : Value), xs[j]? = some u → ad.block < w.heap.size := by
      intro j u hj
      have hn0 : n ≠ 0 := by
        rintro rfl
        rw [List.eq_nil_of_length_eq_zero (by omega : xs.length = 0)] at hj
        simp at hj
      exact hbl.resolve_left hn0
    refine walk_enter Tryd.func47 rfl rfl rfl fun a0 F0 => ?_
    have M0 := Mem.new w
    refine wsl ?_
    refine sr (v := (.slice none 0 0)) F0 (run_as rfl rfl) rfl rfl rfl fun a1 F1 => ?_
    refine sn ?_
    clear F0
    refine wp_seq ?_
    refine wsl ?_
    refine mvS F1 rfl rfl rfl rfl rfl fun a2 F2 => ?_
    refine sr (v := (.bool false)) F2 (run_eqnil rfl (F2.ev 3 rfl) rfl Tryd.underlying31) rfl rfl rfl fun a3 F3 => ?_
    refine sn ?_
    refine cfs (F3.ev 4 rfl) ?_
    refine wsl ?_
    refine sqOwn0 (size := 33) (e := 54) F3 M0 (wantedS rfl) (run_none (m := 33) rfl eltSh.un (by kernel_rfl)) rfl (by decide) fun v0 a4 w1 hO1 hb1 M1 F4 => ?_
    refine mvS F4 rfl rfl rfl rfl rfl fun a5 F5 => ?_
    refine sqAppend (news := xs) eltSh F5 M1 hO1 rfl rfl (F5.ev 5 rfl) (F5.ev 6 rfl) hl (fun j u hj => (cell_below M1.below (hbl j u hj)).trans (hc j u hj)) h1 (by unfold maxLen; omega) (by omega) rfl (by decide) fun v1 a6 w2 hO2 M2 hnilv1 F6 => ?_
    refine asS F6 rfl rfl rfl rfl rfl fun a7 F7 => ?_
    refine sn ?_
    refine wp_ret ?_
    exact ret1 F7 rfl rfl ⟨_, rfl, by have h := hO2.owns; rw [Nat.zero_add, List.nil_append] at h; exact h, M2.below⟩
set_option maxRecDepth 100000 in
set_option maxHeartbeats 1000000 in
theorem clone_ep (n : Nat) (xs : List Value) (v : Value) (w : World) (hV : Sl w v 33 n xs) (h1 : ∀ u ∈ xs, u.oneCell' = true) (hn : n < 2 ^ 36) : Calls Tryd.prog 43 #[v] w fun e w' => ∃ u, e = .returned u ∧ Kp.sat w.heap.size (.row 76 33 n xs) u w' ∧ Below w.heap.size w w' := by
  have hl := hV.1
  have hcs : (∃ c, v = .slice none 0 c ∧ n = 0) ∨ ∃ ad c, v = .slice (some ad) n c ∧ (n = 0 ∨ ad.block < w.heap.size) ∧ ∃ b off, (n ≠ 0 → ad = ⟨b, off, none⟩) ∧ ∀ (j : Nat) (u : Value), xs[j]? = some u → w.cell? ⟨b, off + j, none⟩ = some u := by
    rcases hV.2 with ⟨⟨ad, c, rfl⟩, rfl⟩ | ⟨b, off, c, rfl, hb, hc⟩
    · cases ad with
      | none => exact .inl ⟨c, rfl, rfl⟩
      | some ad => exact .inr ⟨ad, c, rfl, .inl rfl, 0, 0, fun h => absurd rfl h, fun j u hj => by rw [List.eq_nil_of_length_eq_zero (by omega : xs.length = 0)] at hj; simp at hj⟩
    · exact .inr ⟨_, c, rfl, .inr hb, b, off, fun _ => rfl, hc⟩
  rcases hcs with ⟨c, rfl, rfl⟩ | ⟨ad, c, rfl, hbl, b, off, hade, hc⟩
  · have hx0 : xs = [] := List.eq_nil_of_length_eq_zero (by omega)
    subst hx0
    refine walk_enter Tryd.func43 rfl rfl rfl fun a0 F0 => ?_
    have M0 := Mem.new w
    refine wsl ?_
    refine sr (v := (.slice none 0 0)) F0 (run_as rfl rfl) rfl rfl rfl fun a1 F1 => ?_
    refine sn ?_
    clear F0
    refine wp_seq ?_
    refine wsl ?_
    refine mvS F1 rfl rfl rfl rfl rfl fun a2 F2 => ?_
    refine sr (v := (.bool true)) F2 (run_eqnil rfl (F2.ev 3 rfl) rfl Tryd.underlying25) rfl rfl rfl fun a3 F3 => ?_
    refine sn ?_
    refine wp_cond_true (F3.ev 4 rfl) ?_
    refine wsl ?_
    refine sr (v := (.slice none 0 0)) F3 (run_as rfl rfl) rfl rfl rfl fun a4 F4 => ?_
    refine sn ?_
    clear F3
    refine wp_ret ?_
    refine nxRet ?_
    exact ret1 F4 rfl rfl ⟨_, rfl, ⟨rfl, .inl ⟨rfl, rfl⟩⟩, M0.below⟩
  · have hc : ∀ (j : Nat) (u : Value), xs[j]? = some u → w.cell? (ad.add j) = some u := by
      intro j u hj
      have hn0 : n ≠ 0 := by
        rintro rfl
        rw [List.eq_nil_of_length_eq_zero (by omega : xs.length = 0)] at hj
        simp at hj
      rw [hade hn0, addr_add]
      exact hc j u hj
    have hbl : ∀ (j : Nat) (u : Value), xs[j]? = some u → ad.block < w.heap.size := by
      intro j u hj
      have hn0 : n ≠ 0 := by
        rintro rfl
        rw [List.eq_nil_of_length_eq_zero (by omega : xs.length = 0)] at hj
        simp at hj
      exact hbl.resolve_left hn0
    refine walk_enter Tryd.func43 rfl rfl rfl fun a0 F0 => ?_
    have M0 := Mem.new w
    refine wsl ?_
    refine sr (v := (.slice none 0 0)) F0 (run_as rfl rfl) rfl rfl rfl fun a1 F1 => ?_
    refine sn ?_
    clear F0
    refine wp_seq ?_
    refine wsl ?_
    refine mvS F1 rfl rfl rfl rfl rfl fun a2 F2 => ?_
    refine sr (v := (.bool false)) F2 (run_eqnil rfl (F2.ev 3 rfl) rfl Tryd.underlying25) rfl rfl rfl fun a3 F3 => ?_
    refine sn ?_
    refine cfs (F3.ev 4 rfl) ?_
    refine wsl ?_
    refine sqOwn0 (size := 33) (e := 76) F3 M0 (wantedS rfl) (run_none (m := 33) rfl elEp.un (by kernel_rfl)) rfl (by decide) fun v0 a4 w1 hO1 hb1 M1 F4 => ?_
    refine mvS F4 rfl rfl rfl rfl rfl fun a5 F5 => ?_
    refine sqAppend (news := xs) elEp F5 M1 hO1 rfl rfl (F5.ev 5 rfl) (F5.ev 6 rfl) hl (fun j u hj => (cell_below M1.below (hbl j u hj)).trans (hc j u hj)) h1 (by unfold maxLen; omega) (by omega) rfl (by decide) fun v1 a6 w2 hO2 M2 hnilv1 F6 => ?_
    refine asS F6 rfl rfl rfl rfl rfl fun a7 F7 => ?_
    refine sn ?_
    refine wp_ret ?_
    exact ret1 F7 rfl rfl ⟨_, rfl, by have h := hO2.owns; rw [Nat.zero_add, List.nil_append] at h; exact h, M2.below⟩
set_option maxRecDepth 100000 in
set_option maxHeartbeats 1000000 in
theorem clone_key (n : Nat) (xs : List Value) (v : Value) (w : World) (hV : Sl w v 32 n xs) (h1 : ∀ u ∈ xs, u.oneCell' = true) (hn : n < 2 ^ 36) : Calls Tryd.prog 45 #[v] w fun e w' => ∃ u, e = .returned u ∧ Kp.sat w.heap.size (.row 23 32 n xs) u w' ∧ Below w.heap.size w w' := by
  have hl := hV.1
  have hcs : (∃ c, v = .slice none 0 c ∧ n = 0) ∨ ∃ ad c, v = .slice (some ad) n c ∧ (n = 0 ∨ ad.block < w.heap.size) ∧ ∃ b off, (n ≠ 0 → ad = ⟨b, off, none⟩) ∧ ∀ (j : Nat) (u : Value), xs[j]? = some u → w.cell? ⟨b, off + j, none⟩ = some u := by
    rcases hV.2 with ⟨⟨ad, c, rfl⟩, rfl⟩ | ⟨b, off, c, rfl, hb, hc⟩
    · cases ad with
      | none => exact .inl ⟨c, rfl, rfl⟩
      | some ad => exact .inr ⟨ad, c, rfl, .inl rfl, 0, 0, fun h => absurd rfl h, fun j u hj => by rw [List.eq_nil_of_length_eq_zero (by omega : xs.length = 0)] at hj; simp at hj⟩
    · exact .inr ⟨_, c, rfl, .inr hb, b, off, fun _ => rfl, hc⟩
  rcases hcs with ⟨c, rfl, rfl⟩ | ⟨ad, c, rfl, hbl, b, off, hade, hc⟩
  · have hx0 : xs = [] := List.eq_nil_of_length_eq_zero (by omega)
    subst hx0
    refine walk_enter Tryd.func45 rfl rfl rfl fun a0 F0 => ?_
    have M0 := Mem.new w
    refine wsl ?_
    refine sr (v := (.slice none 0 0)) F0 (run_as rfl rfl) rfl rfl rfl fun a1 F1 => ?_
    refine sn ?_
    clear F0
    refine wp_seq ?_
    refine wsl ?_
    refine mvS F1 rfl rfl rfl rfl rfl fun a2 F2 => ?_
    refine sr (v := (.bool true)) F2 (run_eqnil rfl (F2.ev 3 rfl) rfl Tryd.underlying28) rfl rfl rfl fun a3 F3 => ?_
    refine sn ?_
    refine wp_cond_true (F3.ev 4 rfl) ?_
    refine wsl ?_
    refine sr (v := (.slice none 0 0)) F3 (run_as rfl rfl) rfl rfl rfl fun a4 F4 => ?_
    refine sn ?_
    clear F3
    refine wp_ret ?_
    refine nxRet ?_
    exact ret1 F4 rfl rfl ⟨_, rfl, ⟨rfl, .inl ⟨rfl, rfl⟩⟩, M0.below⟩
  · have hc : ∀ (j : Nat) (u : Value), xs[j]? = some u → w.cell? (ad.add j) = some u := by
      intro j u hj
      have hn0 : n ≠ 0 := by
        rintro rfl
        rw [List.eq_nil_of_length_eq_zero (by omega : xs.length = 0)] at hj
        simp at hj
      rw [hade hn0, addr_add]
      exact hc j u hj
    have hbl : ∀ (j : Nat) (u : Value), xs[j]? = some u → ad.block < w.heap.size := by
      intro j u hj
      have hn0 : n ≠ 0 := by
        rintro rfl
        rw [List.eq_nil_of_length_eq_zero (by omega : xs.length = 0)] at hj
        simp at hj
      exact hbl.resolve_left hn0
    refine walk_enter Tryd.func45 rfl rfl rfl fun a0 F0 => ?_
    have M0 := Mem.new w
    refine wsl ?_
    refine sr (v := (.slice none 0 0)) F0 (run_as rfl rfl) rfl rfl rfl fun a1 F1 => ?_
    refine sn ?_
    clear F0
    refine wp_seq ?_
    refine wsl ?_
    refine mvS F1 rfl rfl rfl rfl rfl fun a2 F2 => ?_
    refine sr (v := (.bool false)) F2 (run_eqnil rfl (F2.ev 3 rfl) rfl Tryd.underlying28) rfl rfl rfl fun a3 F3 => ?_
    refine sn ?_
    refine cfs (F3.ev 4 rfl) ?_
    refine wsl ?_
    refine sqOwn0 (size := 32) (e := 23) F3 M0 (wantedS rfl) (run_none (m := 32) rfl elKey.un (by kernel_rfl)) rfl (by decide) fun v0 a4 w1 hO1 hb1 M1 F4 => ?_
    refine mvS F4 rfl rfl rfl rfl rfl fun a5 F5 => ?_
    refine sqAppend (news := xs) elKey F5 M1 hO1 rfl rfl (F5.ev 5 rfl) (F5.ev 6 rfl) hl (fun j u hj => (cell_below M1.below (hbl j u hj)).trans (hc j u hj)) h1 (by unfold maxLen; omega) (by omega) rfl (by decide) fun v1 a6 w2 hO2 M2 hnilv1 F6 => ?_
    refine asS F6 rfl rfl rfl rfl rfl fun a7 F7 => ?_
    refine sn ?_
    refine wp_ret ?_
    exact ret1 F7 rfl rfl ⟨_, rfl, by have h := hO2.owns; rw [Nat.zero_add, List.nil_append] at h; exact h, M2.below⟩
end Go.Proofs.YtconhhhggckcbaaDoor
/- A box opens to what was boxed (plain). -/
namespace Go.Proofs.YtconhhhggckcbaaDoor
open Go.RowKit

theorem nonceS_app (n x : List UInt8) (hn : n.length = 12) : nonceS (n ++ x) = n := by
  unfold nonceS
  rw [List.take_append_of_le_length (by omega), List.take_of_length_le (by omega), List.length_append, show 12 - (n.length + x.length) = 0 by omega]
  simp
theorem openS_seal (k nonce h d : List UInt8) (hn : nonce.length = 12) : openS k h (sealS k nonce h d) = (d, 0) := by
  have hL := sealS_len k nonce h d hn
  have hA := aheadS_len k nonce d hn
  unfold openS
  rw [if_neg (by omega), hL, show d.length + 44 - 32 = (aheadS k nonce d).length by omega]
  unfold sealS
  rw [List.take_left, List.drop_left, if_pos rfl]
  unfold aheadS
  rw [nonceS_app _ _ hn, show List.drop 12 (nonce ++ xorS (keyedS k cipherT) nonce 1 d) = xorS (keyedS k cipherT) nonce 1 d by rw [← hn, List.drop_left], xorS_back]
end Go.Proofs.YtconhhhggckcbaaDoor
/- Plain: rings of keys: what is checked, rotated, opened. -/
namespace Go.Proofs.YtconhhhggckcbaaDoor
open Go.RowKit

attribute [local irreducible] sealS keyedS nonceS openS
abbrev checkT : List UInt8 := [99, 104, 101, 99, 107]
abbrev wrapT : List UInt8 := [119, 114, 97, 112]
abbrev ringT : List UInt8 := [114, 105, 110, 103]
instance epDec : DecidableEq Ep := fun x y => decidable_of_iff (x.c = y.c ∧ x.wr = y.wr) ⟨fun ⟨h1, h2⟩ => by cases x; cases y; simp_all, fun h => by rw [h]; exact ⟨rfl, rfl⟩⟩
abbrev noEp : Ep := ⟨[], []⟩
/-- the epoch of a ring's key. -/
def epAt (K : List (List UInt8)) (i : Nat) : Ep := if i = 0 then ⟨keyedS (K.getD 0 []) checkT, []⟩ else epS (K.getD i []) (K.getD (i - 1) [])
theorem epAt_c (K : List (List UInt8)) (i : Nat) : (epAt K i).c = keyedS (K.getD i []) checkT := by
  unfold epAt
  by_cases h : i = 0
  · rw [if_pos h, h]
  · rw [if_neg h]; rfl
theorem epAt_len (K : List (List UInt8)) (i : Nat) : (epAt K i).c.length = 32 := by rw [epAt_c]; exact keyedS_len _ _
def ringS (K : List (List UInt8)) : List Ep := (List.range K.length).map (epAt K)
theorem ringS_len (K : List (List UInt8)) : (ringS K).length = K.length := by simp [ringS]
theorem ringS_at {K : List (List UInt8)} {i : Nat} (h : i < K.length) : (ringS K)[i]? = some (epAt K i) := by
  rw [ringS, List.getElem?_map, List.getElem?_range h]; rfl
theorem ringS_c32 (K : List (List UInt8)) : ∀ e ∈ ringS K, e.c.length = 32 := by
  intro e he
  obtain ⟨i, _, rfl⟩ := List.mem_map.1 he
  exact epAt_len K i
/-- are these the ring's keys? -/
def checkS (E : List Ep) (K : List (List UInt8)) : Int := if K = [] ∨ K.length ≠ E.length then 1 else if E = ringS K then 0 else 21
theorem ringS_eq {E : List Ep} {K : List (List UInt8)} (hl : K.length = E.length) (h : ∀ i, i < E.length → E[i]? = some (epAt K i)) : E = ringS K := by
  apply List.ext_getElem?
  intro i
  by_cases hi : i < E.length
  · rw [h i hi, ringS_at (by omega)]
  · rw [List.getElem?_eq_none (by omega), List.getElem?_eq_none (by rw [ringS_len]; omega)]
theorem ringS_ne {E : List Ep} {K : List (List UInt8)} {i : Nat} {e : Ep} (hi : i < K.length) (he : E[i]? = some e) (hne : e ≠ epAt K i) : E ≠ ringS K := by
  intro h
  rw [h, ringS_at hi] at he
  exact hne (Option.some.inj he).symm
/-- the key of the epoch that stands j places ahead of the last one, as the boxes tell it. -/
def kyN (E : List Ep) (k : List UInt8) : Nat → List UInt8
  | 0 => k
  | j + 1 => (openS (keyedS (kyN E k j) wrapT) ringT (E.getD (E.length - 1 - j) noEp).wr).1
def kyI (E : List Ep) (k : List UInt8) (i : Nat) : List UInt8 := kyN E k (E.length - 1 - i)
theorem kyI_last {E : List Ep} {k : List UInt8} {i : Nat} (h : i + 1 = E.length) : kyI E k i = k := by
  have : E.length - 1 - i = 0 := by omega
  unfold kyI
  rw [this]; rfl
theorem kyI_step {E : List Ep} {k : List UInt8} {i : Nat} {e : Ep} (he : E[i + 1]? = some e) : kyI E k i = (openS (keyedS (kyI E k (i + 1)) wrapT) ringT e.wr).1 := by
  have hi := (List.getElem?_eq_some_iff.1 he).1
  obtain ⟨m, hm⟩ : ∃ m, E.length - 1 - i = m + 1 := ⟨E.length - 2 - i, by omega⟩
  have h2 : E.length - 1 - (i + 1) = m := by omega
  have h3 : E.length - 1 - m = i + 1 := by omega
  unfold kyI
  rw [hm, h2, kyN, h3, List.getD_eq_getElem?_getD, he]
  rfl
/-- what an epoch must hold to be opened by its key. -/
def okE (i : Nat) (k : List UInt8) (e : Ep) : Prop := keyedS k checkT = e.c ∧ (0 < i → (openS (keyedS k wrapT) ringT e.wr).2 = 0 ∧ (openS (keyedS k wrapT) ringT e.wr).1.length = 32)
instance okEDec (i : Nat) (k : List UInt8) (e : Ep) : Decidable (okE i k e) := by unfold okE; infer_instance
def okI (E : List Ep) (k : List UInt8) (i : Nat) : Prop := okE i (kyI E k i) (E.getD i noEp)
instance okIDec (E : List Ep) (k : List UInt8) (i : Nat) : Decidable (okI E k i) := by unfold okI; infer_instance
theorem okI_at {E : List Ep} {k : List UInt8} {i : Nat} {e : Ep} (he : E[i]? = some e) : okI E k i ↔ okE i (kyI E k i) e := by
  unfold okI
  rw [List.getD_eq_getElem?_getD, he]; rfl
def allS (E : List Ep) (k : List UInt8) : List (List UInt8) := (List.range E.length).map (kyI E k)
theorem allS_len (E : List Ep) (k : List UInt8) : (allS E k).length = E.length := by simp [allS]
def opnK (E : List Ep) (k : List UInt8) : List (List UInt8) × Int := if ∀ i, i < E.length → okI E k i then (allS E k, 0) else ([], 21)
theorem opnK_bad {E : List Ep} {k : List UInt8} {i : Nat} {e : Ep} (he : E[i]? = some e) (h : ¬ okE i (kyI E k i) e) : opnK E k = ([], 21) := by
  unfold opnK
  exact if_neg fun hall => h ((okI_at he).1 (hall i (List.getElem?_eq_some_iff.1 he).1))
def opnS (E : List Ep) (l : List Sh) : List (List UInt8) × Int := if E = [] then ([], 1) else match joinT l with
  | none => ([], 1)
  | some k => opnK E k
/-- the keys of a ring are opened by its last one. -/
theorem kyI_ring {K : List (List UInt8)} {k : List UInt8} (hk : K[K.length - 1]? = some k) : ∀ j, j < K.length → kyN (ringS K) k j = K.getD (K.length - 1 - j) []
  | 0, h => by
    rw [List.getD_eq_getElem?_getD, Nat.sub_zero, hk]; rfl
  | j + 1, h => by
    have ih := kyI_ring hk j (by omega)
    have hi : K.length - 1 - j < K.length := by omega
    have h0 : K.length - 1 - j ≠ 0 := by omega
    have h1 : K.length - 1 - j - 1 = K.length - 1 - (j + 1) := by omega
    rw [kyN, ih, ringS_len, List.getD_eq_getElem?_getD (l := ringS K), ringS_at hi, Option.getD_some, epAt, if_neg h0, h1]
    show (openS _ _ (sealS _ _ _ _)).1 = _
    rw [openS_seal _ _ _ _ (nonceS_len _)]
theorem open_ring {K : List (List UInt8)} {k : List UInt8} (hk : K[K.length - 1]? = some k) (h32 : ∀ x ∈ K, x.length = 32) : opnK (ringS K) k = (K, 0) := by
  have hn : 0 < K.length := by have := (List.getElem?_eq_some_iff.1 hk).1; omega
  have hky : ∀ i, i < K.length → kyI (ringS K) k i = K.getD i [] := by
    intro i hi
    have := kyI_ring hk (K.length - 1 - i) (by omega)
    unfold kyI
    rw [ringS_len, this]
    congr 1
    omega
  unfold opnK
  rw [if_pos]
  · congr 1
    unfold allS
    rw [ringS_len]
    apply List.ext_getElem?
    intro i
    by_cases hi : i < K.length
    · rw [List.getElem?_map, List.getElem?_range hi, Option.map_some, hky i hi, List.getD_eq_getElem?_getD, List.getElem?_eq_getElem hi]; rfl
    · rw [List.getElem?_eq_none (by simp; omega), List.getElem?_eq_none (by omega)]
  · intro i hi
    rw [ringS_len] at hi
    refine (okI_at (ringS_at hi)).2 ⟨by rw [hky i hi, epAt_c], fun h0 => ?_⟩
    have hw : (epAt K i).wr = wrapS (K.getD i []) (K.getD (i - 1) []) := by unfold epAt; rw [if_neg (by omega)]; rfl
    have hl : (K.getD (i - 1) []).length = 32 := by
      rw [List.getD_eq_getElem?_getD, List.getElem?_eq_getElem (by omega : i - 1 < K.length), Option.getD_some]
      exact h32 _ (List.getElem_mem _)
    have ho : openS (keyedS (K.getD i []) wrapT) ringT (wrapS (K.getD i []) (K.getD (i - 1) [])) = (K.getD (i - 1) [], 0) := openS_seal _ _ _ _ (nonceS_len _)
    rw [hky i hi, hw, ho]
    exact ⟨rfl, hl⟩
theorem open_other {K : List (List UInt8)} {k k2 : List UInt8} (hk : K[K.length - 1]? = some k) (hne : keyedS k2 checkT ≠ keyedS k checkT) : opnK (ringS K) k2 = ([], 21) := by
  have hi := (List.getElem?_eq_some_iff.1 hk).1
  refine opnK_bad (ringS_at hi) fun h => hne ?_
  have h1 := h.1
  rw [kyI_last (by rw [ringS_len]; omega), epAt_c, List.getD_eq_getElem?_getD, hk] at h1
  exact h1
/-- a ring is made. -/
def makeS (k no : List UInt8) : List Ep × List (List UInt8) × List Sh × Int := if no.length = 64 then (ringS [k], [k], shS k no, 0) else ([], [], [], 1)
/-- why a ring isn't rotated. -/
def rotE (E : List Ep) (K : List (List UInt8)) (k no : List UInt8) : Int := if checkS E K ≠ 0 then checkS E K else if 100 ≤ K.length then 6 else if k ∈ K then 8 else if no.length = 64 then 0 else 1
def rotS (E : List Ep) (K : List (List UInt8)) (k no : List UInt8) : List Ep × List (List UInt8) × List Sh × Int := if rotE E K k no = 0 then (E ++ [epS k (K.getD (K.length - 1) [])], K ++ [k], shS k no, 0) else ([], [], [], rotE E K k no)
theorem ring_app {K : List (List UInt8)} {k : List UInt8} (h : K ≠ []) : ringS K ++ [epS k (K.getD (K.length - 1) [])] = ringS (K ++ [k]) := by
  have hn : 0 < K.length := List.length_pos_iff.2 h
  unfold ringS
  rw [List.length_append, List.length_singleton, List.range_succ, List.map_append, List.map_singleton]
  congr 1
  · apply List.map_congr_left
    intro i hi
    have hi := List.mem_range.1 hi
    unfold epAt
    by_cases h0 : i = 0
    · rw [if_pos h0, if_pos h0]
      simp [hn]
    · rw [if_neg h0, if_neg h0]
      have h1 : i - 1 < K.length := by omega
      simp [List.getElem?_append, hi, h1]
  · unfold epAt
    rw [if_neg (by omega)]
    have h1 : K.length - 1 < K.length := by omega
    simp [List.getElem?_append, h1]
theorem check_ring {K : List (List UInt8)} (h : K ≠ []) : checkS (ringS K) K = 0 := by
  unfold checkS
  rw [if_neg (by rw [ringS_len]; simp [h]), if_pos rfl]
theorem rot_ring {K : List (List UInt8)} {k no : List UInt8} (h : K ≠ []) (hl : K.length < 100) (hk : k ∉ K) (hno : no.length = 64) : rotS (ringS K) K k no = (ringS (K ++ [k]), K ++ [k], shS k no, 0) := by
  have he : rotE (ringS K) K k no = 0 := by
    unfold rotE
    rw [check_ring h, if_neg (by simp), if_neg (by omega), if_neg hk, if_pos hno]
  unfold rotS
  rw [if_pos he, ring_app h]
/-- any three shares tell the secret. -/
theorem ofNat_inj5 {i j : Nat} (hi : i < 5) (hj : j < 5) (h : UInt8.ofNat (i + 1) = UInt8.ofNat (j + 1)) : i = j := by
  have := congrArg UInt8.toNat h
  rw [UInt8.toNat_ofNat', UInt8.toNat_ofNat'] at this
  omega
theorem ofNat_ne0 {i : Nat} (hi : i < 5) : UInt8.ofNat (i + 1) ≠ 0 := by
  intro h
  have := congrArg UInt8.toNat h
  rw [UInt8.toNat_ofNat'] at this
  have h0 : (0 : UInt8).toNat = 0 := rfl
  omega
theorem eval_zero (s p q : UInt8) : evalS [s, p, q] 0 = s := by
  rw [eval3, mulS_zeroR, mulS_zeroR, mulS_zeroR, UInt8.xor_zero, UInt8.xor_zero]
theorem keyT_shares {k no : List UInt8} {i j l : Nat} (hk : k.length = 32) (hi : i < 5) (hj : j < 5) (hl : l < 5) (hij : i ≠ j) (hil : i ≠ l) (hjl : j ≠ l) : keyT (shOf k no i) (shOf k no j) (shOf k no l) 32 = k := by
  apply List.ext_getElem?
  intro q
  by_cases hq : q < 32
  · have hget : ∀ m, (shOf k no m).d.getD q 0 = evalS (polS k no q) (UInt8.ofNat (m + 1)) := by
      intro m
      simp only [shOf]
      rw [List.getD_eq_getElem?_getD, List.getElem?_map, List.getElem?_range hq]; rfl
    unfold keyT
    rw [List.getElem?_map, List.getElem?_range hq, Option.map_some, if_pos hq, hget, hget, hget]
    simp only [shOf, polS]
    rw [at_eval _ _ _ _ _ _ _ (fun h => hij (ofNat_inj5 hi hj h)) (fun h => hil (ofNat_inj5 hi hl h)) (fun h => hjl (ofNat_inj5 hj hl h)), eval_zero, List.getD_eq_getElem?_getD, List.getElem?_eq_getElem (by omega : q < k.length)]
    rfl
  · rw [List.getElem?_eq_none (by rw [keyT_len]; omega), List.getElem?_eq_none (by omega)]
theorem join_shares {k no : List UInt8} {i j l : Nat} (hk : k.length = 32) (hi : i < 5) (hj : j < 5) (hl : l < 5) (hij : i ≠ j) (hil : i ≠ l) (hjl : j ≠ l) : joinT [shOf k no i, shOf k no j, shOf k no l] = some k := by
  have hx : ∀ m, (shOf k no m).x = UInt8.ofNat (m + 1) := fun m => rfl
  rw [joinT, if_neg, if_pos, keyT_shares hk hi hj hl hij hil hjl]
  · rw [hx, hx, hx]
    simp only [List.nodup_cons, List.mem_cons, List.not_mem_nil, or_false, not_or, not_false_eq_true, List.nodup_nil, and_true]
    exact ⟨⟨fun h => hij (ofNat_inj5 hi hj h), fun h => hil (ofNat_inj5 hi hl h)⟩, fun h => hjl (ofNat_inj5 hj hl h)⟩
  · rw [hx, hx, hx]
    rintro (h | h | h)
    · exact ofNat_ne0 hi h
    · exact ofNat_ne0 hj h
    · exact ofNat_ne0 hl h
end Go.Proofs.YtconhhhggckcbaaDoor
/- Equality of keys, digests, epochs, shares as values; rows of one element; blocks of keys. -/
namespace Go.Proofs.YtconhhhggckcbaaDoor
open Go.RowKit
variable {D : List Deferred}

theorem eqKeyB (C E : List UInt8) (hC : C.length = 32) (hE : E.length = 32) (w : World) : (Op.equalIn 10000 23 (.agg (cells8 C)) (.agg (cells8 E))).run Tryd.prog w = .ok (C == E) w :=
  run_equalIn_bytes (P := Tryd.prog) w 9998 23 5 32 Tryd.underlying23 Tryd.underlying5 so8 C E hC hE
theorem len2L {α : Type} {l : List α} (h : l.length = 2) : ∃ a b, l = [a, b] := by
  match l, h with
  | [a, b], _ => exact ⟨a, b, rfl⟩
theorem eq2_gen {P : Program} {w : World} (d : Nat) {t ts tn : TypeId} {o2 : Nat} {A B : Array Value} {m n m2 n2 : Value} {b0 b1 : Bool} (ht : P.underlying t = some (.struct (P.fieldsOf t))) (hp : P.stoodInHeld t = false)
    (hf : (P.fieldsOf t).toList.map (fun f => (f.name != "_", f.type, f.offset)) = [(true, ts, 0), (true, tn, o2)])
    (p0 : (part ts A 0).run P w = .ok m w) (p1 : (part tn A o2).run P w = .ok n w) (r0 : (part ts B 0).run P w = .ok m2 w) (r1 : (part tn B o2).run P w = .ok n2 w)
    (q0 : (Op.equalIn d ts m m2).run P w = .ok b0 w) (q1 : (Op.equalIn d tn n n2).run P w = .ok b1 w) : (Op.equalIn (d + 1) t (.agg A) (.agg B)).run P w = .ok (b0 && b1) w := by
  rw [run_equalIn_struct w d t A B ht hp]
  generalize (P.fieldsOf t).toList = fs at hf ⊢
  obtain ⟨f0, f1, rfl⟩ := len2L (show fs.length = 2 by have := congrArg List.length hf; simpa using this)
  simp only [List.map_cons, List.map_nil, List.cons.injEq, Prod.mk.injEq, and_true, bne_iff_ne, ne_eq] at hf
  obtain ⟨⟨n0, t0, o0⟩, ⟨n1, t1, o1⟩⟩ := hf
  cases b0 <;> cases b1 <;> simp [Op.eqFields, n0, n1, t0, t1, o0, o1, p0, p1, r0, r1, q0, q1]
theorem epC_ext {e : Ep} (h : e.c.length = 32) : (epC e).extract 0 32 = cells8 e.c := by
  simp only [epC, epL, cells8, List.extract_toArray, List.extract_eq_take_drop, List.drop_zero]
  rw [List.take_left' (by simp [h])]
theorem eqStrB {P : Program} {w : World} (d : Nat) {t : TypeId} (s r : List UInt8) (h : P.underlying t = some .string) : (Op.equalIn (d + 1) t (.string ⟨s.toArray⟩) (.string ⟨r.toArray⟩)).run P w = .ok (s == r) w := by
  rw [run_equalIn_string w d t _ _ h]
  have e1 : (⟨s.toArray⟩ : ByteArray).toList = s := ba_toList s
  have e2 : (⟨r.toArray⟩ : ByteArray).toList = r := ba_toList r
  simp [e1, e2]
theorem eqEp (e f : Ep) (h : e.c.length = 32) (h2 : f.c.length = 32) (w : World) : (Op.equalIn 10000 76 (.agg (epC e)) (.agg (epC f))).run Tryd.prog w = .ok (e.c == f.c && e.wr == f.wr) w :=
  eq2_gen 9999 (by kernel_rfl) (by kernel_rfl) (by kernel_rfl) (part_agg (m := 32) (epC_ext h) (by kernel_rfl) (by kernel_rfl)) (part_one (epC_wrap (c := e.c) (wr := e.wr) h) (by kernel_rfl)) (part_agg (m := 32) (epC_ext h2) (by kernel_rfl) (by kernel_rfl)) (part_one (epC_wrap (c := f.c) (wr := f.wr) h2) (by kernel_rfl))
    (run_equalIn_bytes (P := Tryd.prog) w 9997 73 5 32 Tryd.underlying73 Tryd.underlying5 so8 e.c f.c h h2) (eqStrB 9998 e.wr f.wr Tryd.underlying9)
section
variable {a : Act} {o : Oper} {w w0 : World} {n s : Nat} {L : List (Nat × Value)} {v : Value} {ops : Array Oper} {rest : List Oper} {Q : Exit → Act → World → Prop} {M : List (Nat × (Obj → Prop))} {x y z : Operand} {g i : Nat} {t2 : TypeId} {C E : List UInt8} {b : Bool}
theorem run_eqKB (hC : C.length = 32) (hE : E.length = 32) (hb : (C == E) = b) (ho : o.op = .binOp .eql 23 x y t2) (hx : a.eval x = .agg (cells8 C)) (hy : a.eval y = .agg (cells8 E)) : (execOp a.eval o).run Tryd.prog w = .ok (.value (.bool b)) w :=
  run_bin ho hx hy (run_eqGuard_agg w _ _ _ _ _ _ (by kernel_rfl)) (by rw [run_eql_struct, eqKeyB C E hC hE, hb]; rfl)
theorem run_neKB (hC : C.length = 32) (hE : E.length = 32) (hb : (C == E) = !b) (ho : o.op = .binOp .neq 23 x y t2) (hx : a.eval x = .agg (cells8 C)) (hy : a.eval y = .agg (cells8 E)) : (execOp a.eval o).run Tryd.prog w = .ok (.value (.bool b)) w :=
  run_bin ho hx hy (run_eqGuard_agg w _ _ _ _ _ _ (by kernel_rfl)) (by rw [run_neq_struct, eqKeyB C E hC hE, hb]; simp)
theorem run_neDB (hC : C.length = 32) (hE : E.length = 32) (hb : (C == E) = !b) (ho : o.op = .binOp .neq 73 x y t2) (hx : a.eval x = .agg (cells8 C)) (hy : a.eval y = .agg (cells8 E)) : (execOp a.eval o).run Tryd.prog w = .ok (.value (.bool b)) w :=
  run_bin ho hx hy (run_eqGuard_agg w _ _ _ _ _ _ (by kernel_rfl)) (by rw [run_neq_struct, eqDg C E hC hE, hb]; simp)
theorem run_neEp {e f : Ep} (h : e.c.length = 32) (h2 : f.c.length = 32) (hb : decide (e = f) = !b) (ho : o.op = .binOp .neq 76 x y t2) (hx : a.eval x = .agg (epC e)) (hy : a.eval y = .agg (epC f)) : (execOp a.eval o).run Tryd.prog w = .ok (.value (.bool b)) w := by
  have h3 : (e.c == f.c && e.wr == f.wr) = decide (e = f) := by
    by_cases he : e = f
    · rw [decide_eq_true he, he, beq_self_eq_true, beq_self_eq_true]; rfl
    · rw [decide_eq_false he]
      by_cases h1 : e.c = f.c
      · by_cases h4 : e.wr = f.wr
        · exact absurd (by cases e; cases f; simp_all) he
        · rw [beq_eq_false_iff_ne.2 h4, Bool.and_false]
      · rw [beq_eq_false_iff_ne.2 h1, Bool.false_and]
  exact run_bin ho hx hy (run_eqGuard_agg w _ _ _ _ _ _ (by kernel_rfl)) (by rw [run_neq_struct, eqEp e f h h2, h3, hb]; simp)
/-- rows of one element. -/
theorem run_keys1 {d : List UInt8} (h : d.length = 32) (ho : o.op = .buildSlice 28 1 #[(0, x)]) (hx : a.eval x = .agg (cells8 d)) : (execOp a.eval o).run Tryd.prog w = .ok (.value (.slice (some ⟨w.heap.size, 0, none⟩) 1 1)) (w.alloc (.cells (List.toArray ([d].flatMap dgC)) 23)) := by
  have hr : (Instr.buildSlice 28 1 #[(0, .agg (cells8 d))]).run Tryd.prog w = .ok (.slice (some ⟨w.heap.size, 0, none⟩) 1 1) (w.alloc (.cells (cells8 d) 23)) := by
    obtain ⟨a0, a1, a2, a3, a4, a5, a6, a7, a8, a9, b0, b1, b2, b3, b4, b5, b6, b7, b8, b9, c0, c1, c2, c3, c4, c5, c6, c7, c8, c9, d0, d1, rfl⟩ := list32 h
    kernel_rfl
  have he : List.toArray ([d].flatMap dgC) = cells8 d := by rw [List.flatMap_singleton, dgC_of h]; rfl
  rw [he]
  unfold execOp
  simp only [ho, List.map_toArray, List.map_cons, List.map_nil, hx, Sem.run_bind, hr, Result.andThen_ok, Sem.run_pure]
theorem run_eps1 {e : Ep} (h : e.c.length = 32) (ho : o.op = .buildSlice 25 1 #[(0, x)]) (hx : a.eval x = .agg (epC e)) : (execOp a.eval o).run Tryd.prog w = .ok (.value (.slice (some ⟨w.heap.size, 0, none⟩) 1 1)) (w.alloc (.cells (List.toArray ([e].flatMap epF)) 76)) := by
  have hr : (Instr.buildSlice 25 1 #[(0, .agg (epC e))]).run Tryd.prog w = .ok (.slice (some ⟨w.heap.size, 0, none⟩) 1 1) (w.alloc (.cells (epC e) 76)) := by
    obtain ⟨c, wr⟩ := e
    obtain ⟨a0, a1, a2, a3, a4, a5, a6, a7, a8, a9, b0, b1, b2, b3, b4, b5, b6, b7, b8, b9, c0, c1, c2, c3, c4, c5, c6, c7, c8, c9, d0, d1, rfl⟩ := list32 h
    kernel_rfl
  have he : List.toArray ([e].flatMap epF) = epC e := by rw [List.flatMap_singleton, epF_of h]; rfl
  rw [he]
  unfold execOp
  simp only [ho, List.map_toArray, List.map_cons, List.map_nil, hx, Sem.run_bind, hr, Result.andThen_ok, Sem.run_pure]
/-- a block of keys. -/
def kysA (l : List (List UInt8)) : Array Value := (l.flatMap dgC).toArray
theorem flat_len (l : List (List UInt8)) : (l.flatMap dgC).length = l.length * 32 := by
  induction l with
  | nil => rfl
  | cons x l ih => rw [List.flatMap_cons, List.length_append, ih, dgC_len, List.length_cons]; omega
theorem kysA_size (l : List (List UInt8)) : (kysA l).size = l.length * 32 := by rw [kysA, List.size_toArray, flat_len]
theorem flat_rep (m : Nat) : (List.replicate m (List.replicate 32 (0 : UInt8))).flatMap dgC = List.replicate (m * 32) (cb 0) := by
  induction m with
  | zero => simp
  | succ m ih =>
    rw [List.replicate_succ, List.flatMap_cons, ih, show (m + 1) * 32 = 32 + m * 32 by omega, ← List.replicate_append_replicate]
    congr 1
set_option maxRecDepth 100000 in
theorem madeK (m : Nat) : ∃ i z, Tryd.prog.info? 23 = some i ∧ i.zero = some z ∧ i.size = 32 ∧ i.bytes = 32 ∧ madeCells z.cells (m * 32) = kysA (List.replicate m (List.replicate 32 0)) := by
  obtain ⟨i, z, h1, h2, h3, h4, h5⟩ : ∃ i z, Tryd.prog.info? 23 = some i ∧ i.zero = some z ∧ i.size = 32 ∧ i.bytes = 32 ∧ z.cells = (List.replicate 32 (cb 0)).toArray := ⟨_, _, rfl, rfl, rfl, rfl, by kernel_rfl⟩
  refine ⟨i, z, h1, h2, h3, h4, ?_⟩
  rw [h5, kysA, flat_rep]
  apply Array.ext'
  rw [madeCells, Array.toList_map, Array.toList_range]
  apply List.ext_getElem?
  intro q
  by_cases hq : q < m * 32
  · rw [List.getElem?_map, List.getElem?_range hq, List.getElem?_replicate, if_pos hq]
    have h7 : ∀ N j : Nat, j < N → ((List.replicate N (cb 0)).toArray)[j]! = cb 0 := fun N j hj => by simp [hj]
    rw [Option.map_some, h7 32 _ (by rw [List.size_toArray, List.length_replicate]; exact Nat.mod_lt _ (by decide))]
  · rw [List.getElem?_eq_none (by simp; omega), List.getElem?_eq_none (by simp; omega)]
theorem sqMakeK {k k2 : IntKind} {p p2 : Int} {m : Nat} (hF : FrD D a n L) (hM : Mem w0 M w) (hgd : o.guard = none) (ho : o.op = .makeSlice 28 x y) (hx : a.eval x = .int k p) (hy : a.eval y = .int k2 p2) (hp : p = (m : Int)) (hp2 : p2 = (m : Int)) (hm : m < 2 ^ 36) (hd : o.dst = some s) (hs : s < n)
    (h : ∀ g a2 w2, w.heap.size ≤ g → Below w.heap.size w w2 → FrD D a2 n ((s, .slice (some ⟨g, 0, none⟩) m m) :: L) → Mem w0 ((g, isB 23 (kysA (List.replicate m (List.replicate 32 0)))) :: M) w2 → wpList Tryd.prog ops Q rest a2 w2) : wpList Tryd.prog ops Q (o :: rest) a w := by
  subst hp hp2
  obtain ⟨i, z, hi, hz, hsz, hby, hcs⟩ := madeK m
  have hr := run_make (P := Tryd.prog) w 28 23 i z elKey.un hi hz k k2 (m : Int) (m : Int) (by omega) (by omega) (by rw [hby]; omega) (by omega)
  rw [show (m : Int).toNat * i.size = m * 32 by rw [hsz]; rfl, hcs] at hr
  refine sqRow (cs := kysA (List.replicate m (List.replicate 32 0))) (t := 23) hF hM (wantedS hgd) ?_ hd hs h
  unfold execOp
  simp only [ho, hx, hy, Sem.run_bind, hr, Result.andThen_ok, Sem.run_pure]
  rfl
theorem run_idxKs {c m : Nat} {k : IntKind} {p : Int} (ho : o.op = .indexAddr 28 x y) (hx : a.eval x = .slice (some ⟨g, 0, none⟩) m c) (hy : a.eval y = .int k p) (hp : p = (i : Int)) (hi : i < m) : (execOp a.eval o).run Tryd.prog w = .ok (.value (.pointer (some ⟨g, i * 32, none⟩))) w := by
  subst hp
  have el : Tryd.prog.elem 28 = 23 := by simp [Program.elem, Tryd.underlying28]
  have hr := run_indexAt_slice (P := Tryd.prog) w 28 ⟨g, 0, none⟩ m c k (i : Int) (by rw [el]; exact elKey.un)
  have hz : (sizeOf (Tryd.prog.elem 28)).run Tryd.prog w = .ok 32 w := by rw [el]; kernel_rfl
  unfold execOp
  simp only [ho, hx, hy]
  rw [Sem.run_bind, hr, hz, if_pos (by omega)]
  simp [Addr.add]
  intro h; exact h.symm
theorem flat_set {l : List (List UInt8)} {d : List UInt8} : ∀ {i : Nat}, i < l.length → (l.flatMap dgC).take (i * 32) ++ dgC d ++ (l.flatMap dgC).drop (i * 32 + 32) = (l.set i d).flatMap dgC := by
  induction l with
  | nil => intro i h; exact absurd h (by simp)
  | cons x l ih =>
    intro i h
    cases i with
    | zero =>
      rw [List.set_cons_zero, List.flatMap_cons, List.flatMap_cons, Nat.zero_mul, List.take_zero, List.nil_append, Nat.zero_add, List.drop_left' (dgC_len x)]
    | succ i =>
      have h2 := ih (i := i) (by simpa using h)
      rw [List.set_cons_succ, List.flatMap_cons, List.flatMap_cons, ← h2, show (i + 1) * 32 = (dgC x).length + i * 32 by rw [dgC_len]; omega, List.take_length_add_append, show (dgC x).length + i * 32 + 32 = (dgC x).length + (i * 32 + 32) by omega, List.drop_length_add_append]
      simp only [List.append_assoc]
theorem sqSetK {j : Nat} {l : List (List UInt8)} {d : List UInt8} (h32 : d.length = 32) (hF : FrD D a n L) (hM : Mem w0 M w) (hgd : o.guard = none) (ho : o.op = .store 23 x y) (hd : o.dst = none) (hx : a.eval x = .pointer (some ⟨g, i * 32, none⟩)) (hy : a.eval y = .agg (cells8 d))
    (e : M[j]? = some (g, isB 23 (kysA l))) (hi : i < l.length) (h : ∀ a2 w2, w.grownBy w2 (some g) → FrD D a2 n L → Mem w0 (M.set j (g, isB 23 (kysA (l.set i d)))) w2 → wpList Tryd.prog ops Q rest a2 w2) : wpList Tryd.prog ops Q (o :: rest) a w := by
  have hB := hM.at j e
  have hst := run_storeCells_at Tryd.prog g (i * 32) 23 (dgC d) 0 (kysA l) w hB (by rw [kysA_size, dgC_len]; omega) (dgC_one d)
  have hcs : ((kysA l).toList.take (i * 32 + 0) ++ dgC d ++ (kysA l).toList.drop (i * 32 + 0 + (dgC d).length)).toArray = kysA (l.set i d) := by
    rw [dgC_len, Nat.add_zero, kysA, kysA, ← flat_set hi]
  rw [hcs] at hst
  have hg := grown_setRow w g (kysA (l.set i d))
  have he : (cells8 d).toList = dgC d := by rw [dgC_of h32]; rfl
  have hq : (Tryd.prog.info? 23).map (·.size) = some 32 := by kernel_rfl
  refine sqN hF (wantedS hgd) (w2 := w.setRow g (kysA (l.set i d))) ?_ hd fun a2 hF2 => h a2 _ hg hF2 (hM.upd j e hg ⟨_, hB.row _, rfl⟩)
  unfold execOp
  simp only [ho, hx, hy]
  cases hp : Tryd.prog.info? 23 with
  | none => simp [hp] at hq
  | some ti =>
    have hsz : ti.size = 32 := by simpa [hp] using hq
    have hcz : (cells8 d).size = 32 := by rw [← Array.length_toList, he, dgC_len]
    simp [Instr.storeAt, Instr.sureAddr, storeVar, sizeOf, typeInfo, hp, Value.cells, hsz, hcz, he, hst]
end
end Go.Proofs.YtconhhhggckcbaaDoor
