/- slices.Clone of rows; slices.Index and Contains of keys. Printed by gen_key13.py. -/
import Derived.Test.YtconhhhggckcbaaDoorPredQ
import Derived.Test.YtconhhhggckcbaaDoorShQ
import Derived.Test.YtconhhhggckcbaaDoorKyBB
import Derived.Test.YtconhhhggckcbaaDoorEpQ
namespace Go.Proofs.YtconhhhggckcbaaDoor
open Go.RowKit

theorem cell_below {w w2 : World} {ad : Addr} {j : Nat} (hb : Below w.heap.size w w2) (h : ad.block < w.heap.size) : w2.cell? (ad.add j) = w.cell? (ad.add j) := by
  have e1 : (ad.add j).block = ad.block := by unfold Addr.add; split <;> rfl
  exact World.cell?_of_block (by rw [e1]; exact hb.block _ h)
def epF (e : Ep) : List Value := dgC e.c ++ [.string ⟨e.wr.toArray⟩]
theorem epF_len (e : Ep) : (epF e).length = 33 := by simp [epF, dgC_len]
theorem epF_of {e : Ep} (h : e.c.length = 32) : epF e = epL e := by rw [epF, dgC_of h, epL]
theorem epF_one (e : Ep) : ∀ u ∈ epF e, u.oneCell' = true := by
  intro u hu
  rcases List.mem_append.1 hu with h | h
  · exact dgC_one _ u h
  · rw [List.mem_singleton.1 h]; rfl
theorem elEp : ElT Tryd.prog 25 76 33 48 := by
  refine ⟨Tryd.underlying25, ?_, by decide⟩
  obtain ⟨i, hi, hz⟩ : ∃ i, Tryd.prog.info? 76 = some i ∧ (i.zero.map (·.cells.size), i.size, i.bytes) = (some 33, 33, 48) := by
    have h : ((Tryd.prog.info? 76).map fun i => (i.zero.map (·.cells.size), i.size, i.bytes)) = some (some 33, 33, 48) := by kernel_rfl
    cases hi : Tryd.prog.info? 76 with
    | none => rw [hi] at h; cases h
    | some i => rw [hi] at h; exact ⟨i, rfl, Option.some.inj h⟩
  simp only [Prod.mk.injEq] at hz
  obtain ⟨h1, h2, h3⟩ := hz
  cases hzz : i.zero with
  | none => rw [hzz] at h1; cases h1
  | some z => rw [hzz] at h1; exact ⟨i, z, hi, hzz, h2, h3, Option.some.inj h1⟩
set_option maxRecDepth 100000 in
set_option maxHeartbeats 1000000 in
theorem clone_sh (n : Nat) (xs : List Value) (v : Value) (w : World) (hV : Sl w v 33 n xs) (h1 : ∀ u ∈ xs, u.oneCell' = true) (hn : n < 2 ^ 36) : Calls Tryd.prog 47 #[v] w fun e w' => ∃ u, e = .returned u ∧ Kp.sat w.heap.size (.row 54 33 n xs) u w' ∧ Below w.heap.size w w' := by
  have hl := hV.1
  have hcs : (∃ c, v = .slice none 0 c ∧ n = 0) ∨ ∃ ad c, v = .slice (some ad) n c ∧ (n = 0 ∨ ad.block < w.heap.size) ∧ ∃ b off, (n ≠ 0 → ad = ⟨b, off, none⟩) ∧ ∀ (j : Nat) (u : Value), xs[j]? = some u → w.cell? ⟨b, off + j, none⟩ = some u := by
    rcases hV.2 with ⟨⟨ad, c, rfl⟩, rfl⟩ | ⟨b, off, c, rfl, hb, hc⟩
    · cases ad with
      | none => exact .inl ⟨c, rfl, rfl⟩
      | some ad => exact .inr ⟨ad, c, rfl, .inl rfl, 0, 0, fun h => absurd rfl h, fun j u hj => by rw [List.eq_nil_of_length_eq_zero (by omega : xs.length = 0)] at hj; simp at hj⟩
    · exact .inr ⟨_, c, rfl, .inr hb, b, off, fun _ => rfl, hc⟩
  rcases hcs with ⟨c, rfl, rfl⟩ | ⟨ad, c, rfl, hbl, b, off, hade, hc⟩
  · have hx0 : xs = [] := List.eq_nil_of_length_eq_zero (by omega)
    subst hx0
    refine walk_enter Tryd.func47 rfl rfl rfl fun a0 F0 => ?_
    have M0 := Mem.new w
    refine wsl ?_
    refine sr (v := (.slice none 0 0)) F0 (run_as rfl rfl) rfl rfl rfl fun a1 F1 => ?_
    refine sn ?_
    clear F0
    refine wp_seq ?_
    refine wsl ?_
    refine mvS F1 rfl rfl rfl rfl rfl fun a2 F2 => ?_
    refine sr (v := (.bool true)) F2 (run_eqnil rfl (F2.ev 3 rfl) rfl Tryd.underlying31) rfl rfl rfl fun a3 F3 => ?_
    refine sn ?_
    refine wp_cond_true (F3.ev 4 rfl) ?_
    refine wsl ?_
    refine sr (v := (.slice none 0 0)) F3 (run_as rfl rfl) rfl rfl rfl fun a4 F4 => ?_
    refine sn ?_
    clear F3
    refine wp_ret ?_
    refine nxRet ?_
    exact ret1 F4 rfl rfl ⟨_, rfl, ⟨rfl, .inl ⟨rfl, rfl⟩⟩, M0.below⟩
  · have hc : ∀ (j : Nat) (u : Value), xs[j]? = some u → w.cell? (ad.add j) = some u := by
      intro j u hj
      have hn0 : n ≠ 0 := by
        rintro rfl
        rw [List.eq_nil_of_length_eq_zero (by omega : xs.length = 0)] at hj
        simp at hj
      rw [hade hn0, addr_add]
      exact hc j u hj
    have hbl : ∀ (j : Nat) (u : Value), xs[j]? = some u → ad.block < w.heap.size := by
      intro j u hj
      have hn0 : n ≠ 0 := by
        rintro rfl
        rw [List.eq_nil_of_length_eq_zero (by omega : xs.length = 0)] at hj
        simp at hj
      exact hbl.resolve_left hn0
    refine walk_enter Tryd.func47 rfl rfl rfl fun a0 F0 => ?_
    have M0 := Mem.new w
    refine wsl ?_
    refine sr (v := (.slice none 0 0)) F0 (run_as rfl rfl) rfl rfl rfl fun a1 F1 => ?_
    refine sn ?_
    clear F0
    refine wp_seq ?_
    refine wsl ?_
    refine mvS F1 rfl rfl rfl rfl rfl fun a2 F2 => ?_
    refine sr (v := (.bool false)) F2 (run_eqnil rfl (F2.ev 3 rfl) rfl Tryd.underlying31) rfl rfl rfl fun a3 F3 => ?_
    refine sn ?_
    refine cfs (F3.ev 4 rfl) ?_
    refine wsl ?_
    refine sqOwn0 (size := 33) (e := 54) F3 M0 (wantedS rfl) (run_none (m := 33) rfl eltSh.un (by kernel_rfl)) rfl (by decide) fun v0 a4 w1 hO1 hb1 M1 F4 => ?_
    refine mvS F4 rfl rfl rfl rfl rfl fun a5 F5 => ?_
    refine sqAppend (news := xs) eltSh F5 M1 hO1 rfl rfl (F5.ev 5 rfl) (F5.ev 6 rfl) hl (fun j u hj => (cell_below M1.below (hbl j u hj)).trans (hc j u hj)) h1 (by unfold maxLen; omega) (by omega) rfl (by decide) fun v1 a6 w2 hO2 M2 hnilv1 F6 => ?_
    refine asS F6 rfl rfl rfl rfl rfl fun a7 F7 => ?_
    refine sn ?_
    refine wp_ret ?_
    exact ret1 F7 rfl rfl ⟨_, rfl, by have h := hO2.owns; rw [Nat.zero_add, List.nil_append] at h; exact h, M2.below⟩
set_option maxRecDepth 100000 in
set_option maxHeartbeats 1000000 in
theorem clone_ep (n : Nat) (xs : List Value) (v : Value) (w : World) (hV : Sl w v 33 n xs) (h1 : ∀ u ∈ xs, u.oneCell' = true) (hn : n < 2 ^ 36) : Calls Tryd.prog 43 #[v] w fun e w' => ∃ u, e = .returned u ∧ Kp.sat w.heap.size (.row 76 33 n xs) u w' ∧ Below w.heap.size w w' := by
  have hl := hV.1
  have hcs : (∃ c, v = .slice none 0 c ∧ n = 0) ∨ ∃ ad c, v = .slice (some ad) n c ∧ (n = 0 ∨ ad.block < w.heap.size) ∧ ∃ b off, (n ≠ 0 → ad = ⟨b, off, none⟩) ∧ ∀ (j : Nat) (u : Value), xs[j]? = some u → w.cell? ⟨b, off + j, none⟩ = some u := by
    rcases hV.2 with ⟨⟨ad, c, rfl⟩, rfl⟩ | ⟨b, off, c, rfl, hb, hc⟩
    · cases ad with
      | none => exact .inl ⟨c, rfl, rfl⟩
      | some ad => exact .inr ⟨ad, c, rfl, .inl rfl, 0, 0, fun h => absurd rfl h, fun j u hj => by rw [List.eq_nil_of_length_eq_zero (by omega : xs.length = 0)] at hj; simp at hj⟩
    · exact .inr ⟨_, c, rfl, .inr hb, b, off, fun _ => rfl, hc⟩
  rcases hcs with ⟨c, rfl, rfl⟩ | ⟨ad, c, rfl, hbl, b, off, hade, hc⟩
  · have hx0 : xs = [] := List.eq_nil_of_length_eq_zero (by omega)
    subst hx0
    refine walk_enter Tryd.func43 rfl rfl rfl fun a0 F0 => ?_
    have M0 := Mem.new w
    refine wsl ?_
    refine sr (v := (.slice none 0 0)) F0 (run_as rfl rfl) rfl rfl rfl fun a1 F1 => ?_
    refine sn ?_
    clear F0
    refine wp_seq ?_
    refine wsl ?_
    refine mvS F1 rfl rfl rfl rfl rfl fun a2 F2 => ?_
    refine sr (v := (.bool true)) F2 (run_eqnil rfl (F2.ev 3 rfl) rfl Tryd.underlying25) rfl rfl rfl fun a3 F3 => ?_
    refine sn ?_
    refine wp_cond_true (F3.ev 4 rfl) ?_
    refine wsl ?_
    refine sr (v := (.slice none 0 0)) F3 (run_as rfl rfl) rfl rfl rfl fun a4 F4 => ?_
    refine sn ?_
    clear F3
    refine wp_ret ?_
    refine nxRet ?_
    exact ret1 F4 rfl rfl ⟨_, rfl, ⟨rfl, .inl ⟨rfl, rfl⟩⟩, M0.below⟩
  · have hc : ∀ (j : Nat) (u : Value), xs[j]? = some u → w.cell? (ad.add j) = some u := by
      intro j u hj
      have hn0 : n ≠ 0 := by
        rintro rfl
        rw [List.eq_nil_of_length_eq_zero (by omega : xs.length = 0)] at hj
        simp at hj
      rw [hade hn0, addr_add]
      exact hc j u hj
    have hbl : ∀ (j : Nat) (u : Value), xs[j]? = some u → ad.block < w.heap.size := by
      intro j u hj
      have hn0 : n ≠ 0 := by
        rintro rfl
        rw [List.eq_nil_of_length_eq_zero (by omega : xs.length = 0)] at hj
        simp at hj
      exact hbl.resolve_left hn0
    refine walk_enter Tryd.func43 rfl rfl rfl fun a0 F0 => ?_
    have M0 := Mem.new w
    refine wsl ?_
    refine sr (v := (.slice none 0 0)) F0 (run_as rfl rfl) rfl rfl rfl fun a1 F1 => ?_
    refine sn ?_
    clear F0
    refine wp_seq ?_
    refine wsl ?_
    refine mvS F1 rfl rfl rfl rfl rfl fun a2 F2 => ?_
    refine sr (v := (.bool false)) F2 (run_eqnil rfl (F2.ev 3 rfl) rfl Tryd.underlying25) rfl rfl rfl fun a3 F3 => ?_
    refine sn ?_
    refine cfs (F3.ev 4 rfl) ?_
    refine wsl ?_
    refine sqOwn0 (size := 33) (e := 76) F3 M0 (wantedS rfl) (run_none (m := 33) rfl elEp.un (by kernel_rfl)) rfl (by decide) fun v0 a4 w1 hO1 hb1 M1 F4 => ?_
    refine mvS F4 rfl rfl rfl rfl rfl fun a5 F5 => ?_
    refine sqAppend (news := xs) elEp F5 M1 hO1 rfl rfl (F5.ev 5 rfl) (F5.ev 6 rfl) hl (fun j u hj => (cell_below M1.below (hbl j u hj)).trans (hc j u hj)) h1 (by unfold maxLen; omega) (by omega) rfl (by decide) fun v1 a6 w2 hO2 M2 hnilv1 F6 => ?_
    refine asS F6 rfl rfl rfl rfl rfl fun a7 F7 => ?_
    refine sn ?_
    refine wp_ret ?_
    exact ret1 F7 rfl rfl ⟨_, rfl, by have h := hO2.owns; rw [Nat.zero_add, List.nil_append] at h; exact h, M2.below⟩
set_option maxRecDepth 100000 in
set_option maxHeartbeats 1000000 in
theorem clone_key (n : Nat) (xs : List Value) (v : Value) (w : World) (hV : Sl w v 32 n xs) (h1 : ∀ u ∈ xs, u.oneCell' = true) (hn : n < 2 ^ 36) : Calls Tryd.prog 45 #[v] w fun e w' => ∃ u, e = .returned u ∧ Kp.sat w.heap.size (.row 23 32 n xs) u w' ∧ Below w.heap.size w w' := by
  have hl := hV.1
  have hcs : (∃ c, v = .slice none 0 c ∧ n = 0) ∨ ∃ ad c, v = .slice (some ad) n c ∧ (n = 0 ∨ ad.block < w.heap.size) ∧ ∃ b off, (n ≠ 0 → ad = ⟨b, off, none⟩) ∧ ∀ (j : Nat) (u : Value), xs[j]? = some u → w.cell? ⟨b, off + j, none⟩ = some u := by
    rcases hV.2 with ⟨⟨ad, c, rfl⟩, rfl⟩ | ⟨b, off, c, rfl, hb, hc⟩
    · cases ad with
      | none => exact .inl ⟨c, rfl, rfl⟩
      | some ad => exact .inr ⟨ad, c, rfl, .inl rfl, 0, 0, fun h => absurd rfl h, fun j u hj => by rw [List.eq_nil_of_length_eq_zero (by omega : xs.length = 0)] at hj; simp at hj⟩
    · exact .inr ⟨_, c, rfl, .inr hb, b, off, fun _ => rfl, hc⟩
  rcases hcs with ⟨c, rfl, rfl⟩ | ⟨ad, c, rfl, hbl, b, off, hade, hc⟩
  · have hx0 : xs = [] := List.eq_nil_of_length_eq_zero (by omega)
    subst hx0
    refine walk_enter Tryd.func45 rfl rfl rfl fun a0 F0 => ?_
    have M0 := Mem.new w
    refine wsl ?_
    refine sr (v := (.slice none 0 0)) F0 (run_as rfl rfl) rfl rfl rfl fun a1 F1 => ?_
    refine sn ?_
    clear F0
    refine wp_seq ?_
    refine wsl ?_
    refine mvS F1 rfl rfl rfl rfl rfl fun a2 F2 => ?_
    refine sr (v := (.bool true)) F2 (run_eqnil rfl (F2.ev 3 rfl) rfl Tryd.underlying28) rfl rfl rfl fun a3 F3 => ?_
    refine sn ?_
    refine wp_cond_true (F3.ev 4 rfl) ?_
    refine wsl ?_
    refine sr (v := (.slice none 0 0)) F3 (run_as rfl rfl) rfl rfl rfl fun a4 F4 => ?_
    refine sn ?_
    clear F3
    refine wp_ret ?_
    refine nxRet ?_
    exact ret1 F4 rfl rfl ⟨_, rfl, ⟨rfl, .inl ⟨rfl, rfl⟩⟩, M0.below⟩
  · have hc : ∀ (j : Nat) (u : Value), xs[j]? = some u → w.cell? (ad.add j) = some u := by
      intro j u hj
      have hn0 : n ≠ 0 := by
        rintro rfl
        rw [List.eq_nil_of_length_eq_zero (by omega : xs.length = 0)] at hj
        simp at hj
      rw [hade hn0, addr_add]
      exact hc j u hj
    have hbl : ∀ (j : Nat) (u : Value), xs[j]? = some u → ad.block < w.heap.size := by
      intro j u hj
      have hn0 : n ≠ 0 := by
        rintro rfl
        rw [List.eq_nil_of_length_eq_zero (by omega : xs.length = 0)] at hj
        simp at hj
      exact hbl.resolve_left hn0
    refine walk_enter Tryd.func45 rfl rfl rfl fun a0 F0 => ?_
    have M0 := Mem.new w
    refine wsl ?_
    refine sr (v := (.slice none 0 0)) F0 (run_as rfl rfl) rfl rfl rfl fun a1 F1 => ?_
    refine sn ?_
    clear F0
    refine wp_seq ?_
    refine wsl ?_
    refine mvS F1 rfl rfl rfl rfl rfl fun a2 F2 => ?_
    refine sr (v := (.bool false)) F2 (run_eqnil rfl (F2.ev 3 rfl) rfl Tryd.underlying28) rfl rfl rfl fun a3 F3 => ?_
    refine sn ?_
    refine cfs (F3.ev 4 rfl) ?_
    refine wsl ?_
    refine sqOwn0 (size := 32) (e := 23) F3 M0 (wantedS rfl) (run_none (m := 32) rfl elKey.un (by kernel_rfl)) rfl (by decide) fun v0 a4 w1 hO1 hb1 M1 F4 => ?_
    refine mvS F4 rfl rfl rfl rfl rfl fun a5 F5 => ?_
    refine sqAppend (news := xs) elKey F5 M1 hO1 rfl rfl (F5.ev 5 rfl) (F5.ev 6 rfl) hl (fun j u hj => (cell_below M1.below (hbl j u hj)).trans (hc j u hj)) h1 (by unfold maxLen; omega) (by omega) rfl (by decide) fun v1 a6 w2 hO2 M2 hnilv1 F6 => ?_
    refine asS F6 rfl rfl rfl rfl rfl fun a7 F7 => ?_
    refine sn ?_
    refine wp_ret ?_
    exact ret1 F7 rfl rfl ⟨_, rfl, by have h := hO2.owns; rw [Nat.zero_add, List.nil_append] at h; exact h, M2.below⟩
end Go.Proofs.YtconhhhggckcbaaDoor
