/- Laws and walks that many claims share: LzM, Lz4, Lz5, Lz6, Lz7. -/
import Derived.Test.YtdjjiblijbjobaaDoorLzPB
import Derived.Test.YtdjjiblijbjobaaDoorLzQB
/- Plain: the chain of places with the same four bytes finds what the search over all distances finds. -/
namespace Go.Proofs.YtdjjiblijbjobaaDoor

def fourS (s : List UInt8) (p : Nat) : List UInt8 := (s.drop p).take 4
theorem fourS_len {s : List UInt8} {p : Nat} (h : p + 4 ≤ s.length) : (fourS s p).length = 4 := by unfold fourS; rw [List.length_take, List.length_drop]; omega
theorem fourS_at {s : List UInt8} {p : Nat} (h : (fourS s p).length = 4) : p + 4 ≤ s.length := by unfold fourS at h; rw [List.length_take, List.length_drop] at h; omega
theorem fourS_get (s : List UInt8) (p i : Nat) (h : i < 4) : (fourS s p)[i]? = s[p + i]? := by unfold fourS; rw [List.getElem?_take_of_lt h, List.getElem?_drop]
/-- the last place ahead of q at which these four bytes stand. -/
def lastS (s K : List UInt8) : Nat → Option Nat
  | 0 => none
  | q + 1 => if fourS s q = K then some q else lastS s K q
def encS : Option Nat → Int
  | none => -1
  | some j => j
theorem lastS_some {s K : List UInt8} : ∀ {q j : Nat}, lastS s K q = some j → j < q ∧ fourS s j = K ∧ ∀ i, j < i → i < q → fourS s i ≠ K
  | 0, j, h => by simp [lastS] at h
  | q + 1, j, h => by
    unfold lastS at h
    split at h
    · rename_i e
      injection h with h
      subst h
      exact ⟨by omega, e, fun i h1 h2 => by omega⟩
    · rename_i e
      obtain ⟨h1, h2, h3⟩ := lastS_some h
      refine ⟨by omega, h2, fun i h4 h5 => ?_⟩
      rcases Nat.lt_or_ge i q with h6 | h6
      · exact h3 i h4 h6
      · obtain rfl : i = q := by omega
        exact e
theorem lastS_none {s K : List UInt8} : ∀ {q : Nat}, lastS s K q = none → ∀ i, i < q → fourS s i ≠ K
  | 0, _, i, hi => by omega
  | q + 1, h, i, hi => by
    unfold lastS at h
    split at h
    · cases h
    · rename_i e
      rcases Nat.lt_or_ge i q with h6 | h6
      · exact lastS_none h i h6
      · obtain rfl : i = q := by omega
        exact e
theorem same_ge4 {s : List UInt8} {p i : Nat} (hi : i < p) (hp : p + 4 ≤ s.length) (h : fourS s i = fourS s p) : 4 ≤ sameS s p (p - i) := by
  refine sameS_ge (by unfold mostS; omega) fun j hj => ?_
  rw [← fourS_get s p j hj, ← h, fourS_get s i j hj, show p - (p - i) + j = i + j by omega]
theorem same_lt4 {s : List UInt8} {p i : Nat} (hi : i < p) (h : fourS s i ≠ fourS s p) : sameS s p (p - i) < 4 := by
  rcases Nat.lt_or_ge (sameS s p (p - i)) 4 with h4 | h4
  · exact h4
  · exfalso
    apply h
    have hl := sameS_le s p (p - i)
    unfold mostS at hl
    apply List.ext_getElem?
    intro j
    rcases Nat.lt_or_ge j 4 with hj | hj
    · have := sameS_get (s := s) (at' := p) (far := p - i) (i := j) (by omega)
      rw [fourS_get s i j hj, fourS_get s p j hj, this, show p - (p - i) + j = i + j by omega]
    · rw [List.getElem?_eq_none (by unfold fourS; rw [List.length_take]; omega), List.getElem?_eq_none (by unfold fourS; rw [List.length_take]; omega)]
theorem same_le_of {s : List UInt8} {p i x : Nat} (hi : i < p) (h : s[i + x]? ≠ s[p + x]?) : sameS s p (p - i) ≤ x := by
  rcases Nat.lt_or_ge x (sameS s p (p - i)) with h4 | h4
  · exfalso
    have := sameS_get (s := s) (at' := p) (far := p - i) (i := x) h4
    rw [show p - (p - i) + x = i + x by omega] at this
    exact h this.symm
  · exact h4
/-- what the chain had found ahead of q: nothing behind j more. -/
theorem best4_to {s : List UInt8} {p q j : Nat} (hj : j < q) (hq : q ≤ p) (h : ∀ i, j < i → i < q → fourS s i ≠ fourS s p) : best4 s p (p - j - 1) = best4 s p (p - q) := by
  have := best4_skip s p (p - q) (q - j - 1) fun d h1 h2 => .inr ?_
  · rwa [show p - q + (q - j - 1) = p - j - 1 by omega] at this
  · have := same_lt4 (s := s) (p := p) (i := p - d) (by omega) (h _ (by omega) (by omega))
    rwa [show p - (p - d) = d by omega] at this
theorem best4_one (s : List UInt8) (p j : Nat) (hj : j < p) : best4 s p (p - j) = if (best4 s p (p - j - 1)).1 < sameS s p (p - j) ∧ 4 ≤ sameS s p (p - j) then (sameS s p (p - j), p - j) else best4 s p (p - j - 1) := by
  have e : p - j = p - j - 1 + 1 := by omega
  conv => lhs; rw [e]
  rw [best4, show p - j - 1 + 1 = p - j by omega]
theorem best4_end1 {s : List UInt8} {p q : Nat} (hq : q ≤ p) (h : ∀ i, i < q → fourS s i ≠ fourS s p) (hd : p - q ≤ 65535) : best4 s p (min p 65535) = best4 s p (p - q) := by
  have := best4_skip s p (p - q) (min p 65535 - (p - q)) fun d h1 h2 => .inr ?_
  · rwa [show p - q + (min p 65535 - (p - q)) = min p 65535 by omega] at this
  · have := same_lt4 (s := s) (p := p) (i := p - d) (by omega) (h _ (by omega))
    rwa [show p - (p - d) = d by omega] at this
theorem best4_end2 {s : List UInt8} {p q j : Nat} (hj : j < q) (hq : q ≤ p) (hd : p - q ≤ 65535) (hf : 65535 < p - j) (h : ∀ i, j < i → i < q → fourS s i ≠ fourS s p) : best4 s p (min p 65535) = best4 s p (p - q) := by
  have := best4_skip s p (p - q) (65535 - (p - q)) fun d h1 h2 => .inr ?_
  · rwa [show p - q + (65535 - (p - q)) = min p 65535 by omega] at this
  · have := same_lt4 (s := s) (p := p) (i := p - d) (by omega) (h _ (by omega) (by omega))
    rwa [show p - (p - d) = d by omega] at this
theorem best4_end3 {s : List UInt8} {p q : Nat} (hq : q ≤ p) (hd : p - q ≤ 65535) (hm : mostS s p ≤ (best4 s p (p - q)).1) : best4 s p (min p 65535) = best4 s p (p - q) := by
  have := best4_skip s p (p - q) (min p 65535 - (p - q)) fun d _ _ => .inl (Nat.le_trans (sameS_le s p d) hm)
  rwa [show p - q + (min p 65535 - (p - q)) = min p 65535 by omega] at this
theorem best4_few {s : List UInt8} {p : Nat} (h : s.length - p < 4) : ∀ k, best4 s p k = (0, 0)
  | 0 => rfl
  | k + 1 => by
    have hl := sameS_le s p (k + 1)
    unfold mostS at hl
    rw [best4, if_neg (by omega), best4_few h k]
theorem lastS_far {s K : List UInt8} (hK : K.length = 4) : ∀ {q n : Nat}, s.length < q + 4 → lastS s K (q + n) = lastS s K q
  | q, 0, _ => rfl
  | q, n + 1, h => by
    show lastS s K (q + n + 1) = _
    rw [lastS, if_neg ?_, lastS_far hK h]
    intro e
    have := fourS_at (s := s) (p := q + n) (by rw [e]; exact hK)
    omega
end Go.Proofs.YtdjjiblijbjobaaDoor
/- The walks of past.four and past.best. Printed by gen_lz4.py. -/
namespace Go.Proofs.YtdjjiblijbjobaaDoor
open Go.RowKit

theorem sz4 : (Tryd.prog.info? 136).map (·.size) = some 4 := by kernel_rfl
theorem szPast : (Tryd.prog.info? 108).map (·.size) = some 3 := by kernel_rfl
set_option maxRecDepth 100000 in
set_option maxHeartbeats 1000000 in
theorem zfour_no (s : List UInt8) (gp gm ga p : Nat) (w : World) (hB : Blk w gp 108 #[.string ⟨s.toArray⟩, .map (some gm), .slice (some ⟨ga, 0, none⟩) s.length s.length]) (hs : s.length ≤ 2 ^ 32) (hp : p ≤ s.length) (h4 : s.length - p < 4) : Calls Tryd.prog 95 #[(.pointer (some ⟨gp, 0, none⟩)), .int .i64 (p : Int)] w fun e w' => e = .returned (.tuple #[.agg (cells8 (List.replicate 4 0)), .bool false]) ∧ Below w.heap.size w w' := by
  refine walk_enter Tryd.func95 rfl rfl rfl fun a0 F0 => ?_
  have M0 := Mem.new w
  refine wsl ?_
  refine sqNew (cs := (cells8 (List.replicate 4 0))) (t := 136) F0 M0 (wantedS rfl) (run_alloc rfl (by kernel_rfl)) rfl (by decide) fun g0 a1 w1 hgg0 hb1 F1 M1 => ?_
  refine sr (v := (.bool false)) F1 (run_as rfl rfl) rfl rfl rfl fun a2 F2 => ?_
  refine sn ?_
  clear F0 F1 M0
  refine wp_seq ?_
  refine wsl ?_
  refine mvS F2 rfl rfl rfl rfl rfl fun a3 F3 => ?_
  refine sr (v := (.pointer (some ⟨gp, 0, none⟩))) F3 (run_nilp rfl (F3.ev 6 rfl)) rfl rfl rfl fun a4 F4 => ?_
  refine sr F4 (run_fldA (m := 1) (s := 0) rfl (F4.ev 7 rfl) Tryd.underlying108 rfl rfl (by kernel_rfl) (by decide)) rfl rfl rfl fun a5 F5 => ?_
  refine sr (v := (.string ⟨s.toArray⟩)) F5 (run_ldF rfl (F5.ev 8 rfl) (hB.below M1.below hB.lt) rfl (by kernel_rfl)) rfl rfl rfl fun a6 F6 => ?_
  refine sr F6 (run_len rfl (F6.ev 9 rfl) rfl Tryd.underlying9) rfl rfl rfl fun a7 F7 => ?_
  refine mvS F7 rfl rfl rfl rfl rfl fun a8 F8 => ?_
  refine sr F8 (run_sub (r := (s.length : Int) - (p : Int)) rfl (F8.ev 10 rfl) (F8.ev 11 rfl) (by rw [IntKind.wrap_i64]; omega)) rfl rfl rfl fun a9 F9 => ?_
  refine sr (v := (.bool true)) F9 (run_lss rfl (F9.ev 12 rfl) rfl (decide_eq_true (by omega))) rfl rfl rfl fun a10 F10 => ?_
  refine sn ?_
  clear F2 F3 F4 F5 F6 F7 F8 F9
  refine wp_cond_true (F10.ev 13 rfl) ?_
  refine wsl ?_
  refine sr (v := (.agg (cells8 (List.replicate 4 0)))) F10 (run_blt (vs := #[]) (cs := cells8 (List.replicate 4 0)) rfl (by simp) (by kernel_rfl)) rfl rfl rfl fun a11 F11 => ?_
  refine sqStore (i := 0) F11 M1 rfl rfl rfl (F11.ev 4 rfl) (F11.ev 14 rfl) rfl sz4 (szOf List.length_replicate) (szOf List.length_replicate) (cells8_one _) fun a12 w2 F12 M2 => ?_
  refine sr (v := (.bool false)) F12 (run_as rfl rfl) rfl rfl rfl fun a13 F13 => ?_
  refine sn ?_
  clear F10 F11 F12 M1
  refine wp_ret ?_
  refine nxRet ?_
  exact retBT F13 rfl rfl (M2.at 0 rfl) Tryd.underlying136 rfl sz4 (szOf List.length_replicate) rfl ⟨rfl, M2.below⟩
set_option maxRecDepth 100000 in
set_option maxHeartbeats 1000000 in
theorem zfour_yes (s K : List UInt8) (gp gm ga p : Nat) (w : World) (hB : Blk w gp 108 #[.string ⟨s.toArray⟩, .map (some gm), .slice (some ⟨ga, 0, none⟩) s.length s.length]) (hs : s.length ≤ 2 ^ 32) (hp : p ≤ s.length) (h4 : ¬ s.length - p < 4) (hK : fourS s p = K) : Calls Tryd.prog 95 #[(.pointer (some ⟨gp, 0, none⟩)), .int .i64 (p : Int)] w fun e w' => e = .returned (.tuple #[.agg (cells8 K), .bool true]) ∧ Below w.heap.size w w' := by
  have hk4 : K.length = 4 := by rw [← hK]; exact fourS_len (by omega)
  refine walk_enter Tryd.func95 rfl rfl rfl fun a0 F0 => ?_
  have M0 := Mem.new w
  refine wsl ?_
  refine sqNew (cs := (cells8 (List.replicate 4 0))) (t := 136) F0 M0 (wantedS rfl) (run_alloc rfl (by kernel_rfl)) rfl (by decide) fun g0 a1 w1 hgg0 hb1 F1 M1 => ?_
  refine sr (v := (.bool false)) F1 (run_as rfl rfl) rfl rfl rfl fun a2 F2 => ?_
  refine sn ?_
  clear F0 F1 M0
  refine wp_seq ?_
  refine wsl ?_
  refine mvS F2 rfl rfl rfl rfl rfl fun a3 F3 => ?_
  refine sr (v := (.pointer (some ⟨gp, 0, none⟩))) F3 (run_nilp rfl (F3.ev 6 rfl)) rfl rfl rfl fun a4 F4 => ?_
  refine sr F4 (run_fldA (m := 1) (s := 0) rfl (F4.ev 7 rfl) Tryd.underlying108 rfl rfl (by kernel_rfl) (by decide)) rfl rfl rfl fun a5 F5 => ?_
  refine sr (v := (.string ⟨s.toArray⟩)) F5 (run_ldF rfl (F5.ev 8 rfl) (hB.below M1.below hB.lt) rfl (by kernel_rfl)) rfl rfl rfl fun a6 F6 => ?_
  refine sr F6 (run_len rfl (F6.ev 9 rfl) rfl Tryd.underlying9) rfl rfl rfl fun a7 F7 => ?_
  refine mvS F7 rfl rfl rfl rfl rfl fun a8 F8 => ?_
  refine sr F8 (run_sub (r := (s.length : Int) - (p : Int)) rfl (F8.ev 10 rfl) (F8.ev 11 rfl) (by rw [IntKind.wrap_i64]; omega)) rfl rfl rfl fun a9 F9 => ?_
  refine sr (v := (.bool false)) F9 (run_lss rfl (F9.ev 12 rfl) rfl (decide_eq_false (by omega))) rfl rfl rfl fun a10 F10 => ?_
  refine sn ?_
  clear F2 F3 F4 F5 F6 F7 F8 F9
  refine cfs (F10.ev 13 rfl) ?_
  refine wsl ?_
  refine mvS F10 rfl rfl rfl rfl rfl fun a11 F11 => ?_
  refine sr (v := (.pointer (some ⟨gp, 0, none⟩))) F11 (run_nilp rfl (F11.ev 15 rfl)) rfl rfl rfl fun a12 F12 => ?_
  refine sr F12 (run_fldA (m := 1) (s := 0) rfl (F12.ev 16 rfl) Tryd.underlying108 rfl rfl (by kernel_rfl) (by decide)) rfl rfl rfl fun a13 F13 => ?_
  refine sr (v := (.string ⟨s.toArray⟩)) F13 (run_ldF rfl (F13.ev 17 rfl) (hB.below M1.below hB.lt) rfl (by kernel_rfl)) rfl rfl rfl fun a14 F14 => ?_
  refine mvS F14 rfl rfl rfl rfl rfl fun a15 F15 => ?_
  refine mvS F15 rfl rfl rfl rfl rfl fun a16 F16 => ?_
  refine sr F16 (run_add (r := ((p + 4 : Nat) : Int)) rfl (F16.ev 20 rfl) rfl (by rw [IntKind.wrap_i64]; omega)) rfl rfl rfl fun a17 F17 => ?_
  refine sr (v := (.string ⟨K.toArray⟩)) F17 (run_sMidE (m := p) (m2 := (p + 4)) (by rw [show p + 4 - p = 4 by omega]; exact hK) rfl (F17.ev 18 rfl) (F17.ev 19 rfl) (F17.ev 21 rfl) Tryd.underlying9 (by omega) (by omega) (by omega) (by omega)) rfl rfl rfl fun a18 F18 => ?_
  refine sqBytesOf F18 M1 (wantedS rfl) rfl (F18.ev 22 rfl) Tryd.underlying9 rfl (by decide) fun g1 c1 a19 w2 hgg1 hb2 hcc1 F19 M2 => ?_
  refine sr (v := (.pointer (some ⟨g1, 0, none⟩))) F19 (run_arrAt rfl (F19.ev 23 rfl) Tryd.underlying136 (by omega)) rfl rfl rfl fun a20 F20 => ?_
  refine sr (v := (.agg (cells8 K))) F20 (run_ld4 rfl (F20.ev 24 rfl) (M2.ob 0 rfl) hk4) rfl rfl rfl fun a21 F21 => ?_
  refine sqStore (i := 1) F21 M2 rfl rfl rfl (F21.ev 4 rfl) (F21.ev 25 rfl) rfl sz4 (szOf hk4) (szOf List.length_replicate) (cells8_one _) fun a22 w3 F22 M3 => ?_
  refine sr (v := (.bool true)) F22 (run_as rfl rfl) rfl rfl rfl fun a23 F23 => ?_
  refine sn ?_
  clear F10 F11 F12 F13 F14 F15 F16 F17 F18 F19 F20 F21 F22 M1 M2
  refine wp_ret ?_
  exact retBT F23 rfl rfl (M3.at 1 rfl) Tryd.underlying136 rfl sz4 (szOf hk4) rfl ⟨rfl, M3.below⟩
set_option maxRecDepth 100000 in
set_option maxHeartbeats 1000000 in
theorem zsame_any (s : List UInt8) (gp gm ga gmo gbx p j mo : Nat) (t1 t2 : TypeId) (w : World) (hB : Blk w gp 108 #[.string ⟨s.toArray⟩, .map (some gm), .slice (some ⟨ga, 0, none⟩) s.length s.length]) (hB1 : Blk w gmo t1 #[.int .i64 (mo : Int)]) (hB2 : Blk w gbx t2 #[.pointer (some ⟨gp, 0, none⟩)]) (hs : s.length ≤ 2 ^ 32) (hj : j < p) (hp : p ≤ s.length) (hmo : mo = mostS s p) : Calls Tryd.prog 96 #[.int .i64 (j : Int), .int .i64 (p : Int), .pointer (some ⟨gmo, 0, none⟩), .pointer (some ⟨gbx, 0, none⟩)] w fun e w' => e = .returned (.int .i64 (sameS s p (p - j) : Int)) ∧ Below w.heap.size w w' := by
  have hmo2 : mo = min 131 (s.length - p) := hmo
  refine walk_enter Tryd.func96 rfl rfl rfl fun a0 F0 => ?_
  have M0 := Mem.new w
  refine wsl ?_
  refine sr (v := (.int .i64 0)) F0 (run_as rfl rfl) rfl rfl rfl fun a1 F1 => ?_
  refine sn ?_
  clear F0
  refine wsl ?_
  refine sr (v := (.int .i64 0)) F1 (run_as rfl rfl) rfl rfl rfl fun a2 F2 => ?_
  refine sn ?_
  clear F1
  refine wp_seq ?_
  refine wp_block ?_
  refine wkLoop (fun m a w2 => ∃ n : Nat, n ≤ mo ∧ m = mo - n ∧ (∀ i, i < n → s[p + i]? = s[p - (p - j) + i]?) ∧ Fr a 33 [(0, .int .i64 (j : Int)), (1, .int .i64 (p : Int)), (2, .pointer (some ⟨gmo, 0, none⟩)), (3, .pointer (some ⟨gbx, 0, none⟩)), (7, .int .i64 (n : Int))] ∧ Mem w [] w2) mo ⟨0, Nat.zero_le _, rfl, fun i hi => by omega, F2.sub ⟨rfl, rfl, rfl, rfl, rfl, trivial⟩, M0⟩ ?_
  rintro m a0 w1 ⟨n, hn, rfl, hal, F0, M0⟩
  by_cases h1 : n < mo
  · by_cases h3 : (bt s (j + n)).toNat = (bt s (p + n)).toNat
    · have hg := bt_eq (l := s) (i := j + n) (j := p + n) (by omega) (by omega) h3
      refine wp_seq ?_
      refine wp_seq ?_
      obtain ⟨KL, hKL⟩ : ∃ KL, KL = [kval (.int .i64 (n : Int)), kval (.int .i64 (mo : Int)), kval (.bool true), kval (.bool true), kval (.pointer (some ⟨gp, 0, none⟩)), kval (.pointer (some ⟨gp, 0, none⟩)), kval (.pointer (some ⟨gp, 0, none⟩)), kval (.string ⟨s.toArray⟩), kval (.int .i64 (j : Int)), kval (.int .i64 (n : Int)), kval (.int .i64 ((j + n : Nat) : Int)), kval (.int .u8 ((bt s (j + n)).toNat : Int)), kval (.pointer (some ⟨gp, 0, none⟩)), kval (.pointer (some ⟨gp, 0, none⟩)), kval (.pointer (some ⟨gp, 0, none⟩)), kval (.string ⟨s.toArray⟩), kval (.int .i64 (p : Int)), kval (.int .i64 (n : Int)), kval (.int .i64 ((p + n : Nat) : Int)), kval (.int .u8 ((bt s (p + n)).toNat : Int)), kval (.bool true), kval (.bool true)] := ⟨_, rfl⟩
      have K0 := getK hKL 0
      have K1 := getK hKL 1
      have K2 := getK hKL 2
      have K3 := getK hKL 3
      have K4 := getK hKL 4
      have K5 := getK hKL 5
      have K6 := getK hKL 6
      have K7 := getK hKL 7
      have K8 := getK hKL 8
      have K9 := getK hKL 9
      have K10 := getK hKL 10
      have K11 := getK hKL 11
      have K12 := getK hKL 12
      have K13 := getK hKL 13
      have K14 := getK hKL 14
      have K15 := getK hKL 15
      have K16 := getK hKL 16
      have K17 := getK hKL 17
      have K18 := getK hKL 18
      have K19 := getK hKL 19
      have K20 := getK hKL 20
      have K21 := getK hKL 21
      clear hKL
      refine wp_region_kd 33 (by kernel_rfl) (by kernel_rfl) (by kernel_rfl) F0.size KL ?_ ?_
      · refine ⟨?_, ?_, ?_, ?_, ?_, ?_, ?_, ?_, ?_, ?_, ?_, ?_, ?_, ?_, ?_, ?_, ?_, ?_, ?_, ?_, ?_, ?_, trivial⟩
        · exact asksY rfl fun a W hS hh hd => giv_run (run_mv rfl (eval_tmp (hh 7 _ rfl (F0.at 7 rfl)))) K0
        · exact asksY rfl fun a W hS hh hd => giv_run (run_ld1 rfl (eval_tmp (hh 2 _ rfl (F0.at 2 rfl))) (hB1.below (M0.grow hS).below hB1.lt) (by kernel_rfl)) K1
        · exact asksY rfl fun a W hS hh hd => giv_run (run_lss rfl (eval_tmp (hd.vl 0 8 (by kernel_rfl) K0)) (eval_tmp (hd.vl 1 9 (by kernel_rfl) K1)) (decide_eq_true (by omega))) K2
        · exact asksY rfl fun a W hS hh hd => giv_run (run_mv rfl (eval_tmp (hd.vl 2 10 (by kernel_rfl) K2))) K3
        · refine asks_mk fun a W hS hh hd => ⟨wanted_of (j := 3) (s := 11) (by kernel_rfl) (hd.vl 3 11 (by kernel_rfl) K3), ?_⟩
          exact giv_run (run_ld1 rfl (eval_tmp (hh 3 _ rfl (F0.at 3 rfl))) (hB2.below (M0.grow hS).below hB2.lt) (by kernel_rfl)) K4
        · refine asks_mk fun a W hS hh hd => ⟨wanted_of (j := 3) (s := 11) (by kernel_rfl) (hd.vl 3 11 (by kernel_rfl) K3), ?_⟩
          exact giv_run (run_nilp rfl (eval_tmp (hd.vl 4 12 (by kernel_rfl) K4))) K5
        · refine asks_mk fun a W hS hh hd => ⟨wanted_of (j := 3) (s := 11) (by kernel_rfl) (hd.vl 3 11 (by kernel_rfl) K3), ?_⟩
          exact giv_run (run_fldA (m := 1) (s := 0) rfl (eval_tmp (hd.vl 5 13 (by kernel_rfl) K5)) Tryd.underlying108 rfl rfl (by kernel_rfl) (by decide)) K6
        · refine asks_mk fun a W hS hh hd => ⟨wanted_of (j := 3) (s := 11) (by kernel_rfl) (hd.vl 3 11 (by kernel_rfl) K3), ?_⟩
          exact giv_run (run_ldF rfl (eval_tmp (hd.vl 6 14 (by kernel_rfl) K6)) (hB.below (M0.grow hS).below hB.lt) rfl (by kernel_rfl)) K7
        · refine asks_mk fun a W hS hh hd => ⟨wanted_of (j := 3) (s := 11) (by kernel_rfl) (hd.vl 3 11 (by kernel_rfl) K3), ?_⟩
          exact giv_run (run_mv rfl (eval_tmp (hh 0 _ rfl (F0.at 0 rfl)))) K8
        · refine asks_mk fun a W hS hh hd => ⟨wanted_of (j := 3) (s := 11) (by kernel_rfl) (hd.vl 3 11 (by kernel_rfl) K3), ?_⟩
          exact giv_run (run_mv rfl (eval_tmp (hh 7 _ rfl (F0.at 7 rfl)))) K9
        · refine asks_mk fun a W hS hh hd => ⟨wanted_of (j := 3) (s := 11) (by kernel_rfl) (hd.vl 3 11 (by kernel_rfl) K3), ?_⟩
          exact giv_run (run_add (r := ((j + n : Nat) : Int)) rfl (eval_tmp (hd.vl 8 16 (by kernel_rfl) K8)) (eval_tmp (hd.vl 9 17 (by kernel_rfl) K9)) (by rw [IntKind.wrap_i64]; omega)) K10
        · refine asks_mk fun a W hS hh hd => ⟨wanted_of (j := 3) (s := 11) (by kernel_rfl) (hd.vl 3 11 (by kernel_rfl) K3), ?_⟩
          exact giv_run (run_sAt (n := (j + n)) rfl (eval_tmp (hd.vl 7 15 (by kernel_rfl) K7)) (eval_tmp (hd.vl 10 18 (by kernel_rfl) K10)) Tryd.underlying9 rfl (by omega)) K11
        · refine asks_mk fun a W hS hh hd => ⟨wanted_of (j := 3) (s := 11) (by kernel_rfl) (hd.vl 3 11 (by kernel_rfl) K3), ?_⟩
          exact giv_run (run_ld1 rfl (eval_tmp (hh 3 _ rfl (F0.at 3 rfl))) (hB2.below (M0.grow hS).below hB2.lt) (by kernel_rfl)) K12
        · refine asks_mk fun a W hS hh hd => ⟨wanted_of (j := 3) (s := 11) (by kernel_rfl) (hd.vl 3 11 (by kernel_rfl) K3), ?_⟩
          exact giv_run (run_nilp rfl (eval_tmp (hd.vl 12 20 (by kernel_rfl) K12))) K13
        · refine asks_mk fun a W hS hh hd => ⟨wanted_of (j := 3) (s := 11) (by kernel_rfl) (hd.vl 3 11 (by kernel_rfl) K3), ?_⟩
          exact giv_run (run_fldA (m := 1) (s := 0) rfl (eval_tmp (hd.vl 13 21 (by kernel_rfl) K13)) Tryd.underlying108 rfl rfl (by kernel_rfl) (by decide)) K14
        · refine asks_mk fun a W hS hh hd => ⟨wanted_of (j := 3) (s := 11) (by kernel_rfl) (hd.vl 3 11 (by kernel_rfl) K3), ?_⟩
          exact giv_run (run_ldF rfl (eval_tmp (hd.vl 14 22 (by kernel_rfl) K14)) (hB.below (M0.grow hS).below hB.lt) rfl (by kernel_rfl)) K15
        · refine asks_mk fun a W hS hh hd => ⟨wanted_of (j := 3) (s := 11) (by kernel_rfl) (hd.vl 3 11 (by kernel_rfl) K3), ?_⟩
          exact giv_run (run_mv rfl (eval_tmp (hh 1 _ rfl (F0.at 1 rfl)))) K16
        · refine asks_mk fun a W hS hh hd => ⟨wanted_of (j := 3) (s := 11) (by kernel_rfl) (hd.vl 3 11 (by kernel_rfl) K3), ?_⟩
          exact giv_run (run_mv rfl (eval_tmp (hh 7 _ rfl (F0.at 7 rfl)))) K17
        · refine asks_mk fun a W hS hh hd => ⟨wanted_of (j := 3) (s := 11) (by kernel_rfl) (hd.vl 3 11 (by kernel_rfl) K3), ?_⟩
          exact giv_run (run_add (r := ((p + n : Nat) : Int)) rfl (eval_tmp (hd.vl 16 24 (by kernel_rfl) K16)) (eval_tmp (hd.vl 17 25 (by kernel_rfl) K17)) (by rw [IntKind.wrap_i64]; omega)) K18
        · refine asks_mk fun a W hS hh hd => ⟨wanted_of (j := 3) (s := 11) (by kernel_rfl) (hd.vl 3 11 (by kernel_rfl) K3), ?_⟩
          exact giv_run (run_sAt (n := (p + n)) rfl (eval_tmp (hd.vl 15 23 (by kernel_rfl) K15)) (eval_tmp (hd.vl 18 26 (by kernel_rfl) K18)) Tryd.underlying9 rfl (by omega)) K19
        · refine asks_mk fun a W hS hh hd => ⟨wanted_of (j := 3) (s := 11) (by kernel_rfl) (hd.vl 3 11 (by kernel_rfl) K3), ?_⟩
          exact giv_run (run_eqi rfl (eval_tmp (hd.vl 11 19 (by kernel_rfl) K11)) (eval_tmp (hd.vl 19 27 (by kernel_rfl) K19)) (beq_iff_eq.2 (by omega))) K20
        · exact asksY rfl fun a W hS hh hd => giv_run (run_pick rfl (eval_tmp (hd.vl 3 11 (by kernel_rfl) K3)) (eval_tmp (hd.vl 20 28 (by kernel_rfl) K20)) rfl) K21
      · intro a1 w2 hb2 hK
        have e0 := hK.vl 0 8 (by kernel_rfl) K0
        have e1 := hK.vl 1 9 (by kernel_rfl) K1
        have e2 := hK.vl 2 10 (by kernel_rfl) K2
        have e3 := hK.vl 3 11 (by kernel_rfl) K3
        have e4 := hK.vl 4 12 (by kernel_rfl) K4
        have e5 := hK.vl 5 13 (by kernel_rfl) K5
        have e6 := hK.vl 6 14 (by kernel_rfl) K6
        have e7 := hK.vl 7 15 (by kernel_rfl) K7
        have e8 := hK.vl 8 16 (by kernel_rfl) K8
        have e9 := hK.vl 9 17 (by kernel_rfl) K9
        have e10 := hK.vl 10 18 (by kernel_rfl) K10
        have e11 := hK.vl 11 19 (by kernel_rfl) K11
        have e12 := hK.vl 12 20 (by kernel_rfl) K12
        have e13 := hK.vl 13 21 (by kernel_rfl) K13
        have e14 := hK.vl 14 22 (by kernel_rfl) K14
        have e15 := hK.vl 15 23 (by kernel_rfl) K15
        have e16 := hK.vl 16 24 (by kernel_rfl) K16
        have e17 := hK.vl 17 25 (by kernel_rfl) K17
        have e18 := hK.vl 18 26 (by kernel_rfl) K18
        have e19 := hK.vl 19 27 (by kernel_rfl) K19
        have e20 := hK.vl 20 28 (by kernel_rfl) K20
        have e21 := hK.vl 21 29 (by kernel_rfl) K21
        have F1 : Fr a1 33 [(0, (.int .i64 (j : Int))), (1, (.int .i64 (p : Int))), (2, (.pointer (some ⟨gmo, 0, none⟩))), (3, (.pointer (some ⟨gbx, 0, none⟩))), (7, (.int .i64 (n : Int))), (29, (.bool true))] := (hK.fr F0 [_, _, _, _, _, _, _, _, _, _, _, _, _, _, _, _, _, _, _, _, _, _] ⟨e0, e1, e2, e3, e4, e5, e6, e7, e8, e9, e10, e11, e12, e13, e14, e15, e16, e17, e18, e19, e20, e21, trivial⟩).sub ⟨rfl, rfl, rfl, rfl, rfl, rfl, trivial⟩
        have M1 := M0.grow hb2
        clear hK K0 e0 K1 e1 K2 e2 K3 e3 K4 e4 K5 e5 K6 e6 K7 e7 K8 e8 K9 e9 K10 e10 K11 e11 K12 e12 K13 e13 K14 e14 K15 e15 K16 e16 K17 e17 K18 e18 K19 e19 K20 e20 K21 e21
        clear F0 M0
        refine nx ?_
        refine cts (F1.ev 29 rfl) ?_
        refine wp_block ?_
        refine wp_region_lit ?_
        refine mvS F1 rfl rfl rfl rfl rfl fun a2 F2 => ?_
        refine sr F2 (run_add (r := ((n + 1 : Nat) : Int)) rfl (F2.ev 30 rfl) rfl (by rw [IntKind.wrap_i64]; omega)) rfl rfl rfl fun a3 F3 => ?_
        refine asS F3 rfl rfl rfl rfl rfl fun a4 F4 => ?_
        refine sqEnd ?_
        clear F1 F2 F3
        refine bkEnd ?_
        refine nx ?_
        refine ⟨_, by omega, n + 1, by omega, rfl, fun i hi => ?_, F4.sub ⟨rfl, rfl, rfl, rfl, rfl, trivial⟩, M1⟩
        rcases Nat.lt_or_ge i n with h | h
        · exact hal i h
        · obtain rfl : i = n := by omega
          rw [show p - (p - j) + i = j + i by omega]
          exact hg.symm
    · have hres : sameS s p (p - j) = n := sameS_eq (by omega) hal (.inr (by rw [show p - (p - j) + n = j + n by omega]; exact (bt_ne (by omega) (by omega) h3).symm))
      refine wp_seq ?_
      refine wp_seq ?_
      obtain ⟨KL, hKL⟩ : ∃ KL, KL = [kval (.int .i64 (n : Int)), kval (.int .i64 (mo : Int)), kval (.bool true), kval (.bool true), kval (.pointer (some ⟨gp, 0, none⟩)), kval (.pointer (some ⟨gp, 0, none⟩)), kval (.pointer (some ⟨gp, 0, none⟩)), kval (.string ⟨s.toArray⟩), kval (.int .i64 (j : Int)), kval (.int .i64 (n : Int)), kval (.int .i64 ((j + n : Nat) : Int)), kval (.int .u8 ((bt s (j + n)).toNat : Int)), kval (.pointer (some ⟨gp, 0, none⟩)), kval (.pointer (some ⟨gp, 0, none⟩)), kval (.pointer (some ⟨gp, 0, none⟩)), kval (.string ⟨s.toArray⟩), kval (.int .i64 (p : Int)), kval (.int .i64 (n : Int)), kval (.int .i64 ((p + n : Nat) : Int)), kval (.int .u8 ((bt s (p + n)).toNat : Int)), kval (.bool false), kval (.bool false)] := ⟨_, rfl⟩
      have K0 := getK hKL 0
      have K1 := getK hKL 1
      have K2 := getK hKL 2
      have K3 := getK hKL 3
      have K4 := getK hKL 4
      have K5 := getK hKL 5
      have K6 := getK hKL 6
      have K7 := getK hKL 7
      have K8 := getK hKL 8
      have K9 := getK hKL 9
      have K10 := getK hKL 10
      have K11 := getK hKL 11
      have K12 := getK hKL 12
      have K13 := getK hKL 13
      have K14 := getK hKL 14
      have K15 := getK hKL 15
      have K16 := getK hKL 16
      have K17 := getK hKL 17
      have K18 := getK hKL 18
      have K19 := getK hKL 19
      have K20 := getK hKL 20
      have K21 := getK hKL 21
      clear hKL
      refine wp_region_kd 33 (by kernel_rfl) (by kernel_rfl) (by kernel_rfl) F0.size KL ?_ ?_
      · refine ⟨?_, ?_, ?_, ?_, ?_, ?_, ?_, ?_, ?_, ?_, ?_, ?_, ?_, ?_, ?_, ?_, ?_, ?_, ?_, ?_, ?_, ?_, trivial⟩
        · exact asksY rfl fun a W hS hh hd => giv_run (run_mv rfl (eval_tmp (hh 7 _ rfl (F0.at 7 rfl)))) K0
        · exact asksY rfl fun a W hS hh hd => giv_run (run_ld1 rfl (eval_tmp (hh 2 _ rfl (F0.at 2 rfl))) (hB1.below (M0.grow hS).below hB1.lt) (by kernel_rfl)) K1
        · exact asksY rfl fun a W hS hh hd => giv_run (run_lss rfl (eval_tmp (hd.vl 0 8 (by kernel_rfl) K0)) (eval_tmp (hd.vl 1 9 (by kernel_rfl) K1)) (decide_eq_true (by omega))) K2
        · exact asksY rfl fun a W hS hh hd => giv_run (run_mv rfl (eval_tmp (hd.vl 2 10 (by kernel_rfl) K2))) K3
        · refine asks_mk fun a W hS hh hd => ⟨wanted_of (j := 3) (s := 11) (by kernel_rfl) (hd.vl 3 11 (by kernel_rfl) K3), ?_⟩
          exact giv_run (run_ld1 rfl (eval_tmp (hh 3 _ rfl (F0.at 3 rfl))) (hB2.below (M0.grow hS).below hB2.lt) (by kernel_rfl)) K4
        · refine asks_mk fun a W hS hh hd => ⟨wanted_of (j := 3) (s := 11) (by kernel_rfl) (hd.vl 3 11 (by kernel_rfl) K3), ?_⟩
          exact giv_run (run_nilp rfl (eval_tmp (hd.vl 4 12 (by kernel_rfl) K4))) K5
        · refine asks_mk fun a W hS hh hd => ⟨wanted_of (j := 3) (s := 11) (by kernel_rfl) (hd.vl 3 11 (by kernel_rfl) K3), ?_⟩
          exact giv_run (run_fldA (m := 1) (s := 0) rfl (eval_tmp (hd.vl 5 13 (by kernel_rfl) K5)) Tryd.underlying108 rfl rfl (by kernel_rfl) (by decide)) K6
        · refine asks_mk fun a W hS hh hd => ⟨wanted_of (j := 3) (s := 11) (by kernel_rfl) (hd.vl 3 11 (by kernel_rfl) K3), ?_⟩
          exact giv_run (run_ldF rfl (eval_tmp (hd.vl 6 14 (by kernel_rfl) K6)) (hB.below (M0.grow hS).below hB.lt) rfl (by kernel_rfl)) K7
        · refine asks_mk fun a W hS hh hd => ⟨wanted_of (j := 3) (s := 11) (by kernel_rfl) (hd.vl 3 11 (by kernel_rfl) K3), ?_⟩
          exact giv_run (run_mv rfl (eval_tmp (hh 0 _ rfl (F0.at 0 rfl)))) K8
        · refine asks_mk fun a W hS hh hd => ⟨wanted_of (j := 3) (s := 11) (by kernel_rfl) (hd.vl 3 11 (by kernel_rfl) K3), ?_⟩
          exact giv_run (run_mv rfl (eval_tmp (hh 7 _ rfl (F0.at 7 rfl)))) K9
        · refine asks_mk fun a W hS hh hd => ⟨wanted_of (j := 3) (s := 11) (by kernel_rfl) (hd.vl 3 11 (by kernel_rfl) K3), ?_⟩
          exact giv_run (run_add (r := ((j + n : Nat) : Int)) rfl (eval_tmp (hd.vl 8 16 (by kernel_rfl) K8)) (eval_tmp (hd.vl 9 17 (by kernel_rfl) K9)) (by rw [IntKind.wrap_i64]; omega)) K10
        · refine asks_mk fun a W hS hh hd => ⟨wanted_of (j := 3) (s := 11) (by kernel_rfl) (hd.vl 3 11 (by kernel_rfl) K3), ?_⟩
          exact giv_run (run_sAt (n := (j + n)) rfl (eval_tmp (hd.vl 7 15 (by kernel_rfl) K7)) (eval_tmp (hd.vl 10 18 (by kernel_rfl) K10)) Tryd.underlying9 rfl (by omega)) K11
        · refine asks_mk fun a W hS hh hd => ⟨wanted_of (j := 3) (s := 11) (by kernel_rfl) (hd.vl 3 11 (by kernel_rfl) K3), ?_⟩
          exact giv_run (run_ld1 rfl (eval_tmp (hh 3 _ rfl (F0.at 3 rfl))) (hB2.below (M0.grow hS).below hB2.lt) (by kernel_rfl)) K12
        · refine asks_mk fun a W hS hh hd => ⟨wanted_of (j := 3) (s := 11) (by kernel_rfl) (hd.vl 3 11 (by kernel_rfl) K3), ?_⟩
          exact giv_run (run_nilp rfl (eval_tmp (hd.vl 12 20 (by kernel_rfl) K12))) K13
        · refine asks_mk fun a W hS hh hd => ⟨wanted_of (j := 3) (s := 11) (by kernel_rfl) (hd.vl 3 11 (by kernel_rfl) K3), ?_⟩
          exact giv_run (run_fldA (m := 1) (s := 0) rfl (eval_tmp (hd.vl 13 21 (by kernel_rfl) K13)) Tryd.underlying108 rfl rfl (by kernel_rfl) (by decide)) K14
        · refine asks_mk fun a W hS hh hd => ⟨wanted_of (j := 3) (s := 11) (by kernel_rfl) (hd.vl 3 11 (by kernel_rfl) K3), ?_⟩
          exact giv_run (run_ldF rfl (eval_tmp (hd.vl 14 22 (by kernel_rfl) K14)) (hB.below (M0.grow hS).below hB.lt) rfl (by kernel_rfl)) K15
        · refine asks_mk fun a W hS hh hd => ⟨wanted_of (j := 3) (s := 11) (by kernel_rfl) (hd.vl 3 11 (by kernel_rfl) K3), ?_⟩
          exact giv_run (run_mv rfl (eval_tmp (hh 1 _ rfl (F0.at 1 rfl)))) K16
        · refine asks_mk fun a W hS hh hd => ⟨wanted_of (j := 3) (s := 11) (by kernel_rfl) (hd.vl 3 11 (by kernel_rfl) K3), ?_⟩
          exact giv_run (run_mv rfl (eval_tmp (hh 7 _ rfl (F0.at 7 rfl)))) K17
        · refine asks_mk fun a W hS hh hd => ⟨wanted_of (j := 3) (s := 11) (by kernel_rfl) (hd.vl 3 11 (by kernel_rfl) K3), ?_⟩
          exact giv_run (run_add (r := ((p + n : Nat) : Int)) rfl (eval_tmp (hd.vl 16 24 (by kernel_rfl) K16)) (eval_tmp (hd.vl 17 25 (by kernel_rfl) K17)) (by rw [IntKind.wrap_i64]; omega)) K18
        · refine asks_mk fun a W hS hh hd => ⟨wanted_of (j := 3) (s := 11) (by kernel_rfl) (hd.vl 3 11 (by kernel_rfl) K3), ?_⟩
          exact giv_run (run_sAt (n := (p + n)) rfl (eval_tmp (hd.vl 15 23 (by kernel_rfl) K15)) (eval_tmp (hd.vl 18 26 (by kernel_rfl) K18)) Tryd.underlying9 rfl (by omega)) K19
        · refine asks_mk fun a W hS hh hd => ⟨wanted_of (j := 3) (s := 11) (by kernel_rfl) (hd.vl 3 11 (by kernel_rfl) K3), ?_⟩
          exact giv_run (run_eqi rfl (eval_tmp (hd.vl 11 19 (by kernel_rfl) K11)) (eval_tmp (hd.vl 19 27 (by kernel_rfl) K19)) (beq_eq_false_iff_ne.2 (by omega))) K20
        · exact asksY rfl fun a W hS hh hd => giv_run (run_pick rfl (eval_tmp (hd.vl 3 11 (by kernel_rfl) K3)) (eval_tmp (hd.vl 20 28 (by kernel_rfl) K20)) rfl) K21
      · intro a1 w2 hb2 hK
        have e0 := hK.vl 0 8 (by kernel_rfl) K0
        have e1 := hK.vl 1 9 (by kernel_rfl) K1
        have e2 := hK.vl 2 10 (by kernel_rfl) K2
        have e3 := hK.vl 3 11 (by kernel_rfl) K3
        have e4 := hK.vl 4 12 (by kernel_rfl) K4
        have e5 := hK.vl 5 13 (by kernel_rfl) K5
        have e6 := hK.vl 6 14 (by kernel_rfl) K6
        have e7 := hK.vl 7 15 (by kernel_rfl) K7
        have e8 := hK.vl 8 16 (by kernel_rfl) K8
        have e9 := hK.vl 9 17 (by kernel_rfl) K9
        have e10 := hK.vl 10 18 (by kernel_rfl) K10
        have e11 := hK.vl 11 19 (by kernel_rfl) K11
        have e12 := hK.vl 12 20 (by kernel_rfl) K12
        have e13 := hK.vl 13 21 (by kernel_rfl) K13
        have e14 := hK.vl 14 22 (by kernel_rfl) K14
        have e15 := hK.vl 15 23 (by kernel_rfl) K15
        have e16 := hK.vl 16 24 (by kernel_rfl) K16
        have e17 := hK.vl 17 25 (by kernel_rfl) K17
        have e18 := hK.vl 18 26 (by kernel_rfl) K18
        have e19 := hK.vl 19 27 (by kernel_rfl) K19
        have e20 := hK.vl 20 28 (by kernel_rfl) K20
        have e21 := hK.vl 21 29 (by kernel_rfl) K21
        have F1 : Fr a1 33 [(0, (.int .i64 (j : Int))), (1, (.int .i64 (p : Int))), (2, (.pointer (some ⟨gmo, 0, none⟩))), (3, (.pointer (some ⟨gbx, 0, none⟩))), (7, (.int .i64 (n : Int))), (29, (.bool false))] := (hK.fr F0 [_, _, _, _, _, _, _, _, _, _, _, _, _, _, _, _, _, _, _, _, _, _] ⟨e0, e1, e2, e3, e4, e5, e6, e7, e8, e9, e10, e11, e12, e13, e14, e15, e16, e17, e18, e19, e20, e21, trivial⟩).sub ⟨rfl, rfl, rfl, rfl, rfl, rfl, trivial⟩
        have M1 := M0.grow hb2
        clear hK K0 e0 K1 e1 K2 e2 K3 e3 K4 e4 K5 e5 K6 e6 K7 e7 K8 e8 K9 e9 K10 e10 K11 e11 K12 e12 K13 e13 K14 e14 K15 e15 K16 e16 K17 e17 K18 e18 K19 e19 K20 e20 K21 e21
        clear F0 M0
        refine nx ?_
        refine wp_cond_false (F1.ev 29 rfl) ?_
        refine wp_exit ?_
        refine nxExit ?_
        refine nxExit ?_
        refine bkHere ?_
        refine nx ?_
        refine wsl ?_
        refine mvS F1 rfl rfl rfl rfl rfl fun a2 F2 => ?_
        refine asS F2 rfl rfl rfl rfl rfl fun a3 F3 => ?_
        refine sn ?_
        clear F1 F2
        refine wp_ret ?_
        exact ret1 F3 rfl rfl ⟨by rw [hres], M1.below⟩
  · have hres : sameS s p (p - j) = n := sameS_eq (by omega) hal (.inl (by omega))
    refine wp_seq ?_
    refine wp_seq ?_
    obtain ⟨KL, hKL⟩ : ∃ KL, KL = [kval (.int .i64 (n : Int)), kval (.int .i64 (mo : Int)), kval (.bool false), kval (.bool false), kval undef, kval undef, kval undef, kval undef, kval undef, kval undef, kval undef, kval undef, kval undef, kval undef, kval undef, kval undef, kval undef, kval undef, kval undef, kval undef, kval undef, kval (.bool false)] := ⟨_, rfl⟩
    have K0 := getK hKL 0
    have K1 := getK hKL 1
    have K2 := getK hKL 2
    have K3 := getK hKL 3
    have K4 := getK hKL 4
    have K5 := getK hKL 5
    have K6 := getK hKL 6
    have K7 := getK hKL 7
    have K8 := getK hKL 8
    have K9 := getK hKL 9
    have K10 := getK hKL 10
    have K11 := getK hKL 11
    have K12 := getK hKL 12
    have K13 := getK hKL 13
    have K14 := getK hKL 14
    have K15 := getK hKL 15
    have K16 := getK hKL 16
    have K17 := getK hKL 17
    have K18 := getK hKL 18
    have K19 := getK hKL 19
    have K20 := getK hKL 20
    have K21 := getK hKL 21
    clear hKL
    refine wp_region_kd 33 (by kernel_rfl) (by kernel_rfl) (by kernel_rfl) F0.size KL ?_ ?_
    · refine ⟨?_, ?_, ?_, ?_, ?_, ?_, ?_, ?_, ?_, ?_, ?_, ?_, ?_, ?_, ?_, ?_, ?_, ?_, ?_, ?_, ?_, ?_, trivial⟩
      · exact asksY rfl fun a W hS hh hd => giv_run (run_mv rfl (eval_tmp (hh 7 _ rfl (F0.at 7 rfl)))) K0
      · exact asksY rfl fun a W hS hh hd => giv_run (run_ld1 rfl (eval_tmp (hh 2 _ rfl (F0.at 2 rfl))) (hB1.below (M0.grow hS).below hB1.lt) (by kernel_rfl)) K1
      · exact asksY rfl fun a W hS hh hd => giv_run (run_lss rfl (eval_tmp (hd.vl 0 8 (by kernel_rfl) K0)) (eval_tmp (hd.vl 1 9 (by kernel_rfl) K1)) (decide_eq_false (by omega))) K2
      · exact asksY rfl fun a W hS hh hd => giv_run (run_mv rfl (eval_tmp (hd.vl 2 10 (by kernel_rfl) K2))) K3
      · exact asks_skip fun a W hS hh hd => ⟨unwanted_of (j := 3) (s := 11) (want := true) (by kernel_rfl) (hd.vl 3 11 (by kernel_rfl) K3), show kT KL 4 undef W by unfold kT; rw [K4]; rfl⟩
      · exact asks_skip fun a W hS hh hd => ⟨unwanted_of (j := 3) (s := 11) (want := true) (by kernel_rfl) (hd.vl 3 11 (by kernel_rfl) K3), show kT KL 5 undef W by unfold kT; rw [K5]; rfl⟩
      · exact asks_skip fun a W hS hh hd => ⟨unwanted_of (j := 3) (s := 11) (want := true) (by kernel_rfl) (hd.vl 3 11 (by kernel_rfl) K3), show kT KL 6 undef W by unfold kT; rw [K6]; rfl⟩
      · exact asks_skip fun a W hS hh hd => ⟨unwanted_of (j := 3) (s := 11) (want := true) (by kernel_rfl) (hd.vl 3 11 (by kernel_rfl) K3), show kT KL 7 undef W by unfold kT; rw [K7]; rfl⟩
      · exact asks_skip fun a W hS hh hd => ⟨unwanted_of (j := 3) (s := 11) (want := true) (by kernel_rfl) (hd.vl 3 11 (by kernel_rfl) K3), show kT KL 8 undef W by unfold kT; rw [K8]; rfl⟩
      · exact asks_skip fun a W hS hh hd => ⟨unwanted_of (j := 3) (s := 11) (want := true) (by kernel_rfl) (hd.vl 3 11 (by kernel_rfl) K3), show kT KL 9 undef W by unfold kT; rw [K9]; rfl⟩
      · exact asks_skip fun a W hS hh hd => ⟨unwanted_of (j := 3) (s := 11) (want := true) (by kernel_rfl) (hd.vl 3 11 (by kernel_rfl) K3), show kT KL 10 undef W by unfold kT; rw [K10]; rfl⟩
      · exact asks_skip fun a W hS hh hd => ⟨unwanted_of (j := 3) (s := 11) (want := true) (by kernel_rfl) (hd.vl 3 11 (by kernel_rfl) K3), show kT KL 11 undef W by unfold kT; rw [K11]; rfl⟩
      · exact asks_skip fun a W hS hh hd => ⟨unwanted_of (j := 3) (s := 11) (want := true) (by kernel_rfl) (hd.vl 3 11 (by kernel_rfl) K3), show kT KL 12 undef W by unfold kT; rw [K12]; rfl⟩
      · exact asks_skip fun a W hS hh hd => ⟨unwanted_of (j := 3) (s := 11) (want := true) (by kernel_rfl) (hd.vl 3 11 (by kernel_rfl) K3), show kT KL 13 undef W by unfold kT; rw [K13]; rfl⟩
      · exact asks_skip fun a W hS hh hd => ⟨unwanted_of (j := 3) (s := 11) (want := true) (by kernel_rfl) (hd.vl 3 11 (by kernel_rfl) K3), show kT KL 14 undef W by unfold kT; rw [K14]; rfl⟩
      · exact asks_skip fun a W hS hh hd => ⟨unwanted_of (j := 3) (s := 11) (want := true) (by kernel_rfl) (hd.vl 3 11 (by kernel_rfl) K3), show kT KL 15 undef W by unfold kT; rw [K15]; rfl⟩
      · exact asks_skip fun a W hS hh hd => ⟨unwanted_of (j := 3) (s := 11) (want := true) (by kernel_rfl) (hd.vl 3 11 (by kernel_rfl) K3), show kT KL 16 undef W by unfold kT; rw [K16]; rfl⟩
      · exact asks_skip fun a W hS hh hd => ⟨unwanted_of (j := 3) (s := 11) (want := true) (by kernel_rfl) (hd.vl 3 11 (by kernel_rfl) K3), show kT KL 17 undef W by unfold kT; rw [K17]; rfl⟩
      · exact asks_skip fun a W hS hh hd => ⟨unwanted_of (j := 3) (s := 11) (want := true) (by kernel_rfl) (hd.vl 3 11 (by kernel_rfl) K3), show kT KL 18 undef W by unfold kT; rw [K18]; rfl⟩
      · exact asks_skip fun a W hS hh hd => ⟨unwanted_of (j := 3) (s := 11) (want := true) (by kernel_rfl) (hd.vl 3 11 (by kernel_rfl) K3), show kT KL 19 undef W by unfold kT; rw [K19]; rfl⟩
      · exact asks_skip fun a W hS hh hd => ⟨unwanted_of (j := 3) (s := 11) (want := true) (by kernel_rfl) (hd.vl 3 11 (by kernel_rfl) K3), show kT KL 20 undef W by unfold kT; rw [K20]; rfl⟩
      · exact asksY rfl fun a W hS hh hd => giv_run (run_pick rfl (eval_tmp (hd.vl 3 11 (by kernel_rfl) K3)) (eval_tmp (hd.vl 20 28 (by kernel_rfl) K20)) rfl) K21
    · intro a1 w2 hb2 hK
      have e0 := hK.vl 0 8 (by kernel_rfl) K0
      have e1 := hK.vl 1 9 (by kernel_rfl) K1
      have e2 := hK.vl 2 10 (by kernel_rfl) K2
      have e3 := hK.vl 3 11 (by kernel_rfl) K3
      have e4 := hK.vl 4 12 (by kernel_rfl) K4
      have e5 := hK.vl 5 13 (by kernel_rfl) K5
      have e6 := hK.vl 6 14 (by kernel_rfl) K6
      have e7 := hK.vl 7 15 (by kernel_rfl) K7
      have e8 := hK.vl 8 16 (by kernel_rfl) K8
      have e9 := hK.vl 9 17 (by kernel_rfl) K9
      have e10 := hK.vl 10 18 (by kernel_rfl) K10
      have e11 := hK.vl 11 19 (by kernel_rfl) K11
      have e12 := hK.vl 12 20 (by kernel_rfl) K12
      have e13 := hK.vl 13 21 (by kernel_rfl) K13
      have e14 := hK.vl 14 22 (by kernel_rfl) K14
      have e15 := hK.vl 15 23 (by kernel_rfl) K15
      have e16 := hK.vl 16 24 (by kernel_rfl) K16
      have e17 := hK.vl 17 25 (by kernel_rfl) K17
      have e18 := hK.vl 18 26 (by kernel_rfl) K18
      have e19 := hK.vl 19 27 (by kernel_rfl) K19
      have e20 := hK.vl 20 28 (by kernel_rfl) K20
      have e21 := hK.vl 21 29 (by kernel_rfl) K21
      have F1 : Fr a1 33 [(0, (.int .i64 (j : Int))), (1, (.int .i64 (p : Int))), (2, (.pointer (some ⟨gmo, 0, none⟩))), (3, (.pointer (some ⟨gbx, 0, none⟩))), (7, (.int .i64 (n : Int))), (29, (.bool false))] := (hK.fr F0 [_, _, _, _, _, _, _, _, _, _, _, _, _, _, _, _, _, _, _, _, _, _] ⟨e0, e1, e2, e3, e4, e5, e6, e7, e8, e9, e10, e11, e12, e13, e14, e15, e16, e17, e18, e19, e20, e21, trivial⟩).sub ⟨rfl, rfl, rfl, rfl, rfl, rfl, trivial⟩
      have M1 := M0.grow hb2
      clear hK K0 e0 K1 e1 K2 e2 K3 e3 K4 e4 K5 e5 K6 e6 K7 e7 K8 e8 K9 e9 K10 e10 K11 e11 K12 e12 K13 e13 K14 e14 K15 e15 K16 e16 K17 e17 K18 e18 K19 e19 K20 e20 K21 e21
      clear F0 M0
      refine nx ?_
      refine wp_cond_false (F1.ev 29 rfl) ?_
      refine wp_exit ?_
      refine nxExit ?_
      refine nxExit ?_
      refine bkHere ?_
      refine nx ?_
      refine wsl ?_
      refine mvS F1 rfl rfl rfl rfl rfl fun a2 F2 => ?_
      refine asS F2 rfl rfl rfl rfl rfl fun a3 F3 => ?_
      refine sn ?_
      clear F1 F2
      refine wp_ret ?_
      exact ret1 F3 rfl rfl ⟨by rw [hres], M1.below⟩
end Go.Proofs.YtdjjiblijbjobaaDoor
/- The walk of past.best. Printed by gen_lz5.py. -/
namespace Go.Proofs.YtdjjiblijbjobaaDoor
open Go.RowKit

set_option maxRecDepth 100000 in
set_option maxHeartbeats 1000000 in
theorem zbest_any (s : List UInt8) (f : List UInt8 → Option Nat) (zs : List Int) (gp gm ga k p : Nat) (w : World) (hB : Blk w gp 108 #[.string ⟨s.toArray⟩, .map (some gm), .slice (some ⟨ga, 0, none⟩) s.length s.length]) (hmp : ∃ ob, w.heap[gm]? = some ob ∧ isMap4 f k ob) (hA : Blk w ga 3 (cellsI zs)) (hs : s.length ≤ 2 ^ 32) (hp : p ≤ s.length) (hf : ∀ K, K.length = 4 → f K = lastS s K p) (hz : ∀ i, i < p → i + 4 ≤ s.length → zs[i]? = some (encS (lastS s (fourS s i) i))) : Calls Tryd.prog 73 #[(.pointer (some ⟨gp, 0, none⟩)), .int .i64 (p : Int)] w fun e w' => e = .returned (.tuple #[.int .i64 ((best4 s p (min p 65535)).1 : Int), .int .i64 ((best4 s p (min p 65535)).2 : Int)]) ∧ Below w.heap.size w w' := by
  by_cases h4 : s.length - p < 4
  · have hres := best4_few (s := s) h4 (min p 65535)
    refine walk_enter Tryd.func73 rfl rfl rfl fun a0 F0 => ?_
    have M0 := Mem.new w
    refine wsl ?_
    refine sqNew (cs := #[(.pointer (some ⟨gp, 0, none⟩))]) (t := 135) F0 M0 (wantedS rfl) (run_box1 rfl (F0.ev 0 rfl)) rfl (by decide) fun g0 a1 w1 hgg0 hb1 F1 M1 => ?_
    refine sr (v := (.int .i64 0)) F1 (run_as rfl rfl) rfl rfl rfl fun a2 F2 => ?_
    refine sr (v := (.int .i64 0)) F2 (run_as rfl rfl) rfl rfl rfl fun a3 F3 => ?_
    refine sn ?_
    clear F0 F1 F2 M0
    refine wsl ?_
    refine sr F3 (run_ld1 rfl (F3.ev 2 rfl) (M1.at 0 rfl) (by kernel_rfl)) rfl rfl rfl fun a4 F4 => ?_
    refine mvS F4 rfl rfl rfl rfl rfl fun a5 F5 => ?_
    refine sqC (v := (.tuple #[(.agg (cells8 (List.replicate 4 0))), (.bool false)])) F5 M1 (wantedS rfl) (run_call rfl Tryd.func95 (by kernel_rfl) rfl (mapE2 (F5.ev 16 rfl) (F5.ev 17 rfl))) rfl (by decide) (zfour_no s gp gm ga p w1 (hB.below M1.below hB.lt) hs hp h4) fun a6 w2 hb2 F6 M2 => ?_
    refine mvS F6 rfl rfl rfl rfl rfl fun a7 F7 => ?_
    refine sr (v := (.agg (cells8 (List.replicate 4 0)))) F7 (run_ext rfl (F7.ev 15 rfl) rfl) rfl rfl rfl fun a8 F8 => ?_
    refine sr (v := (.bool false)) F8 (run_ext rfl (F8.ev 15 rfl) rfl) rfl rfl rfl fun a9 F9 => ?_
    refine sqNew (cs := (cells8 (List.replicate 4 0))) (t := 136) F9 M2 (wantedS rfl) (run_alloc rfl (by kernel_rfl)) rfl (by decide) fun g1 a10 w3 hgg1 hb3 F10 M3 => ?_
    refine sqStore (i := 0) F10 M3 rfl rfl rfl (F10.ev 6 rfl) (F10.ev 19 rfl) rfl sz4 (szOf List.length_replicate) (szOf List.length_replicate) (cells8_one _) fun a11 w4 F11 M4 => ?_
    refine asS F11 rfl rfl rfl rfl rfl fun a12 F12 => ?_
    refine sn ?_
    clear F3 F4 F5 F6 F7 F8 F9 F10 F11 M1 M2 M3
    refine wp_seq ?_
    refine wsl ?_
    refine mvS F12 rfl rfl rfl rfl rfl fun a13 F13 => ?_
    refine sr (v := (.bool true)) F13 (run_not rfl (F13.ev 21 rfl)) rfl rfl rfl fun a14 F14 => ?_
    refine sn ?_
    clear F12 F13
    refine wp_cond_true (F14.ev 22 rfl) ?_
    refine wsl ?_
    refine sr (v := (.int .i64 0)) F14 (run_as rfl rfl) rfl rfl rfl fun a15 F15 => ?_
    refine sr (v := (.int .i64 0)) F15 (run_as rfl rfl) rfl rfl rfl fun a16 F16 => ?_
    refine sn ?_
    clear F14 F15
    refine wp_ret ?_
    refine nxRet ?_
    exact ret2 F16 rfl rfl rfl ⟨by rw [hres]; rfl, M4.below⟩
  obtain ⟨K, hK⟩ : ∃ K, fourS s p = K := ⟨_, rfl⟩
  have hk4 : K.length = 4 := by rw [← hK]; exact fourS_len (by omega)
  have hfK := hf K hk4
  cases hl : lastS s K p with
  | none =>
    rw [hl] at hfK
    have hno := lastS_none hl
    have hres : best4 s p (min p 65535) = (0, 0) := by
      rw [best4_end1 (Nat.le_refl p) (fun i hi => by rw [hK]; exact hno i hi) (by omega), Nat.sub_self]; rfl
    refine walk_enter Tryd.func73 rfl rfl rfl fun a0 F0 => ?_
    have M0 := Mem.new w
    refine wsl ?_
    refine sqNew (cs := #[(.pointer (some ⟨gp, 0, none⟩))]) (t := 135) F0 M0 (wantedS rfl) (run_box1 rfl (F0.ev 0 rfl)) rfl (by decide) fun g0 a1 w1 hgg0 hb1 F1 M1 => ?_
    refine sr (v := (.int .i64 0)) F1 (run_as rfl rfl) rfl rfl rfl fun a2 F2 => ?_
    refine sr (v := (.int .i64 0)) F2 (run_as rfl rfl) rfl rfl rfl fun a3 F3 => ?_
    refine sn ?_
    clear F0 F1 F2 M0
    refine wsl ?_
    refine sr F3 (run_ld1 rfl (F3.ev 2 rfl) (M1.at 0 rfl) (by kernel_rfl)) rfl rfl rfl fun a4 F4 => ?_
    refine mvS F4 rfl rfl rfl rfl rfl fun a5 F5 => ?_
    refine sqC (v := (.tuple #[(.agg (cells8 K)), (.bool true)])) F5 M1 (wantedS rfl) (run_call rfl Tryd.func95 (by kernel_rfl) rfl (mapE2 (F5.ev 16 rfl) (F5.ev 17 rfl))) rfl (by decide) (zfour_yes s K gp gm ga p w1 (hB.below M1.below hB.lt) hs hp h4 hK) fun a6 w2 hb2 F6 M2 => ?_
    refine mvS F6 rfl rfl rfl rfl rfl fun a7 F7 => ?_
    refine sr (v := (.agg (cells8 K))) F7 (run_ext rfl (F7.ev 15 rfl) rfl) rfl rfl rfl fun a8 F8 => ?_
    refine sr (v := (.bool true)) F8 (run_ext rfl (F8.ev 15 rfl) rfl) rfl rfl rfl fun a9 F9 => ?_
    refine sqNew (cs := (cells8 (List.replicate 4 0))) (t := 136) F9 M2 (wantedS rfl) (run_alloc rfl (by kernel_rfl)) rfl (by decide) fun g1 a10 w3 hgg1 hb3 F10 M3 => ?_
    refine sqStore (i := 0) F10 M3 rfl rfl rfl (F10.ev 6 rfl) (F10.ev 19 rfl) rfl sz4 (szOf hk4) (szOf List.length_replicate) (cells8_one _) fun a11 w4 F11 M4 => ?_
    refine asS F11 rfl rfl rfl rfl rfl fun a12 F12 => ?_
    refine sn ?_
    clear F3 F4 F5 F6 F7 F8 F9 F10 F11 M1 M2 M3
    refine wp_seq ?_
    refine wsl ?_
    refine mvS F12 rfl rfl rfl rfl rfl fun a13 F13 => ?_
    refine sr (v := (.bool false)) F13 (run_not rfl (F13.ev 21 rfl)) rfl rfl rfl fun a14 F14 => ?_
    refine sn ?_
    clear F12 F13
    refine cfs (F14.ev 22 rfl) ?_
    refine wp_seq ?_
    obtain ⟨KL, hKL⟩ : ∃ KL, KL = [kval (.pointer (some ⟨gp, 0, none⟩)), kval (.pointer (some ⟨gp, 0, none⟩)), kval (.pointer (some ⟨gp, 1, none⟩)), kval (.map (some gm)), kval (.agg (cells8 K)), kval (.tuple #[(.int .i64 0), (.bool false)]), kval (.tuple #[(.int .i64 0), (.bool false)]), kval (.int .i64 0), kval (.bool false), kval (.int .i64 0), kval (.bool false)] := ⟨_, rfl⟩
    have K0 := getK hKL 0
    have K1 := getK hKL 1
    have K2 := getK hKL 2
    have K3 := getK hKL 3
    have K4 := getK hKL 4
    have K5 := getK hKL 5
    have K6 := getK hKL 6
    have K7 := getK hKL 7
    have K8 := getK hKL 8
    have K9 := getK hKL 9
    have K10 := getK hKL 10
    clear hKL
    refine wp_region_kd 93 (by kernel_rfl) (by kernel_rfl) (by kernel_rfl) F14.size KL ?_ ?_
    · refine ⟨?_, ?_, ?_, ?_, ?_, ?_, ?_, ?_, ?_, ?_, ?_, trivial⟩
      · exact asksY rfl fun a W hS hh hd => giv_run (run_ld1 rfl (eval_tmp (hh 2 _ rfl (F14.at 2 rfl))) ((M4.grow hS).at 1 rfl) (by kernel_rfl)) K0
      · exact asksY rfl fun a W hS hh hd => giv_run (run_nilp rfl (eval_tmp (hd.vl 0 24 (by kernel_rfl) K0))) K1
      · exact asksY rfl fun a W hS hh hd => giv_run (run_fldA (m := 1) (s := 1) rfl (eval_tmp (hd.vl 1 25 (by kernel_rfl) K1)) Tryd.underlying108 rfl rfl (by kernel_rfl) (by decide)) K2
      · exact asksY rfl fun a W hS hh hd => giv_run (run_ldF rfl (eval_tmp (hd.vl 2 26 (by kernel_rfl) K2)) (hB.below (M4.grow hS).below hB.lt) rfl (by kernel_rfl)) K3
      · exact asksY rfl fun a W hS hh hd => giv_run (run_ldB rfl (eval_tmp (hh 6 _ rfl (F14.at 6 rfl))) ((M4.grow hS).at 0 rfl) Tryd.underlying136 rfl sz4 (szOf hk4)) K4
      · exact asksY rfl fun a W hS hh hd => giv_run (eqvV (by rw [hfK]; rfl) (run_inMap4 rfl (eval_tmp (hd.vl 3 27 (by kernel_rfl) K3)) (eval_tmp (hd.vl 4 28 (by kernel_rfl) K4)) (ob_below (M4.grow hS).below hmp) hk4)) K5
      · exact asksY rfl fun a W hS hh hd => giv_run (run_mv rfl (eval_tmp (hd.vl 5 29 (by kernel_rfl) K5))) K6
      · exact asksY rfl fun a W hS hh hd => giv_run (run_ext rfl (eval_tmp (hd.vl 6 23 (by kernel_rfl) K6)) rfl) K7
      · exact asksY rfl fun a W hS hh hd => giv_run (run_ext rfl (eval_tmp (hd.vl 6 23 (by kernel_rfl) K6)) rfl) K8
      · exact asksY rfl fun a W hS hh hd => giv_run (run_as rfl (eval_tmp (hd.vl 7 30 (by kernel_rfl) K7))) K9
      · exact asksY rfl fun a W hS hh hd => giv_run (run_as rfl (eval_tmp (hd.vl 8 31 (by kernel_rfl) K8))) K10
    · intro a15 w5 hb5 hK
      have e0 := hK.vl 0 24 (by kernel_rfl) K0
      have e1 := hK.vl 1 25 (by kernel_rfl) K1
      have e2 := hK.vl 2 26 (by kernel_rfl) K2
      have e3 := hK.vl 3 27 (by kernel_rfl) K3
      have e4 := hK.vl 4 28 (by kernel_rfl) K4
      have e5 := hK.vl 5 29 (by kernel_rfl) K5
      have e6 := hK.vl 6 23 (by kernel_rfl) K6
      have e7 := hK.vl 7 30 (by kernel_rfl) K7
      have e8 := hK.vl 8 31 (by kernel_rfl) K8
      have e9 := hK.vl 9 8 (by kernel_rfl) K9
      have e10 := hK.vl 10 9 (by kernel_rfl) K10
      have F15 : Fr a15 93 [(0, (.pointer (some ⟨gp, 0, none⟩))), (1, (.int .i64 (p : Int))), (2, (.pointer (some ⟨g0, 0, none⟩))), (4, (.int .i64 0)), (5, (.int .i64 0)), (6, (.pointer (some ⟨g1, 0, none⟩))), (7, (.bool true)), (8, (.int .i64 0)), (9, (.bool false)), (15, (.tuple #[(.agg (cells8 K)), (.bool true)])), (16, (.pointer (some ⟨gp, 0, none⟩))), (17, (.int .i64 (p : Int))), (18, (.tuple #[(.agg (cells8 K)), (.bool true)])), (19, (.agg (cells8 K))), (20, (.bool true)), (21, (.bool true)), (22, (.bool false))] := (hK.fr F14 [_, _, _, _, _, _, _, _, _, _, _] ⟨e0, e1, e2, e3, e4, e5, e6, e7, e8, e9, e10, trivial⟩).sub ⟨rfl, rfl, rfl, rfl, rfl, rfl, rfl, rfl, rfl, rfl, rfl, rfl, rfl, rfl, rfl, rfl, rfl, trivial⟩
      have M5 := M4.grow hb5
      clear hK K0 e0 K1 e1 K2 e2 K3 e3 K4 e4 K5 e5 K6 e6 K7 e7 K8 e8 K9 e9 K10 e10
      clear F14 M4
      refine nx ?_
      refine wp_seq ?_
      refine wsl ?_
      refine mvS F15 rfl rfl rfl rfl rfl fun a16 F16 => ?_
      refine sr (v := (.bool true)) F16 (run_not rfl (F16.ev 32 rfl)) rfl rfl rfl fun a17 F17 => ?_
      refine sn ?_
      clear F15 F16
      refine wp_cond_true (F17.ev 33 rfl) ?_
      refine wsl ?_
      refine sr (v := (.int .i64 0)) F17 (run_as rfl rfl) rfl rfl rfl fun a18 F18 => ?_
      refine sr (v := (.int .i64 0)) F18 (run_as rfl rfl) rfl rfl rfl fun a19 F19 => ?_
      refine sn ?_
      clear F17 F18
      refine wp_ret ?_
      refine nxRet ?_
      exact ret2 F19 rfl rfl rfl ⟨by rw [hres]; rfl, M5.below⟩
  | some j0 =>
    rw [hl] at hfK
    have hj0 := (lastS_some hl).1
    obtain ⟨mo, hmo⟩ : ∃ mo, mo = mostS s p := ⟨_, rfl⟩
    have hmo2 : mo = min 131 (s.length - p) := hmo
    refine walk_enter Tryd.func73 rfl rfl rfl fun a0 F0 => ?_
    have M0 := Mem.new w
    refine wsl ?_
    refine sqNew (cs := #[(.pointer (some ⟨gp, 0, none⟩))]) (t := 135) F0 M0 (wantedS rfl) (run_box1 rfl (F0.ev 0 rfl)) rfl (by decide) fun g0 a1 w1 hgg0 hb1 F1 M1 => ?_
    refine sr (v := (.int .i64 0)) F1 (run_as rfl rfl) rfl rfl rfl fun a2 F2 => ?_
    refine sr (v := (.int .i64 0)) F2 (run_as rfl rfl) rfl rfl rfl fun a3 F3 => ?_
    refine sn ?_
    clear F0 F1 F2 M0
    refine wsl ?_
    refine sr F3 (run_ld1 rfl (F3.ev 2 rfl) (M1.at 0 rfl) (by kernel_rfl)) rfl rfl rfl fun a4 F4 => ?_
    refine mvS F4 rfl rfl rfl rfl rfl fun a5 F5 => ?_
    refine sqC (v := (.tuple #[(.agg (cells8 K)), (.bool true)])) F5 M1 (wantedS rfl) (run_call rfl Tryd.func95 (by kernel_rfl) rfl (mapE2 (F5.ev 16 rfl) (F5.ev 17 rfl))) rfl (by decide) (zfour_yes s K gp gm ga p w1 (hB.below M1.below hB.lt) hs hp h4 hK) fun a6 w2 hb2 F6 M2 => ?_
    refine mvS F6 rfl rfl rfl rfl rfl fun a7 F7 => ?_
    refine sr (v := (.agg (cells8 K))) F7 (run_ext rfl (F7.ev 15 rfl) rfl) rfl rfl rfl fun a8 F8 => ?_
    refine sr (v := (.bool true)) F8 (run_ext rfl (F8.ev 15 rfl) rfl) rfl rfl rfl fun a9 F9 => ?_
    refine sqNew (cs := (cells8 (List.replicate 4 0))) (t := 136) F9 M2 (wantedS rfl) (run_alloc rfl (by kernel_rfl)) rfl (by decide) fun g1 a10 w3 hgg1 hb3 F10 M3 => ?_
    refine sqStore (i := 0) F10 M3 rfl rfl rfl (F10.ev 6 rfl) (F10.ev 19 rfl) rfl sz4 (szOf hk4) (szOf List.length_replicate) (cells8_one _) fun a11 w4 F11 M4 => ?_
    refine asS F11 rfl rfl rfl rfl rfl fun a12 F12 => ?_
    refine sn ?_
    clear F3 F4 F5 F6 F7 F8 F9 F10 F11 M1 M2 M3
    refine wp_seq ?_
    refine wsl ?_
    refine mvS F12 rfl rfl rfl rfl rfl fun a13 F13 => ?_
    refine sr (v := (.bool false)) F13 (run_not rfl (F13.ev 21 rfl)) rfl rfl rfl fun a14 F14 => ?_
    refine sn ?_
    clear F12 F13
    refine cfs (F14.ev 22 rfl) ?_
    refine wp_seq ?_
    obtain ⟨KL, hKL⟩ : ∃ KL, KL = [kval (.pointer (some ⟨gp, 0, none⟩)), kval (.pointer (some ⟨gp, 0, none⟩)), kval (.pointer (some ⟨gp, 1, none⟩)), kval (.map (some gm)), kval (.agg (cells8 K)), kval (.tuple #[(.int .i64 (j0 : Int)), (.bool true)]), kval (.tuple #[(.int .i64 (j0 : Int)), (.bool true)]), kval (.int .i64 (j0 : Int)), kval (.bool true), kval (.int .i64 (j0 : Int)), kval (.bool true)] := ⟨_, rfl⟩
    have K0 := getK hKL 0
    have K1 := getK hKL 1
    have K2 := getK hKL 2
    have K3 := getK hKL 3
    have K4 := getK hKL 4
    have K5 := getK hKL 5
    have K6 := getK hKL 6
    have K7 := getK hKL 7
    have K8 := getK hKL 8
    have K9 := getK hKL 9
    have K10 := getK hKL 10
    clear hKL
    refine wp_region_kd 93 (by kernel_rfl) (by kernel_rfl) (by kernel_rfl) F14.size KL ?_ ?_
    · refine ⟨?_, ?_, ?_, ?_, ?_, ?_, ?_, ?_, ?_, ?_, ?_, trivial⟩
      · exact asksY rfl fun a W hS hh hd => giv_run (run_ld1 rfl (eval_tmp (hh 2 _ rfl (F14.at 2 rfl))) ((M4.grow hS).at 1 rfl) (by kernel_rfl)) K0
      · exact asksY rfl fun a W hS hh hd => giv_run (run_nilp rfl (eval_tmp (hd.vl 0 24 (by kernel_rfl) K0))) K1
      · exact asksY rfl fun a W hS hh hd => giv_run (run_fldA (m := 1) (s := 1) rfl (eval_tmp (hd.vl 1 25 (by kernel_rfl) K1)) Tryd.underlying108 rfl rfl (by kernel_rfl) (by decide)) K2
      · exact asksY rfl fun a W hS hh hd => giv_run (run_ldF rfl (eval_tmp (hd.vl 2 26 (by kernel_rfl) K2)) (hB.below (M4.grow hS).below hB.lt) rfl (by kernel_rfl)) K3
      · exact asksY rfl fun a W hS hh hd => giv_run (run_ldB rfl (eval_tmp (hh 6 _ rfl (F14.at 6 rfl))) ((M4.grow hS).at 0 rfl) Tryd.underlying136 rfl sz4 (szOf hk4)) K4
      · exact asksY rfl fun a W hS hh hd => giv_run (eqvV (by rw [hfK]; rfl) (run_inMap4 rfl (eval_tmp (hd.vl 3 27 (by kernel_rfl) K3)) (eval_tmp (hd.vl 4 28 (by kernel_rfl) K4)) (ob_below (M4.grow hS).below hmp) hk4)) K5
      · exact asksY rfl fun a W hS hh hd => giv_run (run_mv rfl (eval_tmp (hd.vl 5 29 (by kernel_rfl) K5))) K6
      · exact asksY rfl fun a W hS hh hd => giv_run (run_ext rfl (eval_tmp (hd.vl 6 23 (by kernel_rfl) K6)) rfl) K7
      · exact asksY rfl fun a W hS hh hd => giv_run (run_ext rfl (eval_tmp (hd.vl 6 23 (by kernel_rfl) K6)) rfl) K8
      · exact asksY rfl fun a W hS hh hd => giv_run (run_as rfl (eval_tmp (hd.vl 7 30 (by kernel_rfl) K7))) K9
      · exact asksY rfl fun a W hS hh hd => giv_run (run_as rfl (eval_tmp (hd.vl 8 31 (by kernel_rfl) K8))) K10
    · intro a15 w5 hb5 hK
      have e0 := hK.vl 0 24 (by kernel_rfl) K0
      have e1 := hK.vl 1 25 (by kernel_rfl) K1
      have e2 := hK.vl 2 26 (by kernel_rfl) K2
      have e3 := hK.vl 3 27 (by kernel_rfl) K3
      have e4 := hK.vl 4 28 (by kernel_rfl) K4
      have e5 := hK.vl 5 29 (by kernel_rfl) K5
      have e6 := hK.vl 6 23 (by kernel_rfl) K6
      have e7 := hK.vl 7 30 (by kernel_rfl) K7
      have e8 := hK.vl 8 31 (by kernel_rfl) K8
      have e9 := hK.vl 9 8 (by kernel_rfl) K9
      have e10 := hK.vl 10 9 (by kernel_rfl) K10
      have F15 : Fr a15 93 [(0, (.pointer (some ⟨gp, 0, none⟩))), (1, (.int .i64 (p : Int))), (2, (.pointer (some ⟨g0, 0, none⟩))), (4, (.int .i64 0)), (5, (.int .i64 0)), (6, (.pointer (some ⟨g1, 0, none⟩))), (7, (.bool true)), (8, (.int .i64 (j0 : Int))), (9, (.bool true)), (15, (.tuple #[(.agg (cells8 K)), (.bool true)])), (16, (.pointer (some ⟨gp, 0, none⟩))), (17, (.int .i64 (p : Int))), (18, (.tuple #[(.agg (cells8 K)), (.bool true)])), (19, (.agg (cells8 K))), (20, (.bool true)), (21, (.bool true)), (22, (.bool false))] := (hK.fr F14 [_, _, _, _, _, _, _, _, _, _, _] ⟨e0, e1, e2, e3, e4, e5, e6, e7, e8, e9, e10, trivial⟩).sub ⟨rfl, rfl, rfl, rfl, rfl, rfl, rfl, rfl, rfl, rfl, rfl, rfl, rfl, rfl, rfl, rfl, rfl, trivial⟩
      have M5 := M4.grow hb5
      clear hK K0 e0 K1 e1 K2 e2 K3 e3 K4 e4 K5 e5 K6 e6 K7 e7 K8 e8 K9 e9 K10 e10
      clear F14 M4
      refine nx ?_
      refine wp_seq ?_
      refine wsl ?_
      refine mvS F15 rfl rfl rfl rfl rfl fun a16 F16 => ?_
      refine sr (v := (.bool false)) F16 (run_not rfl (F16.ev 32 rfl)) rfl rfl rfl fun a17 F17 => ?_
      refine sn ?_
      clear F15 F16
      refine cfs (F17.ev 33 rfl) ?_
      refine wsl ?_
      refine sr F17 (run_ld1 rfl (F17.ev 2 rfl) (M5.at 1 rfl) (by kernel_rfl)) rfl rfl rfl fun a18 F18 => ?_
      refine sr (v := (.pointer (some ⟨gp, 0, none⟩))) F18 (run_nilp rfl (F18.ev 34 rfl)) rfl rfl rfl fun a19 F19 => ?_
      refine sr F19 (run_fldA (m := 1) (s := 0) rfl (F19.ev 35 rfl) Tryd.underlying108 rfl rfl (by kernel_rfl) (by decide)) rfl rfl rfl fun a20 F20 => ?_
      refine sr (v := (.string ⟨s.toArray⟩)) F20 (run_ldF rfl (F20.ev 36 rfl) (hB.below M5.below hB.lt) rfl (by kernel_rfl)) rfl rfl rfl fun a21 F21 => ?_
      refine sr F21 (run_len rfl (F21.ev 37 rfl) rfl Tryd.underlying9) rfl rfl rfl fun a22 F22 => ?_
      refine mvS F22 rfl rfl rfl rfl rfl fun a23 F23 => ?_
      refine sr F23 (run_sub (r := ((s.length - p : Nat) : Int)) rfl (F23.ev 38 rfl) (F23.ev 39 rfl) (by rw [IntKind.wrap_i64]; omega)) rfl rfl rfl fun a24 F24 => ?_
      refine sr (v := (.int .i64 (mo : Int))) F24 (run_min2 (r := (mo : Int)) rfl rfl (F24.ev 40 rfl) (by split <;> omega)) rfl rfl rfl fun a25 F25 => ?_
      refine sqNew (cs := #[(.int .i64 0)]) (t := 3) F25 M5 (wantedS rfl) (run_alloc1 rfl (by kernel_rfl)) rfl (by decide) fun g2 a26 w6 hgg2 hb6 F26 M6 => ?_
      refine sqSet1 (j := 0) F26 M6 rfl rfl rfl (F26.ev 10 rfl) (F26.ev 41 rfl) rfl fun a27 w7 hgr7 F27 M7 => ?_
      refine sn ?_
      clear F17 F18 F19 F20 F21 F22 F23 F24 F25 F26 M5 M6
      refine wsl ?_
      refine sr (v := (.func (.func 96) #[] #[(.pointer (some ⟨g2, 0, none⟩)), (.pointer (some ⟨g0, 0, none⟩))])) F27 (run_mkFn rfl (F27.ev 10 rfl) (F27.ev 2 rfl)) rfl rfl rfl fun a28 F28 => ?_
      refine asS F28 rfl rfl rfl rfl rfl fun a29 F29 => ?_
      refine sn ?_
      clear F27 F28
      refine wsl ?_
      refine sr (v := (.int .i64 0)) F29 (run_as rfl rfl) rfl rfl rfl fun a30 F30 => ?_
      refine sr (v := (.int .i64 0)) F30 (run_as rfl rfl) rfl rfl rfl fun a31 F31 => ?_
      refine sn ?_
      clear F29 F30
      refine wp_seq ?_
      refine wp_block ?_
      refine wkLoop (fun m a w2 => ∃ q x12 x13 : Nat, q ≤ p ∧ m = q ∧ p - q ≤ 65535 ∧ best4 s p (p - q) = (x12, x13) ∧ Fr a 93 [(1, .int .i64 (p : Int)), (2, .pointer (some ⟨g0, 0, none⟩)), (8, .int .i64 (encS (lastS s K q))), (10, .pointer (some ⟨g2, 0, none⟩)), (11, (.func (.func 96) #[] #[(.pointer (some ⟨g2, 0, none⟩)), (.pointer (some ⟨g0, 0, none⟩))])), (12, .int .i64 (x12 : Int)), (13, .int .i64 (x13 : Int))] ∧ Mem w [(g2, isB 3 #[.int .i64 (mo : Int)]), (g0, isB 135 #[.pointer (some ⟨gp, 0, none⟩)])] w2) p ⟨p, 0, 0, Nat.le_refl _, rfl, by omega, by rw [Nat.sub_self]; rfl, by rw [hl]; exact F31.sub ⟨rfl, rfl, rfl, rfl, rfl, rfl, rfl, trivial⟩, M7.sub (.cons_cons _ (.cons _ (.cons_cons _ .slnil)))⟩ ?_
      clear hl hj0
      rintro m a0 w1 ⟨q, x12, x13, hq, rfl, hd, hb4, F0, M0⟩
      have hble := best4_le s p (p - m)
      rw [hb4, ← hmo] at hble
      simp only at hble
      cases hlq : lastS s K m with
      | none =>
        rw [hlq, show encS none = -1 from rfl] at F0
        have hno := lastS_none hlq
        have hres : best4 s p (min p 65535) = (x12, x13) := by rw [best4_end1 hq (fun i hi => by rw [hK]; exact hno i hi) hd, hb4]
        refine wp_seq ?_
        refine wsl ?_
        refine mvS F0 rfl rfl rfl rfl rfl fun a1 F1 => ?_
        refine sr (v := (.bool false)) F1 (run_geq rfl (F1.ev 43 rfl) rfl (decide_eq_false (by omega))) rfl rfl rfl fun a2 F2 => ?_
        refine mvS F2 rfl rfl rfl rfl rfl fun a3 F3 => ?_
        refine sqSkip F3 (unwantedG F3 rfl rfl rfl rfl rfl) rfl (by decide) fun a4 F4 => ?_
        refine sqSkip F4 (unwantedG F4 rfl rfl rfl rfl rfl) rfl (by decide) fun a5 F5 => ?_
        refine sqSkip F5 (unwantedG F5 rfl rfl rfl rfl rfl) rfl (by decide) fun a6 F6 => ?_
        refine sqSkip F6 (unwantedG F6 rfl rfl rfl rfl rfl) rfl (by decide) fun a7 F7 => ?_
        refine sr (v := (.bool false)) F7 (run_pick rfl (F7.ev 45 rfl) (F7.ev 49 rfl) rfl) rfl rfl rfl fun a8 F8 => ?_
        refine mvS F8 rfl rfl rfl rfl rfl fun a9 F9 => ?_
        refine sqSkip F9 (unwantedG F9 rfl rfl rfl rfl rfl) rfl (by decide) fun a10 F10 => ?_
        refine sqSkip F10 (unwantedG F10 rfl rfl rfl rfl rfl) rfl (by decide) fun a11 F11 => ?_
        refine sqSkip F11 (unwantedG F11 rfl rfl rfl rfl rfl) rfl (by decide) fun a12 F12 => ?_
        refine sr (v := (.bool false)) F12 (run_pick rfl (F12.ev 51 rfl) (F12.ev 54 rfl) rfl) rfl rfl rfl fun a13 F13 => ?_
        refine sn ?_
        clear F0 F1 F2 F3 F4 F5 F6 F7 F8 F9 F10 F11 F12
        refine wp_cond_false (F13.ev 55 rfl) ?_
        refine wp_exit ?_
        refine nxExit ?_
        refine nxExit ?_
        refine bkHere ?_
        refine nx ?_
        refine wsl ?_
        refine mvS F13 rfl rfl rfl rfl rfl fun a14 F14 => ?_
        refine mvS F14 rfl rfl rfl rfl rfl fun a15 F15 => ?_
        refine asS F15 rfl rfl rfl rfl rfl fun a16 F16 => ?_
        refine asS F16 rfl rfl rfl rfl rfl fun a17 F17 => ?_
        refine sn ?_
        clear F13 F14 F15 F16
        refine wp_ret ?_
        exact ret2 F17 rfl rfl rfl ⟨by rw [hres], M0.below⟩
      | some j =>
        rw [hlq, show encS (some j) = (j : Int) from rfl] at F0
        obtain ⟨hjm, hjK, hbt⟩ := lastS_some hlq
        have hjp : j < p := by omega
        by_cases h1 : p - j ≤ 65535
        · by_cases h2 : x12 < mo
          · have hto := best4_to (s := s) (p := p) hjm hq (fun i h3 h4 => by rw [hK]; exact hbt i h3 h4)
            have hone := best4_one s p j hjp
            rw [hto, hb4] at hone
            simp only at hone
            have hzj : zs[j]? = some (encS (lastS s K j)) := by rw [hz j hjp (by omega), hjK]
            obtain ⟨n, hn⟩ : ∃ n, sameS s p (p - j) = n := ⟨_, rfl⟩
            have hn4 : 4 ≤ n := by rw [← hn]; exact same_ge4 hjp (by omega) (by rw [hjK, hK])
            have hnm : n ≤ mo := by rw [← hn, hmo]; exact sameS_le _ _ _
            rw [hn] at hone
            by_cases h3 : (bt s (j + x12)).toNat = (bt s (p + x12)).toNat
            · by_cases h5 : x12 < n
              · skip
                refine wp_seq ?_
                refine wsl ?_
                refine mvS F0 rfl rfl rfl rfl rfl fun a1 F1 => ?_
                refine sr (v := (.bool true)) F1 (run_geq rfl (F1.ev 43 rfl) rfl (decide_eq_true (by omega))) rfl rfl rfl fun a2 F2 => ?_
                refine mvS F2 rfl rfl rfl rfl rfl fun a3 F3 => ?_
                refine sq (v := (.int .i64 (p : Int))) F3 (wantedG F3 rfl rfl rfl rfl rfl) (run_mv rfl (F3.ev 1 rfl)) rfl (by decide) fun a4 F4 => ?_
                refine sq (v := (.int .i64 (j : Int))) F4 (wantedG F4 rfl rfl rfl rfl rfl) (run_mv rfl (F4.ev 8 rfl)) rfl (by decide) fun a5 F5 => ?_
                refine sq (v := (.int .i64 ((p - j : Nat) : Int))) F5 (wantedG F5 rfl rfl rfl rfl rfl) (run_sub (r := ((p - j : Nat) : Int)) rfl (F5.ev 46 rfl) (F5.ev 47 rfl) (by rw [IntKind.wrap_i64]; omega)) rfl (by decide) fun a6 F6 => ?_
                refine sq (v := (.bool true)) F6 (wantedG F6 rfl rfl rfl rfl rfl) (run_leq rfl (F6.ev 48 rfl) rfl (decide_eq_true (by omega))) rfl (by decide) fun a7 F7 => ?_
                refine sr (v := (.bool true)) F7 (run_pick rfl (F7.ev 45 rfl) (F7.ev 49 rfl) rfl) rfl rfl rfl fun a8 F8 => ?_
                refine mvS F8 rfl rfl rfl rfl rfl fun a9 F9 => ?_
                refine sq (v := (.int .i64 (x12 : Int))) F9 (wantedG F9 rfl rfl rfl rfl rfl) (run_mv rfl (F9.ev 12 rfl)) rfl (by decide) fun a10 F10 => ?_
                refine sq (v := (.int .i64 (mo : Int))) F10 (wantedG F10 rfl rfl rfl rfl rfl) (run_ld1 rfl (F10.ev 10 rfl) (M0.at 0 rfl) (by kernel_rfl)) rfl (by decide) fun a11 F11 => ?_
                refine sq (v := (.bool true)) F11 (wantedG F11 rfl rfl rfl rfl rfl) (run_lss rfl (F11.ev 52 rfl) (F11.ev 53 rfl) (decide_eq_true (by omega))) rfl (by decide) fun a12 F12 => ?_
                refine sr (v := (.bool true)) F12 (run_pick rfl (F12.ev 51 rfl) (F12.ev 54 rfl) rfl) rfl rfl rfl fun a13 F13 => ?_
                refine sn ?_
                clear F0 F1 F2 F3 F4 F5 F6 F7 F8 F9 F10 F11 F12
                refine cts (F13.ev 55 rfl) ?_
                refine wp_seq ?_
                refine wp_block ?_
                refine wp_seq ?_
                refine wp_seq ?_
                obtain ⟨KL, hKL⟩ : ∃ KL, KL = [kval (.pointer (some ⟨gp, 0, none⟩)), kval (.pointer (some ⟨gp, 0, none⟩)), kval (.pointer (some ⟨gp, 0, none⟩)), kval (.string ⟨s.toArray⟩), kval (.int .i64 (j : Int)), kval (.int .i64 (x12 : Int)), kval (.int .i64 ((j + x12 : Nat) : Int)), kval (.int .u8 ((bt s (j + x12)).toNat : Int)), kval (.pointer (some ⟨gp, 0, none⟩)), kval (.pointer (some ⟨gp, 0, none⟩)), kval (.pointer (some ⟨gp, 0, none⟩)), kval (.string ⟨s.toArray⟩), kval (.int .i64 (p : Int)), kval (.int .i64 (x12 : Int)), kval (.int .i64 ((p + x12 : Nat) : Int)), kval (.int .u8 ((bt s (p + x12)).toNat : Int)), kval (.bool false)] := ⟨_, rfl⟩
                have K0 := getK hKL 0
                have K1 := getK hKL 1
                have K2 := getK hKL 2
                have K3 := getK hKL 3
                have K4 := getK hKL 4
                have K5 := getK hKL 5
                have K6 := getK hKL 6
                have K7 := getK hKL 7
                have K8 := getK hKL 8
                have K9 := getK hKL 9
                have K10 := getK hKL 10
                have K11 := getK hKL 11
                have K12 := getK hKL 12
                have K13 := getK hKL 13
                have K14 := getK hKL 14
                have K15 := getK hKL 15
                have K16 := getK hKL 16
                clear hKL
                refine wp_region_kd 93 (by kernel_rfl) (by kernel_rfl) (by kernel_rfl) F13.size KL ?_ ?_
                · refine ⟨?_, ?_, ?_, ?_, ?_, ?_, ?_, ?_, ?_, ?_, ?_, ?_, ?_, ?_, ?_, ?_, ?_, trivial⟩
                  · exact asksY rfl fun a W hS hh hd => giv_run (run_ld1 rfl (eval_tmp (hh 2 _ rfl (F13.at 2 rfl))) ((M0.grow hS).at 1 rfl) (by kernel_rfl)) K0
                  · exact asksY rfl fun a W hS hh hd => giv_run (run_nilp rfl (eval_tmp (hd.vl 0 63 (by kernel_rfl) K0))) K1
                  · exact asksY rfl fun a W hS hh hd => giv_run (run_fldA (m := 1) (s := 0) rfl (eval_tmp (hd.vl 1 64 (by kernel_rfl) K1)) Tryd.underlying108 rfl rfl (by kernel_rfl) (by decide)) K2
                  · exact asksY rfl fun a W hS hh hd => giv_run (run_ldF rfl (eval_tmp (hd.vl 2 65 (by kernel_rfl) K2)) (hB.below (M0.grow hS).below hB.lt) rfl (by kernel_rfl)) K3
                  · exact asksY rfl fun a W hS hh hd => giv_run (run_mv rfl (eval_tmp (hh 8 _ rfl (F13.at 8 rfl)))) K4
                  · exact asksY rfl fun a W hS hh hd => giv_run (run_mv rfl (eval_tmp (hh 12 _ rfl (F13.at 12 rfl)))) K5
                  · exact asksY rfl fun a W hS hh hd => giv_run (run_add (r := ((j + x12 : Nat) : Int)) rfl (eval_tmp (hd.vl 4 67 (by kernel_rfl) K4)) (eval_tmp (hd.vl 5 68 (by kernel_rfl) K5)) (by rw [IntKind.wrap_i64]; omega)) K6
                  · exact asksY rfl fun a W hS hh hd => giv_run (run_sAt (n := (j + x12)) rfl (eval_tmp (hd.vl 3 66 (by kernel_rfl) K3)) (eval_tmp (hd.vl 6 69 (by kernel_rfl) K6)) Tryd.underlying9 rfl (by omega)) K7
                  · exact asksY rfl fun a W hS hh hd => giv_run (run_ld1 rfl (eval_tmp (hh 2 _ rfl (F13.at 2 rfl))) ((M0.grow hS).at 1 rfl) (by kernel_rfl)) K8
                  · exact asksY rfl fun a W hS hh hd => giv_run (run_nilp rfl (eval_tmp (hd.vl 8 71 (by kernel_rfl) K8))) K9
                  · exact asksY rfl fun a W hS hh hd => giv_run (run_fldA (m := 1) (s := 0) rfl (eval_tmp (hd.vl 9 72 (by kernel_rfl) K9)) Tryd.underlying108 rfl rfl (by kernel_rfl) (by decide)) K10
                  · exact asksY rfl fun a W hS hh hd => giv_run (run_ldF rfl (eval_tmp (hd.vl 10 73 (by kernel_rfl) K10)) (hB.below (M0.grow hS).below hB.lt) rfl (by kernel_rfl)) K11
                  · exact asksY rfl fun a W hS hh hd => giv_run (run_mv rfl (eval_tmp (hh 1 _ rfl (F13.at 1 rfl)))) K12
                  · exact asksY rfl fun a W hS hh hd => giv_run (run_mv rfl (eval_tmp (hh 12 _ rfl (F13.at 12 rfl)))) K13
                  · exact asksY rfl fun a W hS hh hd => giv_run (run_add (r := ((p + x12 : Nat) : Int)) rfl (eval_tmp (hd.vl 12 75 (by kernel_rfl) K12)) (eval_tmp (hd.vl 13 76 (by kernel_rfl) K13)) (by rw [IntKind.wrap_i64]; omega)) K14
                  · exact asksY rfl fun a W hS hh hd => giv_run (run_sAt (n := (p + x12)) rfl (eval_tmp (hd.vl 11 74 (by kernel_rfl) K11)) (eval_tmp (hd.vl 14 77 (by kernel_rfl) K14)) Tryd.underlying9 rfl (by omega)) K15
                  · exact asksY rfl fun a W hS hh hd => giv_run (run_nei rfl (eval_tmp (hd.vl 7 70 (by kernel_rfl) K7)) (eval_tmp (hd.vl 15 78 (by kernel_rfl) K15)) (bne_eq_false_iff_eq.2 (by omega))) K16
                · intro a14 w2 hb2 hK
                  have e0 := hK.vl 0 63 (by kernel_rfl) K0
                  have e1 := hK.vl 1 64 (by kernel_rfl) K1
                  have e2 := hK.vl 2 65 (by kernel_rfl) K2
                  have e3 := hK.vl 3 66 (by kernel_rfl) K3
                  have e4 := hK.vl 4 67 (by kernel_rfl) K4
                  have e5 := hK.vl 5 68 (by kernel_rfl) K5
                  have e6 := hK.vl 6 69 (by kernel_rfl) K6
                  have e7 := hK.vl 7 70 (by kernel_rfl) K7
                  have e8 := hK.vl 8 71 (by kernel_rfl) K8
                  have e9 := hK.vl 9 72 (by kernel_rfl) K9
                  have e10 := hK.vl 10 73 (by kernel_rfl) K10
                  have e11 := hK.vl 11 74 (by kernel_rfl) K11
                  have e12 := hK.vl 12 75 (by kernel_rfl) K12
                  have e13 := hK.vl 13 76 (by kernel_rfl) K13
                  have e14 := hK.vl 14 77 (by kernel_rfl) K14
                  have e15 := hK.vl 15 78 (by kernel_rfl) K15
                  have e16 := hK.vl 16 79 (by kernel_rfl) K16
                  have F14 : Fr a14 93 [(1, (.int .i64 (p : Int))), (2, (.pointer (some ⟨g0, 0, none⟩))), (8, (.int .i64 (j : Int))), (10, (.pointer (some ⟨g2, 0, none⟩))), (11, (.func (.func 96) #[] #[(.pointer (some ⟨g2, 0, none⟩)), (.pointer (some ⟨g0, 0, none⟩))])), (12, (.int .i64 (x12 : Int))), (13, (.int .i64 (x13 : Int))), (43, (.int .i64 (j : Int))), (44, (.bool true)), (45, (.bool true)), (46, (.int .i64 (p : Int))), (47, (.int .i64 (j : Int))), (48, (.int .i64 ((p - j : Nat) : Int))), (49, (.bool true)), (50, (.bool true)), (51, (.bool true)), (52, (.int .i64 (x12 : Int))), (53, (.int .i64 (mo : Int))), (54, (.bool true)), (55, (.bool true)), (79, (.bool false))] := (hK.fr F13 [_, _, _, _, _, _, _, _, _, _, _, _, _, _, _, _, _] ⟨e0, e1, e2, e3, e4, e5, e6, e7, e8, e9, e10, e11, e12, e13, e14, e15, e16, trivial⟩).sub ⟨rfl, rfl, rfl, rfl, rfl, rfl, rfl, rfl, rfl, rfl, rfl, rfl, rfl, rfl, rfl, rfl, rfl, rfl, rfl, rfl, rfl, trivial⟩
                  have M1 := M0.grow hb2
                  clear hK K0 e0 K1 e1 K2 e2 K3 e3 K4 e4 K5 e5 K6 e6 K7 e7 K8 e8 K9 e9 K10 e10 K11 e11 K12 e12 K13 e13 K14 e14 K15 e15 K16 e16
                  clear F13 M0
                  refine nx ?_
                  refine cfs (F14.ev 79 rfl) ?_
                  refine wsl ?_
                  refine mvS F14 rfl rfl rfl rfl rfl fun a15 F15 => ?_
                  refine mvS F15 rfl rfl rfl rfl rfl fun a16 F16 => ?_
                  refine mvS F16 rfl rfl rfl rfl rfl fun a17 F17 => ?_
                  refine sqC (v := (.int .i64 (n : Int))) F17 M1 (wantedS rfl) (run_callF rfl (F17.ev 80 rfl) Tryd.func96 (by kernel_rfl) rfl (mapE2 (F17.ev 81 rfl) (F17.ev 82 rfl)) rfl) rfl (by decide) ((by rw [← hn]; exact zsame_any s gp gm ga g2 g0 p j mo _ _ w2 (hB.below M1.below hB.lt) (M1.at 0 rfl) (M1.at 1 rfl) hs hjp hp hmo)) fun a18 w3 hb3 F18 M2 => ?_
                  refine asS F18 rfl rfl rfl rfl rfl fun a19 F19 => ?_
                  refine sn ?_
                  clear F14 F15 F16 F17 F18 M1
                  refine wsl ?_
                  refine mvS F19 rfl rfl rfl rfl rfl fun a20 F20 => ?_
                  refine mvS F20 rfl rfl rfl rfl rfl fun a21 F21 => ?_
                  refine sr (v := (.bool true)) F21 (run_gtr rfl (F21.ev 84 rfl) (F21.ev 85 rfl) (decide_eq_true (by omega))) rfl rfl rfl fun a22 F22 => ?_
                  refine sn ?_
                  clear F19 F20 F21
                  refine wp_cond_true (F22.ev 86 rfl) ?_
                  refine wp_region_lit ?_
                  refine mvS F22 rfl rfl rfl rfl rfl fun a23 F23 => ?_
                  refine mvS F23 rfl rfl rfl rfl rfl fun a24 F24 => ?_
                  refine mvS F24 rfl rfl rfl rfl rfl fun a25 F25 => ?_
                  refine sr F25 (run_sub (r := ((p - j : Nat) : Int)) rfl (F25.ev 88 rfl) (F25.ev 89 rfl) (by rw [IntKind.wrap_i64]; omega)) rfl rfl rfl fun a26 F26 => ?_
                  refine asS F26 rfl rfl rfl rfl rfl fun a27 F27 => ?_
                  refine asS F27 rfl rfl rfl rfl rfl fun a28 F28 => ?_
                  refine sqEnd ?_
                  clear F22 F23 F24 F25 F26 F27
                  refine bkEnd ?_
                  refine nx ?_
                  refine wp_region_lit ?_
                  refine sr F28 (run_ld1 rfl (F28.ev 2 rfl) (M2.at 1 rfl) (by kernel_rfl)) rfl rfl rfl fun a29 F29 => ?_
                  refine sr (v := (.pointer (some ⟨gp, 0, none⟩))) F29 (run_nilp rfl (F29.ev 56 rfl)) rfl rfl rfl fun a30 F30 => ?_
                  refine sr F30 (run_fldA (m := 1) (s := 2) rfl (F30.ev 57 rfl) Tryd.underlying108 rfl rfl (by kernel_rfl) (by decide)) rfl rfl rfl fun a31 F31 => ?_
                  refine sr (v := (.slice (some ⟨ga, 0, none⟩) s.length s.length)) F31 (run_ldF rfl (F31.ev 58 rfl) (hB.below M2.below hB.lt) rfl (by kernel_rfl)) rfl rfl rfl fun a32 F32 => ?_
                  refine mvS F32 rfl rfl rfl rfl rfl fun a33 F33 => ?_
                  refine sr (v := (.pointer (some ⟨ga, j, none⟩))) F33 (run_idxI (i := j) rfl (F33.ev 59 rfl) (F33.ev 60 rfl) rfl (by omega)) rfl rfl rfl fun a34 F34 => ?_
                  refine sr (v := (.int .i64 (encS (lastS s K j)))) F34 (run_ldI rfl (F34.ev 61 rfl) (hA.below M2.below hA.lt) hzj) rfl rfl rfl fun a35 F35 => ?_
                  refine asS F35 rfl rfl rfl rfl rfl fun a36 F36 => ?_
                  refine sn ?_
                  clear F28 F29 F30 F31 F32 F33 F34 F35
                  exact ⟨_, hjm, j, n, p - j, by omega, rfl, by omega, by rw [hone, if_pos ⟨h5, hn4⟩], F36.sub ⟨rfl, rfl, rfl, rfl, rfl, rfl, rfl, trivial⟩, M2⟩
              · skip
                refine wp_seq ?_
                refine wsl ?_
                refine mvS F0 rfl rfl rfl rfl rfl fun a1 F1 => ?_
                refine sr (v := (.bool true)) F1 (run_geq rfl (F1.ev 43 rfl) rfl (decide_eq_true (by omega))) rfl rfl rfl fun a2 F2 => ?_
                refine mvS F2 rfl rfl rfl rfl rfl fun a3 F3 => ?_
                refine sq (v := (.int .i64 (p : Int))) F3 (wantedG F3 rfl rfl rfl rfl rfl) (run_mv rfl (F3.ev 1 rfl)) rfl (by decide) fun a4 F4 => ?_
                refine sq (v := (.int .i64 (j : Int))) F4 (wantedG F4 rfl rfl rfl rfl rfl) (run_mv rfl (F4.ev 8 rfl)) rfl (by decide) fun a5 F5 => ?_
                refine sq (v := (.int .i64 ((p - j : Nat) : Int))) F5 (wantedG F5 rfl rfl rfl rfl rfl) (run_sub (r := ((p - j : Nat) : Int)) rfl (F5.ev 46 rfl) (F5.ev 47 rfl) (by rw [IntKind.wrap_i64]; omega)) rfl (by decide) fun a6 F6 => ?_
                refine sq (v := (.bool true)) F6 (wantedG F6 rfl rfl rfl rfl rfl) (run_leq rfl (F6.ev 48 rfl) rfl (decide_eq_true (by omega))) rfl (by decide) fun a7 F7 => ?_
                refine sr (v := (.bool true)) F7 (run_pick rfl (F7.ev 45 rfl) (F7.ev 49 rfl) rfl) rfl rfl rfl fun a8 F8 => ?_
                refine mvS F8 rfl rfl rfl rfl rfl fun a9 F9 => ?_
                refine sq (v := (.int .i64 (x12 : Int))) F9 (wantedG F9 rfl rfl rfl rfl rfl) (run_mv rfl (F9.ev 12 rfl)) rfl (by decide) fun a10 F10 => ?_
                refine sq (v := (.int .i64 (mo : Int))) F10 (wantedG F10 rfl rfl rfl rfl rfl) (run_ld1 rfl (F10.ev 10 rfl) (M0.at 0 rfl) (by kernel_rfl)) rfl (by decide) fun a11 F11 => ?_
                refine sq (v := (.bool true)) F11 (wantedG F11 rfl rfl rfl rfl rfl) (run_lss rfl (F11.ev 52 rfl) (F11.ev 53 rfl) (decide_eq_true (by omega))) rfl (by decide) fun a12 F12 => ?_
                refine sr (v := (.bool true)) F12 (run_pick rfl (F12.ev 51 rfl) (F12.ev 54 rfl) rfl) rfl rfl rfl fun a13 F13 => ?_
                refine sn ?_
                clear F0 F1 F2 F3 F4 F5 F6 F7 F8 F9 F10 F11 F12
                refine cts (F13.ev 55 rfl) ?_
                refine wp_seq ?_
                refine wp_block ?_
                refine wp_seq ?_
                refine wp_seq ?_
                obtain ⟨KL, hKL⟩ : ∃ KL, KL = [kval (.pointer (some ⟨gp, 0, none⟩)), kval (.pointer (some ⟨gp, 0, none⟩)), kval (.pointer (some ⟨gp, 0, none⟩)), kval (.string ⟨s.toArray⟩), kval (.int .i64 (j : Int)), kval (.int .i64 (x12 : Int)), kval (.int .i64 ((j + x12 : Nat) : Int)), kval (.int .u8 ((bt s (j + x12)).toNat : Int)), kval (.pointer (some ⟨gp, 0, none⟩)), kval (.pointer (some ⟨gp, 0, none⟩)), kval (.pointer (some ⟨gp, 0, none⟩)), kval (.string ⟨s.toArray⟩), kval (.int .i64 (p : Int)), kval (.int .i64 (x12 : Int)), kval (.int .i64 ((p + x12 : Nat) : Int)), kval (.int .u8 ((bt s (p + x12)).toNat : Int)), kval (.bool false)] := ⟨_, rfl⟩
                have K0 := getK hKL 0
                have K1 := getK hKL 1
                have K2 := getK hKL 2
                have K3 := getK hKL 3
                have K4 := getK hKL 4
                have K5 := getK hKL 5
                have K6 := getK hKL 6
                have K7 := getK hKL 7
                have K8 := getK hKL 8
                have K9 := getK hKL 9
                have K10 := getK hKL 10
                have K11 := getK hKL 11
                have K12 := getK hKL 12
                have K13 := getK hKL 13
                have K14 := getK hKL 14
                have K15 := getK hKL 15
                have K16 := getK hKL 16
                clear hKL
                refine wp_region_kd 93 (by kernel_rfl) (by kernel_rfl) (by kernel_rfl) F13.size KL ?_ ?_
                · refine ⟨?_, ?_, ?_, ?_, ?_, ?_, ?_, ?_, ?_, ?_, ?_, ?_, ?_, ?_, ?_, ?_, ?_, trivial⟩
                  · exact asksY rfl fun a W hS hh hd => giv_run (run_ld1 rfl (eval_tmp (hh 2 _ rfl (F13.at 2 rfl))) ((M0.grow hS).at 1 rfl) (by kernel_rfl)) K0
                  · exact asksY rfl fun a W hS hh hd => giv_run (run_nilp rfl (eval_tmp (hd.vl 0 63 (by kernel_rfl) K0))) K1
                  · exact asksY rfl fun a W hS hh hd => giv_run (run_fldA (m := 1) (s := 0) rfl (eval_tmp (hd.vl 1 64 (by kernel_rfl) K1)) Tryd.underlying108 rfl rfl (by kernel_rfl) (by decide)) K2
                  · exact asksY rfl fun a W hS hh hd => giv_run (run_ldF rfl (eval_tmp (hd.vl 2 65 (by kernel_rfl) K2)) (hB.below (M0.grow hS).below hB.lt) rfl (by kernel_rfl)) K3
                  · exact asksY rfl fun a W hS hh hd => giv_run (run_mv rfl (eval_tmp (hh 8 _ rfl (F13.at 8 rfl)))) K4
                  · exact asksY rfl fun a W hS hh hd => giv_run (run_mv rfl (eval_tmp (hh 12 _ rfl (F13.at 12 rfl)))) K5
                  · exact asksY rfl fun a W hS hh hd => giv_run (run_add (r := ((j + x12 : Nat) : Int)) rfl (eval_tmp (hd.vl 4 67 (by kernel_rfl) K4)) (eval_tmp (hd.vl 5 68 (by kernel_rfl) K5)) (by rw [IntKind.wrap_i64]; omega)) K6
                  · exact asksY rfl fun a W hS hh hd => giv_run (run_sAt (n := (j + x12)) rfl (eval_tmp (hd.vl 3 66 (by kernel_rfl) K3)) (eval_tmp (hd.vl 6 69 (by kernel_rfl) K6)) Tryd.underlying9 rfl (by omega)) K7
                  · exact asksY rfl fun a W hS hh hd => giv_run (run_ld1 rfl (eval_tmp (hh 2 _ rfl (F13.at 2 rfl))) ((M0.grow hS).at 1 rfl) (by kernel_rfl)) K8
                  · exact asksY rfl fun a W hS hh hd => giv_run (run_nilp rfl (eval_tmp (hd.vl 8 71 (by kernel_rfl) K8))) K9
                  · exact asksY rfl fun a W hS hh hd => giv_run (run_fldA (m := 1) (s := 0) rfl (eval_tmp (hd.vl 9 72 (by kernel_rfl) K9)) Tryd.underlying108 rfl rfl (by kernel_rfl) (by decide)) K10
                  · exact asksY rfl fun a W hS hh hd => giv_run (run_ldF rfl (eval_tmp (hd.vl 10 73 (by kernel_rfl) K10)) (hB.below (M0.grow hS).below hB.lt) rfl (by kernel_rfl)) K11
                  · exact asksY rfl fun a W hS hh hd => giv_run (run_mv rfl (eval_tmp (hh 1 _ rfl (F13.at 1 rfl)))) K12
                  · exact asksY rfl fun a W hS hh hd => giv_run (run_mv rfl (eval_tmp (hh 12 _ rfl (F13.at 12 rfl)))) K13
                  · exact asksY rfl fun a W hS hh hd => giv_run (run_add (r := ((p + x12 : Nat) : Int)) rfl (eval_tmp (hd.vl 12 75 (by kernel_rfl) K12)) (eval_tmp (hd.vl 13 76 (by kernel_rfl) K13)) (by rw [IntKind.wrap_i64]; omega)) K14
                  · exact asksY rfl fun a W hS hh hd => giv_run (run_sAt (n := (p + x12)) rfl (eval_tmp (hd.vl 11 74 (by kernel_rfl) K11)) (eval_tmp (hd.vl 14 77 (by kernel_rfl) K14)) Tryd.underlying9 rfl (by omega)) K15
                  · exact asksY rfl fun a W hS hh hd => giv_run (run_nei rfl (eval_tmp (hd.vl 7 70 (by kernel_rfl) K7)) (eval_tmp (hd.vl 15 78 (by kernel_rfl) K15)) (bne_eq_false_iff_eq.2 (by omega))) K16
                · intro a14 w2 hb2 hK
                  have e0 := hK.vl 0 63 (by kernel_rfl) K0
                  have e1 := hK.vl 1 64 (by kernel_rfl) K1
                  have e2 := hK.vl 2 65 (by kernel_rfl) K2
                  have e3 := hK.vl 3 66 (by kernel_rfl) K3
                  have e4 := hK.vl 4 67 (by kernel_rfl) K4
                  have e5 := hK.vl 5 68 (by kernel_rfl) K5
                  have e6 := hK.vl 6 69 (by kernel_rfl) K6
                  have e7 := hK.vl 7 70 (by kernel_rfl) K7
                  have e8 := hK.vl 8 71 (by kernel_rfl) K8
                  have e9 := hK.vl 9 72 (by kernel_rfl) K9
                  have e10 := hK.vl 10 73 (by kernel_rfl) K10
                  have e11 := hK.vl 11 74 (by kernel_rfl) K11
                  have e12 := hK.vl 12 75 (by kernel_rfl) K12
                  have e13 := hK.vl 13 76 (by kernel_rfl) K13
                  have e14 := hK.vl 14 77 (by kernel_rfl) K14
                  have e15 := hK.vl 15 78 (by kernel_rfl) K15
                  have e16 := hK.vl 16 79 (by kernel_rfl) K16
                  have F14 : Fr a14 93 [(1, (.int .i64 (p : Int))), (2, (.pointer (some ⟨g0, 0, none⟩))), (8, (.int .i64 (j : Int))), (10, (.pointer (some ⟨g2, 0, none⟩))), (11, (.func (.func 96) #[] #[(.pointer (some ⟨g2, 0, none⟩)), (.pointer (some ⟨g0, 0, none⟩))])), (12, (.int .i64 (x12 : Int))), (13, (.int .i64 (x13 : Int))), (43, (.int .i64 (j : Int))), (44, (.bool true)), (45, (.bool true)), (46, (.int .i64 (p : Int))), (47, (.int .i64 (j : Int))), (48, (.int .i64 ((p - j : Nat) : Int))), (49, (.bool true)), (50, (.bool true)), (51, (.bool true)), (52, (.int .i64 (x12 : Int))), (53, (.int .i64 (mo : Int))), (54, (.bool true)), (55, (.bool true)), (79, (.bool false))] := (hK.fr F13 [_, _, _, _, _, _, _, _, _, _, _, _, _, _, _, _, _] ⟨e0, e1, e2, e3, e4, e5, e6, e7, e8, e9, e10, e11, e12, e13, e14, e15, e16, trivial⟩).sub ⟨rfl, rfl, rfl, rfl, rfl, rfl, rfl, rfl, rfl, rfl, rfl, rfl, rfl, rfl, rfl, rfl, rfl, rfl, rfl, rfl, rfl, trivial⟩
                  have M1 := M0.grow hb2
                  clear hK K0 e0 K1 e1 K2 e2 K3 e3 K4 e4 K5 e5 K6 e6 K7 e7 K8 e8 K9 e9 K10 e10 K11 e11 K12 e12 K13 e13 K14 e14 K15 e15 K16 e16
                  clear F13 M0
                  refine nx ?_
                  refine cfs (F14.ev 79 rfl) ?_
                  refine wsl ?_
                  refine mvS F14 rfl rfl rfl rfl rfl fun a15 F15 => ?_
                  refine mvS F15 rfl rfl rfl rfl rfl fun a16 F16 => ?_
                  refine mvS F16 rfl rfl rfl rfl rfl fun a17 F17 => ?_
                  refine sqC (v := (.int .i64 (n : Int))) F17 M1 (wantedS rfl) (run_callF rfl (F17.ev 80 rfl) Tryd.func96 (by kernel_rfl) rfl (mapE2 (F17.ev 81 rfl) (F17.ev 82 rfl)) rfl) rfl (by decide) ((by rw [← hn]; exact zsame_any s gp gm ga g2 g0 p j mo _ _ w2 (hB.below M1.below hB.lt) (M1.at 0 rfl) (M1.at 1 rfl) hs hjp hp hmo)) fun a18 w3 hb3 F18 M2 => ?_
                  refine asS F18 rfl rfl rfl rfl rfl fun a19 F19 => ?_
                  refine sn ?_
                  clear F14 F15 F16 F17 F18 M1
                  refine wsl ?_
                  refine mvS F19 rfl rfl rfl rfl rfl fun a20 F20 => ?_
                  refine mvS F20 rfl rfl rfl rfl rfl fun a21 F21 => ?_
                  refine sr (v := (.bool false)) F21 (run_gtr rfl (F21.ev 84 rfl) (F21.ev 85 rfl) (decide_eq_false (by omega))) rfl rfl rfl fun a22 F22 => ?_
                  refine sn ?_
                  clear F19 F20 F21
                  refine wp_cond_false (F22.ev 86 rfl) ?_
                  refine wp_skip ?_
                  refine bkEnd ?_
                  refine nx ?_
                  refine wp_region_lit ?_
                  refine sr F22 (run_ld1 rfl (F22.ev 2 rfl) (M2.at 1 rfl) (by kernel_rfl)) rfl rfl rfl fun a23 F23 => ?_
                  refine sr (v := (.pointer (some ⟨gp, 0, none⟩))) F23 (run_nilp rfl (F23.ev 56 rfl)) rfl rfl rfl fun a24 F24 => ?_
                  refine sr F24 (run_fldA (m := 1) (s := 2) rfl (F24.ev 57 rfl) Tryd.underlying108 rfl rfl (by kernel_rfl) (by decide)) rfl rfl rfl fun a25 F25 => ?_
                  refine sr (v := (.slice (some ⟨ga, 0, none⟩) s.length s.length)) F25 (run_ldF rfl (F25.ev 58 rfl) (hB.below M2.below hB.lt) rfl (by kernel_rfl)) rfl rfl rfl fun a26 F26 => ?_
                  refine mvS F26 rfl rfl rfl rfl rfl fun a27 F27 => ?_
                  refine sr (v := (.pointer (some ⟨ga, j, none⟩))) F27 (run_idxI (i := j) rfl (F27.ev 59 rfl) (F27.ev 60 rfl) rfl (by omega)) rfl rfl rfl fun a28 F28 => ?_
                  refine sr (v := (.int .i64 (encS (lastS s K j)))) F28 (run_ldI rfl (F28.ev 61 rfl) (hA.below M2.below hA.lt) hzj) rfl rfl rfl fun a29 F29 => ?_
                  refine asS F29 rfl rfl rfl rfl rfl fun a30 F30 => ?_
                  refine sn ?_
                  clear F22 F23 F24 F25 F26 F27 F28 F29
                  exact ⟨_, hjm, j, x12, x13, by omega, rfl, by omega, by rw [hone, if_neg (fun h => h5 h.1)], F30.sub ⟨rfl, rfl, rfl, rfl, rfl, rfl, rfl, trivial⟩, M2⟩
            · have h6 : n ≤ x12 := by rw [← hn]; exact same_le_of hjp (bt_ne (by omega) (by omega) h3)
              refine wp_seq ?_
              refine wsl ?_
              refine mvS F0 rfl rfl rfl rfl rfl fun a1 F1 => ?_
              refine sr (v := (.bool true)) F1 (run_geq rfl (F1.ev 43 rfl) rfl (decide_eq_true (by omega))) rfl rfl rfl fun a2 F2 => ?_
              refine mvS F2 rfl rfl rfl rfl rfl fun a3 F3 => ?_
              refine sq (v := (.int .i64 (p : Int))) F3 (wantedG F3 rfl rfl rfl rfl rfl) (run_mv rfl (F3.ev 1 rfl)) rfl (by decide) fun a4 F4 => ?_
              refine sq (v := (.int .i64 (j : Int))) F4 (wantedG F4 rfl rfl rfl rfl rfl) (run_mv rfl (F4.ev 8 rfl)) rfl (by decide) fun a5 F5 => ?_
              refine sq (v := (.int .i64 ((p - j : Nat) : Int))) F5 (wantedG F5 rfl rfl rfl rfl rfl) (run_sub (r := ((p - j : Nat) : Int)) rfl (F5.ev 46 rfl) (F5.ev 47 rfl) (by rw [IntKind.wrap_i64]; omega)) rfl (by decide) fun a6 F6 => ?_
              refine sq (v := (.bool true)) F6 (wantedG F6 rfl rfl rfl rfl rfl) (run_leq rfl (F6.ev 48 rfl) rfl (decide_eq_true (by omega))) rfl (by decide) fun a7 F7 => ?_
              refine sr (v := (.bool true)) F7 (run_pick rfl (F7.ev 45 rfl) (F7.ev 49 rfl) rfl) rfl rfl rfl fun a8 F8 => ?_
              refine mvS F8 rfl rfl rfl rfl rfl fun a9 F9 => ?_
              refine sq (v := (.int .i64 (x12 : Int))) F9 (wantedG F9 rfl rfl rfl rfl rfl) (run_mv rfl (F9.ev 12 rfl)) rfl (by decide) fun a10 F10 => ?_
              refine sq (v := (.int .i64 (mo : Int))) F10 (wantedG F10 rfl rfl rfl rfl rfl) (run_ld1 rfl (F10.ev 10 rfl) (M0.at 0 rfl) (by kernel_rfl)) rfl (by decide) fun a11 F11 => ?_
              refine sq (v := (.bool true)) F11 (wantedG F11 rfl rfl rfl rfl rfl) (run_lss rfl (F11.ev 52 rfl) (F11.ev 53 rfl) (decide_eq_true (by omega))) rfl (by decide) fun a12 F12 => ?_
              refine sr (v := (.bool true)) F12 (run_pick rfl (F12.ev 51 rfl) (F12.ev 54 rfl) rfl) rfl rfl rfl fun a13 F13 => ?_
              refine sn ?_
              clear F0 F1 F2 F3 F4 F5 F6 F7 F8 F9 F10 F11 F12
              refine cts (F13.ev 55 rfl) ?_
              refine wp_seq ?_
              refine wp_block ?_
              refine wp_seq ?_
              refine wp_seq ?_
              obtain ⟨KL, hKL⟩ : ∃ KL, KL = [kval (.pointer (some ⟨gp, 0, none⟩)), kval (.pointer (some ⟨gp, 0, none⟩)), kval (.pointer (some ⟨gp, 0, none⟩)), kval (.string ⟨s.toArray⟩), kval (.int .i64 (j : Int)), kval (.int .i64 (x12 : Int)), kval (.int .i64 ((j + x12 : Nat) : Int)), kval (.int .u8 ((bt s (j + x12)).toNat : Int)), kval (.pointer (some ⟨gp, 0, none⟩)), kval (.pointer (some ⟨gp, 0, none⟩)), kval (.pointer (some ⟨gp, 0, none⟩)), kval (.string ⟨s.toArray⟩), kval (.int .i64 (p : Int)), kval (.int .i64 (x12 : Int)), kval (.int .i64 ((p + x12 : Nat) : Int)), kval (.int .u8 ((bt s (p + x12)).toNat : Int)), kval (.bool true)] := ⟨_, rfl⟩
              have K0 := getK hKL 0
              have K1 := getK hKL 1
              have K2 := getK hKL 2
              have K3 := getK hKL 3
              have K4 := getK hKL 4
              have K5 := getK hKL 5
              have K6 := getK hKL 6
              have K7 := getK hKL 7
              have K8 := getK hKL 8
              have K9 := getK hKL 9
              have K10 := getK hKL 10
              have K11 := getK hKL 11
              have K12 := getK hKL 12
              have K13 := getK hKL 13
              have K14 := getK hKL 14
              have K15 := getK hKL 15
              have K16 := getK hKL 16
              clear hKL
              refine wp_region_kd 93 (by kernel_rfl) (by kernel_rfl) (by kernel_rfl) F13.size KL ?_ ?_
              · refine ⟨?_, ?_, ?_, ?_, ?_, ?_, ?_, ?_, ?_, ?_, ?_, ?_, ?_, ?_, ?_, ?_, ?_, trivial⟩
                · exact asksY rfl fun a W hS hh hd => giv_run (run_ld1 rfl (eval_tmp (hh 2 _ rfl (F13.at 2 rfl))) ((M0.grow hS).at 1 rfl) (by kernel_rfl)) K0
                · exact asksY rfl fun a W hS hh hd => giv_run (run_nilp rfl (eval_tmp (hd.vl 0 63 (by kernel_rfl) K0))) K1
                · exact asksY rfl fun a W hS hh hd => giv_run (run_fldA (m := 1) (s := 0) rfl (eval_tmp (hd.vl 1 64 (by kernel_rfl) K1)) Tryd.underlying108 rfl rfl (by kernel_rfl) (by decide)) K2
                · exact asksY rfl fun a W hS hh hd => giv_run (run_ldF rfl (eval_tmp (hd.vl 2 65 (by kernel_rfl) K2)) (hB.below (M0.grow hS).below hB.lt) rfl (by kernel_rfl)) K3
                · exact asksY rfl fun a W hS hh hd => giv_run (run_mv rfl (eval_tmp (hh 8 _ rfl (F13.at 8 rfl)))) K4
                · exact asksY rfl fun a W hS hh hd => giv_run (run_mv rfl (eval_tmp (hh 12 _ rfl (F13.at 12 rfl)))) K5
                · exact asksY rfl fun a W hS hh hd => giv_run (run_add (r := ((j + x12 : Nat) : Int)) rfl (eval_tmp (hd.vl 4 67 (by kernel_rfl) K4)) (eval_tmp (hd.vl 5 68 (by kernel_rfl) K5)) (by rw [IntKind.wrap_i64]; omega)) K6
                · exact asksY rfl fun a W hS hh hd => giv_run (run_sAt (n := (j + x12)) rfl (eval_tmp (hd.vl 3 66 (by kernel_rfl) K3)) (eval_tmp (hd.vl 6 69 (by kernel_rfl) K6)) Tryd.underlying9 rfl (by omega)) K7
                · exact asksY rfl fun a W hS hh hd => giv_run (run_ld1 rfl (eval_tmp (hh 2 _ rfl (F13.at 2 rfl))) ((M0.grow hS).at 1 rfl) (by kernel_rfl)) K8
                · exact asksY rfl fun a W hS hh hd => giv_run (run_nilp rfl (eval_tmp (hd.vl 8 71 (by kernel_rfl) K8))) K9
                · exact asksY rfl fun a W hS hh hd => giv_run (run_fldA (m := 1) (s := 0) rfl (eval_tmp (hd.vl 9 72 (by kernel_rfl) K9)) Tryd.underlying108 rfl rfl (by kernel_rfl) (by decide)) K10
                · exact asksY rfl fun a W hS hh hd => giv_run (run_ldF rfl (eval_tmp (hd.vl 10 73 (by kernel_rfl) K10)) (hB.below (M0.grow hS).below hB.lt) rfl (by kernel_rfl)) K11
                · exact asksY rfl fun a W hS hh hd => giv_run (run_mv rfl (eval_tmp (hh 1 _ rfl (F13.at 1 rfl)))) K12
                · exact asksY rfl fun a W hS hh hd => giv_run (run_mv rfl (eval_tmp (hh 12 _ rfl (F13.at 12 rfl)))) K13
                · exact asksY rfl fun a W hS hh hd => giv_run (run_add (r := ((p + x12 : Nat) : Int)) rfl (eval_tmp (hd.vl 12 75 (by kernel_rfl) K12)) (eval_tmp (hd.vl 13 76 (by kernel_rfl) K13)) (by rw [IntKind.wrap_i64]; omega)) K14
                · exact asksY rfl fun a W hS hh hd => giv_run (run_sAt (n := (p + x12)) rfl (eval_tmp (hd.vl 11 74 (by kernel_rfl) K11)) (eval_tmp (hd.vl 14 77 (by kernel_rfl) K14)) Tryd.underlying9 rfl (by omega)) K15
                · exact asksY rfl fun a W hS hh hd => giv_run (run_nei rfl (eval_tmp (hd.vl 7 70 (by kernel_rfl) K7)) (eval_tmp (hd.vl 15 78 (by kernel_rfl) K15)) (bne_iff_ne.2 (by omega))) K16
              · intro a14 w2 hb2 hK
                have e0 := hK.vl 0 63 (by kernel_rfl) K0
                have e1 := hK.vl 1 64 (by kernel_rfl) K1
                have e2 := hK.vl 2 65 (by kernel_rfl) K2
                have e3 := hK.vl 3 66 (by kernel_rfl) K3
                have e4 := hK.vl 4 67 (by kernel_rfl) K4
                have e5 := hK.vl 5 68 (by kernel_rfl) K5
                have e6 := hK.vl 6 69 (by kernel_rfl) K6
                have e7 := hK.vl 7 70 (by kernel_rfl) K7
                have e8 := hK.vl 8 71 (by kernel_rfl) K8
                have e9 := hK.vl 9 72 (by kernel_rfl) K9
                have e10 := hK.vl 10 73 (by kernel_rfl) K10
                have e11 := hK.vl 11 74 (by kernel_rfl) K11
                have e12 := hK.vl 12 75 (by kernel_rfl) K12
                have e13 := hK.vl 13 76 (by kernel_rfl) K13
                have e14 := hK.vl 14 77 (by kernel_rfl) K14
                have e15 := hK.vl 15 78 (by kernel_rfl) K15
                have e16 := hK.vl 16 79 (by kernel_rfl) K16
                have F14 : Fr a14 93 [(1, (.int .i64 (p : Int))), (2, (.pointer (some ⟨g0, 0, none⟩))), (8, (.int .i64 (j : Int))), (10, (.pointer (some ⟨g2, 0, none⟩))), (11, (.func (.func 96) #[] #[(.pointer (some ⟨g2, 0, none⟩)), (.pointer (some ⟨g0, 0, none⟩))])), (12, (.int .i64 (x12 : Int))), (13, (.int .i64 (x13 : Int))), (43, (.int .i64 (j : Int))), (44, (.bool true)), (45, (.bool true)), (46, (.int .i64 (p : Int))), (47, (.int .i64 (j : Int))), (48, (.int .i64 ((p - j : Nat) : Int))), (49, (.bool true)), (50, (.bool true)), (51, (.bool true)), (52, (.int .i64 (x12 : Int))), (53, (.int .i64 (mo : Int))), (54, (.bool true)), (55, (.bool true)), (79, (.bool true))] := (hK.fr F13 [_, _, _, _, _, _, _, _, _, _, _, _, _, _, _, _, _] ⟨e0, e1, e2, e3, e4, e5, e6, e7, e8, e9, e10, e11, e12, e13, e14, e15, e16, trivial⟩).sub ⟨rfl, rfl, rfl, rfl, rfl, rfl, rfl, rfl, rfl, rfl, rfl, rfl, rfl, rfl, rfl, rfl, rfl, rfl, rfl, rfl, rfl, trivial⟩
                have M1 := M0.grow hb2
                clear hK K0 e0 K1 e1 K2 e2 K3 e3 K4 e4 K5 e5 K6 e6 K7 e7 K8 e8 K9 e9 K10 e10 K11 e11 K12 e12 K13 e13 K14 e14 K15 e15 K16 e16
                clear F13 M0
                refine nx ?_
                refine wp_cond_true (F14.ev 79 rfl) ?_
                refine wp_exit ?_
                refine nxExit ?_
                refine bkHere ?_
                refine nx ?_
                refine wp_region_lit ?_
                refine sr F14 (run_ld1 rfl (F14.ev 2 rfl) (M1.at 1 rfl) (by kernel_rfl)) rfl rfl rfl fun a15 F15 => ?_
                refine sr (v := (.pointer (some ⟨gp, 0, none⟩))) F15 (run_nilp rfl (F15.ev 56 rfl)) rfl rfl rfl fun a16 F16 => ?_
                refine sr F16 (run_fldA (m := 1) (s := 2) rfl (F16.ev 57 rfl) Tryd.underlying108 rfl rfl (by kernel_rfl) (by decide)) rfl rfl rfl fun a17 F17 => ?_
                refine sr (v := (.slice (some ⟨ga, 0, none⟩) s.length s.length)) F17 (run_ldF rfl (F17.ev 58 rfl) (hB.below M1.below hB.lt) rfl (by kernel_rfl)) rfl rfl rfl fun a18 F18 => ?_
                refine mvS F18 rfl rfl rfl rfl rfl fun a19 F19 => ?_
                refine sr (v := (.pointer (some ⟨ga, j, none⟩))) F19 (run_idxI (i := j) rfl (F19.ev 59 rfl) (F19.ev 60 rfl) rfl (by omega)) rfl rfl rfl fun a20 F20 => ?_
                refine sr (v := (.int .i64 (encS (lastS s K j)))) F20 (run_ldI rfl (F20.ev 61 rfl) (hA.below M1.below hA.lt) hzj) rfl rfl rfl fun a21 F21 => ?_
                refine asS F21 rfl rfl rfl rfl rfl fun a22 F22 => ?_
                refine sn ?_
                clear F14 F15 F16 F17 F18 F19 F20 F21
                exact ⟨_, hjm, j, x12, x13, by omega, rfl, by omega, by rw [hone, if_neg (fun h => by omega)], F22.sub ⟨rfl, rfl, rfl, rfl, rfl, rfl, rfl, trivial⟩, M1⟩
          · have hres : best4 s p (min p 65535) = (x12, x13) := by rw [best4_end3 hq hd (by rw [hb4, ← hmo]; simp only; omega), hb4]
            refine wp_seq ?_
            refine wsl ?_
            refine mvS F0 rfl rfl rfl rfl rfl fun a1 F1 => ?_
            refine sr (v := (.bool true)) F1 (run_geq rfl (F1.ev 43 rfl) rfl (decide_eq_true (by omega))) rfl rfl rfl fun a2 F2 => ?_
            refine mvS F2 rfl rfl rfl rfl rfl fun a3 F3 => ?_
            refine sq (v := (.int .i64 (p : Int))) F3 (wantedG F3 rfl rfl rfl rfl rfl) (run_mv rfl (F3.ev 1 rfl)) rfl (by decide) fun a4 F4 => ?_
            refine sq (v := (.int .i64 (j : Int))) F4 (wantedG F4 rfl rfl rfl rfl rfl) (run_mv rfl (F4.ev 8 rfl)) rfl (by decide) fun a5 F5 => ?_
            refine sq (v := (.int .i64 ((p - j : Nat) : Int))) F5 (wantedG F5 rfl rfl rfl rfl rfl) (run_sub (r := ((p - j : Nat) : Int)) rfl (F5.ev 46 rfl) (F5.ev 47 rfl) (by rw [IntKind.wrap_i64]; omega)) rfl (by decide) fun a6 F6 => ?_
            refine sq (v := (.bool true)) F6 (wantedG F6 rfl rfl rfl rfl rfl) (run_leq rfl (F6.ev 48 rfl) rfl (decide_eq_true (by omega))) rfl (by decide) fun a7 F7 => ?_
            refine sr (v := (.bool true)) F7 (run_pick rfl (F7.ev 45 rfl) (F7.ev 49 rfl) rfl) rfl rfl rfl fun a8 F8 => ?_
            refine mvS F8 rfl rfl rfl rfl rfl fun a9 F9 => ?_
            refine sq (v := (.int .i64 (x12 : Int))) F9 (wantedG F9 rfl rfl rfl rfl rfl) (run_mv rfl (F9.ev 12 rfl)) rfl (by decide) fun a10 F10 => ?_
            refine sq (v := (.int .i64 (mo : Int))) F10 (wantedG F10 rfl rfl rfl rfl rfl) (run_ld1 rfl (F10.ev 10 rfl) (M0.at 0 rfl) (by kernel_rfl)) rfl (by decide) fun a11 F11 => ?_
            refine sq (v := (.bool false)) F11 (wantedG F11 rfl rfl rfl rfl rfl) (run_lss rfl (F11.ev 52 rfl) (F11.ev 53 rfl) (decide_eq_false (by omega))) rfl (by decide) fun a12 F12 => ?_
            refine sr (v := (.bool false)) F12 (run_pick rfl (F12.ev 51 rfl) (F12.ev 54 rfl) rfl) rfl rfl rfl fun a13 F13 => ?_
            refine sn ?_
            clear F0 F1 F2 F3 F4 F5 F6 F7 F8 F9 F10 F11 F12
            refine wp_cond_false (F13.ev 55 rfl) ?_
            refine wp_exit ?_
            refine nxExit ?_
            refine nxExit ?_
            refine bkHere ?_
            refine nx ?_
            refine wsl ?_
            refine mvS F13 rfl rfl rfl rfl rfl fun a14 F14 => ?_
            refine mvS F14 rfl rfl rfl rfl rfl fun a15 F15 => ?_
            refine asS F15 rfl rfl rfl rfl rfl fun a16 F16 => ?_
            refine asS F16 rfl rfl rfl rfl rfl fun a17 F17 => ?_
            refine sn ?_
            clear F13 F14 F15 F16
            refine wp_ret ?_
            exact ret2 F17 rfl rfl rfl ⟨by rw [hres], M0.below⟩
        · have hres : best4 s p (min p 65535) = (x12, x13) := by rw [best4_end2 hjm hq hd (by omega) (fun i h3 h4 => by rw [hK]; exact hbt i h3 h4), hb4]
          refine wp_seq ?_
          refine wsl ?_
          refine mvS F0 rfl rfl rfl rfl rfl fun a1 F1 => ?_
          refine sr (v := (.bool true)) F1 (run_geq rfl (F1.ev 43 rfl) rfl (decide_eq_true (by omega))) rfl rfl rfl fun a2 F2 => ?_
          refine mvS F2 rfl rfl rfl rfl rfl fun a3 F3 => ?_
          refine sq (v := (.int .i64 (p : Int))) F3 (wantedG F3 rfl rfl rfl rfl rfl) (run_mv rfl (F3.ev 1 rfl)) rfl (by decide) fun a4 F4 => ?_
          refine sq (v := (.int .i64 (j : Int))) F4 (wantedG F4 rfl rfl rfl rfl rfl) (run_mv rfl (F4.ev 8 rfl)) rfl (by decide) fun a5 F5 => ?_
          refine sq (v := (.int .i64 ((p - j : Nat) : Int))) F5 (wantedG F5 rfl rfl rfl rfl rfl) (run_sub (r := ((p - j : Nat) : Int)) rfl (F5.ev 46 rfl) (F5.ev 47 rfl) (by rw [IntKind.wrap_i64]; omega)) rfl (by decide) fun a6 F6 => ?_
          refine sq (v := (.bool false)) F6 (wantedG F6 rfl rfl rfl rfl rfl) (run_leq rfl (F6.ev 48 rfl) rfl (decide_eq_false (by omega))) rfl (by decide) fun a7 F7 => ?_
          refine sr (v := (.bool false)) F7 (run_pick rfl (F7.ev 45 rfl) (F7.ev 49 rfl) rfl) rfl rfl rfl fun a8 F8 => ?_
          refine mvS F8 rfl rfl rfl rfl rfl fun a9 F9 => ?_
          refine sqSkip F9 (unwantedG F9 rfl rfl rfl rfl rfl) rfl (by decide) fun a10 F10 => ?_
          refine sqSkip F10 (unwantedG F10 rfl rfl rfl rfl rfl) rfl (by decide) fun a11 F11 => ?_
          refine sqSkip F11 (unwantedG F11 rfl rfl rfl rfl rfl) rfl (by decide) fun a12 F12 => ?_
          refine sr (v := (.bool false)) F12 (run_pick rfl (F12.ev 51 rfl) (F12.ev 54 rfl) rfl) rfl rfl rfl fun a13 F13 => ?_
          refine sn ?_
          clear F0 F1 F2 F3 F4 F5 F6 F7 F8 F9 F10 F11 F12
          refine wp_cond_false (F13.ev 55 rfl) ?_
          refine wp_exit ?_
          refine nxExit ?_
          refine nxExit ?_
          refine bkHere ?_
          refine nx ?_
          refine wsl ?_
          refine mvS F13 rfl rfl rfl rfl rfl fun a14 F14 => ?_
          refine mvS F14 rfl rfl rfl rfl rfl fun a15 F15 => ?_
          refine asS F15 rfl rfl rfl rfl rfl fun a16 F16 => ?_
          refine asS F16 rfl rfl rfl rfl rfl fun a17 F17 => ?_
          refine sn ?_
          clear F13 F14 F15 F16
          refine wp_ret ?_
          exact ret2 F17 rfl rfl rfl ⟨by rw [hres], M0.below⟩
end Go.Proofs.YtdjjiblijbjobaaDoor
/- The walks of past.pass and lz.Pack. Printed by gen_lz6.py. -/
namespace Go.Proofs.YtdjjiblijbjobaaDoor
open Go.RowKit

/-- what was passed ahead of p. -/
def Passed (s : List UInt8) (f : List UInt8 → Option Nat) (k : Nat) (zs : List Int) (p : Nat) : Prop := k ≤ p ∧ zs.length = s.length ∧ (∀ K, K.length = 4 → f K = lastS s K p) ∧ ∀ i, i < p → i + 4 ≤ s.length → zs[i]? = some (encS (lastS s (fourS s i) i))
theorem Passed.far {s : List UInt8} {f : List UInt8 → Option Nat} {k i q : Nat} {zs : List Int} (h : Passed s f k zs i) (h4 : s.length < i + 4) (hq : i ≤ q) : Passed s f k zs q := by
  obtain ⟨h1, h2, h3, h5⟩ := h
  refine ⟨by omega, h2, fun K hK => ?_, fun j hj hj4 => h5 j (by omega) hj4⟩
  rw [h3 K hK, show q = i + (q - i) by omega, lastS_far hK h4]
theorem Passed.next {s : List UInt8} {f : List UInt8 → Option Nat} {k i : Nat} {zs : List Int} {K : List UInt8} {u : Int} (h : Passed s f k zs i) (hK : fourS s i = K) (hi : i < s.length) (hu : u = encS (lastS s K i)) : Passed s (putF f K i) (k + 1) (zs.set i u) (i + 1) := by
  obtain ⟨h1, h2, h3, h5⟩ := h
  refine ⟨by omega, by rw [List.length_set]; exact h2, fun K2 hK2 => ?_, fun j hj hj4 => ?_⟩
  · unfold putF
    rw [lastS, hK]
    by_cases e : K2 = K
    · rw [if_pos e, if_pos e.symm]
    · rw [if_neg e, if_neg (fun h => e h.symm), h3 K2 hK2]
  · rcases Nat.lt_or_ge j i with h6 | h6
    · rw [List.getElem?_set_ne (by omega)]; exact h5 j h6 hj4
    · obtain rfl : j = i := by omega
      rw [List.getElem?_set_self (by omega), hu, hK]
set_option maxRecDepth 100000 in
set_option maxHeartbeats 1000000 in
theorem zpass_any (s b : List UInt8) (f : List UInt8 → Option Nat) (zs : List Int) (gp gm ga k p n : Nat) (v : Value) (w0 w : World) (M : List (Nat × (Obj → Prop))) (hM : Mem w0 ((gp, isB 108 #[.string ⟨s.toArray⟩, .map (some gm), .slice (some ⟨ga, 0, none⟩) s.length s.length]) :: (ga, isB 3 (cellsI zs)) :: (gm, isMap4 f k) :: M) w) (hO : OwnR w0 ((gp, isB 108 #[.string ⟨s.toArray⟩, .map (some gm), .slice (some ⟨ga, 0, none⟩) s.length s.length]) :: (ga, isB 3 (cellsI zs)) :: (gm, isMap4 f k) :: M) w 5 1 v b.length (b.map cb)) (hs : s.length ≤ 2 ^ 32) (hp : p + n ≤ s.length) (hpd : Passed s f k zs p) :
    Calls Tryd.prog 74 #[(.pointer (some ⟨gp, 0, none⟩)), .int .i64 (p : Int), .int .i64 (n : Int)] w fun e w' => ∃ r, e = .returned r ∧ ∃ (f2 : List UInt8 → Option Nat) (k2 : Nat) (zs2 : List Int), Passed s f2 k2 zs2 (p + n) ∧ OwnR w0 ((gp, isB 108 #[.string ⟨s.toArray⟩, .map (some gm), .slice (some ⟨ga, 0, none⟩) s.length s.length]) :: (ga, isB 3 (cellsI zs2)) :: (gm, isMap4 f2 k2) :: M) w' 5 1 v b.length (b.map cb) ∧ Mem w0 ((gp, isB 108 #[.string ⟨s.toArray⟩, .map (some gm), .slice (some ⟨ga, 0, none⟩) s.length s.length]) :: (ga, isB 3 (cellsI zs2)) :: (gm, isMap4 f2 k2) :: M) w' := by
  refine walk_enter Tryd.func74 rfl rfl rfl fun a0 F0 => ?_
  have M0 := hM
  refine wsl ?_
  refine mvS F0 rfl rfl rfl rfl rfl fun a1 F1 => ?_
  refine asS F1 rfl rfl rfl rfl rfl fun a2 F2 => ?_
  refine sn ?_
  clear F0 F1
  refine wp_block ?_
  refine wkLoop (fun m a w2 => ∃ (i : Nat) (f2 : List UInt8 → Option Nat) (k2 : Nat) (zs2 : List Int), p ≤ i ∧ i ≤ p + n ∧ m = p + n - i ∧ Passed s f2 k2 zs2 i ∧ OwnR w0 ((gp, isB 108 #[.string ⟨s.toArray⟩, .map (some gm), .slice (some ⟨ga, 0, none⟩) s.length s.length]) :: (ga, isB 3 (cellsI zs2)) :: (gm, isMap4 f2 k2) :: M) w2 5 1 v b.length (b.map cb) ∧ Fr a 51 [(0, .pointer (some ⟨gp, 0, none⟩)), (1, .int .i64 (p : Int)), (2, .int .i64 (n : Int)), (6, .int .i64 (i : Int))] ∧ Mem w0 ((gp, isB 108 #[.string ⟨s.toArray⟩, .map (some gm), .slice (some ⟨ga, 0, none⟩) s.length s.length]) :: (ga, isB 3 (cellsI zs2)) :: (gm, isMap4 f2 k2) :: M) w2) n ⟨p, f, k, zs, Nat.le_refl _, by omega, by omega, hpd, hO, F2.sub ⟨rfl, rfl, rfl, rfl, trivial⟩, M0⟩ ?_
  rintro m a0 w1 ⟨i, f2, k2, zs2, hpi, hin, rfl, hpd2, hO0, F0, M0⟩
  obtain ⟨hk2, hzl, hf2, hz2⟩ := id hpd2
  by_cases h1 : i < p + n
  · by_cases h4 : s.length - i < 4
    · have hpe := hpd2.far (q := p + n) (by omega) (by omega)
      refine wp_seq ?_
      refine wsl ?_
      refine mvS F0 rfl rfl rfl rfl rfl fun a1 F1 => ?_
      refine mvS F1 rfl rfl rfl rfl rfl fun a2 F2 => ?_
      refine mvS F2 rfl rfl rfl rfl rfl fun a3 F3 => ?_
      refine sr F3 (run_add (r := ((p + n : Nat) : Int)) rfl (F3.ev 13 rfl) (F3.ev 14 rfl) (by rw [IntKind.wrap_i64]; omega)) rfl rfl rfl fun a4 F4 => ?_
      refine sr (v := (.bool true)) F4 (run_lss rfl (F4.ev 12 rfl) (F4.ev 15 rfl) (decide_eq_true (by omega))) rfl rfl rfl fun a5 F5 => ?_
      refine sn ?_
      clear F0 F1 F2 F3 F4
      refine cts (F5.ev 16 rfl) ?_
      refine wp_seq ?_
      refine wp_block ?_
      refine wsl ?_
      refine mvS F5 rfl rfl rfl rfl rfl fun a6 F6 => ?_
      refine mvS F6 rfl rfl rfl rfl rfl fun a7 F7 => ?_
      refine sqC (v := (.tuple #[(.agg (cells8 (List.replicate 4 0))), (.bool false)])) F7 M0 (wantedS rfl) (run_call rfl Tryd.func95 (by kernel_rfl) rfl (mapE2 (F7.ev 20 rfl) (F7.ev 21 rfl))) rfl (by decide) (zfour_no s gp gm ga i w1 (M0.at 0 rfl) hs (by omega) h4) fun a8 w2 hb2 F8 M1 => ?_
      have hO1 := hO0.grow hb2
      refine mvS F8 rfl rfl rfl rfl rfl fun a9 F9 => ?_
      refine sr (v := (.agg (cells8 (List.replicate 4 0)))) F9 (run_ext rfl (F9.ev 19 rfl) rfl) rfl rfl rfl fun a10 F10 => ?_
      refine sr (v := (.bool false)) F10 (run_ext rfl (F10.ev 19 rfl) rfl) rfl rfl rfl fun a11 F11 => ?_
      refine sqNew (cs := (cells8 (List.replicate 4 0))) (t := 136) F11 M1 (wantedS rfl) (run_alloc rfl (by kernel_rfl)) rfl (by decide) fun g0 a12 w3 hgg0 hb3 F12 M2 => ?_
      have hO2 := hO1.add (S := isB 136 (cells8 (List.replicate 4 0))) hb3 hgg0
      refine sqStoreG (i := 0) F12 M2 rfl rfl rfl (F12.ev 7 rfl) (F12.ev 23 rfl) rfl sz4 (szOf List.length_replicate) (szOf List.length_replicate) (cells8_one _) fun a13 w4 hgr4 F13 M3 => ?_
      have hO3 := hO2.upd 0 (S2 := isB 136 (cells8 (List.replicate 4 0))) rfl hgr4
      refine asS F13 rfl rfl rfl rfl rfl fun a14 F14 => ?_
      refine sn ?_
      clear F5 F6 F7 F8 F9 F10 F11 F12 F13 M0 M1 M2
      refine wp_seq ?_
      refine wsl ?_
      refine mvS F14 rfl rfl rfl rfl rfl fun a15 F15 => ?_
      refine sr (v := (.bool true)) F15 (run_not rfl (F15.ev 25 rfl)) rfl rfl rfl fun a16 F16 => ?_
      refine sn ?_
      clear F14 F15
      refine wp_cond_true (F16.ev 26 rfl) ?_
      refine wp_ret ?_
      refine nxRet ?_
      refine bkRet ?_
      refine nxRet ?_
      refine nxRet ?_
      refine bkRet ?_
      exact ret0 F16 rfl ⟨_, rfl, f2, k2, zs2, hpe, hO3.sub (.cons _ (.refl _)), M3.sub (.cons _ (.refl _))⟩
    · obtain ⟨K, hK⟩ : ∃ K, fourS s i = K := ⟨_, rfl⟩
      have hk4 : K.length = 4 := by rw [← hK]; exact fourS_len (by omega)
      have hfK := hf2 K hk4
      cases hl : lastS s K i with
      | none =>
        rw [hl] at hfK
        refine wp_seq ?_
        refine wsl ?_
        refine mvS F0 rfl rfl rfl rfl rfl fun a1 F1 => ?_
        refine mvS F1 rfl rfl rfl rfl rfl fun a2 F2 => ?_
        refine mvS F2 rfl rfl rfl rfl rfl fun a3 F3 => ?_
        refine sr F3 (run_add (r := ((p + n : Nat) : Int)) rfl (F3.ev 13 rfl) (F3.ev 14 rfl) (by rw [IntKind.wrap_i64]; omega)) rfl rfl rfl fun a4 F4 => ?_
        refine sr (v := (.bool true)) F4 (run_lss rfl (F4.ev 12 rfl) (F4.ev 15 rfl) (decide_eq_true (by omega))) rfl rfl rfl fun a5 F5 => ?_
        refine sn ?_
        clear F0 F1 F2 F3 F4
        refine cts (F5.ev 16 rfl) ?_
        refine wp_seq ?_
        refine wp_block ?_
        refine wsl ?_
        refine mvS F5 rfl rfl rfl rfl rfl fun a6 F6 => ?_
        refine mvS F6 rfl rfl rfl rfl rfl fun a7 F7 => ?_
        refine sqC (v := (.tuple #[(.agg (cells8 K)), (.bool true)])) F7 M0 (wantedS rfl) (run_call rfl Tryd.func95 (by kernel_rfl) rfl (mapE2 (F7.ev 20 rfl) (F7.ev 21 rfl))) rfl (by decide) (zfour_yes s K gp gm ga i w1 (M0.at 0 rfl) hs (by omega) h4 hK) fun a8 w2 hb2 F8 M1 => ?_
        have hO1 := hO0.grow hb2
        refine mvS F8 rfl rfl rfl rfl rfl fun a9 F9 => ?_
        refine sr (v := (.agg (cells8 K))) F9 (run_ext rfl (F9.ev 19 rfl) rfl) rfl rfl rfl fun a10 F10 => ?_
        refine sr (v := (.bool true)) F10 (run_ext rfl (F10.ev 19 rfl) rfl) rfl rfl rfl fun a11 F11 => ?_
        refine sqNew (cs := (cells8 (List.replicate 4 0))) (t := 136) F11 M1 (wantedS rfl) (run_alloc rfl (by kernel_rfl)) rfl (by decide) fun g1 a12 w3 hgg1 hb3 F12 M2 => ?_
        have hO2 := hO1.add (S := isB 136 (cells8 (List.replicate 4 0))) hb3 hgg1
        refine sqStoreG (i := 0) F12 M2 rfl rfl rfl (F12.ev 7 rfl) (F12.ev 23 rfl) rfl sz4 (szOf hk4) (szOf List.length_replicate) (cells8_one _) fun a13 w4 hgr4 F13 M3 => ?_
        have hO3 := hO2.upd 0 (S2 := isB 136 (cells8 K)) rfl hgr4
        refine asS F13 rfl rfl rfl rfl rfl fun a14 F14 => ?_
        refine sn ?_
        clear F5 F6 F7 F8 F9 F10 F11 F12 F13 M0 M1 M2
        refine wp_seq ?_
        refine wsl ?_
        refine mvS F14 rfl rfl rfl rfl rfl fun a15 F15 => ?_
        refine sr (v := (.bool false)) F15 (run_not rfl (F15.ev 25 rfl)) rfl rfl rfl fun a16 F16 => ?_
        refine sn ?_
        clear F14 F15
        refine cfs (F16.ev 26 rfl) ?_
        refine wp_seq ?_
        obtain ⟨KL, hKL⟩ : ∃ KL, KL = [kval (.pointer (some ⟨gp, 0, none⟩)), kval (.pointer (some ⟨gp, 0, none⟩)), kval (.pointer (some ⟨gp, 1, none⟩)), kval (.map (some gm)), kval (.agg (cells8 K)), kval (.tuple #[(.int .i64 0), (.bool false)]), kval (.tuple #[(.int .i64 0), (.bool false)]), kval (.int .i64 0), kval (.bool false), kval (.int .i64 0), kval (.bool false)] := ⟨_, rfl⟩
        have K0 := getK hKL 0
        have K1 := getK hKL 1
        have K2 := getK hKL 2
        have K3 := getK hKL 3
        have K4 := getK hKL 4
        have K5 := getK hKL 5
        have K6 := getK hKL 6
        have K7 := getK hKL 7
        have K8 := getK hKL 8
        have K9 := getK hKL 9
        have K10 := getK hKL 10
        clear hKL
        refine wp_region_kd 51 (by kernel_rfl) (by kernel_rfl) (by kernel_rfl) F16.size KL ?_ ?_
        · refine ⟨?_, ?_, ?_, ?_, ?_, ?_, ?_, ?_, ?_, ?_, ?_, trivial⟩
          · exact asksY rfl fun a W hS hh hd => giv_run (run_mv rfl (eval_tmp (hh 0 _ rfl (F16.at 0 rfl)))) K0
          · exact asksY rfl fun a W hS hh hd => giv_run (run_nilp rfl (eval_tmp (hd.vl 0 28 (by kernel_rfl) K0))) K1
          · exact asksY rfl fun a W hS hh hd => giv_run (run_fldA (m := 1) (s := 1) rfl (eval_tmp (hd.vl 1 29 (by kernel_rfl) K1)) Tryd.underlying108 rfl rfl (by kernel_rfl) (by decide)) K2
          · exact asksY rfl fun a W hS hh hd => giv_run (run_ldF rfl (eval_tmp (hd.vl 2 30 (by kernel_rfl) K2)) ((M3.grow hS).at 1 rfl) rfl (by kernel_rfl)) K3
          · exact asksY rfl fun a W hS hh hd => giv_run (run_ldB rfl (eval_tmp (hh 7 _ rfl (F16.at 7 rfl))) ((M3.grow hS).at 0 rfl) Tryd.underlying136 rfl sz4 (szOf hk4)) K4
          · exact asksY rfl fun a W hS hh hd => giv_run (eqvV (by rw [hfK]; rfl) (run_inMap4 rfl (eval_tmp (hd.vl 3 31 (by kernel_rfl) K3)) (eval_tmp (hd.vl 4 32 (by kernel_rfl) K4)) ((M3.grow hS).ob 3 rfl) hk4)) K5
          · exact asksY rfl fun a W hS hh hd => giv_run (run_mv rfl (eval_tmp (hd.vl 5 33 (by kernel_rfl) K5))) K6
          · exact asksY rfl fun a W hS hh hd => giv_run (run_ext rfl (eval_tmp (hd.vl 6 27 (by kernel_rfl) K6)) rfl) K7
          · exact asksY rfl fun a W hS hh hd => giv_run (run_ext rfl (eval_tmp (hd.vl 6 27 (by kernel_rfl) K6)) rfl) K8
          · exact asksY rfl fun a W hS hh hd => giv_run (run_as rfl (eval_tmp (hd.vl 7 34 (by kernel_rfl) K7))) K9
          · exact asksY rfl fun a W hS hh hd => giv_run (run_as rfl (eval_tmp (hd.vl 8 35 (by kernel_rfl) K8))) K10
        · intro a17 w5 hb5 hK
          have e0 := hK.vl 0 28 (by kernel_rfl) K0
          have e1 := hK.vl 1 29 (by kernel_rfl) K1
          have e2 := hK.vl 2 30 (by kernel_rfl) K2
          have e3 := hK.vl 3 31 (by kernel_rfl) K3
          have e4 := hK.vl 4 32 (by kernel_rfl) K4
          have e5 := hK.vl 5 33 (by kernel_rfl) K5
          have e6 := hK.vl 6 27 (by kernel_rfl) K6
          have e7 := hK.vl 7 34 (by kernel_rfl) K7
          have e8 := hK.vl 8 35 (by kernel_rfl) K8
          have e9 := hK.vl 9 9 (by kernel_rfl) K9
          have e10 := hK.vl 10 10 (by kernel_rfl) K10
          have F17 : Fr a17 51 [(0, (.pointer (some ⟨gp, 0, none⟩))), (1, (.int .i64 (p : Int))), (2, (.int .i64 (n : Int))), (6, (.int .i64 (i : Int))), (7, (.pointer (some ⟨g1, 0, none⟩))), (8, (.bool true)), (9, (.int .i64 0)), (10, (.bool false)), (12, (.int .i64 (i : Int))), (13, (.int .i64 (p : Int))), (14, (.int .i64 (n : Int))), (15, (.int .i64 ((p + n : Nat) : Int))), (16, (.bool true)), (19, (.tuple #[(.agg (cells8 K)), (.bool true)])), (20, (.pointer (some ⟨gp, 0, none⟩))), (21, (.int .i64 (i : Int))), (22, (.tuple #[(.agg (cells8 K)), (.bool true)])), (23, (.agg (cells8 K))), (24, (.bool true)), (25, (.bool true)), (26, (.bool false))] := (hK.fr F16 [_, _, _, _, _, _, _, _, _, _, _] ⟨e0, e1, e2, e3, e4, e5, e6, e7, e8, e9, e10, trivial⟩).sub ⟨rfl, rfl, rfl, rfl, rfl, rfl, rfl, rfl, rfl, rfl, rfl, rfl, rfl, rfl, rfl, rfl, rfl, rfl, rfl, rfl, rfl, trivial⟩
          have M4 := M3.grow hb5
          have hO4 := hO3.grow hb5
          clear hK K0 e0 K1 e1 K2 e2 K3 e3 K4 e4 K5 e5 K6 e6 K7 e7 K8 e8 K9 e9 K10 e10
          clear F16 M3
          refine nx ?_
          refine wp_seq ?_
          refine wsl ?_
          refine mvS F17 rfl rfl rfl rfl rfl fun a18 F18 => ?_
          refine sr (v := (.bool true)) F18 (run_not rfl (F18.ev 36 rfl)) rfl rfl rfl fun a19 F19 => ?_
          refine sn ?_
          clear F17 F18
          refine wp_cond_true (F19.ev 37 rfl) ?_
          refine wp_region_lit ?_
          refine sr (v := (.int .i64 (-1))) F19 (run_as rfl rfl) rfl rfl rfl fun a20 F20 => ?_
          refine sn ?_
          clear F19
          refine wsl ?_
          refine mvS F20 rfl rfl rfl rfl rfl fun a21 F21 => ?_
          refine sr (v := (.pointer (some ⟨gp, 0, none⟩))) F21 (run_nilp rfl (F21.ev 38 rfl)) rfl rfl rfl fun a22 F22 => ?_
          refine sr F22 (run_fldA (m := 1) (s := 2) rfl (F22.ev 39 rfl) Tryd.underlying108 rfl rfl (by kernel_rfl) (by decide)) rfl rfl rfl fun a23 F23 => ?_
          refine sr (v := (.slice (some ⟨ga, 0, none⟩) s.length s.length)) F23 (run_ldF rfl (F23.ev 40 rfl) (M4.at 1 rfl) rfl (by kernel_rfl)) rfl rfl rfl fun a24 F24 => ?_
          refine mvS F24 rfl rfl rfl rfl rfl fun a25 F25 => ?_
          refine mvS F25 rfl rfl rfl rfl rfl fun a26 F26 => ?_
          refine sr (v := (.pointer (some ⟨ga, i, none⟩))) F26 (run_idxI (i := i) rfl (F26.ev 41 rfl) (F26.ev 42 rfl) rfl (by omega)) rfl rfl rfl fun a27 F27 => ?_
          refine sqSetI (j := 2) (zs := zs2) F27 M4 rfl rfl rfl (F27.ev 44 rfl) (F27.ev 43 rfl) rfl (by omega) fun a28 w6 hgr6 F28 M5 => ?_
          have hO5 := hO4.upd 2 (S2 := isB 3 (cellsI (zs2.set i (-1)))) rfl hgr6
          refine sn ?_
          clear F20 F21 F22 F23 F24 F25 F26 F27 M4
          obtain ⟨KL, hKL⟩ : ∃ KL, KL = [kval (.pointer (some ⟨gp, 0, none⟩)), kval (.pointer (some ⟨gp, 0, none⟩)), kval (.pointer (some ⟨gp, 1, none⟩)), kval (.map (some gm)), kval (.agg (cells8 K)), kval (.int .i64 (i : Int))] := ⟨_, rfl⟩
          have K0 := getK hKL 0
          have K1 := getK hKL 1
          have K2 := getK hKL 2
          have K3 := getK hKL 3
          have K4 := getK hKL 4
          have K5 := getK hKL 5
          have HKL : KL.length ≤ 6 := by rw [hKL]; exact Nat.le_refl _
          clear hKL
          refine wp_region_kdTail2 51 6 (by kernel_rfl) (by kernel_rfl) (by kernel_rfl) (by kernel_rfl) F28.size KL HKL ?_ ?_
          · refine ⟨?_, ?_, ?_, ?_, ?_, ?_, trivial⟩
            · exact asksHY rfl fun a W hS hh hd => giv_run (run_mv rfl (eval_tmp (hh 0 _ rfl (F28.at 0 rfl)))) K0
            · exact asksHY rfl fun a W hS hh hd => giv_run (run_nilp rfl (eval_tmp (hd.vl 0 45 (by kernel_rfl) K0))) K1
            · exact asksHY rfl fun a W hS hh hd => giv_run (run_fldA (m := 1) (s := 1) rfl (eval_tmp (hd.vl 1 46 (by kernel_rfl) K1)) Tryd.underlying108 rfl rfl (by kernel_rfl) (by decide)) K2
            · exact asksHY rfl fun a W hS hh hd => giv_run (run_ldF rfl (eval_tmp (hd.vl 2 47 (by kernel_rfl) K2)) ((M5.grow hS).at 1 rfl) rfl (by kernel_rfl)) K3
            · exact asksHY rfl fun a W hS hh hd => giv_run (run_ldB rfl (eval_tmp (hh 7 _ rfl (F28.at 7 rfl))) ((M5.grow hS).at 0 rfl) Tryd.underlying136 rfl sz4 (szOf hk4)) K4
            · exact asksHY rfl fun a W hS hh hd => giv_run (run_mv rfl (eval_tmp (hh 6 _ rfl (F28.at 6 rfl)))) K5
          · intro a29 w7 hb7 hK
            have e0 := hK.hvl 0 45 rfl (by kernel_rfl) K0
            have e1 := hK.hvl 1 46 rfl (by kernel_rfl) K1
            have e2 := hK.hvl 2 47 rfl (by kernel_rfl) K2
            have e3 := hK.hvl 3 48 rfl (by kernel_rfl) K3
            have e4 := hK.hvl 4 49 rfl (by kernel_rfl) K4
            have e5 := hK.hvl 5 50 rfl (by kernel_rfl) K5
            have F29 : Fr a29 51 [(0, (.pointer (some ⟨gp, 0, none⟩))), (1, (.int .i64 (p : Int))), (2, (.int .i64 (n : Int))), (6, (.int .i64 (i : Int))), (7, (.pointer (some ⟨g1, 0, none⟩))), (8, (.bool true)), (9, (.int .i64 (-1))), (10, (.bool false)), (12, (.int .i64 (i : Int))), (13, (.int .i64 (p : Int))), (14, (.int .i64 (n : Int))), (15, (.int .i64 ((p + n : Nat) : Int))), (16, (.bool true)), (19, (.tuple #[(.agg (cells8 K)), (.bool true)])), (20, (.pointer (some ⟨gp, 0, none⟩))), (21, (.int .i64 (i : Int))), (22, (.tuple #[(.agg (cells8 K)), (.bool true)])), (23, (.agg (cells8 K))), (24, (.bool true)), (25, (.bool true)), (26, (.bool false)), (36, (.bool false)), (37, (.bool true)), (38, (.pointer (some ⟨gp, 0, none⟩))), (39, (.pointer (some ⟨gp, 0, none⟩))), (40, (.pointer (some ⟨gp, 2, none⟩))), (41, (.slice (some ⟨ga, 0, none⟩) s.length s.length)), (42, (.int .i64 (i : Int))), (43, (.int .i64 (-1))), (44, (.pointer (some ⟨ga, i, none⟩))), (48, (.map (some gm))), (49, (.agg (cells8 K))), (50, (.int .i64 (i : Int)))] := (hK.hfr F28 [_, _, _, _, _, _] ⟨e0, e1, e2, e3, e4, e5, trivial⟩).sub ⟨rfl, rfl, rfl, rfl, rfl, rfl, rfl, rfl, rfl, rfl, rfl, rfl, rfl, rfl, rfl, rfl, rfl, rfl, rfl, rfl, rfl, rfl, rfl, rfl, rfl, rfl, rfl, rfl, rfl, rfl, rfl, rfl, rfl, trivial⟩
            have M6 := M5.grow hb7
            have hO6 := hO5.grow hb7
            clear hK K0 e0 K1 e1 K2 e2 K3 e3 K4 e4 K5 e5 HKL
            simp only [List.drop_succ_cons, List.drop_zero]
            refine sqMap4Put (i := 3) (k := i) F29 M6 rfl rfl rfl (F29.ev 48 rfl) (F29.ev 49 rfl) (F29.ev 50 rfl) rfl hk4 (by unfold maxLen; omega) (by unfold maxLen; omega) fun a30 w8 hgr8 F30 M7 => ?_
            have hO7 := hO6.upd 3 (S2 := isMap4 (putF f2 K i) (k2 + 1)) rfl hgr8
            refine sqEnd ?_
            clear F28 F29 M5 M6
            refine bkEnd ?_
            refine nx ?_
            refine wp_region_lit ?_
            refine mvS F30 rfl rfl rfl rfl rfl fun a31 F31 => ?_
            refine sr F31 (run_add (r := ((i + 1 : Nat) : Int)) rfl (F31.ev 17 rfl) rfl (by rw [IntKind.wrap_i64]; omega)) rfl rfl rfl fun a32 F32 => ?_
            refine asS F32 rfl rfl rfl rfl rfl fun a33 F33 => ?_
            refine sn ?_
            clear F30 F31 F32
            exact ⟨_, by omega, i + 1, _, _, _, by omega, by omega, rfl, hpd2.next hK (by omega) (by rw [hl]; rfl), hO7.sub (.cons _ (.refl _)), F33.sub ⟨rfl, rfl, rfl, rfl, trivial⟩, M7.sub (.cons _ (.refl _))⟩
      | some j =>
        rw [hl] at hfK
        refine wp_seq ?_
        refine wsl ?_
        refine mvS F0 rfl rfl rfl rfl rfl fun a1 F1 => ?_
        refine mvS F1 rfl rfl rfl rfl rfl fun a2 F2 => ?_
        refine mvS F2 rfl rfl rfl rfl rfl fun a3 F3 => ?_
        refine sr F3 (run_add (r := ((p + n : Nat) : Int)) rfl (F3.ev 13 rfl) (F3.ev 14 rfl) (by rw [IntKind.wrap_i64]; omega)) rfl rfl rfl fun a4 F4 => ?_
        refine sr (v := (.bool true)) F4 (run_lss rfl (F4.ev 12 rfl) (F4.ev 15 rfl) (decide_eq_true (by omega))) rfl rfl rfl fun a5 F5 => ?_
        refine sn ?_
        clear F0 F1 F2 F3 F4
        refine cts (F5.ev 16 rfl) ?_
        refine wp_seq ?_
        refine wp_block ?_
        refine wsl ?_
        refine mvS F5 rfl rfl rfl rfl rfl fun a6 F6 => ?_
        refine mvS F6 rfl rfl rfl rfl rfl fun a7 F7 => ?_
        refine sqC (v := (.tuple #[(.agg (cells8 K)), (.bool true)])) F7 M0 (wantedS rfl) (run_call rfl Tryd.func95 (by kernel_rfl) rfl (mapE2 (F7.ev 20 rfl) (F7.ev 21 rfl))) rfl (by decide) (zfour_yes s K gp gm ga i w1 (M0.at 0 rfl) hs (by omega) h4 hK) fun a8 w2 hb2 F8 M1 => ?_
        have hO1 := hO0.grow hb2
        refine mvS F8 rfl rfl rfl rfl rfl fun a9 F9 => ?_
        refine sr (v := (.agg (cells8 K))) F9 (run_ext rfl (F9.ev 19 rfl) rfl) rfl rfl rfl fun a10 F10 => ?_
        refine sr (v := (.bool true)) F10 (run_ext rfl (F10.ev 19 rfl) rfl) rfl rfl rfl fun a11 F11 => ?_
        refine sqNew (cs := (cells8 (List.replicate 4 0))) (t := 136) F11 M1 (wantedS rfl) (run_alloc rfl (by kernel_rfl)) rfl (by decide) fun g2 a12 w3 hgg2 hb3 F12 M2 => ?_
        have hO2 := hO1.add (S := isB 136 (cells8 (List.replicate 4 0))) hb3 hgg2
        refine sqStoreG (i := 0) F12 M2 rfl rfl rfl (F12.ev 7 rfl) (F12.ev 23 rfl) rfl sz4 (szOf hk4) (szOf List.length_replicate) (cells8_one _) fun a13 w4 hgr4 F13 M3 => ?_
        have hO3 := hO2.upd 0 (S2 := isB 136 (cells8 K)) rfl hgr4
        refine asS F13 rfl rfl rfl rfl rfl fun a14 F14 => ?_
        refine sn ?_
        clear F5 F6 F7 F8 F9 F10 F11 F12 F13 M0 M1 M2
        refine wp_seq ?_
        refine wsl ?_
        refine mvS F14 rfl rfl rfl rfl rfl fun a15 F15 => ?_
        refine sr (v := (.bool false)) F15 (run_not rfl (F15.ev 25 rfl)) rfl rfl rfl fun a16 F16 => ?_
        refine sn ?_
        clear F14 F15
        refine cfs (F16.ev 26 rfl) ?_
        refine wp_seq ?_
        obtain ⟨KL, hKL⟩ : ∃ KL, KL = [kval (.pointer (some ⟨gp, 0, none⟩)), kval (.pointer (some ⟨gp, 0, none⟩)), kval (.pointer (some ⟨gp, 1, none⟩)), kval (.map (some gm)), kval (.agg (cells8 K)), kval (.tuple #[(.int .i64 (j : Int)), (.bool true)]), kval (.tuple #[(.int .i64 (j : Int)), (.bool true)]), kval (.int .i64 (j : Int)), kval (.bool true), kval (.int .i64 (j : Int)), kval (.bool true)] := ⟨_, rfl⟩
        have K0 := getK hKL 0
        have K1 := getK hKL 1
        have K2 := getK hKL 2
        have K3 := getK hKL 3
        have K4 := getK hKL 4
        have K5 := getK hKL 5
        have K6 := getK hKL 6
        have K7 := getK hKL 7
        have K8 := getK hKL 8
        have K9 := getK hKL 9
        have K10 := getK hKL 10
        clear hKL
        refine wp_region_kd 51 (by kernel_rfl) (by kernel_rfl) (by kernel_rfl) F16.size KL ?_ ?_
        · refine ⟨?_, ?_, ?_, ?_, ?_, ?_, ?_, ?_, ?_, ?_, ?_, trivial⟩
          · exact asksY rfl fun a W hS hh hd => giv_run (run_mv rfl (eval_tmp (hh 0 _ rfl (F16.at 0 rfl)))) K0
          · exact asksY rfl fun a W hS hh hd => giv_run (run_nilp rfl (eval_tmp (hd.vl 0 28 (by kernel_rfl) K0))) K1
          · exact asksY rfl fun a W hS hh hd => giv_run (run_fldA (m := 1) (s := 1) rfl (eval_tmp (hd.vl 1 29 (by kernel_rfl) K1)) Tryd.underlying108 rfl rfl (by kernel_rfl) (by decide)) K2
          · exact asksY rfl fun a W hS hh hd => giv_run (run_ldF rfl (eval_tmp (hd.vl 2 30 (by kernel_rfl) K2)) ((M3.grow hS).at 1 rfl) rfl (by kernel_rfl)) K3
          · exact asksY rfl fun a W hS hh hd => giv_run (run_ldB rfl (eval_tmp (hh 7 _ rfl (F16.at 7 rfl))) ((M3.grow hS).at 0 rfl) Tryd.underlying136 rfl sz4 (szOf hk4)) K4
          · exact asksY rfl fun a W hS hh hd => giv_run (eqvV (by rw [hfK]; rfl) (run_inMap4 rfl (eval_tmp (hd.vl 3 31 (by kernel_rfl) K3)) (eval_tmp (hd.vl 4 32 (by kernel_rfl) K4)) ((M3.grow hS).ob 3 rfl) hk4)) K5
          · exact asksY rfl fun a W hS hh hd => giv_run (run_mv rfl (eval_tmp (hd.vl 5 33 (by kernel_rfl) K5))) K6
          · exact asksY rfl fun a W hS hh hd => giv_run (run_ext rfl (eval_tmp (hd.vl 6 27 (by kernel_rfl) K6)) rfl) K7
          · exact asksY rfl fun a W hS hh hd => giv_run (run_ext rfl (eval_tmp (hd.vl 6 27 (by kernel_rfl) K6)) rfl) K8
          · exact asksY rfl fun a W hS hh hd => giv_run (run_as rfl (eval_tmp (hd.vl 7 34 (by kernel_rfl) K7))) K9
          · exact asksY rfl fun a W hS hh hd => giv_run (run_as rfl (eval_tmp (hd.vl 8 35 (by kernel_rfl) K8))) K10
        · intro a17 w5 hb5 hK
          have e0 := hK.vl 0 28 (by kernel_rfl) K0
          have e1 := hK.vl 1 29 (by kernel_rfl) K1
          have e2 := hK.vl 2 30 (by kernel_rfl) K2
          have e3 := hK.vl 3 31 (by kernel_rfl) K3
          have e4 := hK.vl 4 32 (by kernel_rfl) K4
          have e5 := hK.vl 5 33 (by kernel_rfl) K5
          have e6 := hK.vl 6 27 (by kernel_rfl) K6
          have e7 := hK.vl 7 34 (by kernel_rfl) K7
          have e8 := hK.vl 8 35 (by kernel_rfl) K8
          have e9 := hK.vl 9 9 (by kernel_rfl) K9
          have e10 := hK.vl 10 10 (by kernel_rfl) K10
          have F17 : Fr a17 51 [(0, (.pointer (some ⟨gp, 0, none⟩))), (1, (.int .i64 (p : Int))), (2, (.int .i64 (n : Int))), (6, (.int .i64 (i : Int))), (7, (.pointer (some ⟨g2, 0, none⟩))), (8, (.bool true)), (9, (.int .i64 (j : Int))), (10, (.bool true)), (12, (.int .i64 (i : Int))), (13, (.int .i64 (p : Int))), (14, (.int .i64 (n : Int))), (15, (.int .i64 ((p + n : Nat) : Int))), (16, (.bool true)), (19, (.tuple #[(.agg (cells8 K)), (.bool true)])), (20, (.pointer (some ⟨gp, 0, none⟩))), (21, (.int .i64 (i : Int))), (22, (.tuple #[(.agg (cells8 K)), (.bool true)])), (23, (.agg (cells8 K))), (24, (.bool true)), (25, (.bool true)), (26, (.bool false))] := (hK.fr F16 [_, _, _, _, _, _, _, _, _, _, _] ⟨e0, e1, e2, e3, e4, e5, e6, e7, e8, e9, e10, trivial⟩).sub ⟨rfl, rfl, rfl, rfl, rfl, rfl, rfl, rfl, rfl, rfl, rfl, rfl, rfl, rfl, rfl, rfl, rfl, rfl, rfl, rfl, rfl, trivial⟩
          have M4 := M3.grow hb5
          have hO4 := hO3.grow hb5
          clear hK K0 e0 K1 e1 K2 e2 K3 e3 K4 e4 K5 e5 K6 e6 K7 e7 K8 e8 K9 e9 K10 e10
          clear F16 M3
          refine nx ?_
          refine wp_seq ?_
          refine wsl ?_
          refine mvS F17 rfl rfl rfl rfl rfl fun a18 F18 => ?_
          refine sr (v := (.bool false)) F18 (run_not rfl (F18.ev 36 rfl)) rfl rfl rfl fun a19 F19 => ?_
          refine sn ?_
          clear F17 F18
          refine cfs (F19.ev 37 rfl) ?_
          refine wsl ?_
          refine mvS F19 rfl rfl rfl rfl rfl fun a20 F20 => ?_
          refine sr (v := (.pointer (some ⟨gp, 0, none⟩))) F20 (run_nilp rfl (F20.ev 38 rfl)) rfl rfl rfl fun a21 F21 => ?_
          refine sr F21 (run_fldA (m := 1) (s := 2) rfl (F21.ev 39 rfl) Tryd.underlying108 rfl rfl (by kernel_rfl) (by decide)) rfl rfl rfl fun a22 F22 => ?_
          refine sr (v := (.slice (some ⟨ga, 0, none⟩) s.length s.length)) F22 (run_ldF rfl (F22.ev 40 rfl) (M4.at 1 rfl) rfl (by kernel_rfl)) rfl rfl rfl fun a23 F23 => ?_
          refine mvS F23 rfl rfl rfl rfl rfl fun a24 F24 => ?_
          refine mvS F24 rfl rfl rfl rfl rfl fun a25 F25 => ?_
          refine sr (v := (.pointer (some ⟨ga, i, none⟩))) F25 (run_idxI (i := i) rfl (F25.ev 41 rfl) (F25.ev 42 rfl) rfl (by omega)) rfl rfl rfl fun a26 F26 => ?_
          refine sqSetI (j := 2) (zs := zs2) F26 M4 rfl rfl rfl (F26.ev 44 rfl) (F26.ev 43 rfl) rfl (by omega) fun a27 w6 hgr6 F27 M5 => ?_
          have hO5 := hO4.upd 2 (S2 := isB 3 (cellsI (zs2.set i (j : Int)))) rfl hgr6
          refine sn ?_
          clear F19 F20 F21 F22 F23 F24 F25 F26 M4
          obtain ⟨KL, hKL⟩ : ∃ KL, KL = [kval (.pointer (some ⟨gp, 0, none⟩)), kval (.pointer (some ⟨gp, 0, none⟩)), kval (.pointer (some ⟨gp, 1, none⟩)), kval (.map (some gm)), kval (.agg (cells8 K)), kval (.int .i64 (i : Int))] := ⟨_, rfl⟩
          have K0 := getK hKL 0
          have K1 := getK hKL 1
          have K2 := getK hKL 2
          have K3 := getK hKL 3
          have K4 := getK hKL 4
          have K5 := getK hKL 5
          have HKL : KL.length ≤ 6 := by rw [hKL]; exact Nat.le_refl _
          clear hKL
          refine wp_region_kdTail2 51 6 (by kernel_rfl) (by kernel_rfl) (by kernel_rfl) (by kernel_rfl) F27.size KL HKL ?_ ?_
          · refine ⟨?_, ?_, ?_, ?_, ?_, ?_, trivial⟩
            · exact asksHY rfl fun a W hS hh hd => giv_run (run_mv rfl (eval_tmp (hh 0 _ rfl (F27.at 0 rfl)))) K0
            · exact asksHY rfl fun a W hS hh hd => giv_run (run_nilp rfl (eval_tmp (hd.vl 0 45 (by kernel_rfl) K0))) K1
            · exact asksHY rfl fun a W hS hh hd => giv_run (run_fldA (m := 1) (s := 1) rfl (eval_tmp (hd.vl 1 46 (by kernel_rfl) K1)) Tryd.underlying108 rfl rfl (by kernel_rfl) (by decide)) K2
            · exact asksHY rfl fun a W hS hh hd => giv_run (run_ldF rfl (eval_tmp (hd.vl 2 47 (by kernel_rfl) K2)) ((M5.grow hS).at 1 rfl) rfl (by kernel_rfl)) K3
            · exact asksHY rfl fun a W hS hh hd => giv_run (run_ldB rfl (eval_tmp (hh 7 _ rfl (F27.at 7 rfl))) ((M5.grow hS).at 0 rfl) Tryd.underlying136 rfl sz4 (szOf hk4)) K4
            · exact asksHY rfl fun a W hS hh hd => giv_run (run_mv rfl (eval_tmp (hh 6 _ rfl (F27.at 6 rfl)))) K5
          · intro a28 w7 hb7 hK
            have e0 := hK.hvl 0 45 rfl (by kernel_rfl) K0
            have e1 := hK.hvl 1 46 rfl (by kernel_rfl) K1
            have e2 := hK.hvl 2 47 rfl (by kernel_rfl) K2
            have e3 := hK.hvl 3 48 rfl (by kernel_rfl) K3
            have e4 := hK.hvl 4 49 rfl (by kernel_rfl) K4
            have e5 := hK.hvl 5 50 rfl (by kernel_rfl) K5
            have F28 : Fr a28 51 [(0, (.pointer (some ⟨gp, 0, none⟩))), (1, (.int .i64 (p : Int))), (2, (.int .i64 (n : Int))), (6, (.int .i64 (i : Int))), (7, (.pointer (some ⟨g2, 0, none⟩))), (8, (.bool true)), (9, (.int .i64 (j : Int))), (10, (.bool true)), (12, (.int .i64 (i : Int))), (13, (.int .i64 (p : Int))), (14, (.int .i64 (n : Int))), (15, (.int .i64 ((p + n : Nat) : Int))), (16, (.bool true)), (19, (.tuple #[(.agg (cells8 K)), (.bool true)])), (20, (.pointer (some ⟨gp, 0, none⟩))), (21, (.int .i64 (i : Int))), (22, (.tuple #[(.agg (cells8 K)), (.bool true)])), (23, (.agg (cells8 K))), (24, (.bool true)), (25, (.bool true)), (26, (.bool false)), (36, (.bool true)), (37, (.bool false)), (38, (.pointer (some ⟨gp, 0, none⟩))), (39, (.pointer (some ⟨gp, 0, none⟩))), (40, (.pointer (some ⟨gp, 2, none⟩))), (41, (.slice (some ⟨ga, 0, none⟩) s.length s.length)), (42, (.int .i64 (i : Int))), (43, (.int .i64 (j : Int))), (44, (.pointer (some ⟨ga, i, none⟩))), (48, (.map (some gm))), (49, (.agg (cells8 K))), (50, (.int .i64 (i : Int)))] := (hK.hfr F27 [_, _, _, _, _, _] ⟨e0, e1, e2, e3, e4, e5, trivial⟩).sub ⟨rfl, rfl, rfl, rfl, rfl, rfl, rfl, rfl, rfl, rfl, rfl, rfl, rfl, rfl, rfl, rfl, rfl, rfl, rfl, rfl, rfl, rfl, rfl, rfl, rfl, rfl, rfl, rfl, rfl, rfl, rfl, rfl, rfl, trivial⟩
            have M6 := M5.grow hb7
            have hO6 := hO5.grow hb7
            clear hK K0 e0 K1 e1 K2 e2 K3 e3 K4 e4 K5 e5 HKL
            simp only [List.drop_succ_cons, List.drop_zero]
            refine sqMap4Put (i := 3) (k := i) F28 M6 rfl rfl rfl (F28.ev 48 rfl) (F28.ev 49 rfl) (F28.ev 50 rfl) rfl hk4 (by unfold maxLen; omega) (by unfold maxLen; omega) fun a29 w8 hgr8 F29 M7 => ?_
            have hO7 := hO6.upd 3 (S2 := isMap4 (putF f2 K i) (k2 + 1)) rfl hgr8
            refine sqEnd ?_
            clear F27 F28 M5 M6
            refine bkEnd ?_
            refine nx ?_
            refine wp_region_lit ?_
            refine mvS F29 rfl rfl rfl rfl rfl fun a30 F30 => ?_
            refine sr F30 (run_add (r := ((i + 1 : Nat) : Int)) rfl (F30.ev 17 rfl) rfl (by rw [IntKind.wrap_i64]; omega)) rfl rfl rfl fun a31 F31 => ?_
            refine asS F31 rfl rfl rfl rfl rfl fun a32 F32 => ?_
            refine sn ?_
            clear F29 F30 F31
            exact ⟨_, by omega, i + 1, _, _, _, by omega, by omega, rfl, hpd2.next hK (by omega) (by rw [hl]; rfl), hO7.sub (.cons _ (.refl _)), F32.sub ⟨rfl, rfl, rfl, rfl, trivial⟩, M7.sub (.cons _ (.refl _))⟩
  · have hie : i = p + n := by omega
    have hpe : Passed s f2 k2 zs2 (p + n) := by rw [← hie]; exact hpd2
    refine wp_seq ?_
    refine wsl ?_
    refine mvS F0 rfl rfl rfl rfl rfl fun a1 F1 => ?_
    refine mvS F1 rfl rfl rfl rfl rfl fun a2 F2 => ?_
    refine mvS F2 rfl rfl rfl rfl rfl fun a3 F3 => ?_
    refine sr F3 (run_add (r := ((p + n : Nat) : Int)) rfl (F3.ev 13 rfl) (F3.ev 14 rfl) (by rw [IntKind.wrap_i64]; omega)) rfl rfl rfl fun a4 F4 => ?_
    refine sr (v := (.bool false)) F4 (run_lss rfl (F4.ev 12 rfl) (F4.ev 15 rfl) (decide_eq_false (by omega))) rfl rfl rfl fun a5 F5 => ?_
    refine sn ?_
    clear F0 F1 F2 F3 F4
    refine wp_cond_false (F5.ev 16 rfl) ?_
    refine wp_exit ?_
    refine nxExit ?_
    refine nxExit ?_
    refine bkHere ?_
    exact end0 F5 rfl ⟨_, rfl, f2, k2, zs2, hpe, hO0.sub (.refl _), M0.sub (.refl _)⟩
end Go.Proofs.YtdjjiblijbjobaaDoor
/- The walk of lz.Pack. Printed by gen_lz7.py. -/
namespace Go.Proofs.YtdjjiblijbjobaaDoor
open Go.RowKit

set_option maxRecDepth 100000 in
set_option maxHeartbeats 1000000 in
theorem zpack_any (s : List UInt8) (w : World) (hs : s.length ≤ 2 ^ 32) : Calls Tryd.prog 41 #[.string ⟨s.toArray⟩] w fun e w' => e = .returned (.string ⟨(packS s).toArray⟩) ∧ Below w.heap.size w w' := by
  refine walk_enter Tryd.func41 rfl rfl rfl fun a0 F0 => ?_
  have M0 := Mem.new w
  refine wsl ?_
  refine sr (v := (.string ⟨List.toArray []⟩)) F0 (run_as rfl rfl) rfl rfl rfl fun a1 F1 => ?_
  refine sn ?_
  clear F0
  refine wsl ?_
  refine mvS F1 rfl rfl rfl rfl rfl fun a2 F2 => ?_
  refine sqMakeMap4 F2 M0 rfl rfl (fun q hq => by cases hq) rfl (by decide) fun g0 a3 w1 hgg0 hb1 F3 M1 => ?_
  refine mvS F3 rfl rfl rfl rfl rfl fun a4 F4 => ?_
  refine sr F4 (run_len rfl (F4.ev 11 rfl) rfl Tryd.underlying9) rfl rfl rfl fun a5 F5 => ?_
  refine sqMakeI (m := s.length) F5 M1 rfl rfl (F5.ev 12 rfl) (F5.ev 12 rfl) rfl rfl (by omega) rfl (by decide) fun g1 a6 w2 hgg1 hb2 F6 M2 => ?_
  refine sr (v := (.agg #[.string ⟨s.toArray⟩, .map (some g0), .slice (some ⟨g1, 0, none⟩) s.length s.length])) F6 (run_blt (vs := #[(0, .string ⟨s.toArray⟩), (1, .map (some g0)), (2, .slice (some ⟨g1, 0, none⟩) s.length s.length)]) (cs := #[.string ⟨s.toArray⟩, .map (some g0), .slice (some ⟨g1, 0, none⟩) s.length s.length]) rfl (bltE3 (F6.ev 9 rfl) (F6.ev 10 rfl) (F6.ev 13 rfl)) (by kernel_rfl)) rfl rfl rfl fun a7 F7 => ?_
  refine sqNew (cs := #[.string ⟨List.toArray []⟩, .map none, .slice none 0 0]) (t := 108) F7 M2 (wantedS rfl) (run_alloc rfl (by kernel_rfl)) rfl (by decide) fun g2 a8 w3 hgg2 hb3 F8 M3 => ?_
  refine sqStore (i := 0) F8 M3 rfl rfl rfl (F8.ev 3 rfl) (F8.ev 14 rfl) rfl szPast rfl rfl (arr_one rfl) fun a9 w4 F9 M4 => ?_
  refine sn ?_
  clear F1 F2 F3 F4 F5 F6 F7 F8 M0 M1 M2 M3
  refine wsl ?_
  refine sr (v := (.slice none 0 0)) F9 (run_as rfl rfl) rfl rfl rfl fun a10 F10 => ?_
  refine sn ?_
  clear F9
  refine wsl ?_
  refine sr (v := (.int .i64 0)) F10 (run_as rfl rfl) rfl rfl rfl fun a11 F11 => ?_
  refine sn ?_
  clear F10
  refine wp_seq ?_
  refine wsl ?_
  refine sr (v := (.int .i64 0)) F11 (run_as rfl rfl) rfl rfl rfl fun a12 F12 => ?_
  refine sn ?_
  clear F11
  refine wp_block ?_
  have hN := OwnR.nil w w4 [(g2, isB 108 (#[.string ⟨s.toArray⟩, .map (some g0), .slice (some ⟨g1, 0, none⟩) s.length s.length])), (g1, isB 3 (cellsI (List.replicate s.length 0))), (g0, isMap4 (fun _ => none) 0)] 5 1
  refine wkLoop (fun m a w2 => ∃ (b : List UInt8) (al p : Nat) (f : List UInt8 → Option Nat) (k : Nat) (zs : List Int) (r : Value), al ≤ p ∧ p ≤ s.length ∧ m = s.length - p ∧ b ++ packT s al p = packS s ∧ Passed s f k zs p ∧ OwnR w [(g2, isB 108 #[.string ⟨s.toArray⟩, .map (some g0), .slice (some ⟨g1, 0, none⟩) s.length s.length]), (g1, isB 3 (cellsI zs)), (g0, isMap4 f k)] w2 5 1 r b.length (b.map cb) ∧ Fr a 60 [(0, .string ⟨s.toArray⟩), (3, .pointer (some ⟨g2, 0, none⟩)), (4, r), (5, .int .i64 (al : Int)), (6, .int .i64 (p : Int))] ∧ Mem w [(g2, isB 108 #[.string ⟨s.toArray⟩, .map (some g0), .slice (some ⟨g1, 0, none⟩) s.length s.length]), (g1, isB 3 (cellsI zs)), (g0, isMap4 f k)] w2) s.length ⟨[], 0, 0, fun _ => none, 0, List.replicate s.length 0, .slice none 0 0, Nat.le_refl _, Nat.zero_le _, rfl, rfl, ⟨Nat.le_refl _, List.length_replicate, fun K _ => rfl, fun i hi => by omega⟩, hN, F12.sub ⟨rfl, rfl, rfl, rfl, rfl, trivial⟩, M4⟩ ?_
  rintro m a0 w1 ⟨b, al, p, f, k, zs, r, hal, hp, rfl, he, hpd, hO0, F0, M0⟩
  have hpk := pack_len s
  have hol : b.length + (packT s al p).length = (packS s).length := by rw [← he, List.length_append]
  have hpl : ((s.drop al).take (p - al)).length = p - al := by rw [List.length_take, List.length_drop]; omega
  by_cases h1 : p < s.length
  · rw [packT_step al h1] at he
    have h4e := best4_eq s p (min p 65535)
    by_cases h4 : (bestS s p).1 < 4
    · rw [if_pos h4] at he
      obtain ⟨n, far, hb4, hn⟩ : ∃ n far : Nat, best4 s p (min p 65535) = (n, far) ∧ n < 4 := ⟨0, 0, by rw [h4e, if_neg (by unfold bestS at h4; omega)], by decide⟩
      refine wp_seq ?_
      refine wsl ?_
      refine mvS F0 rfl rfl rfl rfl rfl fun a1 F1 => ?_
      refine mvS F1 rfl rfl rfl rfl rfl fun a2 F2 => ?_
      refine sr F2 (run_len rfl (F2.ev 16 rfl) rfl Tryd.underlying9) rfl rfl rfl fun a3 F3 => ?_
      refine sr (v := (.bool true)) F3 (run_lss rfl (F3.ev 15 rfl) (F3.ev 17 rfl) (decide_eq_true (by omega))) rfl rfl rfl fun a4 F4 => ?_
      refine sn ?_
      clear F0 F1 F2 F3
      refine cts (F4.ev 18 rfl) ?_
      refine wp_block ?_
      refine wsl ?_
      refine mvS F4 rfl rfl rfl rfl rfl fun a5 F5 => ?_
      refine sqC (v := (.tuple #[(.int .i64 (n : Int)), (.int .i64 (far : Int))])) F5 M0 (wantedS rfl) (run_call rfl Tryd.func73 (by kernel_rfl) rfl (mapE2 (F5.ev 3 rfl) (F5.ev 20 rfl))) rfl (by decide) ((by have hq := zbest_any s f zs g2 g0 g1 k p w1 (M0.at 0 rfl) (M0.ob 2 rfl) (M0.at 1 rfl) hs (by omega) hpd.2.2.1 hpd.2.2.2; rw [hb4] at hq; exact hq)) fun a6 w2 hb2 F6 M1 => ?_
      have hO1 := hO0.grow hb2
      refine mvS F6 rfl rfl rfl rfl rfl fun a7 F7 => ?_
      refine sr (v := (.int .i64 (n : Int))) F7 (run_ext rfl (F7.ev 19 rfl) rfl) rfl rfl rfl fun a8 F8 => ?_
      refine sr (v := (.int .i64 (far : Int))) F8 (run_ext rfl (F8.ev 19 rfl) rfl) rfl rfl rfl fun a9 F9 => ?_
      refine asS F9 rfl rfl rfl rfl rfl fun a10 F10 => ?_
      refine asS F10 rfl rfl rfl rfl rfl fun a11 F11 => ?_
      refine sn ?_
      clear F4 F5 F6 F7 F8 F9 F10 M0
      refine wp_seq ?_
      refine wsl ?_
      refine mvS F11 rfl rfl rfl rfl rfl fun a12 F12 => ?_
      refine sr (v := (.bool true)) F12 (run_lss rfl (F12.ev 24 rfl) rfl (decide_eq_true (by omega))) rfl rfl rfl fun a13 F13 => ?_
      refine sn ?_
      clear F11 F12
      refine wp_cond_true (F13.ev 25 rfl) ?_
      refine wsl ?_
      refine mvS F13 rfl rfl rfl rfl rfl fun a14 F14 => ?_
      refine sqT (T := fun _ wx => ∃ (f2 : List UInt8 → Option Nat) (k2 : Nat) (zs2 : List Int), Passed s f2 k2 zs2 (p + 1) ∧ OwnR w [(g2, isB 108 #[.string ⟨s.toArray⟩, .map (some g0), .slice (some ⟨g1, 0, none⟩) s.length s.length]), (g1, isB 3 (cellsI zs2)), (g0, isMap4 f2 k2)] wx 5 1 r b.length (b.map cb) ∧ Mem w [(g2, isB 108 #[.string ⟨s.toArray⟩, .map (some g0), .slice (some ⟨g1, 0, none⟩) s.length s.length]), (g1, isB 3 (cellsI zs2)), (g0, isMap4 f2 k2)] wx) F14 (wantedS rfl) (run_call rfl Tryd.func74 (by kernel_rfl) rfl (mapE3 (F14.ev 3 rfl) (F14.ev 26 rfl) rfl)) rfl (by decide) (zpass_any s b f zs g2 g0 g1 k p 1 r w _ [] (M1.sub (.refl _)) (hO1.sub (.refl _)) hs (by omega) hpd) fun u3 a15 w3 hT3 F15 => ?_
      obtain ⟨f2, k2, zs2, hpd2, hO2, M2⟩ := hT3
      refine sn ?_
      clear F13 F14 M1
      refine wsl ?_
      refine mvS F15 rfl rfl rfl rfl rfl fun a16 F16 => ?_
      refine sr F16 (run_add (r := ((p + 1 : Nat) : Int)) rfl (F16.ev 28 rfl) rfl (by rw [IntKind.wrap_i64]; omega)) rfl rfl rfl fun a17 F17 => ?_
      refine asS F17 rfl rfl rfl rfl rfl fun a18 F18 => ?_
      refine sn ?_
      clear F15 F16 F17
      refine wp_exit ?_
      refine nxExit ?_
      refine bkHere ?_
      refine nx ?_
      exact ⟨_, by omega, b, al, p + 1, f2, k2, zs2, r, by omega, by omega, rfl, he, hpd2, hO2, F18.sub ⟨rfl, rfl, rfl, rfl, rfl, trivial⟩, M2⟩
    · rw [if_neg h4] at he
      obtain ⟨q1, q2, q3, q4, q5⟩ := bestS_spec (s := s) (at' := p) (by omega)
      have hms : mostS s p = min 131 (s.length - p) := rfl
      obtain ⟨n, hn⟩ : ∃ n, (bestS s p).1 = n := ⟨_, rfl⟩
      obtain ⟨far, hfr⟩ : ∃ far, (bestS s p).2 = far := ⟨_, rfl⟩
      have hb4 : best4 s p (min p 65535) = (n, far) := by rw [h4e, if_pos (by unfold bestS at h4; omega), ← hn, ← hfr]; rfl
      rw [hn, hfr] at he
      rw [hfr] at q1 q2 q3
      rw [hn] at q5 h4
      have k1 : (UInt8.ofNat (n + 124)).toNat = n + 124 := by rw [UInt8.toNat_ofNat']; omega
      have k2' : (UInt8.ofNat (far % 256)).toNat = far % 256 := by rw [UInt8.toNat_ofNat']; omega
      have k3 : (UInt8.ofNat (far / 256)).toNat = far / 256 := by rw [UInt8.toNat_ofNat']; omega
      have hrl := runS_len _ ((s.drop al).take (p - al)) (Nat.le_refl _)
      rw [hpl] at hrl
      refine wp_seq ?_
      refine wsl ?_
      refine mvS F0 rfl rfl rfl rfl rfl fun a1 F1 => ?_
      refine mvS F1 rfl rfl rfl rfl rfl fun a2 F2 => ?_
      refine sr F2 (run_len rfl (F2.ev 16 rfl) rfl Tryd.underlying9) rfl rfl rfl fun a3 F3 => ?_
      refine sr (v := (.bool true)) F3 (run_lss rfl (F3.ev 15 rfl) (F3.ev 17 rfl) (decide_eq_true (by omega))) rfl rfl rfl fun a4 F4 => ?_
      refine sn ?_
      clear F0 F1 F2 F3
      refine cts (F4.ev 18 rfl) ?_
      refine wp_block ?_
      refine wsl ?_
      refine mvS F4 rfl rfl rfl rfl rfl fun a5 F5 => ?_
      refine sqC (v := (.tuple #[(.int .i64 (n : Int)), (.int .i64 (far : Int))])) F5 M0 (wantedS rfl) (run_call rfl Tryd.func73 (by kernel_rfl) rfl (mapE2 (F5.ev 3 rfl) (F5.ev 20 rfl))) rfl (by decide) ((by have hq := zbest_any s f zs g2 g0 g1 k p w1 (M0.at 0 rfl) (M0.ob 2 rfl) (M0.at 1 rfl) hs (by omega) hpd.2.2.1 hpd.2.2.2; rw [hb4] at hq; exact hq)) fun a6 w2 hb2 F6 M1 => ?_
      have hO1 := hO0.grow hb2
      refine mvS F6 rfl rfl rfl rfl rfl fun a7 F7 => ?_
      refine sr (v := (.int .i64 (n : Int))) F7 (run_ext rfl (F7.ev 19 rfl) rfl) rfl rfl rfl fun a8 F8 => ?_
      refine sr (v := (.int .i64 (far : Int))) F8 (run_ext rfl (F8.ev 19 rfl) rfl) rfl rfl rfl fun a9 F9 => ?_
      refine asS F9 rfl rfl rfl rfl rfl fun a10 F10 => ?_
      refine asS F10 rfl rfl rfl rfl rfl fun a11 F11 => ?_
      refine sn ?_
      clear F4 F5 F6 F7 F8 F9 F10 M0
      refine wp_seq ?_
      refine wsl ?_
      refine mvS F11 rfl rfl rfl rfl rfl fun a12 F12 => ?_
      refine sr (v := (.bool false)) F12 (run_lss rfl (F12.ev 24 rfl) rfl (decide_eq_false (by omega))) rfl rfl rfl fun a13 F13 => ?_
      refine sn ?_
      clear F11 F12
      refine cfs (F13.ev 25 rfl) ?_
      refine wsl ?_
      refine mvS F13 rfl rfl rfl rfl rfl fun a14 F14 => ?_
      refine mvS F14 rfl rfl rfl rfl rfl fun a15 F15 => ?_
      refine mvS F15 rfl rfl rfl rfl rfl fun a16 F16 => ?_
      refine mvS F16 rfl rfl rfl rfl rfl fun a17 F17 => ?_
      refine sr (v := (.string ⟨((s.drop al).take (p - al)).toArray⟩)) F17 (run_sMidE (m := al) (m2 := p) rfl rfl (F17.ev 31 rfl) (F17.ev 32 rfl) (F17.ev 33 rfl) Tryd.underlying9 (by omega) (by omega) (by omega) (by omega)) rfl rfl rfl fun a18 F18 => ?_
      refine sqT (T := fun u wx => OwnR w [(g2, isB 108 #[.string ⟨s.toArray⟩, .map (some g0), .slice (some ⟨g1, 0, none⟩) s.length s.length]), (g1, isB 3 (cellsI zs)), (g0, isMap4 f k)] wx 5 1 u (b ++ runS ((s.drop al).take (p - al))).length ((b ++ runS ((s.drop al).take (p - al))).map cb) ∧ Mem w [(g2, isB 108 #[.string ⟨s.toArray⟩, .map (some g0), .slice (some ⟨g1, 0, none⟩) s.length s.length]), (g1, isB 3 (cellsI zs)), (g0, isMap4 f k)] wx) F18 (wantedS rfl) (run_call rfl Tryd.func75 (by kernel_rfl) rfl (mapE2 (F18.ev 30 rfl) (F18.ev 34 rfl))) rfl (by decide) (zrun_any b ((s.drop al).take (p - al)) r w _ _ M1 hO1 (by omega)) fun u4 a19 w3 hT3 F19 => ?_
      obtain ⟨hO2, M2⟩ := hT3
      refine asS F19 rfl rfl rfl rfl rfl fun a20 F20 => ?_
      refine sn ?_
      clear F13 F14 F15 F16 F17 F18 F19 M1
      refine wsl ?_
      refine mvS F20 rfl rfl rfl rfl rfl fun a21 F21 => ?_
      refine mvS F21 rfl rfl rfl rfl rfl fun a22 F22 => ?_
      refine sr F22 (run_add (r := ((n + 124 : Nat) : Int)) rfl (F22.ev 37 rfl) rfl (by rw [IntKind.wrap_i64]; omega)) rfl rfl rfl fun a23 F23 => ?_
      refine sr F23 (run_cvI (r := ((UInt8.ofNat (n + 124)).toNat : Int)) rfl (F23.ev 38 rfl) Tryd.underlying3 Tryd.underlying5 (by rw [k1, IntKind.wrap_u8]; omega)) rfl rfl rfl fun a24 F24 => ?_
      refine mvS F24 rfl rfl rfl rfl rfl fun a25 F25 => ?_
      refine sr F25 (run_cvI (r := ((UInt8.ofNat (far % 256)).toNat : Int)) rfl (F25.ev 40 rfl) Tryd.underlying3 Tryd.underlying5 (by rw [k2', IntKind.wrap_u8]; omega)) rfl rfl rfl fun a26 F26 => ?_
      refine mvS F26 rfl rfl rfl rfl rfl fun a27 F27 => ?_
      refine sr (v := (.int .i64 ((far / 256 : Nat) : Int))) F27 (run_shr (r := ((far / 256 : Nat) : Int)) rfl (F27.ev 42 rfl) rfl (by omega) (by first | decide | (simp [IntKind.bits]; omega)) (by show (far : Int) / 2 ^ 8 = _; omega)) rfl rfl rfl fun a28 F28 => ?_
      refine sr F28 (run_cvI (r := ((UInt8.ofNat (far / 256)).toNat : Int)) rfl (F28.ev 43 rfl) Tryd.underlying3 Tryd.underlying5 (by rw [k3, IntKind.wrap_u8]; omega)) rfl rfl rfl fun a29 F29 => ?_
      refine sqBytes [(UInt8.ofNat (n + 124)), (UInt8.ofNat (far % 256)), (UInt8.ofNat (far / 256))] F29 M2 (wantedS rfl) (run_bytes3 rfl (F29.ev 39 rfl) (F29.ev 41 rfl) (F29.ev 44 rfl)) rfl (by decide) fun g5 a30 w4 hgg5 hb4 F30 M3 => ?_
      have hO3 := hO2.add (S := isB 5 (cells8 [(UInt8.ofNat (n + 124)), (UInt8.ofNat (far % 256)), (UInt8.ofNat (far / 256))])) hb4 hgg5
      refine sqAppendB (l := [(UInt8.ofNat (n + 124)), (UInt8.ofNat (far % 256)), (UInt8.ofNat (far / 256))]) (b := (b ++ runS ((s.drop al).take (p - al)))) F30 M3 hO3 rfl rfl (F30.ev 36 rfl) (F30.ev 45 rfl) rfl (M3.at 0 rfl) (by simp; omega) rfl (by decide) fun v6 a31 w5 hO4 M4 F31 => ?_
      refine asS F31 rfl rfl rfl rfl rfl fun a32 F32 => ?_
      refine sn ?_
      clear F20 F21 F22 F23 F24 F25 F26 F27 F28 F29 F30 F31 M2 M3
      refine wsl ?_
      refine mvS F32 rfl rfl rfl rfl rfl fun a33 F33 => ?_
      refine mvS F33 rfl rfl rfl rfl rfl fun a34 F34 => ?_
      refine sqT (T := fun _ wx => ∃ (f2 : List UInt8 → Option Nat) (k2 : Nat) (zs2 : List Int), Passed s f2 k2 zs2 (p + n) ∧ OwnR w [(g2, isB 108 #[.string ⟨s.toArray⟩, .map (some g0), .slice (some ⟨g1, 0, none⟩) s.length s.length]), (g1, isB 3 (cellsI zs2)), (g0, isMap4 f2 k2)] wx 5 1 v6 ((b ++ runS ((s.drop al).take (p - al))) ++ [(UInt8.ofNat (n + 124)), (UInt8.ofNat (far % 256)), (UInt8.ofNat (far / 256))]).length (((b ++ runS ((s.drop al).take (p - al))) ++ [(UInt8.ofNat (n + 124)), (UInt8.ofNat (far % 256)), (UInt8.ofNat (far / 256))]).map cb) ∧ Mem w [(g2, isB 108 #[.string ⟨s.toArray⟩, .map (some g0), .slice (some ⟨g1, 0, none⟩) s.length s.length]), (g1, isB 3 (cellsI zs2)), (g0, isMap4 f2 k2)] wx) F34 (wantedS rfl) (run_call rfl Tryd.func74 (by kernel_rfl) rfl (mapE3 (F34.ev 3 rfl) (F34.ev 47 rfl) (F34.ev 48 rfl))) rfl (by decide) (zpass_any s ((b ++ runS ((s.drop al).take (p - al))) ++ [(UInt8.ofNat (n + 124)), (UInt8.ofNat (far % 256)), (UInt8.ofNat (far / 256))]) f zs g2 g0 g1 k p n v6 w _ [] (M4.sub (.cons _ (.refl _))) (hO4.sub (.cons _ (.refl _))) hs (by omega) hpd) fun u7 a35 w6 hT6 F35 => ?_
      obtain ⟨f2, k2, zs2, hpd2, hO5, M5⟩ := hT6
      refine sn ?_
      clear F32 F33 F34 M4
      refine wsl ?_
      refine mvS F35 rfl rfl rfl rfl rfl fun a36 F36 => ?_
      refine mvS F36 rfl rfl rfl rfl rfl fun a37 F37 => ?_
      refine sr F37 (run_add (r := ((p + n : Nat) : Int)) rfl (F37.ev 50 rfl) (F37.ev 51 rfl) (by rw [IntKind.wrap_i64]; omega)) rfl rfl rfl fun a38 F38 => ?_
      refine asS F38 rfl rfl rfl rfl rfl fun a39 F39 => ?_
      refine sn ?_
      clear F35 F36 F37 F38
      refine wp_region_lit ?_
      refine mvS F39 rfl rfl rfl rfl rfl fun a40 F40 => ?_
      refine asS F40 rfl rfl rfl rfl rfl fun a41 F41 => ?_
      refine sqEnd ?_
      clear F39 F40
      refine bkEnd ?_
      refine nx ?_
      exact ⟨_, by omega, _, p + n, p + n, f2, k2, zs2, v6, Nat.le_refl _, by omega, rfl, by rw [← he]; simp [copyT], hpd2, hO5, F41.sub ⟨rfl, rfl, rfl, rfl, rfl, trivial⟩, M5⟩
  · have hpe : p = s.length := by omega
    rw [packT_end al (by omega)] at he
    have hdl : (s.drop al).length = s.length - al := List.length_drop
    refine wp_seq ?_
    refine wsl ?_
    refine mvS F0 rfl rfl rfl rfl rfl fun a1 F1 => ?_
    refine mvS F1 rfl rfl rfl rfl rfl fun a2 F2 => ?_
    refine sr F2 (run_len rfl (F2.ev 16 rfl) rfl Tryd.underlying9) rfl rfl rfl fun a3 F3 => ?_
    refine sr (v := (.bool false)) F3 (run_lss rfl (F3.ev 15 rfl) (F3.ev 17 rfl) (decide_eq_false (by omega))) rfl rfl rfl fun a4 F4 => ?_
    refine sn ?_
    clear F0 F1 F2 F3
    refine wp_cond_false (F4.ev 18 rfl) ?_
    refine wp_exit ?_
    refine nxExit ?_
    refine nxExit ?_
    refine bkHere ?_
    refine nx ?_
    refine wsl ?_
    refine mvS F4 rfl rfl rfl rfl rfl fun a5 F5 => ?_
    refine mvS F5 rfl rfl rfl rfl rfl fun a6 F6 => ?_
    refine mvS F6 rfl rfl rfl rfl rfl fun a7 F7 => ?_
    refine sr (v := (.string ⟨(s.drop al).toArray⟩)) F7 (run_sFrom (m := al) rfl (F7.ev 55 rfl) (F7.ev 56 rfl) Tryd.underlying9 (by omega) (by omega)) rfl rfl rfl fun a8 F8 => ?_
    refine sqT (T := fun u wx => OwnR w [(g2, isB 108 #[.string ⟨s.toArray⟩, .map (some g0), .slice (some ⟨g1, 0, none⟩) s.length s.length]), (g1, isB 3 (cellsI zs)), (g0, isMap4 f k)] wx 5 1 u (b ++ runS (s.drop al)).length ((b ++ runS (s.drop al)).map cb) ∧ Mem w [(g2, isB 108 #[.string ⟨s.toArray⟩, .map (some g0), .slice (some ⟨g1, 0, none⟩) s.length s.length]), (g1, isB 3 (cellsI zs)), (g0, isMap4 f k)] wx) F8 (wantedS rfl) (run_call rfl Tryd.func75 (by kernel_rfl) rfl (mapE2 (F8.ev 54 rfl) (F8.ev 57 rfl))) rfl (by decide) (zrun_any b (s.drop al) r w _ _ M0 hO0 (by omega)) fun u8 a9 w2 hT2 F9 => ?_
    obtain ⟨hO1, M1⟩ := hT2
    refine sr (v := (.string ⟨(b ++ runS (s.drop al)).toArray⟩)) F9 (run_strO hO1 rfl (F9.ev 58 rfl)) rfl rfl rfl fun a10 F10 => ?_
    refine asS F10 rfl rfl rfl rfl rfl fun a11 F11 => ?_
    refine sn ?_
    clear F4 F5 F6 F7 F8 F9 F10 M0
    refine wp_ret ?_
    exact ret1 F11 rfl rfl ⟨by rw [← he], M1.below⟩
end Go.Proofs.YtdjjiblijbjobaaDoor
