/- The walks of lz.run, lz.token and lz.Unpack. Printed by gen_lz1.py. -/
import Derived.Test.YtpobmaklgnioeaaDoorLzW
import Derived.Test.YtpobmaklgnioeaaDoorLzS
namespace Go.Proofs.YtpobmaklgnioeaaDoor
open Go.RowKit

set_option maxRecDepth 100000 in
set_option maxHeartbeats 1000000 in
theorem zrun_any (b l : List UInt8) (v : Value) (w0 w : World) (M : List (Nat × (Obj → Prop))) (hM : Mem w0 M w) (hO : OwnR w0 M w 5 1 v b.length (b.map cb)) (hlen : b.length + 2 * l.length ≤ 2 ^ 40) :
    Calls Tryd.prog 55 #[v, .string ⟨l.toArray⟩] w fun e w' => ∃ u, e = .returned u ∧ OwnR w0 M w' 5 1 u (b ++ runS l).length ((b ++ runS l).map cb) ∧ Mem w0 M w' := by
  refine walk_enter Tryd.func55 rfl rfl rfl fun a0 hF0 => ?_
  have hM0 := hM
  refine wp_seq ?_
  refine wp_region_lit ?_
  refine sq (v := (.slice none 0 0)) hF0 (wantedS rfl) (run_as rfl rfl) rfl (by decide) fun a1 hF1 => ?_
  refine sqEnd ?_
  clear hF0
  refine nx ?_
  refine wp_seq ?_
  refine wp_block ?_
  refine wkLoop (fun m a w2 => ∃ (b2 l2 : List UInt8) (r : Value), m = l2.length ∧ b2 ++ runS l2 = b ++ runS l ∧ b2.length + 2 * l2.length ≤ 2 ^ 40 ∧ OwnR w0 M w2 5 1 r (b2).length ((b2).map cb) ∧ Fr a 27 [(0, r), (1, .string ⟨l2.toArray⟩)] ∧ Mem w0 M w2) l.length ⟨b, l, v, rfl, rfl, hlen, hO, hF1.sub ⟨rfl, rfl, trivial⟩, hM0⟩ ?_
  rintro m a0 w1 ⟨b2, l2, r, rfl, he, hlen2, hO0, hF0, hM0⟩
  by_cases hlt : 0 < l2.length
  · have hne : l2 ≠ [] := List.length_pos_iff.1 hlt
    have hk : (UInt8.ofNat (min l2.length 128 - 1)).toNat = min l2.length 128 - 1 := by rw [UInt8.toNat_ofNat']; omega
    obtain ⟨k, hkk⟩ : ∃ k, min l2.length 128 = k := ⟨_, rfl⟩
    rw [hkk] at hk
    have hk1 : 0 < k ∧ k ≤ 128 ∧ k ≤ l2.length := by omega
    refine wp_seq ?_
    refine wp_seq ?_
    refine wp_region_lit ?_
    refine sq (v := (.string ⟨l2.toArray⟩)) hF0 (wantedS rfl) (run_mv rfl (hF0.ev 1 rfl)) rfl (by decide) fun a1 hF1 => ?_
    refine sq (v := (.int .i64 (l2.length : Int))) hF1 (wantedS rfl) (run_len rfl (hF1.ev 6 rfl) rfl Tryd.underlying9) rfl (by decide) fun a2 hF2 => ?_
    refine sq (v := (.bool true)) hF2 (wantedS rfl) (run_gtr rfl (hF2.ev 7 rfl) rfl (decide_eq_true (by omega))) rfl (by decide) fun a3 hF3 => ?_
    refine sqEnd ?_
    clear hF0 hF1 hF2
    refine nx ?_
    refine wp_cond_true (hF3.ev 8 rfl) ?_
    refine wp_skip ?_
    refine nx ?_
    refine wp_block ?_
    refine wp_seq ?_
    refine wp_region_lit ?_
    refine sq (v := (.string ⟨l2.toArray⟩)) hF3 (wantedS rfl) (run_mv rfl (hF3.ev 1 rfl)) rfl (by decide) fun a4 hF4 => ?_
    refine sq (v := (.int .i64 (l2.length : Int))) hF4 (wantedS rfl) (run_len rfl (hF4.ev 9 rfl) rfl Tryd.underlying9) rfl (by decide) fun a5 hF5 => ?_
    refine sq (v := (.int .i64 (k : Int))) hF5 (wantedS rfl) (run_min2 (r := (k : Int)) rfl (hF5.ev 10 rfl) rfl (by split <;> omega)) rfl (by decide) fun a6 hF6 => ?_
    refine sq (v := (.int .i64 (k : Int))) hF6 (wantedS rfl) (run_as rfl (hF6.ev 11 rfl)) rfl (by decide) fun a7 hF7 => ?_
    refine sqEnd ?_
    clear hF3 hF4 hF5 hF6
    refine nx ?_
    refine wp_seq ?_
    refine wp_region_lit ?_
    refine sq (v := r) hF7 (wantedS rfl) (run_mv rfl (hF7.ev 0 rfl)) rfl (by decide) fun a8 hF8 => ?_
    refine sq (v := (.int .i64 (k : Int))) hF8 (wantedS rfl) (run_mv rfl (hF8.ev 5 rfl)) rfl (by decide) fun a9 hF9 => ?_
    refine sq (v := (.int .i64 ((k - 1 : Nat) : Int))) hF9 (wantedS rfl) (run_sub (r := ((k - 1 : Nat) : Int)) rfl (hF9.ev 13 rfl) rfl (by rw [IntKind.wrap_i64]; omega)) rfl (by decide) fun a10 hF10 => ?_
    refine sq (v := (.int .u8 ((UInt8.ofNat (k - 1)).toNat : Int))) hF10 (wantedS rfl) (run_cvI (r := ((UInt8.ofNat (k - 1)).toNat : Int)) rfl (hF10.ev 14 rfl) Tryd.underlying3 Tryd.underlying5 (by rw [hk, IntKind.wrap_u8]; omega)) rfl (by decide) fun a11 hF11 => ?_
    refine sqBytes [(UInt8.ofNat (k - 1))] hF11 hM0 (wantedS rfl) (run_bytes1 rfl (hF11.ev 15 rfl)) rfl (by decide) fun g0 a12 w2 hgg0 hb2 hF12 hM1 => ?_
    have hO1 := hO0.add (S := isB 5 (cells8 [(UInt8.ofNat (k - 1))])) hb2 hgg0
    refine sqAppendB (l := [(UInt8.ofNat (k - 1))]) (b := b2) hF12 hM1 hO1 rfl rfl (hF12.ev 12 rfl) (hF12.ev 16 rfl) rfl (hM1.at 0 rfl) (by simp; omega) rfl (by decide) fun v1 a13 w3 hO2 hM2 hF13 => ?_
    refine sq (v := v1) hF13 (wantedS rfl) (run_as rfl (hF13.ev 17 rfl)) rfl (by decide) fun a14 hF14 => ?_
    refine sqEnd ?_
    clear hF7 hF8 hF9 hF10 hF11 hF12 hF13 hM0 hM1
    refine nx ?_
    refine wp_seq ?_
    refine wp_region_lit ?_
    refine sq (v := v1) hF14 (wantedS rfl) (run_mv rfl (hF14.ev 0 rfl)) rfl (by decide) fun a15 hF15 => ?_
    refine sq (v := (.string ⟨l2.toArray⟩)) hF15 (wantedS rfl) (run_mv rfl (hF15.ev 1 rfl)) rfl (by decide) fun a16 hF16 => ?_
    refine sq (v := (.int .i64 (k : Int))) hF16 (wantedS rfl) (run_mv rfl (hF16.ev 5 rfl)) rfl (by decide) fun a17 hF17 => ?_
    refine sq (v := (.string ⟨(l2.take k).toArray⟩)) hF17 (wantedS rfl) (run_sTo (n := k) rfl (hF17.ev 19 rfl) (hF17.ev 20 rfl) Tryd.underlying9 (by omega) (by omega)) rfl (by decide) fun a18 hF18 => ?_
    refine sqAppendS (l := (l2.take k)) (b := (b2 ++ [(UInt8.ofNat (k - 1))])) hF18 hM2 hO2 rfl rfl (hF18.ev 18 rfl) (hF18.ev 21 rfl) (by simp; omega) rfl (by decide) fun v2 a19 w4 hO3 hM3 hF19 => ?_
    refine sq (v := v2) hF19 (wantedS rfl) (run_as rfl (hF19.ev 22 rfl)) rfl (by decide) fun a20 hF20 => ?_
    refine sqEnd ?_
    clear hF14 hF15 hF16 hF17 hF18 hF19 hM2
    refine nx ?_
    refine wp_region_lit ?_
    refine sq (v := (.string ⟨l2.toArray⟩)) hF20 (wantedS rfl) (run_mv rfl (hF20.ev 1 rfl)) rfl (by decide) fun a21 hF21 => ?_
    refine sq (v := (.int .i64 (k : Int))) hF21 (wantedS rfl) (run_mv rfl (hF21.ev 5 rfl)) rfl (by decide) fun a22 hF22 => ?_
    refine sq (v := (.string ⟨(l2.drop k).toArray⟩)) hF22 (wantedS rfl) (run_sFrom (m := k) rfl (hF22.ev 23 rfl) (hF22.ev 24 rfl) Tryd.underlying9 (by omega) (by omega)) rfl (by decide) fun a23 hF23 => ?_
    refine sq (v := (.string ⟨(l2.drop k).toArray⟩)) hF23 (wantedS rfl) (run_as rfl (hF23.ev 25 rfl)) rfl (by decide) fun a24 hF24 => ?_
    refine sqEnd ?_
    clear hF20 hF21 hF22 hF23
    refine bkEnd ?_
    refine nx ?_
    refine ⟨_, by rw [List.length_drop]; omega, _, l2.drop k, v2, rfl, ?_, ?_, hO3.sub (.cons _ (.refl _)), hF24.sub ⟨rfl, rfl, trivial⟩, hM3.sub (.cons _ (.refl _))⟩
    · rw [← he, runS_cons hne, hkk]
      have e1 : l2.take 128 = l2.take k := by rcases Nat.lt_or_ge l2.length 128 with h | h
                                              · rw [List.take_of_length_le (by omega), List.take_of_length_le (by omega)]
                                              · rw [show k = 128 by omega]
      have e2 : l2.drop 128 = l2.drop k := by rcases Nat.lt_or_ge l2.length 128 with h | h
                                              · rw [List.drop_eq_nil_of_le (by omega), List.drop_eq_nil_of_le (by omega)]
                                              · rw [show k = 128 by omega]
      rw [e1, e2]
      simp
    · simp
      omega
  · have he0 : l2 = [] := List.length_eq_zero_iff.1 (by omega)
    have hres : b ++ runS l = b2 := by rw [← he, he0, runS_nil, List.append_nil]
    refine wp_seq ?_
    refine wp_seq ?_
    refine wp_region_lit ?_
    refine sq (v := (.string ⟨l2.toArray⟩)) hF0 (wantedS rfl) (run_mv rfl (hF0.ev 1 rfl)) rfl (by decide) fun a1 hF1 => ?_
    refine sq (v := (.int .i64 (l2.length : Int))) hF1 (wantedS rfl) (run_len rfl (hF1.ev 6 rfl) rfl Tryd.underlying9) rfl (by decide) fun a2 hF2 => ?_
    refine sq (v := (.bool false)) hF2 (wantedS rfl) (run_gtr rfl (hF2.ev 7 rfl) rfl (decide_eq_false (by omega))) rfl (by decide) fun a3 hF3 => ?_
    refine sqEnd ?_
    clear hF0 hF1 hF2
    refine nx ?_
    refine wp_cond_false (hF3.ev 8 rfl) ?_
    refine wp_exit ?_
    refine nxExit ?_
    refine nxExit ?_
    refine bkHere ?_
    refine nx ?_
    refine wp_seq ?_
    refine wp_region_lit ?_
    refine sq (v := r) hF3 (wantedS rfl) (run_mv rfl (hF3.ev 0 rfl)) rfl (by decide) fun a4 hF4 => ?_
    refine sq (v := r) hF4 (wantedS rfl) (run_as rfl (hF4.ev 26 rfl)) rfl (by decide) fun a5 hF5 => ?_
    refine sqEnd ?_
    clear hF3 hF4
    refine nx ?_
    refine wp_ret ?_
    exact ret1 hF5 rfl rfl ⟨r, rfl, by rw [hres]; exact hO0, hM0⟩
theorem i64_or2 (a b : Nat) (ha : a < 9223372036854775808) (hb : b < 9223372036854775808) : bits .or .i64 (a : Int) (b : Int) = ((a ||| b : Nat) : Int) := by
  have hx : a ||| b < 2 ^ 63 := Nat.or_lt_two_pow (by omega) (by omega)
  show IntKind.i64.wrap ((BitVec.ofInt 64 (a : Int) ||| BitVec.ofInt 64 (b : Int)).toNat : Int) = _
  have e : ∀ c : Nat, c < 9223372036854775808 → (BitVec.ofInt 64 (c : Int)).toNat = c := by
    intro c hc
    rw [BitVec.toNat_ofInt]
    omega
  rw [BitVec.toNat_or, e a ha, e b hb, IntKind.wrap_i64]
  omega
theorem or8 (n m : Nat) (hn : n < 256) (hm : m < 256) : bits .or .i64 (n : Int) ((256 * m : Nat) : Int) = ((n + 256 * m : Nat) : Int) := by
  rw [i64_or2 n _ (by omega) (by omega)]
  congr 1
  have h3 := Nat.shiftLeft_add_eq_or_of_lt (i := 8) (b := n) (by omega) m
  rw [Nat.shiftLeft_eq] at h3
  rw [Nat.or_comm, show 256 * m = m * 2 ^ 8 by omega, ← h3, Nat.add_comm]
set_option maxRecDepth 100000 in
set_option maxHeartbeats 1000000 in
theorem ztok_any (out b : List UInt8) (most : Nat) (v : Value) (w0 w : World) (M : List (Nat × (Obj → Prop))) (hM : Mem w0 M w) (hO : OwnR w0 M w 5 1 v out.length (out.map cb)) (hb : 0 < b.length) (hout : out.length ≤ 2 ^ 40) (hbl : b.length ≤ 2 ^ 40) (hmost : most ≤ maxLen) :
    Calls Tryd.prog 56 #[v, .string ⟨b.toArray⟩, .int .i64 (most : Int)] w fun e w' => ∃ r, e = .returned r ∧ ∃ u, r = .tuple #[u, .int .i64 ((tokS out b (most : Int)).2.2 : Int), .int .i64 (tokS out b (most : Int)).1] ∧ OwnR w0 M w' 5 1 u (tokS out b (most : Int)).2.1.length ((tokS out b (most : Int)).2.1.map cb) ∧ Mem w0 M w' := by
  unfold maxLen at hmost
  have h0 := (bt b 0).toNat_lt
  have h1 := (bt b 1).toNat_lt
  have h2 := (bt b 2).toNat_lt
  obtain ⟨c, hc⟩ : ∃ c, (bt b 0).toNat = c := ⟨_, rfl⟩
  obtain ⟨far, hfar⟩ : ∃ far, (bt b 1).toNat + 256 * (bt b 2).toNat = far := ⟨_, rfl⟩
  have hc' : (b.getD 0 0).toNat = c := hc
  have hfar' : (b.getD 1 0).toNat + 256 * (b.getD 2 0).toNat = far := hfar
  by_cases k1 : c < 128
  · by_cases k2 : b.length < c + 2
    · have hres : tokS out b (most : Int) = (4, [], 0) := by unfold tokS; rw [hc', if_pos k1, if_pos k2]
      refine walk_enter Tryd.func56 rfl rfl rfl fun a0 hF0 => ?_
      have hM0 := hM
      refine wp_seq ?_
      refine wp_region_lit ?_
      refine sq (v := (.slice none 0 0)) hF0 (wantedS rfl) (run_as rfl rfl) rfl (by decide) fun a1 hF1 => ?_
      refine sq (v := (.int .i64 0)) hF1 (wantedS rfl) (run_as rfl rfl) rfl (by decide) fun a2 hF2 => ?_
      refine sq (v := (.int .i64 0)) hF2 (wantedS rfl) (run_as rfl rfl) rfl (by decide) fun a3 hF3 => ?_
      refine sqEnd ?_
      clear hF0 hF1 hF2
      refine nx ?_
      refine wp_seq ?_
      refine wp_seq ?_
      refine wp_region_lit ?_
      refine sq (v := (.string ⟨b.toArray⟩)) hF3 (wantedS rfl) (run_mv rfl (hF3.ev 1 rfl)) rfl (by decide) fun a4 hF4 => ?_
      refine sq (v := (.int .u8 ((bt b 0).toNat : Int))) hF4 (wantedS rfl) (run_sAt (n := 0) rfl (hF4.ev 12 rfl) rfl Tryd.underlying9 rfl (by omega)) rfl (by decide) fun a5 hF5 => ?_
      refine sq (v := (.bool true)) hF5 (wantedS rfl) (run_lss rfl (hF5.ev 13 rfl) rfl (decide_eq_true (by omega))) rfl (by decide) fun a6 hF6 => ?_
      refine sqEnd ?_
      clear hF3 hF4 hF5
      refine nx ?_
      refine wp_cond_true (hF6.ev 14 rfl) ?_
      refine wp_seq ?_
      refine wp_region_lit ?_
      refine sq (v := (.string ⟨b.toArray⟩)) hF6 (wantedS rfl) (run_mv rfl (hF6.ev 1 rfl)) rfl (by decide) fun a7 hF7 => ?_
      refine sq (v := (.int .u8 ((bt b 0).toNat : Int))) hF7 (wantedS rfl) (run_sAt (n := 0) rfl (hF7.ev 15 rfl) rfl Tryd.underlying9 rfl (by omega)) rfl (by decide) fun a8 hF8 => ?_
      refine sq (v := (.int .i64 (c : Int))) hF8 (wantedS rfl) (run_cvI (r := (c : Int)) rfl (hF8.ev 16 rfl) Tryd.underlying5 Tryd.underlying3 (by rw [IntKind.wrap_i64]; omega)) rfl (by decide) fun a9 hF9 => ?_
      refine sq (v := (.int .i64 ((c + 1 : Nat) : Int))) hF9 (wantedS rfl) (run_add (r := ((c + 1 : Nat) : Int)) rfl (hF9.ev 17 rfl) rfl (by rw [IntKind.wrap_i64]; omega)) rfl (by decide) fun a10 hF10 => ?_
      refine sq (v := (.int .i64 ((c + 1 : Nat) : Int))) hF10 (wantedS rfl) (run_as rfl (hF10.ev 18 rfl)) rfl (by decide) fun a11 hF11 => ?_
      refine sqEnd ?_
      clear hF6 hF7 hF8 hF9 hF10
      refine nx ?_
      refine wp_seq ?_
      refine wp_seq ?_
      refine wp_region_lit ?_
      refine sq (v := (.string ⟨b.toArray⟩)) hF11 (wantedS rfl) (run_mv rfl (hF11.ev 1 rfl)) rfl (by decide) fun a12 hF12 => ?_
      refine sq (v := (.int .i64 (b.length : Int))) hF12 (wantedS rfl) (run_len rfl (hF12.ev 19 rfl) rfl Tryd.underlying9) rfl (by decide) fun a13 hF13 => ?_
      refine sq (v := (.int .i64 ((c + 1 : Nat) : Int))) hF13 (wantedS rfl) (run_mv rfl (hF13.ev 9 rfl)) rfl (by decide) fun a14 hF14 => ?_
      refine sq (v := (.int .i64 ((c + 2 : Nat) : Int))) hF14 (wantedS rfl) (run_add (r := ((c + 2 : Nat) : Int)) rfl rfl (hF14.ev 21 rfl) (by rw [IntKind.wrap_i64]; omega)) rfl (by decide) fun a15 hF15 => ?_
      refine sq (v := (.bool true)) hF15 (wantedS rfl) (run_lss rfl (hF15.ev 20 rfl) (hF15.ev 22 rfl) (decide_eq_true (by omega))) rfl (by decide) fun a16 hF16 => ?_
      refine sqEnd ?_
      clear hF11 hF12 hF13 hF14 hF15
      refine nx ?_
      refine wp_cond_true (hF16.ev 23 rfl) ?_
      refine wp_seq ?_
      refine wp_region_lit ?_
      refine sq (v := (.slice none 0 0)) hF16 (wantedS rfl) (run_as rfl rfl) rfl (by decide) fun a17 hF17 => ?_
      refine sq (v := (.int .i64 0)) hF17 (wantedS rfl) (run_as rfl rfl) rfl (by decide) fun a18 hF18 => ?_
      refine sq (v := (.int .i64 4)) hF18 (wantedS rfl) (run_as rfl rfl) rfl (by decide) fun a19 hF19 => ?_
      refine sqEnd ?_
      clear hF16 hF17 hF18
      refine nx ?_
      refine wp_ret ?_
      refine nxRet ?_
      refine nxRet ?_
      exact ret3 hF19 rfl rfl rfl rfl ⟨_, rfl, .slice none 0 0, by first | (rw [hres]; done) | (rw [hres]; rfl), by rw [hres]; exact OwnR.nil _ _ _ _ _, hM0⟩
    · by_cases k3 : (most : Int) < out.length + c + 1
      · have hres : tokS out b (most : Int) = (6, [], 0) := by unfold tokS; rw [hc', if_pos k1, if_neg k2, if_pos k3]
        refine walk_enter Tryd.func56 rfl rfl rfl fun a0 hF0 => ?_
        have hM0 := hM
        refine wp_seq ?_
        refine wp_region_lit ?_
        refine sq (v := (.slice none 0 0)) hF0 (wantedS rfl) (run_as rfl rfl) rfl (by decide) fun a1 hF1 => ?_
        refine sq (v := (.int .i64 0)) hF1 (wantedS rfl) (run_as rfl rfl) rfl (by decide) fun a2 hF2 => ?_
        refine sq (v := (.int .i64 0)) hF2 (wantedS rfl) (run_as rfl rfl) rfl (by decide) fun a3 hF3 => ?_
        refine sqEnd ?_
        clear hF0 hF1 hF2
        refine nx ?_
        refine wp_seq ?_
        refine wp_seq ?_
        refine wp_region_lit ?_
        refine sq (v := (.string ⟨b.toArray⟩)) hF3 (wantedS rfl) (run_mv rfl (hF3.ev 1 rfl)) rfl (by decide) fun a4 hF4 => ?_
        refine sq (v := (.int .u8 ((bt b 0).toNat : Int))) hF4 (wantedS rfl) (run_sAt (n := 0) rfl (hF4.ev 12 rfl) rfl Tryd.underlying9 rfl (by omega)) rfl (by decide) fun a5 hF5 => ?_
        refine sq (v := (.bool true)) hF5 (wantedS rfl) (run_lss rfl (hF5.ev 13 rfl) rfl (decide_eq_true (by omega))) rfl (by decide) fun a6 hF6 => ?_
        refine sqEnd ?_
        clear hF3 hF4 hF5
        refine nx ?_
        refine wp_cond_true (hF6.ev 14 rfl) ?_
        refine wp_seq ?_
        refine wp_region_lit ?_
        refine sq (v := (.string ⟨b.toArray⟩)) hF6 (wantedS rfl) (run_mv rfl (hF6.ev 1 rfl)) rfl (by decide) fun a7 hF7 => ?_
        refine sq (v := (.int .u8 ((bt b 0).toNat : Int))) hF7 (wantedS rfl) (run_sAt (n := 0) rfl (hF7.ev 15 rfl) rfl Tryd.underlying9 rfl (by omega)) rfl (by decide) fun a8 hF8 => ?_
        refine sq (v := (.int .i64 (c : Int))) hF8 (wantedS rfl) (run_cvI (r := (c : Int)) rfl (hF8.ev 16 rfl) Tryd.underlying5 Tryd.underlying3 (by rw [IntKind.wrap_i64]; omega)) rfl (by decide) fun a9 hF9 => ?_
        refine sq (v := (.int .i64 ((c + 1 : Nat) : Int))) hF9 (wantedS rfl) (run_add (r := ((c + 1 : Nat) : Int)) rfl (hF9.ev 17 rfl) rfl (by rw [IntKind.wrap_i64]; omega)) rfl (by decide) fun a10 hF10 => ?_
        refine sq (v := (.int .i64 ((c + 1 : Nat) : Int))) hF10 (wantedS rfl) (run_as rfl (hF10.ev 18 rfl)) rfl (by decide) fun a11 hF11 => ?_
        refine sqEnd ?_
        clear hF6 hF7 hF8 hF9 hF10
        refine nx ?_
        refine wp_seq ?_
        refine wp_seq ?_
        refine wp_region_lit ?_
        refine sq (v := (.string ⟨b.toArray⟩)) hF11 (wantedS rfl) (run_mv rfl (hF11.ev 1 rfl)) rfl (by decide) fun a12 hF12 => ?_
        refine sq (v := (.int .i64 (b.length : Int))) hF12 (wantedS rfl) (run_len rfl (hF12.ev 19 rfl) rfl Tryd.underlying9) rfl (by decide) fun a13 hF13 => ?_
        refine sq (v := (.int .i64 ((c + 1 : Nat) : Int))) hF13 (wantedS rfl) (run_mv rfl (hF13.ev 9 rfl)) rfl (by decide) fun a14 hF14 => ?_
        refine sq (v := (.int .i64 ((c + 2 : Nat) : Int))) hF14 (wantedS rfl) (run_add (r := ((c + 2 : Nat) : Int)) rfl rfl (hF14.ev 21 rfl) (by rw [IntKind.wrap_i64]; omega)) rfl (by decide) fun a15 hF15 => ?_
        refine sq (v := (.bool false)) hF15 (wantedS rfl) (run_lss rfl (hF15.ev 20 rfl) (hF15.ev 22 rfl) (decide_eq_false (by omega))) rfl (by decide) fun a16 hF16 => ?_
        refine sqEnd ?_
        clear hF11 hF12 hF13 hF14 hF15
        refine nx ?_
        refine wp_cond_false (hF16.ev 23 rfl) ?_
        refine wp_skip ?_
        refine nx ?_
        refine wp_seq ?_
        refine wp_seq ?_
        refine wp_region_lit ?_
        refine sq (v := (.int .i64 ((c + 1 : Nat) : Int))) hF16 (wantedS rfl) (run_mv rfl (hF16.ev 9 rfl)) rfl (by decide) fun a17 hF17 => ?_
        refine sq (v := (.int .i64 (most : Int))) hF17 (wantedS rfl) (run_mv rfl (hF17.ev 2 rfl)) rfl (by decide) fun a18 hF18 => ?_
        refine sq (v := v) hF18 (wantedS rfl) (run_mv rfl (hF18.ev 0 rfl)) rfl (by decide) fun a19 hF19 => ?_
        refine sq (v := (.int .i64 (out.length : Int))) hF19 (wantedS rfl) (run_lenS rfl (hF19.ev 26 rfl) (Sl.own hO) rfl Tryd.underlying37) rfl (by decide) fun a20 hF20 => ?_
        refine sq (v := (.int .i64 ((most : Int) - (out.length : Int)))) hF20 (wantedS rfl) (run_sub (r := (most : Int) - (out.length : Int)) rfl (hF20.ev 25 rfl) (hF20.ev 27 rfl) (by rw [IntKind.wrap_i64]; omega)) rfl (by decide) fun a21 hF21 => ?_
        refine sq (v := (.bool true)) hF21 (wantedS rfl) (run_gtr rfl (hF21.ev 24 rfl) (hF21.ev 28 rfl) (decide_eq_true (by omega))) rfl (by decide) fun a22 hF22 => ?_
        refine sqEnd ?_
        clear hF16 hF17 hF18 hF19 hF20 hF21
        refine nx ?_
        refine wp_cond_true (hF22.ev 29 rfl) ?_
        refine wp_seq ?_
        refine wp_region_lit ?_
        refine sq (v := (.slice none 0 0)) hF22 (wantedS rfl) (run_as rfl rfl) rfl (by decide) fun a23 hF23 => ?_
        refine sq (v := (.int .i64 0)) hF23 (wantedS rfl) (run_as rfl rfl) rfl (by decide) fun a24 hF24 => ?_
        refine sq (v := (.int .i64 6)) hF24 (wantedS rfl) (run_as rfl rfl) rfl (by decide) fun a25 hF25 => ?_
        refine sqEnd ?_
        clear hF22 hF23 hF24
        refine nx ?_
        refine wp_ret ?_
        refine nxRet ?_
        refine nxRet ?_
        exact ret3 hF25 rfl rfl rfl rfl ⟨_, rfl, .slice none 0 0, by first | (rw [hres]; done) | (rw [hres]; rfl), by rw [hres]; exact OwnR.nil _ _ _ _ _, hM0⟩
      · have hres : tokS out b (most : Int) = (0, out ++ (b.drop 1).take (c + 1), c + 2) := by unfold tokS; rw [hc', if_pos k1, if_neg k2, if_neg k3]
        refine walk_enter Tryd.func56 rfl rfl rfl fun a0 hF0 => ?_
        have hM0 := hM
        refine wp_seq ?_
        refine wp_region_lit ?_
        refine sq (v := (.slice none 0 0)) hF0 (wantedS rfl) (run_as rfl rfl) rfl (by decide) fun a1 hF1 => ?_
        refine sq (v := (.int .i64 0)) hF1 (wantedS rfl) (run_as rfl rfl) rfl (by decide) fun a2 hF2 => ?_
        refine sq (v := (.int .i64 0)) hF2 (wantedS rfl) (run_as rfl rfl) rfl (by decide) fun a3 hF3 => ?_
        refine sqEnd ?_
        clear hF0 hF1 hF2
        refine nx ?_
        refine wp_seq ?_
        refine wp_seq ?_
        refine wp_region_lit ?_
        refine sq (v := (.string ⟨b.toArray⟩)) hF3 (wantedS rfl) (run_mv rfl (hF3.ev 1 rfl)) rfl (by decide) fun a4 hF4 => ?_
        refine sq (v := (.int .u8 ((bt b 0).toNat : Int))) hF4 (wantedS rfl) (run_sAt (n := 0) rfl (hF4.ev 12 rfl) rfl Tryd.underlying9 rfl (by omega)) rfl (by decide) fun a5 hF5 => ?_
        refine sq (v := (.bool true)) hF5 (wantedS rfl) (run_lss rfl (hF5.ev 13 rfl) rfl (decide_eq_true (by omega))) rfl (by decide) fun a6 hF6 => ?_
        refine sqEnd ?_
        clear hF3 hF4 hF5
        refine nx ?_
        refine wp_cond_true (hF6.ev 14 rfl) ?_
        refine wp_seq ?_
        refine wp_region_lit ?_
        refine sq (v := (.string ⟨b.toArray⟩)) hF6 (wantedS rfl) (run_mv rfl (hF6.ev 1 rfl)) rfl (by decide) fun a7 hF7 => ?_
        refine sq (v := (.int .u8 ((bt b 0).toNat : Int))) hF7 (wantedS rfl) (run_sAt (n := 0) rfl (hF7.ev 15 rfl) rfl Tryd.underlying9 rfl (by omega)) rfl (by decide) fun a8 hF8 => ?_
        refine sq (v := (.int .i64 (c : Int))) hF8 (wantedS rfl) (run_cvI (r := (c : Int)) rfl (hF8.ev 16 rfl) Tryd.underlying5 Tryd.underlying3 (by rw [IntKind.wrap_i64]; omega)) rfl (by decide) fun a9 hF9 => ?_
        refine sq (v := (.int .i64 ((c + 1 : Nat) : Int))) hF9 (wantedS rfl) (run_add (r := ((c + 1 : Nat) : Int)) rfl (hF9.ev 17 rfl) rfl (by rw [IntKind.wrap_i64]; omega)) rfl (by decide) fun a10 hF10 => ?_
        refine sq (v := (.int .i64 ((c + 1 : Nat) : Int))) hF10 (wantedS rfl) (run_as rfl (hF10.ev 18 rfl)) rfl (by decide) fun a11 hF11 => ?_
        refine sqEnd ?_
        clear hF6 hF7 hF8 hF9 hF10
        refine nx ?_
        refine wp_seq ?_
        refine wp_seq ?_
        refine wp_region_lit ?_
        refine sq (v := (.string ⟨b.toArray⟩)) hF11 (wantedS rfl) (run_mv rfl (hF11.ev 1 rfl)) rfl (by decide) fun a12 hF12 => ?_
        refine sq (v := (.int .i64 (b.length : Int))) hF12 (wantedS rfl) (run_len rfl (hF12.ev 19 rfl) rfl Tryd.underlying9) rfl (by decide) fun a13 hF13 => ?_
        refine sq (v := (.int .i64 ((c + 1 : Nat) : Int))) hF13 (wantedS rfl) (run_mv rfl (hF13.ev 9 rfl)) rfl (by decide) fun a14 hF14 => ?_
        refine sq (v := (.int .i64 ((c + 2 : Nat) : Int))) hF14 (wantedS rfl) (run_add (r := ((c + 2 : Nat) : Int)) rfl rfl (hF14.ev 21 rfl) (by rw [IntKind.wrap_i64]; omega)) rfl (by decide) fun a15 hF15 => ?_
        refine sq (v := (.bool false)) hF15 (wantedS rfl) (run_lss rfl (hF15.ev 20 rfl) (hF15.ev 22 rfl) (decide_eq_false (by omega))) rfl (by decide) fun a16 hF16 => ?_
        refine sqEnd ?_
        clear hF11 hF12 hF13 hF14 hF15
        refine nx ?_
        refine wp_cond_false (hF16.ev 23 rfl) ?_
        refine wp_skip ?_
        refine nx ?_
        refine wp_seq ?_
        refine wp_seq ?_
        refine wp_region_lit ?_
        refine sq (v := (.int .i64 ((c + 1 : Nat) : Int))) hF16 (wantedS rfl) (run_mv rfl (hF16.ev 9 rfl)) rfl (by decide) fun a17 hF17 => ?_
        refine sq (v := (.int .i64 (most : Int))) hF17 (wantedS rfl) (run_mv rfl (hF17.ev 2 rfl)) rfl (by decide) fun a18 hF18 => ?_
        refine sq (v := v) hF18 (wantedS rfl) (run_mv rfl (hF18.ev 0 rfl)) rfl (by decide) fun a19 hF19 => ?_
        refine sq (v := (.int .i64 (out.length : Int))) hF19 (wantedS rfl) (run_lenS rfl (hF19.ev 26 rfl) (Sl.own hO) rfl Tryd.underlying37) rfl (by decide) fun a20 hF20 => ?_
        refine sq (v := (.int .i64 ((most : Int) - (out.length : Int)))) hF20 (wantedS rfl) (run_sub (r := (most : Int) - (out.length : Int)) rfl (hF20.ev 25 rfl) (hF20.ev 27 rfl) (by rw [IntKind.wrap_i64]; omega)) rfl (by decide) fun a21 hF21 => ?_
        refine sq (v := (.bool false)) hF21 (wantedS rfl) (run_gtr rfl (hF21.ev 24 rfl) (hF21.ev 28 rfl) (decide_eq_false (by omega))) rfl (by decide) fun a22 hF22 => ?_
        refine sqEnd ?_
        clear hF16 hF17 hF18 hF19 hF20 hF21
        refine nx ?_
        refine wp_cond_false (hF22.ev 29 rfl) ?_
        refine wp_skip ?_
        refine nx ?_
        refine wp_seq ?_
        refine wp_region_lit ?_
        refine sq (v := v) hF22 (wantedS rfl) (run_mv rfl (hF22.ev 0 rfl)) rfl (by decide) fun a23 hF23 => ?_
        refine sq (v := (.string ⟨b.toArray⟩)) hF23 (wantedS rfl) (run_mv rfl (hF23.ev 1 rfl)) rfl (by decide) fun a24 hF24 => ?_
        refine sq (v := (.int .i64 ((c + 1 : Nat) : Int))) hF24 (wantedS rfl) (run_mv rfl (hF24.ev 9 rfl)) rfl (by decide) fun a25 hF25 => ?_
        refine sq (v := (.int .i64 ((c + 2 : Nat) : Int))) hF25 (wantedS rfl) (run_add (r := ((c + 2 : Nat) : Int)) rfl rfl (hF25.ev 32 rfl) (by rw [IntKind.wrap_i64]; omega)) rfl (by decide) fun a26 hF26 => ?_
        refine sq (v := (.string ⟨((b.drop 1).take (c + 1)).toArray⟩)) hF26 (wantedS rfl) (run_sMidE (m := 1) (m2 := (c + 2)) (by rw [show c + 2 - 1 = c + 1 by omega]) rfl (hF26.ev 31 rfl) rfl (hF26.ev 33 rfl) Tryd.underlying9 (by omega) (by omega) (by omega) (by omega)) rfl (by decide) fun a27 hF27 => ?_
        refine sqAppendS (l := ((b.drop 1).take (c + 1))) (b := out) hF27 hM0 hO rfl rfl (hF27.ev 30 rfl) (hF27.ev 34 rfl) (by simp; omega) rfl (by decide) fun v0 a28 w1 hO1 hM1 hF28 => ?_
        refine sq (v := (.int .i64 ((c + 1 : Nat) : Int))) hF28 (wantedS rfl) (run_mv rfl (hF28.ev 9 rfl)) rfl (by decide) fun a29 hF29 => ?_
        refine sq (v := (.int .i64 ((c + 2 : Nat) : Int))) hF29 (wantedS rfl) (run_add (r := ((c + 2 : Nat) : Int)) rfl rfl (hF29.ev 36 rfl) (by rw [IntKind.wrap_i64]; omega)) rfl (by decide) fun a30 hF30 => ?_
        refine sq (v := v0) hF30 (wantedS rfl) (run_as rfl (hF30.ev 35 rfl)) rfl (by decide) fun a31 hF31 => ?_
        refine sq (v := (.int .i64 ((c + 2 : Nat) : Int))) hF31 (wantedS rfl) (run_as rfl (hF31.ev 37 rfl)) rfl (by decide) fun a32 hF32 => ?_
        refine sq (v := (.int .i64 0)) hF32 (wantedS rfl) (run_as rfl rfl) rfl (by decide) fun a33 hF33 => ?_
        refine sqEnd ?_
        clear hF22 hF23 hF24 hF25 hF26 hF27 hF28 hF29 hF30 hF31 hF32 hM0
        refine nx ?_
        refine wp_ret ?_
        refine nxRet ?_
        exact ret3 hF33 rfl rfl rfl rfl ⟨_, rfl, v0, by first | (rw [hres]; done) | (rw [hres]; rfl), by rw [hres]; exact hO1, hM1⟩
  · by_cases k2 : b.length < 3
    · have hres : tokS out b (most : Int) = (4, [], 0) := by unfold tokS; rw [hc', if_neg k1, if_pos k2]
      refine walk_enter Tryd.func56 rfl rfl rfl fun a0 hF0 => ?_
      have hM0 := hM
      refine wp_seq ?_
      refine wp_region_lit ?_
      refine sq (v := (.slice none 0 0)) hF0 (wantedS rfl) (run_as rfl rfl) rfl (by decide) fun a1 hF1 => ?_
      refine sq (v := (.int .i64 0)) hF1 (wantedS rfl) (run_as rfl rfl) rfl (by decide) fun a2 hF2 => ?_
      refine sq (v := (.int .i64 0)) hF2 (wantedS rfl) (run_as rfl rfl) rfl (by decide) fun a3 hF3 => ?_
      refine sqEnd ?_
      clear hF0 hF1 hF2
      refine nx ?_
      refine wp_seq ?_
      refine wp_seq ?_
      refine wp_region_lit ?_
      refine sq (v := (.string ⟨b.toArray⟩)) hF3 (wantedS rfl) (run_mv rfl (hF3.ev 1 rfl)) rfl (by decide) fun a4 hF4 => ?_
      refine sq (v := (.int .u8 ((bt b 0).toNat : Int))) hF4 (wantedS rfl) (run_sAt (n := 0) rfl (hF4.ev 12 rfl) rfl Tryd.underlying9 rfl (by omega)) rfl (by decide) fun a5 hF5 => ?_
      refine sq (v := (.bool false)) hF5 (wantedS rfl) (run_lss rfl (hF5.ev 13 rfl) rfl (decide_eq_false (by omega))) rfl (by decide) fun a6 hF6 => ?_
      refine sqEnd ?_
      clear hF3 hF4 hF5
      refine nx ?_
      refine wp_cond_false (hF6.ev 14 rfl) ?_
      refine wp_skip ?_
      refine nx ?_
      refine wp_seq ?_
      refine wp_seq ?_
      refine wp_region_lit ?_
      refine sq (v := (.string ⟨b.toArray⟩)) hF6 (wantedS rfl) (run_mv rfl (hF6.ev 1 rfl)) rfl (by decide) fun a7 hF7 => ?_
      refine sq (v := (.int .i64 (b.length : Int))) hF7 (wantedS rfl) (run_len rfl (hF7.ev 38 rfl) rfl Tryd.underlying9) rfl (by decide) fun a8 hF8 => ?_
      refine sq (v := (.bool true)) hF8 (wantedS rfl) (run_lss rfl (hF8.ev 39 rfl) rfl (decide_eq_true (by omega))) rfl (by decide) fun a9 hF9 => ?_
      refine sqEnd ?_
      clear hF6 hF7 hF8
      refine nx ?_
      refine wp_cond_true (hF9.ev 40 rfl) ?_
      refine wp_seq ?_
      refine wp_region_lit ?_
      refine sq (v := (.slice none 0 0)) hF9 (wantedS rfl) (run_as rfl rfl) rfl (by decide) fun a10 hF10 => ?_
      refine sq (v := (.int .i64 0)) hF10 (wantedS rfl) (run_as rfl rfl) rfl (by decide) fun a11 hF11 => ?_
      refine sq (v := (.int .i64 4)) hF11 (wantedS rfl) (run_as rfl rfl) rfl (by decide) fun a12 hF12 => ?_
      refine sqEnd ?_
      clear hF9 hF10 hF11
      refine nx ?_
      refine wp_ret ?_
      refine nxRet ?_
      exact ret3 hF12 rfl rfl rfl rfl ⟨_, rfl, .slice none 0 0, by first | (rw [hres]; done) | (rw [hres]; rfl), by rw [hres]; exact OwnR.nil _ _ _ _ _, hM0⟩
    · by_cases k3 : far = 0
      · have hres : tokS out b (most : Int) = (3, [], 0) := by unfold tokS; rw [hc', if_neg k1, if_neg k2, hfar', if_pos (.inl k3)]
        refine walk_enter Tryd.func56 rfl rfl rfl fun a0 hF0 => ?_
        have hM0 := hM
        refine wp_seq ?_
        refine wp_region_lit ?_
        refine sq (v := (.slice none 0 0)) hF0 (wantedS rfl) (run_as rfl rfl) rfl (by decide) fun a1 hF1 => ?_
        refine sq (v := (.int .i64 0)) hF1 (wantedS rfl) (run_as rfl rfl) rfl (by decide) fun a2 hF2 => ?_
        refine sq (v := (.int .i64 0)) hF2 (wantedS rfl) (run_as rfl rfl) rfl (by decide) fun a3 hF3 => ?_
        refine sqEnd ?_
        clear hF0 hF1 hF2
        refine nx ?_
        refine wp_seq ?_
        refine wp_seq ?_
        refine wp_region_lit ?_
        refine sq (v := (.string ⟨b.toArray⟩)) hF3 (wantedS rfl) (run_mv rfl (hF3.ev 1 rfl)) rfl (by decide) fun a4 hF4 => ?_
        refine sq (v := (.int .u8 ((bt b 0).toNat : Int))) hF4 (wantedS rfl) (run_sAt (n := 0) rfl (hF4.ev 12 rfl) rfl Tryd.underlying9 rfl (by omega)) rfl (by decide) fun a5 hF5 => ?_
        refine sq (v := (.bool false)) hF5 (wantedS rfl) (run_lss rfl (hF5.ev 13 rfl) rfl (decide_eq_false (by omega))) rfl (by decide) fun a6 hF6 => ?_
        refine sqEnd ?_
        clear hF3 hF4 hF5
        refine nx ?_
        refine wp_cond_false (hF6.ev 14 rfl) ?_
        refine wp_skip ?_
        refine nx ?_
        refine wp_seq ?_
        refine wp_seq ?_
        refine wp_region_lit ?_
        refine sq (v := (.string ⟨b.toArray⟩)) hF6 (wantedS rfl) (run_mv rfl (hF6.ev 1 rfl)) rfl (by decide) fun a7 hF7 => ?_
        refine sq (v := (.int .i64 (b.length : Int))) hF7 (wantedS rfl) (run_len rfl (hF7.ev 38 rfl) rfl Tryd.underlying9) rfl (by decide) fun a8 hF8 => ?_
        refine sq (v := (.bool false)) hF8 (wantedS rfl) (run_lss rfl (hF8.ev 39 rfl) rfl (decide_eq_false (by omega))) rfl (by decide) fun a9 hF9 => ?_
        refine sqEnd ?_
        clear hF6 hF7 hF8
        refine nx ?_
        refine wp_cond_false (hF9.ev 40 rfl) ?_
        refine wp_skip ?_
        refine nx ?_
        refine wp_seq ?_
        obtain ⟨KL, hKL⟩ : ∃ KL, KL = [kval (.string ⟨b.toArray⟩), kval (.int .u8 ((bt b 1).toNat : Int)), kval (.int .i64 ((bt b 1).toNat : Int)), kval (.string ⟨b.toArray⟩), kval (.int .u8 ((bt b 2).toNat : Int)), kval (.int .i64 ((bt b 2).toNat : Int)), kval (.int .i64 ((256 * (bt b 2).toNat : Nat) : Int)), kval (.int .i64 (far : Int)), kval (.int .i64 (far : Int))] := ⟨_, rfl⟩
        have K0 : KL.getD 0 kany = kval (.string ⟨b.toArray⟩) := by rw [hKL]; rfl
        have K1 : KL.getD 1 kany = kval (.int .u8 ((bt b 1).toNat : Int)) := by rw [hKL]; rfl
        have K2 : KL.getD 2 kany = kval (.int .i64 ((bt b 1).toNat : Int)) := by rw [hKL]; rfl
        have K3 : KL.getD 3 kany = kval (.string ⟨b.toArray⟩) := by rw [hKL]; rfl
        have K4 : KL.getD 4 kany = kval (.int .u8 ((bt b 2).toNat : Int)) := by rw [hKL]; rfl
        have K5 : KL.getD 5 kany = kval (.int .i64 ((bt b 2).toNat : Int)) := by rw [hKL]; rfl
        have K6 : KL.getD 6 kany = kval (.int .i64 ((256 * (bt b 2).toNat : Nat) : Int)) := by rw [hKL]; rfl
        have K7 : KL.getD 7 kany = kval (.int .i64 (far : Int)) := by rw [hKL]; rfl
        have K8 : KL.getD 8 kany = kval (.int .i64 (far : Int)) := by rw [hKL]; rfl
        clear hKL
        refine wp_region_kd 82 (by kernel_rfl) (by kernel_rfl) (by kernel_rfl) hF9.size KL ?_ ?_
        · refine ⟨?_, ?_, ?_, ?_, ?_, ?_, ?_, ?_, ?_, trivial⟩
          · refine asks_mk fun a W hS hh hd => ⟨wanted_yes rfl, ?_⟩
            exact giv_run (run_mv rfl (eval_tmp (hh 1 _ rfl (hF9.at 1 rfl)))) K0
          · refine asks_mk fun a W hS hh hd => ⟨wanted_yes rfl, ?_⟩
            exact giv_run (run_sAt (n := 1) rfl (eval_tmp (hd.val (j := 0) (s := 41) (by kernel_rfl) K0)) rfl Tryd.underlying9 rfl (by omega)) K1
          · refine asks_mk fun a W hS hh hd => ⟨wanted_yes rfl, ?_⟩
            exact giv_run (run_cvI (r := ((bt b 1).toNat : Int)) rfl (eval_tmp (hd.val (j := 1) (s := 42) (by kernel_rfl) K1)) Tryd.underlying5 Tryd.underlying3 (by rw [IntKind.wrap_i64]; omega)) K2
          · refine asks_mk fun a W hS hh hd => ⟨wanted_yes rfl, ?_⟩
            exact giv_run (run_mv rfl (eval_tmp (hh 1 _ rfl (hF9.at 1 rfl)))) K3
          · refine asks_mk fun a W hS hh hd => ⟨wanted_yes rfl, ?_⟩
            exact giv_run (run_sAt (n := 2) rfl (eval_tmp (hd.val (j := 3) (s := 44) (by kernel_rfl) K3)) rfl Tryd.underlying9 rfl (by omega)) K4
          · refine asks_mk fun a W hS hh hd => ⟨wanted_yes rfl, ?_⟩
            exact giv_run (run_cvI (r := ((bt b 2).toNat : Int)) rfl (eval_tmp (hd.val (j := 4) (s := 45) (by kernel_rfl) K4)) Tryd.underlying5 Tryd.underlying3 (by rw [IntKind.wrap_i64]; omega)) K5
          · refine asks_mk fun a W hS hh hd => ⟨wanted_yes rfl, ?_⟩
            exact giv_run (run_shl (r := ((256 * (bt b 2).toNat : Nat) : Int)) rfl (eval_tmp (hd.val (j := 5) (s := 46) (by kernel_rfl) K5)) rfl (by omega) (by first | decide | (simp [IntKind.bits]; omega)) (by rw [IntKind.wrap_i64]; simp; omega)) K6
          · refine asks_mk fun a W hS hh hd => ⟨wanted_yes rfl, ?_⟩
            exact giv_run (run_or (r := (far : Int)) rfl (eval_tmp (hd.val (j := 2) (s := 43) (by kernel_rfl) K2)) (eval_tmp (hd.val (j := 6) (s := 47) (by kernel_rfl) K6)) (by rw [or8 _ _ h1 h2, hfar])) K7
          · refine asks_mk fun a W hS hh hd => ⟨wanted_yes rfl, ?_⟩
            exact giv_run (run_as rfl (eval_tmp (hd.val (j := 7) (s := 48) (by kernel_rfl) K7))) K8
        · intro a10 w1 hb1 hK
          have e0 := hK.val (i := 0) (s := 41) (by kernel_rfl) K0
          have e1 := hK.val (i := 1) (s := 42) (by kernel_rfl) K1
          have e2 := hK.val (i := 2) (s := 43) (by kernel_rfl) K2
          have e3 := hK.val (i := 3) (s := 44) (by kernel_rfl) K3
          have e4 := hK.val (i := 4) (s := 45) (by kernel_rfl) K4
          have e5 := hK.val (i := 5) (s := 46) (by kernel_rfl) K5
          have e6 := hK.val (i := 6) (s := 47) (by kernel_rfl) K6
          have e7 := hK.val (i := 7) (s := 48) (by kernel_rfl) K7
          have e8 := hK.val (i := 8) (s := 10) (by kernel_rfl) K8
          have hF10 : Fr a10 82 [(0, v), (1, (.string ⟨b.toArray⟩)), (2, (.int .i64 (most : Int))), (6, (.slice none 0 0)), (7, (.int .i64 0)), (8, (.int .i64 0)), (10, (.int .i64 (far : Int))), (12, (.string ⟨b.toArray⟩)), (13, (.int .u8 ((bt b 0).toNat : Int))), (14, (.bool false)), (38, (.string ⟨b.toArray⟩)), (39, (.int .i64 (b.length : Int))), (40, (.bool false))] := (hK.fr hF9 [(.string ⟨b.toArray⟩), (.int .u8 ((bt b 1).toNat : Int)), (.int .i64 ((bt b 1).toNat : Int)), (.string ⟨b.toArray⟩), (.int .u8 ((bt b 2).toNat : Int)), (.int .i64 ((bt b 2).toNat : Int)), (.int .i64 ((256 * (bt b 2).toNat : Nat) : Int)), (.int .i64 (far : Int)), (.int .i64 (far : Int))] ⟨e0, e1, e2, e3, e4, e5, e6, e7, e8, trivial⟩).sub ⟨rfl, rfl, rfl, rfl, rfl, rfl, rfl, rfl, rfl, rfl, rfl, rfl, rfl, trivial⟩
          have hM1 := hM0.grow hb1
          have hO1 := hO.grow hb1
          clear hK K0 e0 K1 e1 K2 e2 K3 e3 K4 e4 K5 e5 K6 e6 K7 e7 K8 e8
          clear hF9 hM0
          refine nx ?_
          refine wp_seq ?_
          refine wp_seq ?_
          refine wp_region_lit ?_
          refine sq (v := (.int .i64 (far : Int))) hF10 (wantedS rfl) (run_mv rfl (hF10.ev 10 rfl)) rfl (by decide) fun a11 hF11 => ?_
          refine sq (v := (.bool true)) hF11 (wantedS rfl) (run_eqi rfl (hF11.ev 49 rfl) rfl (beq_iff_eq.2 (by omega))) rfl (by decide) fun a12 hF12 => ?_
          refine sq (v := (.bool true)) hF12 (wantedS rfl) (run_mv rfl (hF12.ev 50 rfl)) rfl (by decide) fun a13 hF13 => ?_
          refine sqSkip hF13 (unwantedG hF13 rfl rfl rfl rfl rfl) rfl (by decide) fun a14 hF14 => ?_
          refine sqSkip hF14 (unwantedG hF14 rfl rfl rfl rfl rfl) rfl (by decide) fun a15 hF15 => ?_
          refine sqSkip hF15 (unwantedG hF15 rfl rfl rfl rfl rfl) rfl (by decide) fun a16 hF16 => ?_
          refine sqSkip hF16 (unwantedG hF16 rfl rfl rfl rfl rfl) rfl (by decide) fun a17 hF17 => ?_
          refine sq (v := (.bool true)) hF17 (wantedS rfl) (run_pick rfl (hF17.ev 51 rfl) rfl (hF17.ev 55 rfl)) rfl (by decide) fun a18 hF18 => ?_
          refine sqEnd ?_
          clear hF10 hF11 hF12 hF13 hF14 hF15 hF16 hF17
          refine nx ?_
          refine wp_cond_true (hF18.ev 56 rfl) ?_
          refine wp_seq ?_
          refine wp_region_lit ?_
          refine sq (v := (.slice none 0 0)) hF18 (wantedS rfl) (run_as rfl rfl) rfl (by decide) fun a19 hF19 => ?_
          refine sq (v := (.int .i64 0)) hF19 (wantedS rfl) (run_as rfl rfl) rfl (by decide) fun a20 hF20 => ?_
          refine sq (v := (.int .i64 3)) hF20 (wantedS rfl) (run_as rfl rfl) rfl (by decide) fun a21 hF21 => ?_
          refine sqEnd ?_
          clear hF18 hF19 hF20
          refine nx ?_
          refine wp_ret ?_
          refine nxRet ?_
          exact ret3 hF21 rfl rfl rfl rfl ⟨_, rfl, .slice none 0 0, by first | (rw [hres]; done) | (rw [hres]; rfl), by rw [hres]; exact OwnR.nil _ _ _ _ _, hM1⟩
      · by_cases k4 : out.length < far
        · have hres : tokS out b (most : Int) = (3, [], 0) := by unfold tokS; rw [hc', if_neg k1, if_neg k2, hfar', if_pos (.inr k4)]
          refine walk_enter Tryd.func56 rfl rfl rfl fun a0 hF0 => ?_
          have hM0 := hM
          refine wp_seq ?_
          refine wp_region_lit ?_
          refine sq (v := (.slice none 0 0)) hF0 (wantedS rfl) (run_as rfl rfl) rfl (by decide) fun a1 hF1 => ?_
          refine sq (v := (.int .i64 0)) hF1 (wantedS rfl) (run_as rfl rfl) rfl (by decide) fun a2 hF2 => ?_
          refine sq (v := (.int .i64 0)) hF2 (wantedS rfl) (run_as rfl rfl) rfl (by decide) fun a3 hF3 => ?_
          refine sqEnd ?_
          clear hF0 hF1 hF2
          refine nx ?_
          refine wp_seq ?_
          refine wp_seq ?_
          refine wp_region_lit ?_
          refine sq (v := (.string ⟨b.toArray⟩)) hF3 (wantedS rfl) (run_mv rfl (hF3.ev 1 rfl)) rfl (by decide) fun a4 hF4 => ?_
          refine sq (v := (.int .u8 ((bt b 0).toNat : Int))) hF4 (wantedS rfl) (run_sAt (n := 0) rfl (hF4.ev 12 rfl) rfl Tryd.underlying9 rfl (by omega)) rfl (by decide) fun a5 hF5 => ?_
          refine sq (v := (.bool false)) hF5 (wantedS rfl) (run_lss rfl (hF5.ev 13 rfl) rfl (decide_eq_false (by omega))) rfl (by decide) fun a6 hF6 => ?_
          refine sqEnd ?_
          clear hF3 hF4 hF5
          refine nx ?_
          refine wp_cond_false (hF6.ev 14 rfl) ?_
          refine wp_skip ?_
          refine nx ?_
          refine wp_seq ?_
          refine wp_seq ?_
          refine wp_region_lit ?_
          refine sq (v := (.string ⟨b.toArray⟩)) hF6 (wantedS rfl) (run_mv rfl (hF6.ev 1 rfl)) rfl (by decide) fun a7 hF7 => ?_
          refine sq (v := (.int .i64 (b.length : Int))) hF7 (wantedS rfl) (run_len rfl (hF7.ev 38 rfl) rfl Tryd.underlying9) rfl (by decide) fun a8 hF8 => ?_
          refine sq (v := (.bool false)) hF8 (wantedS rfl) (run_lss rfl (hF8.ev 39 rfl) rfl (decide_eq_false (by omega))) rfl (by decide) fun a9 hF9 => ?_
          refine sqEnd ?_
          clear hF6 hF7 hF8
          refine nx ?_
          refine wp_cond_false (hF9.ev 40 rfl) ?_
          refine wp_skip ?_
          refine nx ?_
          refine wp_seq ?_
          obtain ⟨KL, hKL⟩ : ∃ KL, KL = [kval (.string ⟨b.toArray⟩), kval (.int .u8 ((bt b 1).toNat : Int)), kval (.int .i64 ((bt b 1).toNat : Int)), kval (.string ⟨b.toArray⟩), kval (.int .u8 ((bt b 2).toNat : Int)), kval (.int .i64 ((bt b 2).toNat : Int)), kval (.int .i64 ((256 * (bt b 2).toNat : Nat) : Int)), kval (.int .i64 (far : Int)), kval (.int .i64 (far : Int))] := ⟨_, rfl⟩
          have K0 : KL.getD 0 kany = kval (.string ⟨b.toArray⟩) := by rw [hKL]; rfl
          have K1 : KL.getD 1 kany = kval (.int .u8 ((bt b 1).toNat : Int)) := by rw [hKL]; rfl
          have K2 : KL.getD 2 kany = kval (.int .i64 ((bt b 1).toNat : Int)) := by rw [hKL]; rfl
          have K3 : KL.getD 3 kany = kval (.string ⟨b.toArray⟩) := by rw [hKL]; rfl
          have K4 : KL.getD 4 kany = kval (.int .u8 ((bt b 2).toNat : Int)) := by rw [hKL]; rfl
          have K5 : KL.getD 5 kany = kval (.int .i64 ((bt b 2).toNat : Int)) := by rw [hKL]; rfl
          have K6 : KL.getD 6 kany = kval (.int .i64 ((256 * (bt b 2).toNat : Nat) : Int)) := by rw [hKL]; rfl
          have K7 : KL.getD 7 kany = kval (.int .i64 (far : Int)) := by rw [hKL]; rfl
          have K8 : KL.getD 8 kany = kval (.int .i64 (far : Int)) := by rw [hKL]; rfl
          clear hKL
          refine wp_region_kd 82 (by kernel_rfl) (by kernel_rfl) (by kernel_rfl) hF9.size KL ?_ ?_
          · refine ⟨?_, ?_, ?_, ?_, ?_, ?_, ?_, ?_, ?_, trivial⟩
            · refine asks_mk fun a W hS hh hd => ⟨wanted_yes rfl, ?_⟩
              exact giv_run (run_mv rfl (eval_tmp (hh 1 _ rfl (hF9.at 1 rfl)))) K0
            · refine asks_mk fun a W hS hh hd => ⟨wanted_yes rfl, ?_⟩
              exact giv_run (run_sAt (n := 1) rfl (eval_tmp (hd.val (j := 0) (s := 41) (by kernel_rfl) K0)) rfl Tryd.underlying9 rfl (by omega)) K1
            · refine asks_mk fun a W hS hh hd => ⟨wanted_yes rfl, ?_⟩
              exact giv_run (run_cvI (r := ((bt b 1).toNat : Int)) rfl (eval_tmp (hd.val (j := 1) (s := 42) (by kernel_rfl) K1)) Tryd.underlying5 Tryd.underlying3 (by rw [IntKind.wrap_i64]; omega)) K2
            · refine asks_mk fun a W hS hh hd => ⟨wanted_yes rfl, ?_⟩
              exact giv_run (run_mv rfl (eval_tmp (hh 1 _ rfl (hF9.at 1 rfl)))) K3
            · refine asks_mk fun a W hS hh hd => ⟨wanted_yes rfl, ?_⟩
              exact giv_run (run_sAt (n := 2) rfl (eval_tmp (hd.val (j := 3) (s := 44) (by kernel_rfl) K3)) rfl Tryd.underlying9 rfl (by omega)) K4
            · refine asks_mk fun a W hS hh hd => ⟨wanted_yes rfl, ?_⟩
              exact giv_run (run_cvI (r := ((bt b 2).toNat : Int)) rfl (eval_tmp (hd.val (j := 4) (s := 45) (by kernel_rfl) K4)) Tryd.underlying5 Tryd.underlying3 (by rw [IntKind.wrap_i64]; omega)) K5
            · refine asks_mk fun a W hS hh hd => ⟨wanted_yes rfl, ?_⟩
              exact giv_run (run_shl (r := ((256 * (bt b 2).toNat : Nat) : Int)) rfl (eval_tmp (hd.val (j := 5) (s := 46) (by kernel_rfl) K5)) rfl (by omega) (by first | decide | (simp [IntKind.bits]; omega)) (by rw [IntKind.wrap_i64]; simp; omega)) K6
            · refine asks_mk fun a W hS hh hd => ⟨wanted_yes rfl, ?_⟩
              exact giv_run (run_or (r := (far : Int)) rfl (eval_tmp (hd.val (j := 2) (s := 43) (by kernel_rfl) K2)) (eval_tmp (hd.val (j := 6) (s := 47) (by kernel_rfl) K6)) (by rw [or8 _ _ h1 h2, hfar])) K7
            · refine asks_mk fun a W hS hh hd => ⟨wanted_yes rfl, ?_⟩
              exact giv_run (run_as rfl (eval_tmp (hd.val (j := 7) (s := 48) (by kernel_rfl) K7))) K8
          · intro a10 w1 hb1 hK
            have e0 := hK.val (i := 0) (s := 41) (by kernel_rfl) K0
            have e1 := hK.val (i := 1) (s := 42) (by kernel_rfl) K1
            have e2 := hK.val (i := 2) (s := 43) (by kernel_rfl) K2
            have e3 := hK.val (i := 3) (s := 44) (by kernel_rfl) K3
            have e4 := hK.val (i := 4) (s := 45) (by kernel_rfl) K4
            have e5 := hK.val (i := 5) (s := 46) (by kernel_rfl) K5
            have e6 := hK.val (i := 6) (s := 47) (by kernel_rfl) K6
            have e7 := hK.val (i := 7) (s := 48) (by kernel_rfl) K7
            have e8 := hK.val (i := 8) (s := 10) (by kernel_rfl) K8
            have hF10 : Fr a10 82 [(0, v), (1, (.string ⟨b.toArray⟩)), (2, (.int .i64 (most : Int))), (6, (.slice none 0 0)), (7, (.int .i64 0)), (8, (.int .i64 0)), (10, (.int .i64 (far : Int))), (12, (.string ⟨b.toArray⟩)), (13, (.int .u8 ((bt b 0).toNat : Int))), (14, (.bool false)), (38, (.string ⟨b.toArray⟩)), (39, (.int .i64 (b.length : Int))), (40, (.bool false))] := (hK.fr hF9 [(.string ⟨b.toArray⟩), (.int .u8 ((bt b 1).toNat : Int)), (.int .i64 ((bt b 1).toNat : Int)), (.string ⟨b.toArray⟩), (.int .u8 ((bt b 2).toNat : Int)), (.int .i64 ((bt b 2).toNat : Int)), (.int .i64 ((256 * (bt b 2).toNat : Nat) : Int)), (.int .i64 (far : Int)), (.int .i64 (far : Int))] ⟨e0, e1, e2, e3, e4, e5, e6, e7, e8, trivial⟩).sub ⟨rfl, rfl, rfl, rfl, rfl, rfl, rfl, rfl, rfl, rfl, rfl, rfl, rfl, trivial⟩
            have hM1 := hM0.grow hb1
            have hO1 := hO.grow hb1
            clear hK K0 e0 K1 e1 K2 e2 K3 e3 K4 e4 K5 e5 K6 e6 K7 e7 K8 e8
            clear hF9 hM0
            refine nx ?_
            refine wp_seq ?_
            refine wp_seq ?_
            refine wp_region_lit ?_
            refine sq (v := (.int .i64 (far : Int))) hF10 (wantedS rfl) (run_mv rfl (hF10.ev 10 rfl)) rfl (by decide) fun a11 hF11 => ?_
            refine sq (v := (.bool false)) hF11 (wantedS rfl) (run_eqi rfl (hF11.ev 49 rfl) rfl (beq_eq_false_iff_ne.2 (by omega))) rfl (by decide) fun a12 hF12 => ?_
            refine sq (v := (.bool false)) hF12 (wantedS rfl) (run_mv rfl (hF12.ev 50 rfl)) rfl (by decide) fun a13 hF13 => ?_
            refine sq (v := (.int .i64 (far : Int))) hF13 (wantedG hF13 rfl rfl rfl rfl rfl) (run_mv rfl (hF13.ev 10 rfl)) rfl (by decide) fun a14 hF14 => ?_
            refine sq (v := v) hF14 (wantedG hF14 rfl rfl rfl rfl rfl) (run_mv rfl (hF14.ev 0 rfl)) rfl (by decide) fun a15 hF15 => ?_
            refine sq (v := (.int .i64 (out.length : Int))) hF15 (wantedG hF15 rfl rfl rfl rfl rfl) (run_lenS rfl (hF15.ev 53 rfl) (Sl.own hO1) rfl Tryd.underlying37) rfl (by decide) fun a16 hF16 => ?_
            refine sq (v := (.bool true)) hF16 (wantedG hF16 rfl rfl rfl rfl rfl) (run_gtr rfl (hF16.ev 52 rfl) (hF16.ev 54 rfl) (decide_eq_true (by omega))) rfl (by decide) fun a17 hF17 => ?_
            refine sq (v := (.bool true)) hF17 (wantedS rfl) (run_pick rfl (hF17.ev 51 rfl) rfl (hF17.ev 55 rfl)) rfl (by decide) fun a18 hF18 => ?_
            refine sqEnd ?_
            clear hF10 hF11 hF12 hF13 hF14 hF15 hF16 hF17
            refine nx ?_
            refine wp_cond_true (hF18.ev 56 rfl) ?_
            refine wp_seq ?_
            refine wp_region_lit ?_
            refine sq (v := (.slice none 0 0)) hF18 (wantedS rfl) (run_as rfl rfl) rfl (by decide) fun a19 hF19 => ?_
            refine sq (v := (.int .i64 0)) hF19 (wantedS rfl) (run_as rfl rfl) rfl (by decide) fun a20 hF20 => ?_
            refine sq (v := (.int .i64 3)) hF20 (wantedS rfl) (run_as rfl rfl) rfl (by decide) fun a21 hF21 => ?_
            refine sqEnd ?_
            clear hF18 hF19 hF20
            refine nx ?_
            refine wp_ret ?_
            refine nxRet ?_
            exact ret3 hF21 rfl rfl rfl rfl ⟨_, rfl, .slice none 0 0, by first | (rw [hres]; done) | (rw [hres]; rfl), by rw [hres]; exact OwnR.nil _ _ _ _ _, hM1⟩
        · have k5 : ¬ (far = 0 ∨ out.length < far) := by omega
          by_cases k6 : (most : Int) < out.length + (c - 124 : Nat)
          · have hres : tokS out b (most : Int) = (6, [], 0) := by unfold tokS; rw [hc', if_neg k1, if_neg k2, hfar', if_neg k5, if_pos k6]
            refine walk_enter Tryd.func56 rfl rfl rfl fun a0 hF0 => ?_
            have hM0 := hM
            refine wp_seq ?_
            refine wp_region_lit ?_
            refine sq (v := (.slice none 0 0)) hF0 (wantedS rfl) (run_as rfl rfl) rfl (by decide) fun a1 hF1 => ?_
            refine sq (v := (.int .i64 0)) hF1 (wantedS rfl) (run_as rfl rfl) rfl (by decide) fun a2 hF2 => ?_
            refine sq (v := (.int .i64 0)) hF2 (wantedS rfl) (run_as rfl rfl) rfl (by decide) fun a3 hF3 => ?_
            refine sqEnd ?_
            clear hF0 hF1 hF2
            refine nx ?_
            refine wp_seq ?_
            refine wp_seq ?_
            refine wp_region_lit ?_
            refine sq (v := (.string ⟨b.toArray⟩)) hF3 (wantedS rfl) (run_mv rfl (hF3.ev 1 rfl)) rfl (by decide) fun a4 hF4 => ?_
            refine sq (v := (.int .u8 ((bt b 0).toNat : Int))) hF4 (wantedS rfl) (run_sAt (n := 0) rfl (hF4.ev 12 rfl) rfl Tryd.underlying9 rfl (by omega)) rfl (by decide) fun a5 hF5 => ?_
            refine sq (v := (.bool false)) hF5 (wantedS rfl) (run_lss rfl (hF5.ev 13 rfl) rfl (decide_eq_false (by omega))) rfl (by decide) fun a6 hF6 => ?_
            refine sqEnd ?_
            clear hF3 hF4 hF5
            refine nx ?_
            refine wp_cond_false (hF6.ev 14 rfl) ?_
            refine wp_skip ?_
            refine nx ?_
            refine wp_seq ?_
            refine wp_seq ?_
            refine wp_region_lit ?_
            refine sq (v := (.string ⟨b.toArray⟩)) hF6 (wantedS rfl) (run_mv rfl (hF6.ev 1 rfl)) rfl (by decide) fun a7 hF7 => ?_
            refine sq (v := (.int .i64 (b.length : Int))) hF7 (wantedS rfl) (run_len rfl (hF7.ev 38 rfl) rfl Tryd.underlying9) rfl (by decide) fun a8 hF8 => ?_
            refine sq (v := (.bool false)) hF8 (wantedS rfl) (run_lss rfl (hF8.ev 39 rfl) rfl (decide_eq_false (by omega))) rfl (by decide) fun a9 hF9 => ?_
            refine sqEnd ?_
            clear hF6 hF7 hF8
            refine nx ?_
            refine wp_cond_false (hF9.ev 40 rfl) ?_
            refine wp_skip ?_
            refine nx ?_
            refine wp_seq ?_
            obtain ⟨KL, hKL⟩ : ∃ KL, KL = [kval (.string ⟨b.toArray⟩), kval (.int .u8 ((bt b 1).toNat : Int)), kval (.int .i64 ((bt b 1).toNat : Int)), kval (.string ⟨b.toArray⟩), kval (.int .u8 ((bt b 2).toNat : Int)), kval (.int .i64 ((bt b 2).toNat : Int)), kval (.int .i64 ((256 * (bt b 2).toNat : Nat) : Int)), kval (.int .i64 (far : Int)), kval (.int .i64 (far : Int))] := ⟨_, rfl⟩
            have K0 : KL.getD 0 kany = kval (.string ⟨b.toArray⟩) := by rw [hKL]; rfl
            have K1 : KL.getD 1 kany = kval (.int .u8 ((bt b 1).toNat : Int)) := by rw [hKL]; rfl
            have K2 : KL.getD 2 kany = kval (.int .i64 ((bt b 1).toNat : Int)) := by rw [hKL]; rfl
            have K3 : KL.getD 3 kany = kval (.string ⟨b.toArray⟩) := by rw [hKL]; rfl
            have K4 : KL.getD 4 kany = kval (.int .u8 ((bt b 2).toNat : Int)) := by rw [hKL]; rfl
            have K5 : KL.getD 5 kany = kval (.int .i64 ((bt b 2).toNat : Int)) := by rw [hKL]; rfl
            have K6 : KL.getD 6 kany = kval (.int .i64 ((256 * (bt b 2).toNat : Nat) : Int)) := by rw [hKL]; rfl
            have K7 : KL.getD 7 kany = kval (.int .i64 (far : Int)) := by rw [hKL]; rfl
            have K8 : KL.getD 8 kany = kval (.int .i64 (far : Int)) := by rw [hKL]; rfl
            clear hKL
            refine wp_region_kd 82 (by kernel_rfl) (by kernel_rfl) (by kernel_rfl) hF9.size KL ?_ ?_
            · refine ⟨?_, ?_, ?_, ?_, ?_, ?_, ?_, ?_, ?_, trivial⟩
              · refine asks_mk fun a W hS hh hd => ⟨wanted_yes rfl, ?_⟩
                exact giv_run (run_mv rfl (eval_tmp (hh 1 _ rfl (hF9.at 1 rfl)))) K0
              · refine asks_mk fun a W hS hh hd => ⟨wanted_yes rfl, ?_⟩
                exact giv_run (run_sAt (n := 1) rfl (eval_tmp (hd.val (j := 0) (s := 41) (by kernel_rfl) K0)) rfl Tryd.underlying9 rfl (by omega)) K1
              · refine asks_mk fun a W hS hh hd => ⟨wanted_yes rfl, ?_⟩
                exact giv_run (run_cvI (r := ((bt b 1).toNat : Int)) rfl (eval_tmp (hd.val (j := 1) (s := 42) (by kernel_rfl) K1)) Tryd.underlying5 Tryd.underlying3 (by rw [IntKind.wrap_i64]; omega)) K2
              · refine asks_mk fun a W hS hh hd => ⟨wanted_yes rfl, ?_⟩
                exact giv_run (run_mv rfl (eval_tmp (hh 1 _ rfl (hF9.at 1 rfl)))) K3
              · refine asks_mk fun a W hS hh hd => ⟨wanted_yes rfl, ?_⟩
                exact giv_run (run_sAt (n := 2) rfl (eval_tmp (hd.val (j := 3) (s := 44) (by kernel_rfl) K3)) rfl Tryd.underlying9 rfl (by omega)) K4
              · refine asks_mk fun a W hS hh hd => ⟨wanted_yes rfl, ?_⟩
                exact giv_run (run_cvI (r := ((bt b 2).toNat : Int)) rfl (eval_tmp (hd.val (j := 4) (s := 45) (by kernel_rfl) K4)) Tryd.underlying5 Tryd.underlying3 (by rw [IntKind.wrap_i64]; omega)) K5
              · refine asks_mk fun a W hS hh hd => ⟨wanted_yes rfl, ?_⟩
                exact giv_run (run_shl (r := ((256 * (bt b 2).toNat : Nat) : Int)) rfl (eval_tmp (hd.val (j := 5) (s := 46) (by kernel_rfl) K5)) rfl (by omega) (by first | decide | (simp [IntKind.bits]; omega)) (by rw [IntKind.wrap_i64]; simp; omega)) K6
              · refine asks_mk fun a W hS hh hd => ⟨wanted_yes rfl, ?_⟩
                exact giv_run (run_or (r := (far : Int)) rfl (eval_tmp (hd.val (j := 2) (s := 43) (by kernel_rfl) K2)) (eval_tmp (hd.val (j := 6) (s := 47) (by kernel_rfl) K6)) (by rw [or8 _ _ h1 h2, hfar])) K7
              · refine asks_mk fun a W hS hh hd => ⟨wanted_yes rfl, ?_⟩
                exact giv_run (run_as rfl (eval_tmp (hd.val (j := 7) (s := 48) (by kernel_rfl) K7))) K8
            · intro a10 w1 hb1 hK
              have e0 := hK.val (i := 0) (s := 41) (by kernel_rfl) K0
              have e1 := hK.val (i := 1) (s := 42) (by kernel_rfl) K1
              have e2 := hK.val (i := 2) (s := 43) (by kernel_rfl) K2
              have e3 := hK.val (i := 3) (s := 44) (by kernel_rfl) K3
              have e4 := hK.val (i := 4) (s := 45) (by kernel_rfl) K4
              have e5 := hK.val (i := 5) (s := 46) (by kernel_rfl) K5
              have e6 := hK.val (i := 6) (s := 47) (by kernel_rfl) K6
              have e7 := hK.val (i := 7) (s := 48) (by kernel_rfl) K7
              have e8 := hK.val (i := 8) (s := 10) (by kernel_rfl) K8
              have hF10 : Fr a10 82 [(0, v), (1, (.string ⟨b.toArray⟩)), (2, (.int .i64 (most : Int))), (6, (.slice none 0 0)), (7, (.int .i64 0)), (8, (.int .i64 0)), (10, (.int .i64 (far : Int))), (12, (.string ⟨b.toArray⟩)), (13, (.int .u8 ((bt b 0).toNat : Int))), (14, (.bool false)), (38, (.string ⟨b.toArray⟩)), (39, (.int .i64 (b.length : Int))), (40, (.bool false))] := (hK.fr hF9 [(.string ⟨b.toArray⟩), (.int .u8 ((bt b 1).toNat : Int)), (.int .i64 ((bt b 1).toNat : Int)), (.string ⟨b.toArray⟩), (.int .u8 ((bt b 2).toNat : Int)), (.int .i64 ((bt b 2).toNat : Int)), (.int .i64 ((256 * (bt b 2).toNat : Nat) : Int)), (.int .i64 (far : Int)), (.int .i64 (far : Int))] ⟨e0, e1, e2, e3, e4, e5, e6, e7, e8, trivial⟩).sub ⟨rfl, rfl, rfl, rfl, rfl, rfl, rfl, rfl, rfl, rfl, rfl, rfl, rfl, trivial⟩
              have hM1 := hM0.grow hb1
              have hO1 := hO.grow hb1
              clear hK K0 e0 K1 e1 K2 e2 K3 e3 K4 e4 K5 e5 K6 e6 K7 e7 K8 e8
              clear hF9 hM0
              refine nx ?_
              refine wp_seq ?_
              refine wp_seq ?_
              refine wp_region_lit ?_
              refine sq (v := (.int .i64 (far : Int))) hF10 (wantedS rfl) (run_mv rfl (hF10.ev 10 rfl)) rfl (by decide) fun a11 hF11 => ?_
              refine sq (v := (.bool false)) hF11 (wantedS rfl) (run_eqi rfl (hF11.ev 49 rfl) rfl (beq_eq_false_iff_ne.2 (by omega))) rfl (by decide) fun a12 hF12 => ?_
              refine sq (v := (.bool false)) hF12 (wantedS rfl) (run_mv rfl (hF12.ev 50 rfl)) rfl (by decide) fun a13 hF13 => ?_
              refine sq (v := (.int .i64 (far : Int))) hF13 (wantedG hF13 rfl rfl rfl rfl rfl) (run_mv rfl (hF13.ev 10 rfl)) rfl (by decide) fun a14 hF14 => ?_
              refine sq (v := v) hF14 (wantedG hF14 rfl rfl rfl rfl rfl) (run_mv rfl (hF14.ev 0 rfl)) rfl (by decide) fun a15 hF15 => ?_
              refine sq (v := (.int .i64 (out.length : Int))) hF15 (wantedG hF15 rfl rfl rfl rfl rfl) (run_lenS rfl (hF15.ev 53 rfl) (Sl.own hO1) rfl Tryd.underlying37) rfl (by decide) fun a16 hF16 => ?_
              refine sq (v := (.bool false)) hF16 (wantedG hF16 rfl rfl rfl rfl rfl) (run_gtr rfl (hF16.ev 52 rfl) (hF16.ev 54 rfl) (decide_eq_false (by omega))) rfl (by decide) fun a17 hF17 => ?_
              refine sq (v := (.bool false)) hF17 (wantedS rfl) (run_pick rfl (hF17.ev 51 rfl) rfl (hF17.ev 55 rfl)) rfl (by decide) fun a18 hF18 => ?_
              refine sqEnd ?_
              clear hF10 hF11 hF12 hF13 hF14 hF15 hF16 hF17
              refine nx ?_
              refine wp_cond_false (hF18.ev 56 rfl) ?_
              refine wp_skip ?_
              refine nx ?_
              refine wp_seq ?_
              refine wp_region_lit ?_
              refine sq (v := (.string ⟨b.toArray⟩)) hF18 (wantedS rfl) (run_mv rfl (hF18.ev 1 rfl)) rfl (by decide) fun a19 hF19 => ?_
              refine sq (v := (.int .u8 ((bt b 0).toNat : Int))) hF19 (wantedS rfl) (run_sAt (n := 0) rfl (hF19.ev 57 rfl) rfl Tryd.underlying9 rfl (by omega)) rfl (by decide) fun a20 hF20 => ?_
              refine sq (v := (.int .i64 (c : Int))) hF20 (wantedS rfl) (run_cvI (r := (c : Int)) rfl (hF20.ev 58 rfl) Tryd.underlying5 Tryd.underlying3 (by rw [IntKind.wrap_i64]; omega)) rfl (by decide) fun a21 hF21 => ?_
              refine sq (v := (.int .i64 ((c - 124 : Nat) : Int))) hF21 (wantedS rfl) (run_sub (r := ((c - 124 : Nat) : Int)) rfl (hF21.ev 59 rfl) rfl (by rw [IntKind.wrap_i64]; omega)) rfl (by decide) fun a22 hF22 => ?_
              refine sq (v := (.int .i64 ((c - 124 : Nat) : Int))) hF22 (wantedS rfl) (run_as rfl (hF22.ev 60 rfl)) rfl (by decide) fun a23 hF23 => ?_
              refine sqEnd ?_
              clear hF18 hF19 hF20 hF21 hF22
              refine nx ?_
              refine wp_seq ?_
              refine wp_seq ?_
              refine wp_region_lit ?_
              refine sq (v := (.int .i64 ((c - 124 : Nat) : Int))) hF23 (wantedS rfl) (run_mv rfl (hF23.ev 11 rfl)) rfl (by decide) fun a24 hF24 => ?_
              refine sq (v := (.int .i64 (most : Int))) hF24 (wantedS rfl) (run_mv rfl (hF24.ev 2 rfl)) rfl (by decide) fun a25 hF25 => ?_
              refine sq (v := v) hF25 (wantedS rfl) (run_mv rfl (hF25.ev 0 rfl)) rfl (by decide) fun a26 hF26 => ?_
              refine sq (v := (.int .i64 (out.length : Int))) hF26 (wantedS rfl) (run_lenS rfl (hF26.ev 63 rfl) (Sl.own hO1) rfl Tryd.underlying37) rfl (by decide) fun a27 hF27 => ?_
              refine sq (v := (.int .i64 ((most : Int) - (out.length : Int)))) hF27 (wantedS rfl) (run_sub (r := (most : Int) - (out.length : Int)) rfl (hF27.ev 62 rfl) (hF27.ev 64 rfl) (by rw [IntKind.wrap_i64]; omega)) rfl (by decide) fun a28 hF28 => ?_
              refine sq (v := (.bool true)) hF28 (wantedS rfl) (run_gtr rfl (hF28.ev 61 rfl) (hF28.ev 65 rfl) (decide_eq_true (by omega))) rfl (by decide) fun a29 hF29 => ?_
              refine sqEnd ?_
              clear hF23 hF24 hF25 hF26 hF27 hF28
              refine nx ?_
              refine wp_cond_true (hF29.ev 66 rfl) ?_
              refine wp_seq ?_
              refine wp_region_lit ?_
              refine sq (v := (.slice none 0 0)) hF29 (wantedS rfl) (run_as rfl rfl) rfl (by decide) fun a30 hF30 => ?_
              refine sq (v := (.int .i64 0)) hF30 (wantedS rfl) (run_as rfl rfl) rfl (by decide) fun a31 hF31 => ?_
              refine sq (v := (.int .i64 6)) hF31 (wantedS rfl) (run_as rfl rfl) rfl (by decide) fun a32 hF32 => ?_
              refine sqEnd ?_
              clear hF29 hF30 hF31
              refine nx ?_
              refine wp_ret ?_
              refine nxRet ?_
              exact ret3 hF32 rfl rfl rfl rfl ⟨_, rfl, .slice none 0 0, by first | (rw [hres]; done) | (rw [hres]; rfl), by rw [hres]; exact OwnR.nil _ _ _ _ _, hM1⟩
          · have hres : tokS out b (most : Int) = (0, copyS out far (c - 124), 3) := by unfold tokS; rw [hc', if_neg k1, if_neg k2, hfar', if_neg k5, if_neg k6]
            refine walk_enter Tryd.func56 rfl rfl rfl fun a0 hF0 => ?_
            have hM0 := hM
            refine wp_seq ?_
            refine wp_region_lit ?_
            refine sq (v := (.slice none 0 0)) hF0 (wantedS rfl) (run_as rfl rfl) rfl (by decide) fun a1 hF1 => ?_
            refine sq (v := (.int .i64 0)) hF1 (wantedS rfl) (run_as rfl rfl) rfl (by decide) fun a2 hF2 => ?_
            refine sq (v := (.int .i64 0)) hF2 (wantedS rfl) (run_as rfl rfl) rfl (by decide) fun a3 hF3 => ?_
            refine sqEnd ?_
            clear hF0 hF1 hF2
            refine nx ?_
            refine wp_seq ?_
            refine wp_seq ?_
            refine wp_region_lit ?_
            refine sq (v := (.string ⟨b.toArray⟩)) hF3 (wantedS rfl) (run_mv rfl (hF3.ev 1 rfl)) rfl (by decide) fun a4 hF4 => ?_
            refine sq (v := (.int .u8 ((bt b 0).toNat : Int))) hF4 (wantedS rfl) (run_sAt (n := 0) rfl (hF4.ev 12 rfl) rfl Tryd.underlying9 rfl (by omega)) rfl (by decide) fun a5 hF5 => ?_
            refine sq (v := (.bool false)) hF5 (wantedS rfl) (run_lss rfl (hF5.ev 13 rfl) rfl (decide_eq_false (by omega))) rfl (by decide) fun a6 hF6 => ?_
            refine sqEnd ?_
            clear hF3 hF4 hF5
            refine nx ?_
            refine wp_cond_false (hF6.ev 14 rfl) ?_
            refine wp_skip ?_
            refine nx ?_
            refine wp_seq ?_
            refine wp_seq ?_
            refine wp_region_lit ?_
            refine sq (v := (.string ⟨b.toArray⟩)) hF6 (wantedS rfl) (run_mv rfl (hF6.ev 1 rfl)) rfl (by decide) fun a7 hF7 => ?_
            refine sq (v := (.int .i64 (b.length : Int))) hF7 (wantedS rfl) (run_len rfl (hF7.ev 38 rfl) rfl Tryd.underlying9) rfl (by decide) fun a8 hF8 => ?_
            refine sq (v := (.bool false)) hF8 (wantedS rfl) (run_lss rfl (hF8.ev 39 rfl) rfl (decide_eq_false (by omega))) rfl (by decide) fun a9 hF9 => ?_
            refine sqEnd ?_
            clear hF6 hF7 hF8
            refine nx ?_
            refine wp_cond_false (hF9.ev 40 rfl) ?_
            refine wp_skip ?_
            refine nx ?_
            refine wp_seq ?_
            obtain ⟨KL, hKL⟩ : ∃ KL, KL = [kval (.string ⟨b.toArray⟩), kval (.int .u8 ((bt b 1).toNat : Int)), kval (.int .i64 ((bt b 1).toNat : Int)), kval (.string ⟨b.toArray⟩), kval (.int .u8 ((bt b 2).toNat : Int)), kval (.int .i64 ((bt b 2).toNat : Int)), kval (.int .i64 ((256 * (bt b 2).toNat : Nat) : Int)), kval (.int .i64 (far : Int)), kval (.int .i64 (far : Int))] := ⟨_, rfl⟩
            have K0 : KL.getD 0 kany = kval (.string ⟨b.toArray⟩) := by rw [hKL]; rfl
            have K1 : KL.getD 1 kany = kval (.int .u8 ((bt b 1).toNat : Int)) := by rw [hKL]; rfl
            have K2 : KL.getD 2 kany = kval (.int .i64 ((bt b 1).toNat : Int)) := by rw [hKL]; rfl
            have K3 : KL.getD 3 kany = kval (.string ⟨b.toArray⟩) := by rw [hKL]; rfl
            have K4 : KL.getD 4 kany = kval (.int .u8 ((bt b 2).toNat : Int)) := by rw [hKL]; rfl
            have K5 : KL.getD 5 kany = kval (.int .i64 ((bt b 2).toNat : Int)) := by rw [hKL]; rfl
            have K6 : KL.getD 6 kany = kval (.int .i64 ((256 * (bt b 2).toNat : Nat) : Int)) := by rw [hKL]; rfl
            have K7 : KL.getD 7 kany = kval (.int .i64 (far : Int)) := by rw [hKL]; rfl
            have K8 : KL.getD 8 kany = kval (.int .i64 (far : Int)) := by rw [hKL]; rfl
            clear hKL
            refine wp_region_kd 82 (by kernel_rfl) (by kernel_rfl) (by kernel_rfl) hF9.size KL ?_ ?_
            · refine ⟨?_, ?_, ?_, ?_, ?_, ?_, ?_, ?_, ?_, trivial⟩
              · refine asks_mk fun a W hS hh hd => ⟨wanted_yes rfl, ?_⟩
                exact giv_run (run_mv rfl (eval_tmp (hh 1 _ rfl (hF9.at 1 rfl)))) K0
              · refine asks_mk fun a W hS hh hd => ⟨wanted_yes rfl, ?_⟩
                exact giv_run (run_sAt (n := 1) rfl (eval_tmp (hd.val (j := 0) (s := 41) (by kernel_rfl) K0)) rfl Tryd.underlying9 rfl (by omega)) K1
              · refine asks_mk fun a W hS hh hd => ⟨wanted_yes rfl, ?_⟩
                exact giv_run (run_cvI (r := ((bt b 1).toNat : Int)) rfl (eval_tmp (hd.val (j := 1) (s := 42) (by kernel_rfl) K1)) Tryd.underlying5 Tryd.underlying3 (by rw [IntKind.wrap_i64]; omega)) K2
              · refine asks_mk fun a W hS hh hd => ⟨wanted_yes rfl, ?_⟩
                exact giv_run (run_mv rfl (eval_tmp (hh 1 _ rfl (hF9.at 1 rfl)))) K3
              · refine asks_mk fun a W hS hh hd => ⟨wanted_yes rfl, ?_⟩
                exact giv_run (run_sAt (n := 2) rfl (eval_tmp (hd.val (j := 3) (s := 44) (by kernel_rfl) K3)) rfl Tryd.underlying9 rfl (by omega)) K4
              · refine asks_mk fun a W hS hh hd => ⟨wanted_yes rfl, ?_⟩
                exact giv_run (run_cvI (r := ((bt b 2).toNat : Int)) rfl (eval_tmp (hd.val (j := 4) (s := 45) (by kernel_rfl) K4)) Tryd.underlying5 Tryd.underlying3 (by rw [IntKind.wrap_i64]; omega)) K5
              · refine asks_mk fun a W hS hh hd => ⟨wanted_yes rfl, ?_⟩
                exact giv_run (run_shl (r := ((256 * (bt b 2).toNat : Nat) : Int)) rfl (eval_tmp (hd.val (j := 5) (s := 46) (by kernel_rfl) K5)) rfl (by omega) (by first | decide | (simp [IntKind.bits]; omega)) (by rw [IntKind.wrap_i64]; simp; omega)) K6
              · refine asks_mk fun a W hS hh hd => ⟨wanted_yes rfl, ?_⟩
                exact giv_run (run_or (r := (far : Int)) rfl (eval_tmp (hd.val (j := 2) (s := 43) (by kernel_rfl) K2)) (eval_tmp (hd.val (j := 6) (s := 47) (by kernel_rfl) K6)) (by rw [or8 _ _ h1 h2, hfar])) K7
              · refine asks_mk fun a W hS hh hd => ⟨wanted_yes rfl, ?_⟩
                exact giv_run (run_as rfl (eval_tmp (hd.val (j := 7) (s := 48) (by kernel_rfl) K7))) K8
            · intro a10 w1 hb1 hK
              have e0 := hK.val (i := 0) (s := 41) (by kernel_rfl) K0
              have e1 := hK.val (i := 1) (s := 42) (by kernel_rfl) K1
              have e2 := hK.val (i := 2) (s := 43) (by kernel_rfl) K2
              have e3 := hK.val (i := 3) (s := 44) (by kernel_rfl) K3
              have e4 := hK.val (i := 4) (s := 45) (by kernel_rfl) K4
              have e5 := hK.val (i := 5) (s := 46) (by kernel_rfl) K5
              have e6 := hK.val (i := 6) (s := 47) (by kernel_rfl) K6
              have e7 := hK.val (i := 7) (s := 48) (by kernel_rfl) K7
              have e8 := hK.val (i := 8) (s := 10) (by kernel_rfl) K8
              have hF10 : Fr a10 82 [(0, v), (1, (.string ⟨b.toArray⟩)), (2, (.int .i64 (most : Int))), (6, (.slice none 0 0)), (7, (.int .i64 0)), (8, (.int .i64 0)), (10, (.int .i64 (far : Int))), (12, (.string ⟨b.toArray⟩)), (13, (.int .u8 ((bt b 0).toNat : Int))), (14, (.bool false)), (38, (.string ⟨b.toArray⟩)), (39, (.int .i64 (b.length : Int))), (40, (.bool false))] := (hK.fr hF9 [(.string ⟨b.toArray⟩), (.int .u8 ((bt b 1).toNat : Int)), (.int .i64 ((bt b 1).toNat : Int)), (.string ⟨b.toArray⟩), (.int .u8 ((bt b 2).toNat : Int)), (.int .i64 ((bt b 2).toNat : Int)), (.int .i64 ((256 * (bt b 2).toNat : Nat) : Int)), (.int .i64 (far : Int)), (.int .i64 (far : Int))] ⟨e0, e1, e2, e3, e4, e5, e6, e7, e8, trivial⟩).sub ⟨rfl, rfl, rfl, rfl, rfl, rfl, rfl, rfl, rfl, rfl, rfl, rfl, rfl, trivial⟩
              have hM1 := hM0.grow hb1
              have hO1 := hO.grow hb1
              clear hK K0 e0 K1 e1 K2 e2 K3 e3 K4 e4 K5 e5 K6 e6 K7 e7 K8 e8
              clear hF9 hM0
              refine nx ?_
              refine wp_seq ?_
              refine wp_seq ?_
              refine wp_region_lit ?_
              refine sq (v := (.int .i64 (far : Int))) hF10 (wantedS rfl) (run_mv rfl (hF10.ev 10 rfl)) rfl (by decide) fun a11 hF11 => ?_
              refine sq (v := (.bool false)) hF11 (wantedS rfl) (run_eqi rfl (hF11.ev 49 rfl) rfl (beq_eq_false_iff_ne.2 (by omega))) rfl (by decide) fun a12 hF12 => ?_
              refine sq (v := (.bool false)) hF12 (wantedS rfl) (run_mv rfl (hF12.ev 50 rfl)) rfl (by decide) fun a13 hF13 => ?_
              refine sq (v := (.int .i64 (far : Int))) hF13 (wantedG hF13 rfl rfl rfl rfl rfl) (run_mv rfl (hF13.ev 10 rfl)) rfl (by decide) fun a14 hF14 => ?_
              refine sq (v := v) hF14 (wantedG hF14 rfl rfl rfl rfl rfl) (run_mv rfl (hF14.ev 0 rfl)) rfl (by decide) fun a15 hF15 => ?_
              refine sq (v := (.int .i64 (out.length : Int))) hF15 (wantedG hF15 rfl rfl rfl rfl rfl) (run_lenS rfl (hF15.ev 53 rfl) (Sl.own hO1) rfl Tryd.underlying37) rfl (by decide) fun a16 hF16 => ?_
              refine sq (v := (.bool false)) hF16 (wantedG hF16 rfl rfl rfl rfl rfl) (run_gtr rfl (hF16.ev 52 rfl) (hF16.ev 54 rfl) (decide_eq_false (by omega))) rfl (by decide) fun a17 hF17 => ?_
              refine sq (v := (.bool false)) hF17 (wantedS rfl) (run_pick rfl (hF17.ev 51 rfl) rfl (hF17.ev 55 rfl)) rfl (by decide) fun a18 hF18 => ?_
              refine sqEnd ?_
              clear hF10 hF11 hF12 hF13 hF14 hF15 hF16 hF17
              refine nx ?_
              refine wp_cond_false (hF18.ev 56 rfl) ?_
              refine wp_skip ?_
              refine nx ?_
              refine wp_seq ?_
              refine wp_region_lit ?_
              refine sq (v := (.string ⟨b.toArray⟩)) hF18 (wantedS rfl) (run_mv rfl (hF18.ev 1 rfl)) rfl (by decide) fun a19 hF19 => ?_
              refine sq (v := (.int .u8 ((bt b 0).toNat : Int))) hF19 (wantedS rfl) (run_sAt (n := 0) rfl (hF19.ev 57 rfl) rfl Tryd.underlying9 rfl (by omega)) rfl (by decide) fun a20 hF20 => ?_
              refine sq (v := (.int .i64 (c : Int))) hF20 (wantedS rfl) (run_cvI (r := (c : Int)) rfl (hF20.ev 58 rfl) Tryd.underlying5 Tryd.underlying3 (by rw [IntKind.wrap_i64]; omega)) rfl (by decide) fun a21 hF21 => ?_
              refine sq (v := (.int .i64 ((c - 124 : Nat) : Int))) hF21 (wantedS rfl) (run_sub (r := ((c - 124 : Nat) : Int)) rfl (hF21.ev 59 rfl) rfl (by rw [IntKind.wrap_i64]; omega)) rfl (by decide) fun a22 hF22 => ?_
              refine sq (v := (.int .i64 ((c - 124 : Nat) : Int))) hF22 (wantedS rfl) (run_as rfl (hF22.ev 60 rfl)) rfl (by decide) fun a23 hF23 => ?_
              refine sqEnd ?_
              clear hF18 hF19 hF20 hF21 hF22
              refine nx ?_
              refine wp_seq ?_
              refine wp_seq ?_
              refine wp_region_lit ?_
              refine sq (v := (.int .i64 ((c - 124 : Nat) : Int))) hF23 (wantedS rfl) (run_mv rfl (hF23.ev 11 rfl)) rfl (by decide) fun a24 hF24 => ?_
              refine sq (v := (.int .i64 (most : Int))) hF24 (wantedS rfl) (run_mv rfl (hF24.ev 2 rfl)) rfl (by decide) fun a25 hF25 => ?_
              refine sq (v := v) hF25 (wantedS rfl) (run_mv rfl (hF25.ev 0 rfl)) rfl (by decide) fun a26 hF26 => ?_
              refine sq (v := (.int .i64 (out.length : Int))) hF26 (wantedS rfl) (run_lenS rfl (hF26.ev 63 rfl) (Sl.own hO1) rfl Tryd.underlying37) rfl (by decide) fun a27 hF27 => ?_
              refine sq (v := (.int .i64 ((most : Int) - (out.length : Int)))) hF27 (wantedS rfl) (run_sub (r := (most : Int) - (out.length : Int)) rfl (hF27.ev 62 rfl) (hF27.ev 64 rfl) (by rw [IntKind.wrap_i64]; omega)) rfl (by decide) fun a28 hF28 => ?_
              refine sq (v := (.bool false)) hF28 (wantedS rfl) (run_gtr rfl (hF28.ev 61 rfl) (hF28.ev 65 rfl) (decide_eq_false (by omega))) rfl (by decide) fun a29 hF29 => ?_
              refine sqEnd ?_
              clear hF23 hF24 hF25 hF26 hF27 hF28
              refine nx ?_
              refine wp_cond_false (hF29.ev 66 rfl) ?_
              refine wp_skip ?_
              refine nx ?_
              refine wp_seq ?_
              refine wp_seq ?_
              refine wp_region_lit ?_
              refine sq (v := (.int .i64 ((c - 124 : Nat) : Int))) hF29 (wantedS rfl) (run_mv rfl (hF29.ev 11 rfl)) rfl (by decide) fun a30 hF30 => ?_
              refine sq (v := (.int .i64 0)) hF30 (wantedS rfl) (run_mv rfl rfl) rfl (by decide) fun a31 hF31 => ?_
              refine sqEnd ?_
              clear hF29 hF30
              refine nx ?_
              refine wp_block ?_
              refine wkLoop (fun m a w2 => ∃ (i : Nat) (r : Value), i ≤ c - 124 ∧ m = c - 124 - i ∧ OwnR w0 M w2 5 1 r (copyS out far i).length ((copyS out far i).map cb) ∧ Fr a 82 [(0, r), (10, .int .i64 (far : Int)), (67, .int .i64 ((c - 124 : Nat) : Int)), (68, .int .i64 (i : Int))] ∧ Mem w0 M w2) (c - 124) ⟨0, v, Nat.zero_le _, rfl, hO1, hF31.sub ⟨rfl, rfl, rfl, rfl, trivial⟩, hM1⟩ ?_
              rintro m a0 w1 ⟨i, r, hi, rfl, hO0, hF0, hM0⟩
              have hcl := copyS_len out far i
              by_cases hlt : i < c - 124
              · obtain ⟨x, hx⟩ : ∃ x, (copyS out far i)[out.length + i - far]? = some x := ⟨_, List.getElem?_eq_getElem (by omega)⟩
                have hst : copyS out far (i + 1) = copyS out far i ++ [x] := by rw [copyS, hcl, List.getD_eq_getElem?_getD, hx]; rfl
                refine wp_seq ?_
                refine wp_region_lit ?_
                refine sq (v := (.bool true)) hF0 (wantedS rfl) (run_lss rfl (hF0.ev 68 rfl) (hF0.ev 67 rfl) (decide_eq_true (by omega))) rfl (by decide) fun a1 hF1 => ?_
                refine sqEnd ?_
                clear hF0
                refine nx ?_
                refine wp_seq ?_
                refine wp_cond_true (hF1.ev 69 rfl) ?_
                refine wp_skip ?_
                refine nx ?_
                refine wp_seq ?_
                refine wp_block ?_
                refine wp_region_lit ?_
                refine sq (v := r) hF1 (wantedS rfl) (run_mv rfl (hF1.ev 0 rfl)) rfl (by decide) fun a2 hF2 => ?_
                refine sq (v := r) hF2 (wantedS rfl) (run_mv rfl (hF2.ev 0 rfl)) rfl (by decide) fun a3 hF3 => ?_
                refine sq (v := r) hF3 (wantedS rfl) (run_mv rfl (hF3.ev 0 rfl)) rfl (by decide) fun a4 hF4 => ?_
                refine sq (v := (.int .i64 ((copyS out far i).length : Int))) hF4 (wantedS rfl) (run_lenS rfl (hF4.ev 72 rfl) (Sl.own hO0) rfl Tryd.underlying37) rfl (by decide) fun a5 hF5 => ?_
                refine sq (v := (.int .i64 (far : Int))) hF5 (wantedS rfl) (run_mv rfl (hF5.ev 10 rfl)) rfl (by decide) fun a6 hF6 => ?_
                refine sq (v := (.int .i64 ((out.length + i - far : Nat) : Int))) hF6 (wantedS rfl) (run_sub (r := ((out.length + i - far : Nat) : Int)) rfl (hF6.ev 73 rfl) (hF6.ev 74 rfl) (by rw [IntKind.wrap_i64]; omega)) rfl (by decide) fun a7 hF7 => ?_
                refine sq (v := (slPtr r ((out.length + i - far) * 1))) hF7 (wantedS rfl) (run_atP (i := (out.length + i - far)) rfl (hF7.ev 71 rfl) (hF7.ev 75 rfl) rfl (Sl.own hO0) (by omega) elU8.un (by kernel_rfl)) rfl (by decide) fun a8 hF8 => ?_
                refine sq (v := (.int .u8 (x.toNat : Int))) hF8 (wantedS rfl) (run_ldP (u := cb x) rfl (hF8.ev 76 rfl) (Sl.own hO0) (map_atB hx) (by kernel_rfl)) rfl (by decide) fun a9 hF9 => ?_
                refine sqBytes [x] hF9 hM0 (wantedS rfl) (run_bytes1 rfl (hF9.ev 77 rfl)) rfl (by decide) fun g0 a10 w2 hgg0 hb2 hF10 hM1 => ?_
                have hO1 := hO0.add (S := isB 5 (cells8 [x])) hb2 hgg0
                refine sqAppendB (l := [x]) (b := (copyS out far i)) hF10 hM1 hO1 rfl rfl (hF10.ev 70 rfl) (hF10.ev 78 rfl) rfl (hM1.at 0 rfl) (by simp; omega) rfl (by decide) fun v1 a11 w3 hO2 hM2 hF11 => ?_
                refine sq (v := v1) hF11 (wantedS rfl) (run_as rfl (hF11.ev 79 rfl)) rfl (by decide) fun a12 hF12 => ?_
                refine sqEnd ?_
                clear hF1 hF2 hF3 hF4 hF5 hF6 hF7 hF8 hF9 hF10 hF11 hM0 hM1
                refine bkEnd ?_
                refine nx ?_
                refine wp_region_lit ?_
                refine sq (v := (.int .i64 ((i + 1 : Nat) : Int))) hF12 (wantedS rfl) (run_add (r := ((i + 1 : Nat) : Int)) rfl (hF12.ev 68 rfl) rfl (by rw [IntKind.wrap_i64]; omega)) rfl (by decide) fun a13 hF13 => ?_
                refine sq (v := (.int .i64 ((i + 1 : Nat) : Int))) hF13 (wantedS rfl) (run_mv rfl (hF13.ev 80 rfl)) rfl (by decide) fun a14 hF14 => ?_
                refine sqEnd ?_
                clear hF12 hF13
                refine nx ?_
                exact ⟨_, by omega, i + 1, v1, by omega, rfl, by rw [hst]; exact hO2.sub (.cons _ (.refl _)), hF14.sub ⟨rfl, rfl, rfl, rfl, trivial⟩, hM2.sub (.cons _ (.refl _))⟩
              · have hie : i = c - 124 := by omega
                rw [hie] at hO0
                refine wp_seq ?_
                refine wp_region_lit ?_
                refine sq (v := (.bool false)) hF0 (wantedS rfl) (run_lss rfl (hF0.ev 68 rfl) (hF0.ev 67 rfl) (decide_eq_false (by omega))) rfl (by decide) fun a1 hF1 => ?_
                refine sqEnd ?_
                clear hF0
                refine nx ?_
                refine wp_seq ?_
                refine wp_cond_false (hF1.ev 69 rfl) ?_
                refine wp_exit ?_
                refine nxExit ?_
                refine nxExit ?_
                refine bkHere ?_
                refine nx ?_
                refine wp_seq ?_
                refine wp_region_lit ?_
                refine sq (v := r) hF1 (wantedS rfl) (run_mv rfl (hF1.ev 0 rfl)) rfl (by decide) fun a2 hF2 => ?_
                refine sq (v := r) hF2 (wantedS rfl) (run_as rfl (hF2.ev 81 rfl)) rfl (by decide) fun a3 hF3 => ?_
                refine sq (v := (.int .i64 3)) hF3 (wantedS rfl) (run_as rfl rfl) rfl (by decide) fun a4 hF4 => ?_
                refine sq (v := (.int .i64 0)) hF4 (wantedS rfl) (run_as rfl rfl) rfl (by decide) fun a5 hF5 => ?_
                refine sqEnd ?_
                clear hF1 hF2 hF3 hF4
                refine nx ?_
                refine wp_ret ?_
                exact ret3 hF5 rfl rfl rfl rfl ⟨_, rfl, r, by first | (rw [hres]; done) | (rw [hres]; rfl), by rw [hres]; exact hO0, hM0⟩
theorem tokS_grow (out b : List UInt8) (most : Int) (h : (tokS out b most).1 = 0) : (tokS out b most).2.1.length ≤ out.length + 131 * (tokS out b most).2.2 := by
  have h0 := (b.getD 0 0).toNat_lt
  unfold tokS at h ⊢
  repeat' split at h
  all_goals first | (exfalso; revert h; decide) | skip
  all_goals simp only [*, ↓reduceIte]
  · rw [List.length_append, List.length_take]; omega
  · rw [copyS_len]; omega
set_option maxRecDepth 100000 in
set_option maxHeartbeats 1000000 in
theorem zunp_any (b : List UInt8) (most0 : Int) (w : World) (hb : b.length ≤ 2 ^ 32) (hm1 : -9223372036854775808 ≤ most0) (hm2 : most0 ≤ 9223372036854775807) : Calls Tryd.prog 33 #[.string ⟨b.toArray⟩, .int .i64 most0] w fun e w' => e = .returned (.tuple #[.string ⟨(unpS b most0).1.toArray⟩, .int .i64 (unpS b most0).2]) ∧ Below w.heap.size w w' := by
  obtain ⟨most, hmost⟩ : ∃ most : Nat, (most : Int) = max most0 0 := ⟨(max most0 0).toNat, by omega⟩
  have hmm : most ≤ maxLen := by unfold maxLen; omega
  by_cases h1 : most0 < 0
  · by_cases h2 : b.length = 0
    · have hres : unpS b most0 = ([], 6) := by unfold unpS; rw [if_pos ⟨h1, List.length_eq_zero_iff.1 h2⟩]
      refine walk_enter Tryd.func33 rfl rfl rfl fun a0 hF0 => ?_
      have hM0 := Mem.new w
      refine wp_seq ?_
      refine wp_region_lit ?_
      refine sq (v := (.string ⟨List.toArray []⟩)) hF0 (wantedS rfl) (run_as rfl rfl) rfl (by decide) fun a1 hF1 => ?_
      refine sq (v := (.int .i64 0)) hF1 (wantedS rfl) (run_as rfl rfl) rfl (by decide) fun a2 hF2 => ?_
      refine sqEnd ?_
      clear hF0 hF1
      refine nx ?_
      refine wp_seq ?_
      refine wp_seq ?_
      refine wp_region_lit ?_
      refine sq (v := (.int .i64 most0)) hF2 (wantedS rfl) (run_mv rfl (hF2.ev 1 rfl)) rfl (by decide) fun a3 hF3 => ?_
      refine sq (v := (.bool true)) hF3 (wantedS rfl) (run_lss rfl (hF3.ev 10 rfl) rfl (decide_eq_true (by omega))) rfl (by decide) fun a4 hF4 => ?_
      refine sq (v := (.bool true)) hF4 (wantedS rfl) (run_mv rfl (hF4.ev 11 rfl)) rfl (by decide) fun a5 hF5 => ?_
      refine sq (v := (.string ⟨b.toArray⟩)) hF5 (wantedG hF5 rfl rfl rfl rfl rfl) (run_mv rfl (hF5.ev 0 rfl)) rfl (by decide) fun a6 hF6 => ?_
      refine sq (v := (.int .i64 (b.length : Int))) hF6 (wantedG hF6 rfl rfl rfl rfl rfl) (run_len rfl (hF6.ev 13 rfl) rfl Tryd.underlying9) rfl (by decide) fun a7 hF7 => ?_
      refine sq (v := (.bool true)) hF7 (wantedG hF7 rfl rfl rfl rfl rfl) (run_eqi rfl (hF7.ev 14 rfl) rfl (beq_iff_eq.2 (by omega))) rfl (by decide) fun a8 hF8 => ?_
      refine sq (v := (.bool true)) hF8 (wantedS rfl) (run_pick rfl (hF8.ev 12 rfl) (hF8.ev 15 rfl) rfl) rfl (by decide) fun a9 hF9 => ?_
      refine sqEnd ?_
      clear hF2 hF3 hF4 hF5 hF6 hF7 hF8
      refine nx ?_
      refine wp_cond_true (hF9.ev 16 rfl) ?_
      refine wp_seq ?_
      refine wp_region_lit ?_
      refine sq (v := (.string ⟨List.toArray []⟩)) hF9 (wantedS rfl) (run_as rfl rfl) rfl (by decide) fun a10 hF10 => ?_
      refine sq (v := (.int .i64 6)) hF10 (wantedS rfl) (run_as rfl rfl) rfl (by decide) fun a11 hF11 => ?_
      refine sqEnd ?_
      clear hF9 hF10
      refine nx ?_
      refine wp_ret ?_
      refine nxRet ?_
      exact ret2 hF11 rfl rfl rfl ⟨by rw [hres], hM0.below⟩
    · have hS : unpS b most0 = unpT [] b (most : Int) := by unfold unpS; rw [if_neg (fun h => h2 (by rw [h.2]; rfl)), hmost]
      refine walk_enter Tryd.func33 rfl rfl rfl fun a0 hF0 => ?_
      have hM0 := Mem.new w
      refine wp_seq ?_
      refine wp_region_lit ?_
      refine sq (v := (.string ⟨List.toArray []⟩)) hF0 (wantedS rfl) (run_as rfl rfl) rfl (by decide) fun a1 hF1 => ?_
      refine sq (v := (.int .i64 0)) hF1 (wantedS rfl) (run_as rfl rfl) rfl (by decide) fun a2 hF2 => ?_
      refine sqEnd ?_
      clear hF0 hF1
      refine nx ?_
      refine wp_seq ?_
      refine wp_seq ?_
      refine wp_region_lit ?_
      refine sq (v := (.int .i64 most0)) hF2 (wantedS rfl) (run_mv rfl (hF2.ev 1 rfl)) rfl (by decide) fun a3 hF3 => ?_
      refine sq (v := (.bool true)) hF3 (wantedS rfl) (run_lss rfl (hF3.ev 10 rfl) rfl (decide_eq_true (by omega))) rfl (by decide) fun a4 hF4 => ?_
      refine sq (v := (.bool true)) hF4 (wantedS rfl) (run_mv rfl (hF4.ev 11 rfl)) rfl (by decide) fun a5 hF5 => ?_
      refine sq (v := (.string ⟨b.toArray⟩)) hF5 (wantedG hF5 rfl rfl rfl rfl rfl) (run_mv rfl (hF5.ev 0 rfl)) rfl (by decide) fun a6 hF6 => ?_
      refine sq (v := (.int .i64 (b.length : Int))) hF6 (wantedG hF6 rfl rfl rfl rfl rfl) (run_len rfl (hF6.ev 13 rfl) rfl Tryd.underlying9) rfl (by decide) fun a7 hF7 => ?_
      refine sq (v := (.bool false)) hF7 (wantedG hF7 rfl rfl rfl rfl rfl) (run_eqi rfl (hF7.ev 14 rfl) rfl (beq_eq_false_iff_ne.2 (by omega))) rfl (by decide) fun a8 hF8 => ?_
      refine sq (v := (.bool false)) hF8 (wantedS rfl) (run_pick rfl (hF8.ev 12 rfl) (hF8.ev 15 rfl) rfl) rfl (by decide) fun a9 hF9 => ?_
      refine sqEnd ?_
      clear hF2 hF3 hF4 hF5 hF6 hF7 hF8
      refine nx ?_
      refine wp_cond_false (hF9.ev 16 rfl) ?_
      refine wp_skip ?_
      refine nx ?_
      refine wp_seq ?_
      refine wp_region_lit ?_
      refine sq (v := (.slice none 0 0)) hF9 (wantedS rfl) (run_as rfl rfl) rfl (by decide) fun a10 hF10 => ?_
      refine sqEnd ?_
      clear hF9
      refine nx ?_
      refine wp_seq ?_
      refine wp_region_lit ?_
      refine sq (v := (.int .i64 most0)) hF10 (wantedS rfl) (run_mv rfl (hF10.ev 1 rfl)) rfl (by decide) fun a11 hF11 => ?_
      refine sq (v := (.int .i64 (most : Int))) hF11 (wantedS rfl) (run_max2 (r := (most : Int)) rfl (hF11.ev 17 rfl) rfl (by split <;> omega)) rfl (by decide) fun a12 hF12 => ?_
      refine sq (v := (.int .i64 (most : Int))) hF12 (wantedS rfl) (run_as rfl (hF12.ev 18 rfl)) rfl (by decide) fun a13 hF13 => ?_
      refine sqEnd ?_
      clear hF10 hF11 hF12
      refine nx ?_
      refine wp_seq ?_
      refine wp_block ?_
      have hN := OwnR.nil w w [] 5 1
      refine wkLoop (fun m a w2 => ∃ (o2 b2 : List UInt8) (r : Value), m = b2.length ∧ unpT o2 b2 (most : Int) = unpT [] b (most : Int) ∧ o2.length + 131 * b2.length ≤ 131 * b.length ∧ OwnR w [] w2 5 1 r o2.length (o2.map cb) ∧ Fr a 39 [(0, .string ⟨b2.toArray⟩), (1, .int .i64 (most : Int)), (6, r)] ∧ Mem w [] w2) b.length ⟨[], b, .slice none 0 0, rfl, rfl, by simp, hN, hF13.sub ⟨rfl, rfl, rfl, trivial⟩, hM0⟩ ?_
      rintro m a0 w1 ⟨o2, b2, r, rfl, he, hlen2, hO0, hF0, hM0⟩
      by_cases hlt : 0 < b2.length
      · have hne : b2 ≠ [] := List.length_pos_iff.1 hlt
        rw [unpT_step _ _ hne] at he
        by_cases hk : (tokS o2 b2 (most : Int)).1 = 0
        · rw [if_neg (fun h => h hk)] at he
          have hu := tokS_used _ _ _ hk
          have hg := tokS_grow _ _ _ hk
          obtain ⟨q, hq⟩ : ∃ q, (tokS o2 b2 (most : Int)).2.2 = q := ⟨_, rfl⟩
          rw [hq] at he hu hg
          refine wp_seq ?_
          refine wp_seq ?_
          refine wp_region_lit ?_
          refine sq (v := (.string ⟨b2.toArray⟩)) hF0 (wantedS rfl) (run_mv rfl (hF0.ev 0 rfl)) rfl (by decide) fun a1 hF1 => ?_
          refine sq (v := (.int .i64 (b2.length : Int))) hF1 (wantedS rfl) (run_len rfl (hF1.ev 19 rfl) rfl Tryd.underlying9) rfl (by decide) fun a2 hF2 => ?_
          refine sq (v := (.bool true)) hF2 (wantedS rfl) (run_gtr rfl (hF2.ev 20 rfl) rfl (decide_eq_true (by omega))) rfl (by decide) fun a3 hF3 => ?_
          refine sqEnd ?_
          clear hF0 hF1 hF2
          refine nx ?_
          refine wp_cond_true (hF3.ev 21 rfl) ?_
          refine wp_skip ?_
          refine nx ?_
          refine wp_block ?_
          refine wp_seq ?_
          refine wp_region_lit ?_
          refine sq (v := r) hF3 (wantedS rfl) (run_mv rfl (hF3.ev 6 rfl)) rfl (by decide) fun a4 hF4 => ?_
          refine sq (v := (.string ⟨b2.toArray⟩)) hF4 (wantedS rfl) (run_mv rfl (hF4.ev 0 rfl)) rfl (by decide) fun a5 hF5 => ?_
          refine sq (v := (.int .i64 (most : Int))) hF5 (wantedS rfl) (run_mv rfl (hF5.ev 1 rfl)) rfl (by decide) fun a6 hF6 => ?_
          refine sqT (T := fun r wx => ∃ u, r = .tuple #[u, .int .i64 ((tokS o2 b2 (most : Int)).2.2 : Int), .int .i64 (tokS o2 b2 (most : Int)).1] ∧ OwnR w [] wx 5 1 u (tokS o2 b2 (most : Int)).2.1.length ((tokS o2 b2 (most : Int)).2.1.map cb) ∧ Mem w [] wx) hF6 (wantedS rfl) (run_call rfl Tryd.func56 (by kernel_rfl) rfl (mapE3 (hF6.ev 23 rfl) (hF6.ev 24 rfl) (hF6.ev 25 rfl))) rfl (by decide) (ztok_any o2 b2 most _ _ _ _ hM0 hO0 (by omega) (by omega) (by omega) hmm) fun u0 a7 w2 hT2 hF7 => ?_
          obtain ⟨v1, rfl, hO1, hM1⟩ := hT2
          refine sq (v := (.tuple #[v1, (.int .i64 ((tokS o2 b2 (most : Int)).2.2 : Int)), (.int .i64 ((tokS o2 b2 (most : Int)).1))])) hF7 (wantedS rfl) (run_mv rfl (hF7.ev 26 rfl)) rfl (by decide) fun a8 hF8 => ?_
          refine sq (v := v1) hF8 (wantedS rfl) (run_ext rfl (hF8.ev 22 rfl) rfl) rfl (by decide) fun a9 hF9 => ?_
          refine sq (v := (.int .i64 ((tokS o2 b2 (most : Int)).2.2 : Int))) hF9 (wantedS rfl) (run_ext rfl (hF9.ev 22 rfl) rfl) rfl (by decide) fun a10 hF10 => ?_
          refine sq (v := (.int .i64 ((tokS o2 b2 (most : Int)).1))) hF10 (wantedS rfl) (run_ext rfl (hF10.ev 22 rfl) rfl) rfl (by decide) fun a11 hF11 => ?_
          refine sq (v := v1) hF11 (wantedS rfl) (run_as rfl (hF11.ev 27 rfl)) rfl (by decide) fun a12 hF12 => ?_
          refine sq (v := (.int .i64 ((tokS o2 b2 (most : Int)).2.2 : Int))) hF12 (wantedS rfl) (run_as rfl (hF12.ev 28 rfl)) rfl (by decide) fun a13 hF13 => ?_
          refine sq (v := (.int .i64 ((tokS o2 b2 (most : Int)).1))) hF13 (wantedS rfl) (run_as rfl (hF13.ev 29 rfl)) rfl (by decide) fun a14 hF14 => ?_
          refine sqEnd ?_
          clear hF3 hF4 hF5 hF6 hF7 hF8 hF9 hF10 hF11 hF12 hF13 hM0
          refine nx ?_
          refine wp_seq ?_
          refine wp_seq ?_
          refine wp_region_lit ?_
          refine sq (v := (.int .i64 ((tokS o2 b2 (most : Int)).1))) hF14 (wantedS rfl) (run_mv rfl (hF14.ev 9 rfl)) rfl (by decide) fun a15 hF15 => ?_
          refine sq (v := (.bool false)) hF15 (wantedS rfl) (run_nei rfl (hF15.ev 30 rfl) rfl (bne_eq_false_iff_eq.2 (by omega))) rfl (by decide) fun a16 hF16 => ?_
          refine sqEnd ?_
          clear hF14 hF15
          refine nx ?_
          refine wp_cond_false (hF16.ev 31 rfl) ?_
          refine wp_skip ?_
          refine nx ?_
          obtain ⟨KL, hKL⟩ : ∃ KL, KL = [kval v1, kval (.string ⟨b2.toArray⟩), kval (.int .i64 ((tokS o2 b2 (most : Int)).2.2 : Int)), kval (.string ⟨(b2.drop q).toArray⟩), kval v1] := ⟨_, rfl⟩
          have K0 : KL.getD 0 kany = kval v1 := by rw [hKL]; rfl
          have K1 : KL.getD 1 kany = kval (.string ⟨b2.toArray⟩) := by rw [hKL]; rfl
          have K2 : KL.getD 2 kany = kval (.int .i64 ((tokS o2 b2 (most : Int)).2.2 : Int)) := by rw [hKL]; rfl
          have K3 : KL.getD 3 kany = kval (.string ⟨(b2.drop q).toArray⟩) := by rw [hKL]; rfl
          have K4 : KL.getD 4 kany = kval v1 := by rw [hKL]; rfl
          have HKL : KL.length ≤ 5 := by rw [hKL]; exact Nat.le_refl _
          clear hKL
          refine wp_region_kdTail2 39 5 (by kernel_rfl) (by kernel_rfl) (by kernel_rfl) (by kernel_rfl) hF16.size KL HKL ?_ ?_
          · refine ⟨?_, ?_, ?_, ?_, ?_, trivial⟩
            · refine asksH_mk fun a W hS hh hd => ⟨wanted_yes rfl, ?_⟩
              exact giv_run (run_mv rfl (eval_tmp (hh 7 _ rfl (hF16.at 7 rfl)))) K0
            · refine asksH_mk fun a W hS hh hd => ⟨wanted_yes rfl, ?_⟩
              exact giv_run (run_mv rfl (eval_tmp (hh 0 _ rfl (hF16.at 0 rfl)))) K1
            · refine asksH_mk fun a W hS hh hd => ⟨wanted_yes rfl, ?_⟩
              exact giv_run (run_mv rfl (eval_tmp (hh 8 _ rfl (hF16.at 8 rfl)))) K2
            · refine asksH_mk fun a W hS hh hd => ⟨wanted_yes rfl, ?_⟩
              exact giv_run (run_sFrom (m := q) rfl (eval_tmp (hd.val (j := 1) (s := 34) (by kernel_rfl) K1)) (eval_tmp (hd.val (j := 2) (s := 35) (by kernel_rfl) K2)) Tryd.underlying9 (by omega) (by omega)) K3
            · refine asksH_mk fun a W hS hh hd => ⟨wanted_yes rfl, ?_⟩
              exact giv_run (run_as rfl (eval_tmp (hd.val (j := 0) (s := 33) (by kernel_rfl) K0))) K4
          · intro a17 w3 hb3 hK
            have e0 := hK.hval (i := 0) (s := 33) rfl (by kernel_rfl) K0
            have e1 := hK.hval (i := 1) (s := 34) rfl (by kernel_rfl) K1
            have e2 := hK.hval (i := 2) (s := 35) rfl (by kernel_rfl) K2
            have e3 := hK.hval (i := 3) (s := 36) rfl (by kernel_rfl) K3
            have e4 := hK.hval (i := 4) (s := 6) rfl (by kernel_rfl) K4
            have hF17 : Fr a17 39 [(0, (.string ⟨b2.toArray⟩)), (1, (.int .i64 (most : Int))), (6, v1), (7, v1), (8, (.int .i64 ((tokS o2 b2 (most : Int)).2.2 : Int))), (9, (.int .i64 ((tokS o2 b2 (most : Int)).1))), (19, (.string ⟨b2.toArray⟩)), (20, (.int .i64 (b2.length : Int))), (21, (.bool true)), (22, (.tuple #[v1, (.int .i64 ((tokS o2 b2 (most : Int)).2.2 : Int)), (.int .i64 ((tokS o2 b2 (most : Int)).1))])), (23, r), (24, (.string ⟨b2.toArray⟩)), (25, (.int .i64 (most : Int))), (26, (.tuple #[v1, (.int .i64 ((tokS o2 b2 (most : Int)).2.2 : Int)), (.int .i64 ((tokS o2 b2 (most : Int)).1))])), (27, v1), (28, (.int .i64 ((tokS o2 b2 (most : Int)).2.2 : Int))), (29, (.int .i64 ((tokS o2 b2 (most : Int)).1))), (30, (.int .i64 ((tokS o2 b2 (most : Int)).1))), (31, (.bool false)), (36, (.string ⟨(b2.drop q).toArray⟩))] := (hK.hfr hF16 [v1, (.string ⟨b2.toArray⟩), (.int .i64 ((tokS o2 b2 (most : Int)).2.2 : Int)), (.string ⟨(b2.drop q).toArray⟩), v1] ⟨e0, e1, e2, e3, e4, trivial⟩).sub ⟨rfl, rfl, rfl, rfl, rfl, rfl, rfl, rfl, rfl, rfl, rfl, rfl, rfl, rfl, rfl, rfl, rfl, rfl, rfl, rfl, trivial⟩
            have hM2 := hM1.grow hb3
            have hO2 := hO1.grow hb3
            clear hK K0 e0 K1 e1 K2 e2 K3 e3 K4 e4 HKL
            simp only [List.drop_succ_cons, List.drop_zero]
            refine sq (v := (.string ⟨(b2.drop q).toArray⟩)) hF17 (wantedS rfl) (run_as rfl (hF17.ev 36 rfl)) rfl (by decide) fun a18 hF18 => ?_
            refine sqEnd ?_
            clear hF16 hF17 hM1
            refine bkEnd ?_
            refine nx ?_
            exact ⟨_, by rw [List.length_drop]; omega, _, b2.drop q, v1, rfl, he, by rw [List.length_drop]; omega, hO2, hF18.sub ⟨rfl, rfl, rfl, trivial⟩, hM2⟩
        · rw [if_pos hk] at he
          have hres : unpS b most0 = ([], (tokS o2 b2 (most : Int)).1) := by rw [hS, ← he]
          refine wp_seq ?_
          refine wp_seq ?_
          refine wp_region_lit ?_
          refine sq (v := (.string ⟨b2.toArray⟩)) hF0 (wantedS rfl) (run_mv rfl (hF0.ev 0 rfl)) rfl (by decide) fun a1 hF1 => ?_
          refine sq (v := (.int .i64 (b2.length : Int))) hF1 (wantedS rfl) (run_len rfl (hF1.ev 19 rfl) rfl Tryd.underlying9) rfl (by decide) fun a2 hF2 => ?_
          refine sq (v := (.bool true)) hF2 (wantedS rfl) (run_gtr rfl (hF2.ev 20 rfl) rfl (decide_eq_true (by omega))) rfl (by decide) fun a3 hF3 => ?_
          refine sqEnd ?_
          clear hF0 hF1 hF2
          refine nx ?_
          refine wp_cond_true (hF3.ev 21 rfl) ?_
          refine wp_skip ?_
          refine nx ?_
          refine wp_block ?_
          refine wp_seq ?_
          refine wp_region_lit ?_
          refine sq (v := r) hF3 (wantedS rfl) (run_mv rfl (hF3.ev 6 rfl)) rfl (by decide) fun a4 hF4 => ?_
          refine sq (v := (.string ⟨b2.toArray⟩)) hF4 (wantedS rfl) (run_mv rfl (hF4.ev 0 rfl)) rfl (by decide) fun a5 hF5 => ?_
          refine sq (v := (.int .i64 (most : Int))) hF5 (wantedS rfl) (run_mv rfl (hF5.ev 1 rfl)) rfl (by decide) fun a6 hF6 => ?_
          refine sqT (T := fun r wx => ∃ u, r = .tuple #[u, .int .i64 ((tokS o2 b2 (most : Int)).2.2 : Int), .int .i64 (tokS o2 b2 (most : Int)).1] ∧ OwnR w [] wx 5 1 u (tokS o2 b2 (most : Int)).2.1.length ((tokS o2 b2 (most : Int)).2.1.map cb) ∧ Mem w [] wx) hF6 (wantedS rfl) (run_call rfl Tryd.func56 (by kernel_rfl) rfl (mapE3 (hF6.ev 23 rfl) (hF6.ev 24 rfl) (hF6.ev 25 rfl))) rfl (by decide) (ztok_any o2 b2 most _ _ _ _ hM0 hO0 (by omega) (by omega) (by omega) hmm) fun u2 a7 w2 hT2 hF7 => ?_
          obtain ⟨v3, rfl, hO1, hM1⟩ := hT2
          refine sq (v := (.tuple #[v3, (.int .i64 ((tokS o2 b2 (most : Int)).2.2 : Int)), (.int .i64 ((tokS o2 b2 (most : Int)).1))])) hF7 (wantedS rfl) (run_mv rfl (hF7.ev 26 rfl)) rfl (by decide) fun a8 hF8 => ?_
          refine sq (v := v3) hF8 (wantedS rfl) (run_ext rfl (hF8.ev 22 rfl) rfl) rfl (by decide) fun a9 hF9 => ?_
          refine sq (v := (.int .i64 ((tokS o2 b2 (most : Int)).2.2 : Int))) hF9 (wantedS rfl) (run_ext rfl (hF9.ev 22 rfl) rfl) rfl (by decide) fun a10 hF10 => ?_
          refine sq (v := (.int .i64 ((tokS o2 b2 (most : Int)).1))) hF10 (wantedS rfl) (run_ext rfl (hF10.ev 22 rfl) rfl) rfl (by decide) fun a11 hF11 => ?_
          refine sq (v := v3) hF11 (wantedS rfl) (run_as rfl (hF11.ev 27 rfl)) rfl (by decide) fun a12 hF12 => ?_
          refine sq (v := (.int .i64 ((tokS o2 b2 (most : Int)).2.2 : Int))) hF12 (wantedS rfl) (run_as rfl (hF12.ev 28 rfl)) rfl (by decide) fun a13 hF13 => ?_
          refine sq (v := (.int .i64 ((tokS o2 b2 (most : Int)).1))) hF13 (wantedS rfl) (run_as rfl (hF13.ev 29 rfl)) rfl (by decide) fun a14 hF14 => ?_
          refine sqEnd ?_
          clear hF3 hF4 hF5 hF6 hF7 hF8 hF9 hF10 hF11 hF12 hF13 hM0
          refine nx ?_
          refine wp_seq ?_
          refine wp_seq ?_
          refine wp_region_lit ?_
          refine sq (v := (.int .i64 ((tokS o2 b2 (most : Int)).1))) hF14 (wantedS rfl) (run_mv rfl (hF14.ev 9 rfl)) rfl (by decide) fun a15 hF15 => ?_
          refine sq (v := (.bool true)) hF15 (wantedS rfl) (run_nei rfl (hF15.ev 30 rfl) rfl (bne_iff_ne.2 (by omega))) rfl (by decide) fun a16 hF16 => ?_
          refine sqEnd ?_
          clear hF14 hF15
          refine nx ?_
          refine wp_cond_true (hF16.ev 31 rfl) ?_
          refine wp_seq ?_
          refine wp_region_lit ?_
          refine sq (v := (.int .i64 ((tokS o2 b2 (most : Int)).1))) hF16 (wantedS rfl) (run_mv rfl (hF16.ev 9 rfl)) rfl (by decide) fun a17 hF17 => ?_
          refine sq (v := (.string ⟨List.toArray []⟩)) hF17 (wantedS rfl) (run_as rfl rfl) rfl (by decide) fun a18 hF18 => ?_
          refine sq (v := (.int .i64 ((tokS o2 b2 (most : Int)).1))) hF18 (wantedS rfl) (run_as rfl (hF18.ev 32 rfl)) rfl (by decide) fun a19 hF19 => ?_
          refine sqEnd ?_
          clear hF16 hF17 hF18
          refine nx ?_
          refine wp_ret ?_
          refine nxRet ?_
          refine bkRet ?_
          refine nxRet ?_
          refine bkRet ?_
          refine nxRet ?_
          exact ret2 hF19 rfl rfl rfl ⟨by rw [hres], hM1.below⟩
      · have he0 : b2 = [] := List.length_eq_zero_iff.1 (by omega)
        have hres : unpS b most0 = (o2, 0) := by rw [hS, ← he, he0, unpT_nil]
        refine wp_seq ?_
        refine wp_seq ?_
        refine wp_region_lit ?_
        refine sq (v := (.string ⟨b2.toArray⟩)) hF0 (wantedS rfl) (run_mv rfl (hF0.ev 0 rfl)) rfl (by decide) fun a1 hF1 => ?_
        refine sq (v := (.int .i64 (b2.length : Int))) hF1 (wantedS rfl) (run_len rfl (hF1.ev 19 rfl) rfl Tryd.underlying9) rfl (by decide) fun a2 hF2 => ?_
        refine sq (v := (.bool false)) hF2 (wantedS rfl) (run_gtr rfl (hF2.ev 20 rfl) rfl (decide_eq_false (by omega))) rfl (by decide) fun a3 hF3 => ?_
        refine sqEnd ?_
        clear hF0 hF1 hF2
        refine nx ?_
        refine wp_cond_false (hF3.ev 21 rfl) ?_
        refine wp_exit ?_
        refine nxExit ?_
        refine nxExit ?_
        refine bkHere ?_
        refine nx ?_
        refine wp_seq ?_
        refine wp_region_lit ?_
        refine sq (v := r) hF3 (wantedS rfl) (run_mv rfl (hF3.ev 6 rfl)) rfl (by decide) fun a4 hF4 => ?_
        refine sq (v := (.string ⟨o2.toArray⟩)) hF4 (wantedS rfl) (run_strO hO0 rfl (hF4.ev 37 rfl)) rfl (by decide) fun a5 hF5 => ?_
        refine sq (v := (.string ⟨o2.toArray⟩)) hF5 (wantedS rfl) (run_as rfl (hF5.ev 38 rfl)) rfl (by decide) fun a6 hF6 => ?_
        refine sq (v := (.int .i64 0)) hF6 (wantedS rfl) (run_as rfl rfl) rfl (by decide) fun a7 hF7 => ?_
        refine sqEnd ?_
        clear hF3 hF4 hF5 hF6
        refine nx ?_
        refine wp_ret ?_
        exact ret2 hF7 rfl rfl rfl ⟨by rw [hres], hM0.below⟩
  · have hS : unpS b most0 = unpT [] b (most : Int) := by unfold unpS; rw [if_neg (fun h => h1 h.1), hmost]
    refine walk_enter Tryd.func33 rfl rfl rfl fun a0 hF0 => ?_
    have hM0 := Mem.new w
    refine wp_seq ?_
    refine wp_region_lit ?_
    refine sq (v := (.string ⟨List.toArray []⟩)) hF0 (wantedS rfl) (run_as rfl rfl) rfl (by decide) fun a1 hF1 => ?_
    refine sq (v := (.int .i64 0)) hF1 (wantedS rfl) (run_as rfl rfl) rfl (by decide) fun a2 hF2 => ?_
    refine sqEnd ?_
    clear hF0 hF1
    refine nx ?_
    refine wp_seq ?_
    refine wp_seq ?_
    refine wp_region_lit ?_
    refine sq (v := (.int .i64 most0)) hF2 (wantedS rfl) (run_mv rfl (hF2.ev 1 rfl)) rfl (by decide) fun a3 hF3 => ?_
    refine sq (v := (.bool false)) hF3 (wantedS rfl) (run_lss rfl (hF3.ev 10 rfl) rfl (decide_eq_false (by omega))) rfl (by decide) fun a4 hF4 => ?_
    refine sq (v := (.bool false)) hF4 (wantedS rfl) (run_mv rfl (hF4.ev 11 rfl)) rfl (by decide) fun a5 hF5 => ?_
    refine sqSkip hF5 (unwantedG hF5 rfl rfl rfl rfl rfl) rfl (by decide) fun a6 hF6 => ?_
    refine sqSkip hF6 (unwantedG hF6 rfl rfl rfl rfl rfl) rfl (by decide) fun a7 hF7 => ?_
    refine sqSkip hF7 (unwantedG hF7 rfl rfl rfl rfl rfl) rfl (by decide) fun a8 hF8 => ?_
    refine sq (v := (.bool false)) hF8 (wantedS rfl) (run_pick rfl (hF8.ev 12 rfl) (hF8.ev 15 rfl) rfl) rfl (by decide) fun a9 hF9 => ?_
    refine sqEnd ?_
    clear hF2 hF3 hF4 hF5 hF6 hF7 hF8
    refine nx ?_
    refine wp_cond_false (hF9.ev 16 rfl) ?_
    refine wp_skip ?_
    refine nx ?_
    refine wp_seq ?_
    refine wp_region_lit ?_
    refine sq (v := (.slice none 0 0)) hF9 (wantedS rfl) (run_as rfl rfl) rfl (by decide) fun a10 hF10 => ?_
    refine sqEnd ?_
    clear hF9
    refine nx ?_
    refine wp_seq ?_
    refine wp_region_lit ?_
    refine sq (v := (.int .i64 most0)) hF10 (wantedS rfl) (run_mv rfl (hF10.ev 1 rfl)) rfl (by decide) fun a11 hF11 => ?_
    refine sq (v := (.int .i64 (most : Int))) hF11 (wantedS rfl) (run_max2 (r := (most : Int)) rfl (hF11.ev 17 rfl) rfl (by split <;> omega)) rfl (by decide) fun a12 hF12 => ?_
    refine sq (v := (.int .i64 (most : Int))) hF12 (wantedS rfl) (run_as rfl (hF12.ev 18 rfl)) rfl (by decide) fun a13 hF13 => ?_
    refine sqEnd ?_
    clear hF10 hF11 hF12
    refine nx ?_
    refine wp_seq ?_
    refine wp_block ?_
    have hN := OwnR.nil w w [] 5 1
    refine wkLoop (fun m a w2 => ∃ (o2 b2 : List UInt8) (r : Value), m = b2.length ∧ unpT o2 b2 (most : Int) = unpT [] b (most : Int) ∧ o2.length + 131 * b2.length ≤ 131 * b.length ∧ OwnR w [] w2 5 1 r o2.length (o2.map cb) ∧ Fr a 39 [(0, .string ⟨b2.toArray⟩), (1, .int .i64 (most : Int)), (6, r)] ∧ Mem w [] w2) b.length ⟨[], b, .slice none 0 0, rfl, rfl, by simp, hN, hF13.sub ⟨rfl, rfl, rfl, trivial⟩, hM0⟩ ?_
    rintro m a0 w1 ⟨o2, b2, r, rfl, he, hlen2, hO0, hF0, hM0⟩
    by_cases hlt : 0 < b2.length
    · have hne : b2 ≠ [] := List.length_pos_iff.1 hlt
      rw [unpT_step _ _ hne] at he
      by_cases hk : (tokS o2 b2 (most : Int)).1 = 0
      · rw [if_neg (fun h => h hk)] at he
        have hu := tokS_used _ _ _ hk
        have hg := tokS_grow _ _ _ hk
        obtain ⟨q, hq⟩ : ∃ q, (tokS o2 b2 (most : Int)).2.2 = q := ⟨_, rfl⟩
        rw [hq] at he hu hg
        refine wp_seq ?_
        refine wp_seq ?_
        refine wp_region_lit ?_
        refine sq (v := (.string ⟨b2.toArray⟩)) hF0 (wantedS rfl) (run_mv rfl (hF0.ev 0 rfl)) rfl (by decide) fun a1 hF1 => ?_
        refine sq (v := (.int .i64 (b2.length : Int))) hF1 (wantedS rfl) (run_len rfl (hF1.ev 19 rfl) rfl Tryd.underlying9) rfl (by decide) fun a2 hF2 => ?_
        refine sq (v := (.bool true)) hF2 (wantedS rfl) (run_gtr rfl (hF2.ev 20 rfl) rfl (decide_eq_true (by omega))) rfl (by decide) fun a3 hF3 => ?_
        refine sqEnd ?_
        clear hF0 hF1 hF2
        refine nx ?_
        refine wp_cond_true (hF3.ev 21 rfl) ?_
        refine wp_skip ?_
        refine nx ?_
        refine wp_block ?_
        refine wp_seq ?_
        refine wp_region_lit ?_
        refine sq (v := r) hF3 (wantedS rfl) (run_mv rfl (hF3.ev 6 rfl)) rfl (by decide) fun a4 hF4 => ?_
        refine sq (v := (.string ⟨b2.toArray⟩)) hF4 (wantedS rfl) (run_mv rfl (hF4.ev 0 rfl)) rfl (by decide) fun a5 hF5 => ?_
        refine sq (v := (.int .i64 (most : Int))) hF5 (wantedS rfl) (run_mv rfl (hF5.ev 1 rfl)) rfl (by decide) fun a6 hF6 => ?_
        refine sqT (T := fun r wx => ∃ u, r = .tuple #[u, .int .i64 ((tokS o2 b2 (most : Int)).2.2 : Int), .int .i64 (tokS o2 b2 (most : Int)).1] ∧ OwnR w [] wx 5 1 u (tokS o2 b2 (most : Int)).2.1.length ((tokS o2 b2 (most : Int)).2.1.map cb) ∧ Mem w [] wx) hF6 (wantedS rfl) (run_call rfl Tryd.func56 (by kernel_rfl) rfl (mapE3 (hF6.ev 23 rfl) (hF6.ev 24 rfl) (hF6.ev 25 rfl))) rfl (by decide) (ztok_any o2 b2 most _ _ _ _ hM0 hO0 (by omega) (by omega) (by omega) hmm) fun u0 a7 w2 hT2 hF7 => ?_
        obtain ⟨v1, rfl, hO1, hM1⟩ := hT2
        refine sq (v := (.tuple #[v1, (.int .i64 ((tokS o2 b2 (most : Int)).2.2 : Int)), (.int .i64 ((tokS o2 b2 (most : Int)).1))])) hF7 (wantedS rfl) (run_mv rfl (hF7.ev 26 rfl)) rfl (by decide) fun a8 hF8 => ?_
        refine sq (v := v1) hF8 (wantedS rfl) (run_ext rfl (hF8.ev 22 rfl) rfl) rfl (by decide) fun a9 hF9 => ?_
        refine sq (v := (.int .i64 ((tokS o2 b2 (most : Int)).2.2 : Int))) hF9 (wantedS rfl) (run_ext rfl (hF9.ev 22 rfl) rfl) rfl (by decide) fun a10 hF10 => ?_
        refine sq (v := (.int .i64 ((tokS o2 b2 (most : Int)).1))) hF10 (wantedS rfl) (run_ext rfl (hF10.ev 22 rfl) rfl) rfl (by decide) fun a11 hF11 => ?_
        refine sq (v := v1) hF11 (wantedS rfl) (run_as rfl (hF11.ev 27 rfl)) rfl (by decide) fun a12 hF12 => ?_
        refine sq (v := (.int .i64 ((tokS o2 b2 (most : Int)).2.2 : Int))) hF12 (wantedS rfl) (run_as rfl (hF12.ev 28 rfl)) rfl (by decide) fun a13 hF13 => ?_
        refine sq (v := (.int .i64 ((tokS o2 b2 (most : Int)).1))) hF13 (wantedS rfl) (run_as rfl (hF13.ev 29 rfl)) rfl (by decide) fun a14 hF14 => ?_
        refine sqEnd ?_
        clear hF3 hF4 hF5 hF6 hF7 hF8 hF9 hF10 hF11 hF12 hF13 hM0
        refine nx ?_
        refine wp_seq ?_
        refine wp_seq ?_
        refine wp_region_lit ?_
        refine sq (v := (.int .i64 ((tokS o2 b2 (most : Int)).1))) hF14 (wantedS rfl) (run_mv rfl (hF14.ev 9 rfl)) rfl (by decide) fun a15 hF15 => ?_
        refine sq (v := (.bool false)) hF15 (wantedS rfl) (run_nei rfl (hF15.ev 30 rfl) rfl (bne_eq_false_iff_eq.2 (by omega))) rfl (by decide) fun a16 hF16 => ?_
        refine sqEnd ?_
        clear hF14 hF15
        refine nx ?_
        refine wp_cond_false (hF16.ev 31 rfl) ?_
        refine wp_skip ?_
        refine nx ?_
        obtain ⟨KL, hKL⟩ : ∃ KL, KL = [kval v1, kval (.string ⟨b2.toArray⟩), kval (.int .i64 ((tokS o2 b2 (most : Int)).2.2 : Int)), kval (.string ⟨(b2.drop q).toArray⟩), kval v1] := ⟨_, rfl⟩
        have K0 : KL.getD 0 kany = kval v1 := by rw [hKL]; rfl
        have K1 : KL.getD 1 kany = kval (.string ⟨b2.toArray⟩) := by rw [hKL]; rfl
        have K2 : KL.getD 2 kany = kval (.int .i64 ((tokS o2 b2 (most : Int)).2.2 : Int)) := by rw [hKL]; rfl
        have K3 : KL.getD 3 kany = kval (.string ⟨(b2.drop q).toArray⟩) := by rw [hKL]; rfl
        have K4 : KL.getD 4 kany = kval v1 := by rw [hKL]; rfl
        have HKL : KL.length ≤ 5 := by rw [hKL]; exact Nat.le_refl _
        clear hKL
        refine wp_region_kdTail2 39 5 (by kernel_rfl) (by kernel_rfl) (by kernel_rfl) (by kernel_rfl) hF16.size KL HKL ?_ ?_
        · refine ⟨?_, ?_, ?_, ?_, ?_, trivial⟩
          · refine asksH_mk fun a W hS hh hd => ⟨wanted_yes rfl, ?_⟩
            exact giv_run (run_mv rfl (eval_tmp (hh 7 _ rfl (hF16.at 7 rfl)))) K0
          · refine asksH_mk fun a W hS hh hd => ⟨wanted_yes rfl, ?_⟩
            exact giv_run (run_mv rfl (eval_tmp (hh 0 _ rfl (hF16.at 0 rfl)))) K1
          · refine asksH_mk fun a W hS hh hd => ⟨wanted_yes rfl, ?_⟩
            exact giv_run (run_mv rfl (eval_tmp (hh 8 _ rfl (hF16.at 8 rfl)))) K2
          · refine asksH_mk fun a W hS hh hd => ⟨wanted_yes rfl, ?_⟩
            exact giv_run (run_sFrom (m := q) rfl (eval_tmp (hd.val (j := 1) (s := 34) (by kernel_rfl) K1)) (eval_tmp (hd.val (j := 2) (s := 35) (by kernel_rfl) K2)) Tryd.underlying9 (by omega) (by omega)) K3
          · refine asksH_mk fun a W hS hh hd => ⟨wanted_yes rfl, ?_⟩
            exact giv_run (run_as rfl (eval_tmp (hd.val (j := 0) (s := 33) (by kernel_rfl) K0))) K4
        · intro a17 w3 hb3 hK
          have e0 := hK.hval (i := 0) (s := 33) rfl (by kernel_rfl) K0
          have e1 := hK.hval (i := 1) (s := 34) rfl (by kernel_rfl) K1
          have e2 := hK.hval (i := 2) (s := 35) rfl (by kernel_rfl) K2
          have e3 := hK.hval (i := 3) (s := 36) rfl (by kernel_rfl) K3
          have e4 := hK.hval (i := 4) (s := 6) rfl (by kernel_rfl) K4
          have hF17 : Fr a17 39 [(0, (.string ⟨b2.toArray⟩)), (1, (.int .i64 (most : Int))), (6, v1), (7, v1), (8, (.int .i64 ((tokS o2 b2 (most : Int)).2.2 : Int))), (9, (.int .i64 ((tokS o2 b2 (most : Int)).1))), (19, (.string ⟨b2.toArray⟩)), (20, (.int .i64 (b2.length : Int))), (21, (.bool true)), (22, (.tuple #[v1, (.int .i64 ((tokS o2 b2 (most : Int)).2.2 : Int)), (.int .i64 ((tokS o2 b2 (most : Int)).1))])), (23, r), (24, (.string ⟨b2.toArray⟩)), (25, (.int .i64 (most : Int))), (26, (.tuple #[v1, (.int .i64 ((tokS o2 b2 (most : Int)).2.2 : Int)), (.int .i64 ((tokS o2 b2 (most : Int)).1))])), (27, v1), (28, (.int .i64 ((tokS o2 b2 (most : Int)).2.2 : Int))), (29, (.int .i64 ((tokS o2 b2 (most : Int)).1))), (30, (.int .i64 ((tokS o2 b2 (most : Int)).1))), (31, (.bool false)), (36, (.string ⟨(b2.drop q).toArray⟩))] := (hK.hfr hF16 [v1, (.string ⟨b2.toArray⟩), (.int .i64 ((tokS o2 b2 (most : Int)).2.2 : Int)), (.string ⟨(b2.drop q).toArray⟩), v1] ⟨e0, e1, e2, e3, e4, trivial⟩).sub ⟨rfl, rfl, rfl, rfl, rfl, rfl, rfl, rfl, rfl, rfl, rfl, rfl, rfl, rfl, rfl, rfl, rfl, rfl, rfl, rfl, trivial⟩
          have hM2 := hM1.grow hb3
          have hO2 := hO1.grow hb3
          clear hK K0 e0 K1 e1 K2 e2 K3 e3 K4 e4 HKL
          simp only [List.drop_succ_cons, List.drop_zero]
          refine sq (v := (.string ⟨(b2.drop q).toArray⟩)) hF17 (wantedS rfl) (run_as rfl (hF17.ev 36 rfl)) rfl (by decide) fun a18 hF18 => ?_
          refine sqEnd ?_
          clear hF16 hF17 hM1
          refine bkEnd ?_
          refine nx ?_
          exact ⟨_, by rw [List.length_drop]; omega, _, b2.drop q, v1, rfl, he, by rw [List.length_drop]; omega, hO2, hF18.sub ⟨rfl, rfl, rfl, trivial⟩, hM2⟩
      · rw [if_pos hk] at he
        have hres : unpS b most0 = ([], (tokS o2 b2 (most : Int)).1) := by rw [hS, ← he]
        refine wp_seq ?_
        refine wp_seq ?_
        refine wp_region_lit ?_
        refine sq (v := (.string ⟨b2.toArray⟩)) hF0 (wantedS rfl) (run_mv rfl (hF0.ev 0 rfl)) rfl (by decide) fun a1 hF1 => ?_
        refine sq (v := (.int .i64 (b2.length : Int))) hF1 (wantedS rfl) (run_len rfl (hF1.ev 19 rfl) rfl Tryd.underlying9) rfl (by decide) fun a2 hF2 => ?_
        refine sq (v := (.bool true)) hF2 (wantedS rfl) (run_gtr rfl (hF2.ev 20 rfl) rfl (decide_eq_true (by omega))) rfl (by decide) fun a3 hF3 => ?_
        refine sqEnd ?_
        clear hF0 hF1 hF2
        refine nx ?_
        refine wp_cond_true (hF3.ev 21 rfl) ?_
        refine wp_skip ?_
        refine nx ?_
        refine wp_block ?_
        refine wp_seq ?_
        refine wp_region_lit ?_
        refine sq (v := r) hF3 (wantedS rfl) (run_mv rfl (hF3.ev 6 rfl)) rfl (by decide) fun a4 hF4 => ?_
        refine sq (v := (.string ⟨b2.toArray⟩)) hF4 (wantedS rfl) (run_mv rfl (hF4.ev 0 rfl)) rfl (by decide) fun a5 hF5 => ?_
        refine sq (v := (.int .i64 (most : Int))) hF5 (wantedS rfl) (run_mv rfl (hF5.ev 1 rfl)) rfl (by decide) fun a6 hF6 => ?_
        refine sqT (T := fun r wx => ∃ u, r = .tuple #[u, .int .i64 ((tokS o2 b2 (most : Int)).2.2 : Int), .int .i64 (tokS o2 b2 (most : Int)).1] ∧ OwnR w [] wx 5 1 u (tokS o2 b2 (most : Int)).2.1.length ((tokS o2 b2 (most : Int)).2.1.map cb) ∧ Mem w [] wx) hF6 (wantedS rfl) (run_call rfl Tryd.func56 (by kernel_rfl) rfl (mapE3 (hF6.ev 23 rfl) (hF6.ev 24 rfl) (hF6.ev 25 rfl))) rfl (by decide) (ztok_any o2 b2 most _ _ _ _ hM0 hO0 (by omega) (by omega) (by omega) hmm) fun u2 a7 w2 hT2 hF7 => ?_
        obtain ⟨v3, rfl, hO1, hM1⟩ := hT2
        refine sq (v := (.tuple #[v3, (.int .i64 ((tokS o2 b2 (most : Int)).2.2 : Int)), (.int .i64 ((tokS o2 b2 (most : Int)).1))])) hF7 (wantedS rfl) (run_mv rfl (hF7.ev 26 rfl)) rfl (by decide) fun a8 hF8 => ?_
        refine sq (v := v3) hF8 (wantedS rfl) (run_ext rfl (hF8.ev 22 rfl) rfl) rfl (by decide) fun a9 hF9 => ?_
        refine sq (v := (.int .i64 ((tokS o2 b2 (most : Int)).2.2 : Int))) hF9 (wantedS rfl) (run_ext rfl (hF9.ev 22 rfl) rfl) rfl (by decide) fun a10 hF10 => ?_
        refine sq (v := (.int .i64 ((tokS o2 b2 (most : Int)).1))) hF10 (wantedS rfl) (run_ext rfl (hF10.ev 22 rfl) rfl) rfl (by decide) fun a11 hF11 => ?_
        refine sq (v := v3) hF11 (wantedS rfl) (run_as rfl (hF11.ev 27 rfl)) rfl (by decide) fun a12 hF12 => ?_
        refine sq (v := (.int .i64 ((tokS o2 b2 (most : Int)).2.2 : Int))) hF12 (wantedS rfl) (run_as rfl (hF12.ev 28 rfl)) rfl (by decide) fun a13 hF13 => ?_
        refine sq (v := (.int .i64 ((tokS o2 b2 (most : Int)).1))) hF13 (wantedS rfl) (run_as rfl (hF13.ev 29 rfl)) rfl (by decide) fun a14 hF14 => ?_
        refine sqEnd ?_
        clear hF3 hF4 hF5 hF6 hF7 hF8 hF9 hF10 hF11 hF12 hF13 hM0
        refine nx ?_
        refine wp_seq ?_
        refine wp_seq ?_
        refine wp_region_lit ?_
        refine sq (v := (.int .i64 ((tokS o2 b2 (most : Int)).1))) hF14 (wantedS rfl) (run_mv rfl (hF14.ev 9 rfl)) rfl (by decide) fun a15 hF15 => ?_
        refine sq (v := (.bool true)) hF15 (wantedS rfl) (run_nei rfl (hF15.ev 30 rfl) rfl (bne_iff_ne.2 (by omega))) rfl (by decide) fun a16 hF16 => ?_
        refine sqEnd ?_
        clear hF14 hF15
        refine nx ?_
        refine wp_cond_true (hF16.ev 31 rfl) ?_
        refine wp_seq ?_
        refine wp_region_lit ?_
        refine sq (v := (.int .i64 ((tokS o2 b2 (most : Int)).1))) hF16 (wantedS rfl) (run_mv rfl (hF16.ev 9 rfl)) rfl (by decide) fun a17 hF17 => ?_
        refine sq (v := (.string ⟨List.toArray []⟩)) hF17 (wantedS rfl) (run_as rfl rfl) rfl (by decide) fun a18 hF18 => ?_
        refine sq (v := (.int .i64 ((tokS o2 b2 (most : Int)).1))) hF18 (wantedS rfl) (run_as rfl (hF18.ev 32 rfl)) rfl (by decide) fun a19 hF19 => ?_
        refine sqEnd ?_
        clear hF16 hF17 hF18
        refine nx ?_
        refine wp_ret ?_
        refine nxRet ?_
        refine bkRet ?_
        refine nxRet ?_
        refine bkRet ?_
        refine nxRet ?_
        exact ret2 hF19 rfl rfl rfl ⟨by rw [hres], hM1.below⟩
    · have he0 : b2 = [] := List.length_eq_zero_iff.1 (by omega)
      have hres : unpS b most0 = (o2, 0) := by rw [hS, ← he, he0, unpT_nil]
      refine wp_seq ?_
      refine wp_seq ?_
      refine wp_region_lit ?_
      refine sq (v := (.string ⟨b2.toArray⟩)) hF0 (wantedS rfl) (run_mv rfl (hF0.ev 0 rfl)) rfl (by decide) fun a1 hF1 => ?_
      refine sq (v := (.int .i64 (b2.length : Int))) hF1 (wantedS rfl) (run_len rfl (hF1.ev 19 rfl) rfl Tryd.underlying9) rfl (by decide) fun a2 hF2 => ?_
      refine sq (v := (.bool false)) hF2 (wantedS rfl) (run_gtr rfl (hF2.ev 20 rfl) rfl (decide_eq_false (by omega))) rfl (by decide) fun a3 hF3 => ?_
      refine sqEnd ?_
      clear hF0 hF1 hF2
      refine nx ?_
      refine wp_cond_false (hF3.ev 21 rfl) ?_
      refine wp_exit ?_
      refine nxExit ?_
      refine nxExit ?_
      refine bkHere ?_
      refine nx ?_
      refine wp_seq ?_
      refine wp_region_lit ?_
      refine sq (v := r) hF3 (wantedS rfl) (run_mv rfl (hF3.ev 6 rfl)) rfl (by decide) fun a4 hF4 => ?_
      refine sq (v := (.string ⟨o2.toArray⟩)) hF4 (wantedS rfl) (run_strO hO0 rfl (hF4.ev 37 rfl)) rfl (by decide) fun a5 hF5 => ?_
      refine sq (v := (.string ⟨o2.toArray⟩)) hF5 (wantedS rfl) (run_as rfl (hF5.ev 38 rfl)) rfl (by decide) fun a6 hF6 => ?_
      refine sq (v := (.int .i64 0)) hF6 (wantedS rfl) (run_as rfl rfl) rfl (by decide) fun a7 hF7 => ?_
      refine sqEnd ?_
      clear hF3 hF4 hF5 hF6
      refine nx ?_
      refine wp_ret ?_
      exact ret2 hF7 rfl rfl rfl ⟨by rw [hres], hM0.below⟩
end Go.Proofs.YtpobmaklgnioeaaDoor
