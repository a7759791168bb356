/- The walks of num.length and num.Texts. Printed by gen_num.py. -/
import Derived.Test.YtdjjiblijbjobaaDoorOps2
import Derived.Test.YtdjjiblijbjobaaDoorRowW
namespace Go.Proofs.YtdjjiblijbjobaaDoor
open Go.RowKit

theorem i64_or_nat (a b : Nat) (ha : a < 9223372036854775808) (hb : b < 9223372036854775808) : bits .or .i64 (a : Int) (b : Int) = ((a ||| b : Nat) : Int) := by
  have hx : a ||| b < 2 ^ 63 := Nat.or_lt_two_pow (by omega) (by omega)
  show IntKind.i64.wrap ((BitVec.ofInt 64 (a : Int) ||| BitVec.ofInt 64 (b : Int)).toNat : Int) = _
  have e : ∀ c : Nat, c < 9223372036854775808 → (BitVec.ofInt 64 (c : Int)).toNat = c := by
    intro c hc
    rw [BitVec.toNat_ofInt]
    omega
  rw [BitVec.toNat_or, e a ha, e b hb, IntKind.wrap_i64]
  omega
theorem and127u8 (c : UInt8) : bits .and .u8 (c.toNat : Int) 127 = ((c.toNat % 128 : Nat) : Int) := by
  have h : ∀ n : Nat, n < 256 → bits .and .u8 (n : Int) 127 = ((n % 128 : Nat) : Int) := by decide +kernel
  exact h _ c.toNat_lt
theorem shl7 (m i : Nat) (hm : m < 128) (hi : i ≤ 3) : IntKind.i64.wrap ((m : Int) * 2 ^ ((7 * i : Nat) : Int).toNat) = ((m * 128 ^ i : Nat) : Int) := by
  rw [IntKind.wrap_i64]
  have : i = 0 ∨ i = 1 ∨ i = 2 ∨ i = 3 := by omega
  rcases this with rfl | rfl | rfl | rfl <;> simp <;> omega
theorem or7 (n m i : Nat) (hm : m < 128) (hn : n < 128 ^ i) (hi : i ≤ 3) : bits .or .i64 (n : Int) ((m * 128 ^ i : Nat) : Int) = ((n + m * 128 ^ i : Nat) : Int) := by
  have e : (128 : Nat) ^ i = 2 ^ (7 * i) := by rw [Nat.pow_mul]
  have hb : (128 : Nat) ^ i ≤ 128 ^ 3 := Nat.pow_le_pow_right (by decide) hi
  have h2 : m * 128 ^ i ≤ 127 * 128 ^ 3 := Nat.mul_le_mul (by omega) hb
  rw [i64_or_nat n _ (by omega) (by omega)]
  congr 1
  have h3 := Nat.shiftLeft_add_eq_or_of_lt (i := 7 * i) (b := n) (by rw [← e]; exact hn) m
  rw [Nat.shiftLeft_eq, ← e] at h3
  rw [Nat.or_comm, ← h3, Nat.add_comm]
/-- what a length came to, when i bytes of it stood ahead and made n. -/
def lenAcc (i n : Nat) : Except Int (Nat × List UInt8) → Except Int (Nat × List UInt8)
  | .ok (m, x) => .ok (n + m * 128 ^ i, x)
  | .error e => .error e
theorem lenAcc_zero (r : Except Int (Nat × List UInt8)) : lenAcc 0 0 r = r := by
  cases r with
  | error e => rfl
  | ok p => obtain ⟨m, x⟩ := p; simp [lenAcc]
theorem drop_bt (b : List UInt8) (i : Nat) (h : i < b.length) : b.drop i = bt b i :: b.drop (i + 1) := by
  rw [List.drop_eq_getElem_cons h]; simp [bt, h]
theorem lenP_cons (k : Nat) (c : UInt8) (r : List UInt8) : lenP k (c :: r) = if c.toNat < 128 then (if c.toNat = 0 ∧ 0 < k then .error 3 else .ok (c.toNat, r)) else if k = 3 then .error 3 else match lenP (k + 1) r with
    | .ok (n, x) => .ok (c.toNat % 128 + 128 * n, x)
    | .error e => .error e := by rfl
theorem lenAcc_step (i n : Nat) (c : UInt8) (r : List UInt8) (hc : ¬ c.toNat < 128) (hi : i ≠ 3) : lenAcc i n (lenP i (c :: r)) = lenAcc (i + 1) (n + c.toNat % 128 * 128 ^ i) (lenP (i + 1) r) := by
  rw [lenP_cons, if_neg hc, if_neg hi]
  cases lenP (i + 1) r with
  | error e => rfl
  | ok p =>
    obtain ⟨m, x⟩ := p
    simp only [lenAcc, Except.ok.injEq, Prod.mk.injEq, and_true]
    rw [Nat.add_mul, Nat.pow_succ, Nat.add_assoc, Nat.mul_comm 128 m, Nat.mul_assoc, Nat.mul_comm 128 (128 ^ i)]
/-- what num.length hands back. -/
def lenR (b : List UInt8) : Value := match lenP 0 b with
  | .ok (n, x) => .tuple #[.int .i64 (n : Int), .int .i64 ((b.length - x.length : Nat) : Int), .int .i64 0]
  | .error e => .tuple #[.int .i64 0, .int .i64 0, .int .i64 e]
set_option maxRecDepth 100000 in
set_option maxHeartbeats 1000000 in
theorem nlen_any (b : List UInt8) (w : World) (hb : b.length < 2 ^ 47) : Calls Tryd.prog 104 #[.string ⟨b.toArray⟩] w fun e w' => e = .returned (lenR b) ∧ Below w.heap.size w w' := by
  refine walk_enter Tryd.func104 rfl rfl rfl fun a0 hF0 => ?_
  have hM0 := Mem.new w
  refine wp_seq ?_
  refine wp_region_lit ?_
  refine sq (v := (.int .i64 0)) hF0 (wantedS rfl) (run_as rfl rfl) rfl (by decide) fun a1 hF1 => ?_
  refine sq (v := (.int .i64 0)) hF1 (wantedS rfl) (run_as rfl rfl) rfl (by decide) fun a2 hF2 => ?_
  refine sq (v := (.int .i64 0)) hF2 (wantedS rfl) (run_as rfl rfl) rfl (by decide) fun a3 hF3 => ?_
  refine sqEnd ?_
  clear hF0 hF1 hF2
  refine nx ?_
  refine wp_seq ?_
  refine wp_region_lit ?_
  refine sq (v := (.int .i64 0)) hF3 (wantedS rfl) (run_as rfl rfl) rfl (by decide) fun a4 hF4 => ?_
  refine sqEnd ?_
  clear hF3
  refine nx ?_
  refine wp_seq ?_
  refine wp_seq ?_
  refine wp_region_lit ?_
  refine sq (v := (.string ⟨b.toArray⟩)) hF4 (wantedS rfl) (run_mv rfl (hF4.ev 0 rfl)) rfl (by decide) fun a5 hF5 => ?_
  refine sq (v := (.int .i64 (b.length : Int))) hF5 (wantedS rfl) (run_len rfl (hF5.ev 8 rfl) rfl Tryd.underlying9) rfl (by decide) fun a6 hF6 => ?_
  refine sq (v := (.int .i64 0)) hF6 (wantedS rfl) (run_mv rfl rfl) rfl (by decide) fun a7 hF7 => ?_
  refine sqEnd ?_
  clear hF4 hF5 hF6
  refine nx ?_
  refine wp_block ?_
  refine wkLoop (fun m a w2 => ∃ i n : Nat, i ≤ b.length ∧ i ≤ 3 ∧ n < 128 ^ i ∧ m = b.length - i ∧ lenP 0 b = lenAcc i n (lenP i (b.drop i)) ∧ Fr a 42 [(0, .string ⟨b.toArray⟩), (5, .int .i64 (n : Int)), (9, .int .i64 (b.length : Int)), (10, .int .i64 (i : Int))] ∧ Mem w [] w2) b.length ⟨0, 0, Nat.zero_le _, by omega, by simp, rfl, by rw [List.drop_zero, lenAcc_zero], hF7.sub ⟨rfl, rfl, rfl, rfl, trivial⟩, hM0⟩ ?_
  rintro m a0 w1 ⟨i, n, hi, hi3, hn, rfl, hR, hF0, hM0⟩
  have hSz : b.length < 2 ^ 47 := hb
  by_cases hlt : i < b.length
  · have hd := drop_bt b i hlt
    have hc := (bt b i).toNat_lt
    rw [hd] at hR
    by_cases h8 : (bt b i).toNat < 128
    · by_cases h0 : (bt b i).toNat = 0 ∧ 0 < i
      · have hres : lenR b = .tuple #[.int .i64 0, .int .i64 0, .int .i64 3] := by unfold lenR; rw [hR, lenP_cons, if_pos h8, if_pos h0]; rfl
        by_cases h3 : i = 3
        · skip
          refine wp_seq ?_
          refine wp_region_lit ?_
          refine sq (v := (.bool true)) hF0 (wantedS rfl) (run_lss rfl (hF0.ev 10 rfl) (hF0.ev 9 rfl) (decide_eq_true (by omega))) rfl (by decide) fun a1 hF1 => ?_
          refine sqEnd ?_
          clear hF0
          refine nx ?_
          refine wp_seq ?_
          refine wp_cond_true (hF1.ev 11 rfl) ?_
          refine wp_skip ?_
          refine nx ?_
          refine wp_seq ?_
          refine wp_block ?_
          refine wp_seq ?_
          refine wp_region_lit ?_
          refine sq (v := (.int .i64 (i : Int))) hF1 (wantedS rfl) (run_mv rfl (hF1.ev 10 rfl)) rfl (by decide) fun a2 hF2 => ?_
          refine sq (v := (.int .i64 (i : Int))) hF2 (wantedS rfl) (run_as rfl (hF2.ev 12 rfl)) rfl (by decide) fun a3 hF3 => ?_
          refine sqEnd ?_
          clear hF1 hF2
          refine nx ?_
          refine wp_seq ?_
          refine wp_region_lit ?_
          refine sq (v := (.string ⟨b.toArray⟩)) hF3 (wantedS rfl) (run_mv rfl (hF3.ev 0 rfl)) rfl (by decide) fun a4 hF4 => ?_
          refine sq (v := (.int .i64 (i : Int))) hF4 (wantedS rfl) (run_mv rfl (hF4.ev 6 rfl)) rfl (by decide) fun a5 hF5 => ?_
          refine sq (v := (.int .u8 ((bt b i).toNat : Int))) hF5 (wantedS rfl) (run_sAt (n := i) rfl (hF5.ev 13 rfl) (hF5.ev 14 rfl) Tryd.underlying9 rfl (by omega)) rfl (by decide) fun a6 hF6 => ?_
          refine sq (v := (.int .u8 ((bt b i).toNat : Int))) hF6 (wantedS rfl) (run_as rfl (hF6.ev 15 rfl)) rfl (by decide) fun a7 hF7 => ?_
          refine sqEnd ?_
          clear hF3 hF4 hF5 hF6
          refine nx ?_
          refine wp_seq ?_
          refine wp_seq ?_
          refine wp_region_lit ?_
          refine sq (v := (.int .i64 (i : Int))) hF7 (wantedS rfl) (run_mv rfl (hF7.ev 6 rfl)) rfl (by decide) fun a8 hF8 => ?_
          refine sq (v := (.bool true)) hF8 (wantedS rfl) (run_eqi rfl (hF8.ev 16 rfl) rfl (beq_iff_eq.2 (by omega))) rfl (by decide) fun a9 hF9 => ?_
          refine sq (v := (.bool true)) hF9 (wantedS rfl) (run_mv rfl (hF9.ev 17 rfl)) rfl (by decide) fun a10 hF10 => ?_
          refine sq (v := (.int .u8 ((bt b i).toNat : Int))) hF10 (wantedG hF10 rfl rfl rfl rfl rfl) (run_mv rfl (hF10.ev 7 rfl)) rfl (by decide) fun a11 hF11 => ?_
          refine sq (v := (.bool false)) hF11 (wantedG hF11 rfl rfl rfl rfl rfl) (run_geq rfl (hF11.ev 19 rfl) rfl (decide_eq_false (by omega))) rfl (by decide) fun a12 hF12 => ?_
          refine sq (v := (.bool false)) hF12 (wantedS rfl) (run_pick rfl (hF12.ev 18 rfl) (hF12.ev 20 rfl) rfl) rfl (by decide) fun a13 hF13 => ?_
          refine sqEnd ?_
          clear hF7 hF8 hF9 hF10 hF11 hF12
          refine nx ?_
          refine wp_cond_false (hF13.ev 21 rfl) ?_
          refine wp_skip ?_
          refine nx ?_
          refine wp_seq ?_
          refine wp_region_lit ?_
          refine sq (v := (.int .i64 (n : Int))) hF13 (wantedS rfl) (run_mv rfl (hF13.ev 5 rfl)) rfl (by decide) fun a14 hF14 => ?_
          refine sq (v := (.int .u8 ((bt b i).toNat : Int))) hF14 (wantedS rfl) (run_mv rfl (hF14.ev 7 rfl)) rfl (by decide) fun a15 hF15 => ?_
          refine sq (v := (.int .u8 (((bt b i).toNat % 128 : Nat) : Int))) hF15 (wantedS rfl) (run_and (r := (((bt b i).toNat % 128 : Nat) : Int)) rfl (hF15.ev 23 rfl) rfl (and127u8 _)) rfl (by decide) fun a16 hF16 => ?_
          refine sq (v := (.int .i64 (((bt b i).toNat % 128 : Nat) : Int))) hF16 (wantedS rfl) (run_cvI (r := (((bt b i).toNat % 128 : Nat) : Int)) rfl (hF16.ev 24 rfl) Tryd.underlying5 Tryd.underlying3 (by rw [IntKind.wrap_i64]; omega)) rfl (by decide) fun a17 hF17 => ?_
          refine sq (v := (.int .i64 (i : Int))) hF17 (wantedS rfl) (run_mv rfl (hF17.ev 6 rfl)) rfl (by decide) fun a18 hF18 => ?_
          refine sq (v := (.int .i64 ((7 * i : Nat) : Int))) hF18 (wantedS rfl) (run_mul (r := ((7 * i : Nat) : Int)) rfl rfl (hF18.ev 26 rfl) (by rw [IntKind.wrap_i64]; omega)) rfl (by decide) fun a19 hF19 => ?_
          refine sq (v := (.int .i64 (((bt b i).toNat % 128 * 128 ^ i : Nat) : Int))) hF19 (wantedS rfl) (run_shl (r := (((bt b i).toNat % 128 * 128 ^ i : Nat) : Int)) rfl (hF19.ev 25 rfl) (hF19.ev 27 rfl) (by omega) (by first | decide | (simp [IntKind.bits]; omega)) (shl7 _ i (Nat.mod_lt _ (by decide)) hi3)) rfl (by decide) fun a20 hF20 => ?_
          refine sq (v := (.int .i64 ((n + (bt b i).toNat % 128 * 128 ^ i : Nat) : Int))) hF20 (wantedS rfl) (run_or (r := ((n + (bt b i).toNat % 128 * 128 ^ i : Nat) : Int)) rfl (hF20.ev 22 rfl) (hF20.ev 28 rfl) (or7 n _ i (Nat.mod_lt _ (by decide)) hn hi3)) rfl (by decide) fun a21 hF21 => ?_
          refine sq (v := (.int .i64 ((n + (bt b i).toNat % 128 * 128 ^ i : Nat) : Int))) hF21 (wantedS rfl) (run_as rfl (hF21.ev 29 rfl)) rfl (by decide) fun a22 hF22 => ?_
          refine sqEnd ?_
          clear hF13 hF14 hF15 hF16 hF17 hF18 hF19 hF20 hF21
          refine nx ?_
          refine wp_seq ?_
          refine wp_seq ?_
          refine wp_region_lit ?_
          refine sq (v := (.int .u8 ((bt b i).toNat : Int))) hF22 (wantedS rfl) (run_mv rfl (hF22.ev 7 rfl)) rfl (by decide) fun a23 hF23 => ?_
          refine sq (v := (.bool false)) hF23 (wantedS rfl) (run_geq rfl (hF23.ev 30 rfl) rfl (decide_eq_false (by omega))) rfl (by decide) fun a24 hF24 => ?_
          refine sqEnd ?_
          clear hF22 hF23
          refine nx ?_
          refine wp_cond_false (hF24.ev 31 rfl) ?_
          refine wp_skip ?_
          refine nx ?_
          refine wp_seq ?_
          refine wp_seq ?_
          refine wp_region_lit ?_
          refine sq (v := (.int .u8 ((bt b i).toNat : Int))) hF24 (wantedS rfl) (run_mv rfl (hF24.ev 7 rfl)) rfl (by decide) fun a25 hF25 => ?_
          refine sq (v := (.bool true)) hF25 (wantedS rfl) (run_eqi rfl (hF25.ev 32 rfl) rfl (beq_iff_eq.2 (by omega))) rfl (by decide) fun a26 hF26 => ?_
          refine sq (v := (.bool true)) hF26 (wantedS rfl) (run_mv rfl (hF26.ev 33 rfl)) rfl (by decide) fun a27 hF27 => ?_
          refine sq (v := (.int .i64 (i : Int))) hF27 (wantedG hF27 rfl rfl rfl rfl rfl) (run_mv rfl (hF27.ev 6 rfl)) rfl (by decide) fun a28 hF28 => ?_
          refine sq (v := (.bool true)) hF28 (wantedG hF28 rfl rfl rfl rfl rfl) (run_gtr rfl (hF28.ev 35 rfl) rfl (decide_eq_true (by omega))) rfl (by decide) fun a29 hF29 => ?_
          refine sq (v := (.bool true)) hF29 (wantedS rfl) (run_pick rfl (hF29.ev 34 rfl) (hF29.ev 36 rfl) rfl) rfl (by decide) fun a30 hF30 => ?_
          refine sqEnd ?_
          clear hF24 hF25 hF26 hF27 hF28 hF29
          refine nx ?_
          refine wp_cond_true (hF30.ev 37 rfl) ?_
          refine wp_seq ?_
          refine wp_region_lit ?_
          refine sq (v := (.int .i64 0)) hF30 (wantedS rfl) (run_as rfl rfl) rfl (by decide) fun a31 hF31 => ?_
          refine sq (v := (.int .i64 0)) hF31 (wantedS rfl) (run_as rfl rfl) rfl (by decide) fun a32 hF32 => ?_
          refine sq (v := (.int .i64 3)) hF32 (wantedS rfl) (run_as rfl rfl) rfl (by decide) fun a33 hF33 => ?_
          refine sqEnd ?_
          clear hF30 hF31 hF32
          refine nx ?_
          refine wp_ret ?_
          refine nxRet ?_
          refine bkRet ?_
          refine nxRet ?_
          refine nxRet ?_
          refine bkRet ?_
          refine nxRet ?_
          exact ret3 hF33 rfl rfl rfl rfl ⟨by rw [hres], hM0.below⟩
        · skip
          refine wp_seq ?_
          refine wp_region_lit ?_
          refine sq (v := (.bool true)) hF0 (wantedS rfl) (run_lss rfl (hF0.ev 10 rfl) (hF0.ev 9 rfl) (decide_eq_true (by omega))) rfl (by decide) fun a1 hF1 => ?_
          refine sqEnd ?_
          clear hF0
          refine nx ?_
          refine wp_seq ?_
          refine wp_cond_true (hF1.ev 11 rfl) ?_
          refine wp_skip ?_
          refine nx ?_
          refine wp_seq ?_
          refine wp_block ?_
          refine wp_seq ?_
          refine wp_region_lit ?_
          refine sq (v := (.int .i64 (i : Int))) hF1 (wantedS rfl) (run_mv rfl (hF1.ev 10 rfl)) rfl (by decide) fun a2 hF2 => ?_
          refine sq (v := (.int .i64 (i : Int))) hF2 (wantedS rfl) (run_as rfl (hF2.ev 12 rfl)) rfl (by decide) fun a3 hF3 => ?_
          refine sqEnd ?_
          clear hF1 hF2
          refine nx ?_
          refine wp_seq ?_
          refine wp_region_lit ?_
          refine sq (v := (.string ⟨b.toArray⟩)) hF3 (wantedS rfl) (run_mv rfl (hF3.ev 0 rfl)) rfl (by decide) fun a4 hF4 => ?_
          refine sq (v := (.int .i64 (i : Int))) hF4 (wantedS rfl) (run_mv rfl (hF4.ev 6 rfl)) rfl (by decide) fun a5 hF5 => ?_
          refine sq (v := (.int .u8 ((bt b i).toNat : Int))) hF5 (wantedS rfl) (run_sAt (n := i) rfl (hF5.ev 13 rfl) (hF5.ev 14 rfl) Tryd.underlying9 rfl (by omega)) rfl (by decide) fun a6 hF6 => ?_
          refine sq (v := (.int .u8 ((bt b i).toNat : Int))) hF6 (wantedS rfl) (run_as rfl (hF6.ev 15 rfl)) rfl (by decide) fun a7 hF7 => ?_
          refine sqEnd ?_
          clear hF3 hF4 hF5 hF6
          refine nx ?_
          refine wp_seq ?_
          refine wp_seq ?_
          refine wp_region_lit ?_
          refine sq (v := (.int .i64 (i : Int))) hF7 (wantedS rfl) (run_mv rfl (hF7.ev 6 rfl)) rfl (by decide) fun a8 hF8 => ?_
          refine sq (v := (.bool false)) hF8 (wantedS rfl) (run_eqi rfl (hF8.ev 16 rfl) rfl (beq_eq_false_iff_ne.2 (by omega))) rfl (by decide) fun a9 hF9 => ?_
          refine sq (v := (.bool false)) hF9 (wantedS rfl) (run_mv rfl (hF9.ev 17 rfl)) rfl (by decide) fun a10 hF10 => ?_
          refine sqSkip hF10 (unwantedG hF10 rfl rfl rfl rfl rfl) rfl (by decide) fun a11 hF11 => ?_
          refine sqSkip hF11 (unwantedG hF11 rfl rfl rfl rfl rfl) rfl (by decide) fun a12 hF12 => ?_
          refine sq (v := (.bool false)) hF12 (wantedS rfl) (run_pick rfl (hF12.ev 18 rfl) (hF12.ev 20 rfl) rfl) rfl (by decide) fun a13 hF13 => ?_
          refine sqEnd ?_
          clear hF7 hF8 hF9 hF10 hF11 hF12
          refine nx ?_
          refine wp_cond_false (hF13.ev 21 rfl) ?_
          refine wp_skip ?_
          refine nx ?_
          refine wp_seq ?_
          refine wp_region_lit ?_
          refine sq (v := (.int .i64 (n : Int))) hF13 (wantedS rfl) (run_mv rfl (hF13.ev 5 rfl)) rfl (by decide) fun a14 hF14 => ?_
          refine sq (v := (.int .u8 ((bt b i).toNat : Int))) hF14 (wantedS rfl) (run_mv rfl (hF14.ev 7 rfl)) rfl (by decide) fun a15 hF15 => ?_
          refine sq (v := (.int .u8 (((bt b i).toNat % 128 : Nat) : Int))) hF15 (wantedS rfl) (run_and (r := (((bt b i).toNat % 128 : Nat) : Int)) rfl (hF15.ev 23 rfl) rfl (and127u8 _)) rfl (by decide) fun a16 hF16 => ?_
          refine sq (v := (.int .i64 (((bt b i).toNat % 128 : Nat) : Int))) hF16 (wantedS rfl) (run_cvI (r := (((bt b i).toNat % 128 : Nat) : Int)) rfl (hF16.ev 24 rfl) Tryd.underlying5 Tryd.underlying3 (by rw [IntKind.wrap_i64]; omega)) rfl (by decide) fun a17 hF17 => ?_
          refine sq (v := (.int .i64 (i : Int))) hF17 (wantedS rfl) (run_mv rfl (hF17.ev 6 rfl)) rfl (by decide) fun a18 hF18 => ?_
          refine sq (v := (.int .i64 ((7 * i : Nat) : Int))) hF18 (wantedS rfl) (run_mul (r := ((7 * i : Nat) : Int)) rfl rfl (hF18.ev 26 rfl) (by rw [IntKind.wrap_i64]; omega)) rfl (by decide) fun a19 hF19 => ?_
          refine sq (v := (.int .i64 (((bt b i).toNat % 128 * 128 ^ i : Nat) : Int))) hF19 (wantedS rfl) (run_shl (r := (((bt b i).toNat % 128 * 128 ^ i : Nat) : Int)) rfl (hF19.ev 25 rfl) (hF19.ev 27 rfl) (by omega) (by first | decide | (simp [IntKind.bits]; omega)) (shl7 _ i (Nat.mod_lt _ (by decide)) hi3)) rfl (by decide) fun a20 hF20 => ?_
          refine sq (v := (.int .i64 ((n + (bt b i).toNat % 128 * 128 ^ i : Nat) : Int))) hF20 (wantedS rfl) (run_or (r := ((n + (bt b i).toNat % 128 * 128 ^ i : Nat) : Int)) rfl (hF20.ev 22 rfl) (hF20.ev 28 rfl) (or7 n _ i (Nat.mod_lt _ (by decide)) hn hi3)) rfl (by decide) fun a21 hF21 => ?_
          refine sq (v := (.int .i64 ((n + (bt b i).toNat % 128 * 128 ^ i : Nat) : Int))) hF21 (wantedS rfl) (run_as rfl (hF21.ev 29 rfl)) rfl (by decide) fun a22 hF22 => ?_
          refine sqEnd ?_
          clear hF13 hF14 hF15 hF16 hF17 hF18 hF19 hF20 hF21
          refine nx ?_
          refine wp_seq ?_
          refine wp_seq ?_
          refine wp_region_lit ?_
          refine sq (v := (.int .u8 ((bt b i).toNat : Int))) hF22 (wantedS rfl) (run_mv rfl (hF22.ev 7 rfl)) rfl (by decide) fun a23 hF23 => ?_
          refine sq (v := (.bool false)) hF23 (wantedS rfl) (run_geq rfl (hF23.ev 30 rfl) rfl (decide_eq_false (by omega))) rfl (by decide) fun a24 hF24 => ?_
          refine sqEnd ?_
          clear hF22 hF23
          refine nx ?_
          refine wp_cond_false (hF24.ev 31 rfl) ?_
          refine wp_skip ?_
          refine nx ?_
          refine wp_seq ?_
          refine wp_seq ?_
          refine wp_region_lit ?_
          refine sq (v := (.int .u8 ((bt b i).toNat : Int))) hF24 (wantedS rfl) (run_mv rfl (hF24.ev 7 rfl)) rfl (by decide) fun a25 hF25 => ?_
          refine sq (v := (.bool true)) hF25 (wantedS rfl) (run_eqi rfl (hF25.ev 32 rfl) rfl (beq_iff_eq.2 (by omega))) rfl (by decide) fun a26 hF26 => ?_
          refine sq (v := (.bool true)) hF26 (wantedS rfl) (run_mv rfl (hF26.ev 33 rfl)) rfl (by decide) fun a27 hF27 => ?_
          refine sq (v := (.int .i64 (i : Int))) hF27 (wantedG hF27 rfl rfl rfl rfl rfl) (run_mv rfl (hF27.ev 6 rfl)) rfl (by decide) fun a28 hF28 => ?_
          refine sq (v := (.bool true)) hF28 (wantedG hF28 rfl rfl rfl rfl rfl) (run_gtr rfl (hF28.ev 35 rfl) rfl (decide_eq_true (by omega))) rfl (by decide) fun a29 hF29 => ?_
          refine sq (v := (.bool true)) hF29 (wantedS rfl) (run_pick rfl (hF29.ev 34 rfl) (hF29.ev 36 rfl) rfl) rfl (by decide) fun a30 hF30 => ?_
          refine sqEnd ?_
          clear hF24 hF25 hF26 hF27 hF28 hF29
          refine nx ?_
          refine wp_cond_true (hF30.ev 37 rfl) ?_
          refine wp_seq ?_
          refine wp_region_lit ?_
          refine sq (v := (.int .i64 0)) hF30 (wantedS rfl) (run_as rfl rfl) rfl (by decide) fun a31 hF31 => ?_
          refine sq (v := (.int .i64 0)) hF31 (wantedS rfl) (run_as rfl rfl) rfl (by decide) fun a32 hF32 => ?_
          refine sq (v := (.int .i64 3)) hF32 (wantedS rfl) (run_as rfl rfl) rfl (by decide) fun a33 hF33 => ?_
          refine sqEnd ?_
          clear hF30 hF31 hF32
          refine nx ?_
          refine wp_ret ?_
          refine nxRet ?_
          refine bkRet ?_
          refine nxRet ?_
          refine nxRet ?_
          refine bkRet ?_
          refine nxRet ?_
          exact ret3 hF33 rfl rfl rfl rfl ⟨by rw [hres], hM0.below⟩
      · have hres : lenR b = .tuple #[.int .i64 ((n + (bt b i).toNat % 128 * 128 ^ i : Nat) : Int), .int .i64 ((i + 1 : Nat) : Int), .int .i64 0] := by
          unfold lenR; rw [hR, lenP_cons, if_pos h8, if_neg h0]
          simp only [lenAcc, List.length_drop]
          rw [Nat.mod_eq_of_lt h8, show b.length - (b.length - (i + 1)) = i + 1 by omega]
        by_cases hz : (bt b i).toNat = 0
        · have hi0 : i = 0 := by omega
          refine wp_seq ?_
          refine wp_region_lit ?_
          refine sq (v := (.bool true)) hF0 (wantedS rfl) (run_lss rfl (hF0.ev 10 rfl) (hF0.ev 9 rfl) (decide_eq_true (by omega))) rfl (by decide) fun a1 hF1 => ?_
          refine sqEnd ?_
          clear hF0
          refine nx ?_
          refine wp_seq ?_
          refine wp_cond_true (hF1.ev 11 rfl) ?_
          refine wp_skip ?_
          refine nx ?_
          refine wp_seq ?_
          refine wp_block ?_
          refine wp_seq ?_
          refine wp_region_lit ?_
          refine sq (v := (.int .i64 (i : Int))) hF1 (wantedS rfl) (run_mv rfl (hF1.ev 10 rfl)) rfl (by decide) fun a2 hF2 => ?_
          refine sq (v := (.int .i64 (i : Int))) hF2 (wantedS rfl) (run_as rfl (hF2.ev 12 rfl)) rfl (by decide) fun a3 hF3 => ?_
          refine sqEnd ?_
          clear hF1 hF2
          refine nx ?_
          refine wp_seq ?_
          refine wp_region_lit ?_
          refine sq (v := (.string ⟨b.toArray⟩)) hF3 (wantedS rfl) (run_mv rfl (hF3.ev 0 rfl)) rfl (by decide) fun a4 hF4 => ?_
          refine sq (v := (.int .i64 (i : Int))) hF4 (wantedS rfl) (run_mv rfl (hF4.ev 6 rfl)) rfl (by decide) fun a5 hF5 => ?_
          refine sq (v := (.int .u8 ((bt b i).toNat : Int))) hF5 (wantedS rfl) (run_sAt (n := i) rfl (hF5.ev 13 rfl) (hF5.ev 14 rfl) Tryd.underlying9 rfl (by omega)) rfl (by decide) fun a6 hF6 => ?_
          refine sq (v := (.int .u8 ((bt b i).toNat : Int))) hF6 (wantedS rfl) (run_as rfl (hF6.ev 15 rfl)) rfl (by decide) fun a7 hF7 => ?_
          refine sqEnd ?_
          clear hF3 hF4 hF5 hF6
          refine nx ?_
          refine wp_seq ?_
          refine wp_seq ?_
          refine wp_region_lit ?_
          refine sq (v := (.int .i64 (i : Int))) hF7 (wantedS rfl) (run_mv rfl (hF7.ev 6 rfl)) rfl (by decide) fun a8 hF8 => ?_
          refine sq (v := (.bool false)) hF8 (wantedS rfl) (run_eqi rfl (hF8.ev 16 rfl) rfl (beq_eq_false_iff_ne.2 (by omega))) rfl (by decide) fun a9 hF9 => ?_
          refine sq (v := (.bool false)) hF9 (wantedS rfl) (run_mv rfl (hF9.ev 17 rfl)) rfl (by decide) fun a10 hF10 => ?_
          refine sqSkip hF10 (unwantedG hF10 rfl rfl rfl rfl rfl) rfl (by decide) fun a11 hF11 => ?_
          refine sqSkip hF11 (unwantedG hF11 rfl rfl rfl rfl rfl) rfl (by decide) fun a12 hF12 => ?_
          refine sq (v := (.bool false)) hF12 (wantedS rfl) (run_pick rfl (hF12.ev 18 rfl) (hF12.ev 20 rfl) rfl) rfl (by decide) fun a13 hF13 => ?_
          refine sqEnd ?_
          clear hF7 hF8 hF9 hF10 hF11 hF12
          refine nx ?_
          refine wp_cond_false (hF13.ev 21 rfl) ?_
          refine wp_skip ?_
          refine nx ?_
          refine wp_seq ?_
          refine wp_region_lit ?_
          refine sq (v := (.int .i64 (n : Int))) hF13 (wantedS rfl) (run_mv rfl (hF13.ev 5 rfl)) rfl (by decide) fun a14 hF14 => ?_
          refine sq (v := (.int .u8 ((bt b i).toNat : Int))) hF14 (wantedS rfl) (run_mv rfl (hF14.ev 7 rfl)) rfl (by decide) fun a15 hF15 => ?_
          refine sq (v := (.int .u8 (((bt b i).toNat % 128 : Nat) : Int))) hF15 (wantedS rfl) (run_and (r := (((bt b i).toNat % 128 : Nat) : Int)) rfl (hF15.ev 23 rfl) rfl (and127u8 _)) rfl (by decide) fun a16 hF16 => ?_
          refine sq (v := (.int .i64 (((bt b i).toNat % 128 : Nat) : Int))) hF16 (wantedS rfl) (run_cvI (r := (((bt b i).toNat % 128 : Nat) : Int)) rfl (hF16.ev 24 rfl) Tryd.underlying5 Tryd.underlying3 (by rw [IntKind.wrap_i64]; omega)) rfl (by decide) fun a17 hF17 => ?_
          refine sq (v := (.int .i64 (i : Int))) hF17 (wantedS rfl) (run_mv rfl (hF17.ev 6 rfl)) rfl (by decide) fun a18 hF18 => ?_
          refine sq (v := (.int .i64 ((7 * i : Nat) : Int))) hF18 (wantedS rfl) (run_mul (r := ((7 * i : Nat) : Int)) rfl rfl (hF18.ev 26 rfl) (by rw [IntKind.wrap_i64]; omega)) rfl (by decide) fun a19 hF19 => ?_
          refine sq (v := (.int .i64 (((bt b i).toNat % 128 * 128 ^ i : Nat) : Int))) hF19 (wantedS rfl) (run_shl (r := (((bt b i).toNat % 128 * 128 ^ i : Nat) : Int)) rfl (hF19.ev 25 rfl) (hF19.ev 27 rfl) (by omega) (by first | decide | (simp [IntKind.bits]; omega)) (shl7 _ i (Nat.mod_lt _ (by decide)) hi3)) rfl (by decide) fun a20 hF20 => ?_
          refine sq (v := (.int .i64 ((n + (bt b i).toNat % 128 * 128 ^ i : Nat) : Int))) hF20 (wantedS rfl) (run_or (r := ((n + (bt b i).toNat % 128 * 128 ^ i : Nat) : Int)) rfl (hF20.ev 22 rfl) (hF20.ev 28 rfl) (or7 n _ i (Nat.mod_lt _ (by decide)) hn hi3)) rfl (by decide) fun a21 hF21 => ?_
          refine sq (v := (.int .i64 ((n + (bt b i).toNat % 128 * 128 ^ i : Nat) : Int))) hF21 (wantedS rfl) (run_as rfl (hF21.ev 29 rfl)) rfl (by decide) fun a22 hF22 => ?_
          refine sqEnd ?_
          clear hF13 hF14 hF15 hF16 hF17 hF18 hF19 hF20 hF21
          refine nx ?_
          refine wp_seq ?_
          refine wp_seq ?_
          refine wp_region_lit ?_
          refine sq (v := (.int .u8 ((bt b i).toNat : Int))) hF22 (wantedS rfl) (run_mv rfl (hF22.ev 7 rfl)) rfl (by decide) fun a23 hF23 => ?_
          refine sq (v := (.bool false)) hF23 (wantedS rfl) (run_geq rfl (hF23.ev 30 rfl) rfl (decide_eq_false (by omega))) rfl (by decide) fun a24 hF24 => ?_
          refine sqEnd ?_
          clear hF22 hF23
          refine nx ?_
          refine wp_cond_false (hF24.ev 31 rfl) ?_
          refine wp_skip ?_
          refine nx ?_
          refine wp_seq ?_
          refine wp_seq ?_
          refine wp_region_lit ?_
          refine sq (v := (.int .u8 ((bt b i).toNat : Int))) hF24 (wantedS rfl) (run_mv rfl (hF24.ev 7 rfl)) rfl (by decide) fun a25 hF25 => ?_
          refine sq (v := (.bool true)) hF25 (wantedS rfl) (run_eqi rfl (hF25.ev 32 rfl) rfl (beq_iff_eq.2 (by omega))) rfl (by decide) fun a26 hF26 => ?_
          refine sq (v := (.bool true)) hF26 (wantedS rfl) (run_mv rfl (hF26.ev 33 rfl)) rfl (by decide) fun a27 hF27 => ?_
          refine sq (v := (.int .i64 (i : Int))) hF27 (wantedG hF27 rfl rfl rfl rfl rfl) (run_mv rfl (hF27.ev 6 rfl)) rfl (by decide) fun a28 hF28 => ?_
          refine sq (v := (.bool false)) hF28 (wantedG hF28 rfl rfl rfl rfl rfl) (run_gtr rfl (hF28.ev 35 rfl) rfl (decide_eq_false (by omega))) rfl (by decide) fun a29 hF29 => ?_
          refine sq (v := (.bool false)) hF29 (wantedS rfl) (run_pick rfl (hF29.ev 34 rfl) (hF29.ev 36 rfl) rfl) rfl (by decide) fun a30 hF30 => ?_
          refine sqEnd ?_
          clear hF24 hF25 hF26 hF27 hF28 hF29
          refine nx ?_
          refine wp_cond_false (hF30.ev 37 rfl) ?_
          refine wp_skip ?_
          refine nx ?_
          refine wp_seq ?_
          refine wp_region_lit ?_
          refine sq (v := (.int .i64 ((n + (bt b i).toNat % 128 * 128 ^ i : Nat) : Int))) hF30 (wantedS rfl) (run_mv rfl (hF30.ev 5 rfl)) rfl (by decide) fun a31 hF31 => ?_
          refine sq (v := (.int .i64 (i : Int))) hF31 (wantedS rfl) (run_mv rfl (hF31.ev 6 rfl)) rfl (by decide) fun a32 hF32 => ?_
          refine sq (v := (.int .i64 ((i + 1 : Nat) : Int))) hF32 (wantedS rfl) (run_add (r := ((i + 1 : Nat) : Int)) rfl (hF32.ev 39 rfl) rfl (by rw [IntKind.wrap_i64]; omega)) rfl (by decide) fun a33 hF33 => ?_
          refine sq (v := (.int .i64 ((n + (bt b i).toNat % 128 * 128 ^ i : Nat) : Int))) hF33 (wantedS rfl) (run_as rfl (hF33.ev 38 rfl)) rfl (by decide) fun a34 hF34 => ?_
          refine sq (v := (.int .i64 ((i + 1 : Nat) : Int))) hF34 (wantedS rfl) (run_as rfl (hF34.ev 40 rfl)) rfl (by decide) fun a35 hF35 => ?_
          refine sq (v := (.int .i64 0)) hF35 (wantedS rfl) (run_as rfl rfl) rfl (by decide) fun a36 hF36 => ?_
          refine sqEnd ?_
          clear hF30 hF31 hF32 hF33 hF34 hF35
          refine nx ?_
          refine wp_ret ?_
          refine bkRet ?_
          refine nxRet ?_
          refine nxRet ?_
          refine bkRet ?_
          refine nxRet ?_
          exact ret3 hF36 rfl rfl rfl rfl ⟨by rw [hres], hM0.below⟩
        · skip
          by_cases h3 : i = 3
          · skip
            refine wp_seq ?_
            refine wp_region_lit ?_
            refine sq (v := (.bool true)) hF0 (wantedS rfl) (run_lss rfl (hF0.ev 10 rfl) (hF0.ev 9 rfl) (decide_eq_true (by omega))) rfl (by decide) fun a1 hF1 => ?_
            refine sqEnd ?_
            clear hF0
            refine nx ?_
            refine wp_seq ?_
            refine wp_cond_true (hF1.ev 11 rfl) ?_
            refine wp_skip ?_
            refine nx ?_
            refine wp_seq ?_
            refine wp_block ?_
            refine wp_seq ?_
            refine wp_region_lit ?_
            refine sq (v := (.int .i64 (i : Int))) hF1 (wantedS rfl) (run_mv rfl (hF1.ev 10 rfl)) rfl (by decide) fun a2 hF2 => ?_
            refine sq (v := (.int .i64 (i : Int))) hF2 (wantedS rfl) (run_as rfl (hF2.ev 12 rfl)) rfl (by decide) fun a3 hF3 => ?_
            refine sqEnd ?_
            clear hF1 hF2
            refine nx ?_
            refine wp_seq ?_
            refine wp_region_lit ?_
            refine sq (v := (.string ⟨b.toArray⟩)) hF3 (wantedS rfl) (run_mv rfl (hF3.ev 0 rfl)) rfl (by decide) fun a4 hF4 => ?_
            refine sq (v := (.int .i64 (i : Int))) hF4 (wantedS rfl) (run_mv rfl (hF4.ev 6 rfl)) rfl (by decide) fun a5 hF5 => ?_
            refine sq (v := (.int .u8 ((bt b i).toNat : Int))) hF5 (wantedS rfl) (run_sAt (n := i) rfl (hF5.ev 13 rfl) (hF5.ev 14 rfl) Tryd.underlying9 rfl (by omega)) rfl (by decide) fun a6 hF6 => ?_
            refine sq (v := (.int .u8 ((bt b i).toNat : Int))) hF6 (wantedS rfl) (run_as rfl (hF6.ev 15 rfl)) rfl (by decide) fun a7 hF7 => ?_
            refine sqEnd ?_
            clear hF3 hF4 hF5 hF6
            refine nx ?_
            refine wp_seq ?_
            refine wp_seq ?_
            refine wp_region_lit ?_
            refine sq (v := (.int .i64 (i : Int))) hF7 (wantedS rfl) (run_mv rfl (hF7.ev 6 rfl)) rfl (by decide) fun a8 hF8 => ?_
            refine sq (v := (.bool true)) hF8 (wantedS rfl) (run_eqi rfl (hF8.ev 16 rfl) rfl (beq_iff_eq.2 (by omega))) rfl (by decide) fun a9 hF9 => ?_
            refine sq (v := (.bool true)) hF9 (wantedS rfl) (run_mv rfl (hF9.ev 17 rfl)) rfl (by decide) fun a10 hF10 => ?_
            refine sq (v := (.int .u8 ((bt b i).toNat : Int))) hF10 (wantedG hF10 rfl rfl rfl rfl rfl) (run_mv rfl (hF10.ev 7 rfl)) rfl (by decide) fun a11 hF11 => ?_
            refine sq (v := (.bool false)) hF11 (wantedG hF11 rfl rfl rfl rfl rfl) (run_geq rfl (hF11.ev 19 rfl) rfl (decide_eq_false (by omega))) rfl (by decide) fun a12 hF12 => ?_
            refine sq (v := (.bool false)) hF12 (wantedS rfl) (run_pick rfl (hF12.ev 18 rfl) (hF12.ev 20 rfl) rfl) rfl (by decide) fun a13 hF13 => ?_
            refine sqEnd ?_
            clear hF7 hF8 hF9 hF10 hF11 hF12
            refine nx ?_
            refine wp_cond_false (hF13.ev 21 rfl) ?_
            refine wp_skip ?_
            refine nx ?_
            refine wp_seq ?_
            refine wp_region_lit ?_
            refine sq (v := (.int .i64 (n : Int))) hF13 (wantedS rfl) (run_mv rfl (hF13.ev 5 rfl)) rfl (by decide) fun a14 hF14 => ?_
            refine sq (v := (.int .u8 ((bt b i).toNat : Int))) hF14 (wantedS rfl) (run_mv rfl (hF14.ev 7 rfl)) rfl (by decide) fun a15 hF15 => ?_
            refine sq (v := (.int .u8 (((bt b i).toNat % 128 : Nat) : Int))) hF15 (wantedS rfl) (run_and (r := (((bt b i).toNat % 128 : Nat) : Int)) rfl (hF15.ev 23 rfl) rfl (and127u8 _)) rfl (by decide) fun a16 hF16 => ?_
            refine sq (v := (.int .i64 (((bt b i).toNat % 128 : Nat) : Int))) hF16 (wantedS rfl) (run_cvI (r := (((bt b i).toNat % 128 : Nat) : Int)) rfl (hF16.ev 24 rfl) Tryd.underlying5 Tryd.underlying3 (by rw [IntKind.wrap_i64]; omega)) rfl (by decide) fun a17 hF17 => ?_
            refine sq (v := (.int .i64 (i : Int))) hF17 (wantedS rfl) (run_mv rfl (hF17.ev 6 rfl)) rfl (by decide) fun a18 hF18 => ?_
            refine sq (v := (.int .i64 ((7 * i : Nat) : Int))) hF18 (wantedS rfl) (run_mul (r := ((7 * i : Nat) : Int)) rfl rfl (hF18.ev 26 rfl) (by rw [IntKind.wrap_i64]; omega)) rfl (by decide) fun a19 hF19 => ?_
            refine sq (v := (.int .i64 (((bt b i).toNat % 128 * 128 ^ i : Nat) : Int))) hF19 (wantedS rfl) (run_shl (r := (((bt b i).toNat % 128 * 128 ^ i : Nat) : Int)) rfl (hF19.ev 25 rfl) (hF19.ev 27 rfl) (by omega) (by first | decide | (simp [IntKind.bits]; omega)) (shl7 _ i (Nat.mod_lt _ (by decide)) hi3)) rfl (by decide) fun a20 hF20 => ?_
            refine sq (v := (.int .i64 ((n + (bt b i).toNat % 128 * 128 ^ i : Nat) : Int))) hF20 (wantedS rfl) (run_or (r := ((n + (bt b i).toNat % 128 * 128 ^ i : Nat) : Int)) rfl (hF20.ev 22 rfl) (hF20.ev 28 rfl) (or7 n _ i (Nat.mod_lt _ (by decide)) hn hi3)) rfl (by decide) fun a21 hF21 => ?_
            refine sq (v := (.int .i64 ((n + (bt b i).toNat % 128 * 128 ^ i : Nat) : Int))) hF21 (wantedS rfl) (run_as rfl (hF21.ev 29 rfl)) rfl (by decide) fun a22 hF22 => ?_
            refine sqEnd ?_
            clear hF13 hF14 hF15 hF16 hF17 hF18 hF19 hF20 hF21
            refine nx ?_
            refine wp_seq ?_
            refine wp_seq ?_
            refine wp_region_lit ?_
            refine sq (v := (.int .u8 ((bt b i).toNat : Int))) hF22 (wantedS rfl) (run_mv rfl (hF22.ev 7 rfl)) rfl (by decide) fun a23 hF23 => ?_
            refine sq (v := (.bool false)) hF23 (wantedS rfl) (run_geq rfl (hF23.ev 30 rfl) rfl (decide_eq_false (by omega))) rfl (by decide) fun a24 hF24 => ?_
            refine sqEnd ?_
            clear hF22 hF23
            refine nx ?_
            refine wp_cond_false (hF24.ev 31 rfl) ?_
            refine wp_skip ?_
            refine nx ?_
            refine wp_seq ?_
            refine wp_seq ?_
            refine wp_region_lit ?_
            refine sq (v := (.int .u8 ((bt b i).toNat : Int))) hF24 (wantedS rfl) (run_mv rfl (hF24.ev 7 rfl)) rfl (by decide) fun a25 hF25 => ?_
            refine sq (v := (.bool false)) hF25 (wantedS rfl) (run_eqi rfl (hF25.ev 32 rfl) rfl (beq_eq_false_iff_ne.2 (by omega))) rfl (by decide) fun a26 hF26 => ?_
            refine sq (v := (.bool false)) hF26 (wantedS rfl) (run_mv rfl (hF26.ev 33 rfl)) rfl (by decide) fun a27 hF27 => ?_
            refine sqSkip hF27 (unwantedG hF27 rfl rfl rfl rfl rfl) rfl (by decide) fun a28 hF28 => ?_
            refine sqSkip hF28 (unwantedG hF28 rfl rfl rfl rfl rfl) rfl (by decide) fun a29 hF29 => ?_
            refine sq (v := (.bool false)) hF29 (wantedS rfl) (run_pick rfl (hF29.ev 34 rfl) (hF29.ev 36 rfl) rfl) rfl (by decide) fun a30 hF30 => ?_
            refine sqEnd ?_
            clear hF24 hF25 hF26 hF27 hF28 hF29
            refine nx ?_
            refine wp_cond_false (hF30.ev 37 rfl) ?_
            refine wp_skip ?_
            refine nx ?_
            refine wp_seq ?_
            refine wp_region_lit ?_
            refine sq (v := (.int .i64 ((n + (bt b i).toNat % 128 * 128 ^ i : Nat) : Int))) hF30 (wantedS rfl) (run_mv rfl (hF30.ev 5 rfl)) rfl (by decide) fun a31 hF31 => ?_
            refine sq (v := (.int .i64 (i : Int))) hF31 (wantedS rfl) (run_mv rfl (hF31.ev 6 rfl)) rfl (by decide) fun a32 hF32 => ?_
            refine sq (v := (.int .i64 ((i + 1 : Nat) : Int))) hF32 (wantedS rfl) (run_add (r := ((i + 1 : Nat) : Int)) rfl (hF32.ev 39 rfl) rfl (by rw [IntKind.wrap_i64]; omega)) rfl (by decide) fun a33 hF33 => ?_
            refine sq (v := (.int .i64 ((n + (bt b i).toNat % 128 * 128 ^ i : Nat) : Int))) hF33 (wantedS rfl) (run_as rfl (hF33.ev 38 rfl)) rfl (by decide) fun a34 hF34 => ?_
            refine sq (v := (.int .i64 ((i + 1 : Nat) : Int))) hF34 (wantedS rfl) (run_as rfl (hF34.ev 40 rfl)) rfl (by decide) fun a35 hF35 => ?_
            refine sq (v := (.int .i64 0)) hF35 (wantedS rfl) (run_as rfl rfl) rfl (by decide) fun a36 hF36 => ?_
            refine sqEnd ?_
            clear hF30 hF31 hF32 hF33 hF34 hF35
            refine nx ?_
            refine wp_ret ?_
            refine bkRet ?_
            refine nxRet ?_
            refine nxRet ?_
            refine bkRet ?_
            refine nxRet ?_
            exact ret3 hF36 rfl rfl rfl rfl ⟨by rw [hres], hM0.below⟩
          · skip
            refine wp_seq ?_
            refine wp_region_lit ?_
            refine sq (v := (.bool true)) hF0 (wantedS rfl) (run_lss rfl (hF0.ev 10 rfl) (hF0.ev 9 rfl) (decide_eq_true (by omega))) rfl (by decide) fun a1 hF1 => ?_
            refine sqEnd ?_
            clear hF0
            refine nx ?_
            refine wp_seq ?_
            refine wp_cond_true (hF1.ev 11 rfl) ?_
            refine wp_skip ?_
            refine nx ?_
            refine wp_seq ?_
            refine wp_block ?_
            refine wp_seq ?_
            refine wp_region_lit ?_
            refine sq (v := (.int .i64 (i : Int))) hF1 (wantedS rfl) (run_mv rfl (hF1.ev 10 rfl)) rfl (by decide) fun a2 hF2 => ?_
            refine sq (v := (.int .i64 (i : Int))) hF2 (wantedS rfl) (run_as rfl (hF2.ev 12 rfl)) rfl (by decide) fun a3 hF3 => ?_
            refine sqEnd ?_
            clear hF1 hF2
            refine nx ?_
            refine wp_seq ?_
            refine wp_region_lit ?_
            refine sq (v := (.string ⟨b.toArray⟩)) hF3 (wantedS rfl) (run_mv rfl (hF3.ev 0 rfl)) rfl (by decide) fun a4 hF4 => ?_
            refine sq (v := (.int .i64 (i : Int))) hF4 (wantedS rfl) (run_mv rfl (hF4.ev 6 rfl)) rfl (by decide) fun a5 hF5 => ?_
            refine sq (v := (.int .u8 ((bt b i).toNat : Int))) hF5 (wantedS rfl) (run_sAt (n := i) rfl (hF5.ev 13 rfl) (hF5.ev 14 rfl) Tryd.underlying9 rfl (by omega)) rfl (by decide) fun a6 hF6 => ?_
            refine sq (v := (.int .u8 ((bt b i).toNat : Int))) hF6 (wantedS rfl) (run_as rfl (hF6.ev 15 rfl)) rfl (by decide) fun a7 hF7 => ?_
            refine sqEnd ?_
            clear hF3 hF4 hF5 hF6
            refine nx ?_
            refine wp_seq ?_
            refine wp_seq ?_
            refine wp_region_lit ?_
            refine sq (v := (.int .i64 (i : Int))) hF7 (wantedS rfl) (run_mv rfl (hF7.ev 6 rfl)) rfl (by decide) fun a8 hF8 => ?_
            refine sq (v := (.bool false)) hF8 (wantedS rfl) (run_eqi rfl (hF8.ev 16 rfl) rfl (beq_eq_false_iff_ne.2 (by omega))) rfl (by decide) fun a9 hF9 => ?_
            refine sq (v := (.bool false)) hF9 (wantedS rfl) (run_mv rfl (hF9.ev 17 rfl)) rfl (by decide) fun a10 hF10 => ?_
            refine sqSkip hF10 (unwantedG hF10 rfl rfl rfl rfl rfl) rfl (by decide) fun a11 hF11 => ?_
            refine sqSkip hF11 (unwantedG hF11 rfl rfl rfl rfl rfl) rfl (by decide) fun a12 hF12 => ?_
            refine sq (v := (.bool false)) hF12 (wantedS rfl) (run_pick rfl (hF12.ev 18 rfl) (hF12.ev 20 rfl) rfl) rfl (by decide) fun a13 hF13 => ?_
            refine sqEnd ?_
            clear hF7 hF8 hF9 hF10 hF11 hF12
            refine nx ?_
            refine wp_cond_false (hF13.ev 21 rfl) ?_
            refine wp_skip ?_
            refine nx ?_
            refine wp_seq ?_
            refine wp_region_lit ?_
            refine sq (v := (.int .i64 (n : Int))) hF13 (wantedS rfl) (run_mv rfl (hF13.ev 5 rfl)) rfl (by decide) fun a14 hF14 => ?_
            refine sq (v := (.int .u8 ((bt b i).toNat : Int))) hF14 (wantedS rfl) (run_mv rfl (hF14.ev 7 rfl)) rfl (by decide) fun a15 hF15 => ?_
            refine sq (v := (.int .u8 (((bt b i).toNat % 128 : Nat) : Int))) hF15 (wantedS rfl) (run_and (r := (((bt b i).toNat % 128 : Nat) : Int)) rfl (hF15.ev 23 rfl) rfl (and127u8 _)) rfl (by decide) fun a16 hF16 => ?_
            refine sq (v := (.int .i64 (((bt b i).toNat % 128 : Nat) : Int))) hF16 (wantedS rfl) (run_cvI (r := (((bt b i).toNat % 128 : Nat) : Int)) rfl (hF16.ev 24 rfl) Tryd.underlying5 Tryd.underlying3 (by rw [IntKind.wrap_i64]; omega)) rfl (by decide) fun a17 hF17 => ?_
            refine sq (v := (.int .i64 (i : Int))) hF17 (wantedS rfl) (run_mv rfl (hF17.ev 6 rfl)) rfl (by decide) fun a18 hF18 => ?_
            refine sq (v := (.int .i64 ((7 * i : Nat) : Int))) hF18 (wantedS rfl) (run_mul (r := ((7 * i : Nat) : Int)) rfl rfl (hF18.ev 26 rfl) (by rw [IntKind.wrap_i64]; omega)) rfl (by decide) fun a19 hF19 => ?_
            refine sq (v := (.int .i64 (((bt b i).toNat % 128 * 128 ^ i : Nat) : Int))) hF19 (wantedS rfl) (run_shl (r := (((bt b i).toNat % 128 * 128 ^ i : Nat) : Int)) rfl (hF19.ev 25 rfl) (hF19.ev 27 rfl) (by omega) (by first | decide | (simp [IntKind.bits]; omega)) (shl7 _ i (Nat.mod_lt _ (by decide)) hi3)) rfl (by decide) fun a20 hF20 => ?_
            refine sq (v := (.int .i64 ((n + (bt b i).toNat % 128 * 128 ^ i : Nat) : Int))) hF20 (wantedS rfl) (run_or (r := ((n + (bt b i).toNat % 128 * 128 ^ i : Nat) : Int)) rfl (hF20.ev 22 rfl) (hF20.ev 28 rfl) (or7 n _ i (Nat.mod_lt _ (by decide)) hn hi3)) rfl (by decide) fun a21 hF21 => ?_
            refine sq (v := (.int .i64 ((n + (bt b i).toNat % 128 * 128 ^ i : Nat) : Int))) hF21 (wantedS rfl) (run_as rfl (hF21.ev 29 rfl)) rfl (by decide) fun a22 hF22 => ?_
            refine sqEnd ?_
            clear hF13 hF14 hF15 hF16 hF17 hF18 hF19 hF20 hF21
            refine nx ?_
            refine wp_seq ?_
            refine wp_seq ?_
            refine wp_region_lit ?_
            refine sq (v := (.int .u8 ((bt b i).toNat : Int))) hF22 (wantedS rfl) (run_mv rfl (hF22.ev 7 rfl)) rfl (by decide) fun a23 hF23 => ?_
            refine sq (v := (.bool false)) hF23 (wantedS rfl) (run_geq rfl (hF23.ev 30 rfl) rfl (decide_eq_false (by omega))) rfl (by decide) fun a24 hF24 => ?_
            refine sqEnd ?_
            clear hF22 hF23
            refine nx ?_
            refine wp_cond_false (hF24.ev 31 rfl) ?_
            refine wp_skip ?_
            refine nx ?_
            refine wp_seq ?_
            refine wp_seq ?_
            refine wp_region_lit ?_
            refine sq (v := (.int .u8 ((bt b i).toNat : Int))) hF24 (wantedS rfl) (run_mv rfl (hF24.ev 7 rfl)) rfl (by decide) fun a25 hF25 => ?_
            refine sq (v := (.bool false)) hF25 (wantedS rfl) (run_eqi rfl (hF25.ev 32 rfl) rfl (beq_eq_false_iff_ne.2 (by omega))) rfl (by decide) fun a26 hF26 => ?_
            refine sq (v := (.bool false)) hF26 (wantedS rfl) (run_mv rfl (hF26.ev 33 rfl)) rfl (by decide) fun a27 hF27 => ?_
            refine sqSkip hF27 (unwantedG hF27 rfl rfl rfl rfl rfl) rfl (by decide) fun a28 hF28 => ?_
            refine sqSkip hF28 (unwantedG hF28 rfl rfl rfl rfl rfl) rfl (by decide) fun a29 hF29 => ?_
            refine sq (v := (.bool false)) hF29 (wantedS rfl) (run_pick rfl (hF29.ev 34 rfl) (hF29.ev 36 rfl) rfl) rfl (by decide) fun a30 hF30 => ?_
            refine sqEnd ?_
            clear hF24 hF25 hF26 hF27 hF28 hF29
            refine nx ?_
            refine wp_cond_false (hF30.ev 37 rfl) ?_
            refine wp_skip ?_
            refine nx ?_
            refine wp_seq ?_
            refine wp_region_lit ?_
            refine sq (v := (.int .i64 ((n + (bt b i).toNat % 128 * 128 ^ i : Nat) : Int))) hF30 (wantedS rfl) (run_mv rfl (hF30.ev 5 rfl)) rfl (by decide) fun a31 hF31 => ?_
            refine sq (v := (.int .i64 (i : Int))) hF31 (wantedS rfl) (run_mv rfl (hF31.ev 6 rfl)) rfl (by decide) fun a32 hF32 => ?_
            refine sq (v := (.int .i64 ((i + 1 : Nat) : Int))) hF32 (wantedS rfl) (run_add (r := ((i + 1 : Nat) : Int)) rfl (hF32.ev 39 rfl) rfl (by rw [IntKind.wrap_i64]; omega)) rfl (by decide) fun a33 hF33 => ?_
            refine sq (v := (.int .i64 ((n + (bt b i).toNat % 128 * 128 ^ i : Nat) : Int))) hF33 (wantedS rfl) (run_as rfl (hF33.ev 38 rfl)) rfl (by decide) fun a34 hF34 => ?_
            refine sq (v := (.int .i64 ((i + 1 : Nat) : Int))) hF34 (wantedS rfl) (run_as rfl (hF34.ev 40 rfl)) rfl (by decide) fun a35 hF35 => ?_
            refine sq (v := (.int .i64 0)) hF35 (wantedS rfl) (run_as rfl rfl) rfl (by decide) fun a36 hF36 => ?_
            refine sqEnd ?_
            clear hF30 hF31 hF32 hF33 hF34 hF35
            refine nx ?_
            refine wp_ret ?_
            refine bkRet ?_
            refine nxRet ?_
            refine nxRet ?_
            refine bkRet ?_
            refine nxRet ?_
            exact ret3 hF36 rfl rfl rfl rfl ⟨by rw [hres], hM0.below⟩
    · by_cases h3 : i = 3
      · have hres : lenR b = .tuple #[.int .i64 0, .int .i64 0, .int .i64 3] := by unfold lenR; rw [hR, lenP_cons, if_neg h8, if_pos h3]; rfl
        refine wp_seq ?_
        refine wp_region_lit ?_
        refine sq (v := (.bool true)) hF0 (wantedS rfl) (run_lss rfl (hF0.ev 10 rfl) (hF0.ev 9 rfl) (decide_eq_true (by omega))) rfl (by decide) fun a1 hF1 => ?_
        refine sqEnd ?_
        clear hF0
        refine nx ?_
        refine wp_seq ?_
        refine wp_cond_true (hF1.ev 11 rfl) ?_
        refine wp_skip ?_
        refine nx ?_
        refine wp_seq ?_
        refine wp_block ?_
        refine wp_seq ?_
        refine wp_region_lit ?_
        refine sq (v := (.int .i64 (i : Int))) hF1 (wantedS rfl) (run_mv rfl (hF1.ev 10 rfl)) rfl (by decide) fun a2 hF2 => ?_
        refine sq (v := (.int .i64 (i : Int))) hF2 (wantedS rfl) (run_as rfl (hF2.ev 12 rfl)) rfl (by decide) fun a3 hF3 => ?_
        refine sqEnd ?_
        clear hF1 hF2
        refine nx ?_
        refine wp_seq ?_
        refine wp_region_lit ?_
        refine sq (v := (.string ⟨b.toArray⟩)) hF3 (wantedS rfl) (run_mv rfl (hF3.ev 0 rfl)) rfl (by decide) fun a4 hF4 => ?_
        refine sq (v := (.int .i64 (i : Int))) hF4 (wantedS rfl) (run_mv rfl (hF4.ev 6 rfl)) rfl (by decide) fun a5 hF5 => ?_
        refine sq (v := (.int .u8 ((bt b i).toNat : Int))) hF5 (wantedS rfl) (run_sAt (n := i) rfl (hF5.ev 13 rfl) (hF5.ev 14 rfl) Tryd.underlying9 rfl (by omega)) rfl (by decide) fun a6 hF6 => ?_
        refine sq (v := (.int .u8 ((bt b i).toNat : Int))) hF6 (wantedS rfl) (run_as rfl (hF6.ev 15 rfl)) rfl (by decide) fun a7 hF7 => ?_
        refine sqEnd ?_
        clear hF3 hF4 hF5 hF6
        refine nx ?_
        refine wp_seq ?_
        refine wp_seq ?_
        refine wp_region_lit ?_
        refine sq (v := (.int .i64 (i : Int))) hF7 (wantedS rfl) (run_mv rfl (hF7.ev 6 rfl)) rfl (by decide) fun a8 hF8 => ?_
        refine sq (v := (.bool true)) hF8 (wantedS rfl) (run_eqi rfl (hF8.ev 16 rfl) rfl (beq_iff_eq.2 (by omega))) rfl (by decide) fun a9 hF9 => ?_
        refine sq (v := (.bool true)) hF9 (wantedS rfl) (run_mv rfl (hF9.ev 17 rfl)) rfl (by decide) fun a10 hF10 => ?_
        refine sq (v := (.int .u8 ((bt b i).toNat : Int))) hF10 (wantedG hF10 rfl rfl rfl rfl rfl) (run_mv rfl (hF10.ev 7 rfl)) rfl (by decide) fun a11 hF11 => ?_
        refine sq (v := (.bool true)) hF11 (wantedG hF11 rfl rfl rfl rfl rfl) (run_geq rfl (hF11.ev 19 rfl) rfl (decide_eq_true (by omega))) rfl (by decide) fun a12 hF12 => ?_
        refine sq (v := (.bool true)) hF12 (wantedS rfl) (run_pick rfl (hF12.ev 18 rfl) (hF12.ev 20 rfl) rfl) rfl (by decide) fun a13 hF13 => ?_
        refine sqEnd ?_
        clear hF7 hF8 hF9 hF10 hF11 hF12
        refine nx ?_
        refine wp_cond_true (hF13.ev 21 rfl) ?_
        refine wp_seq ?_
        refine wp_region_lit ?_
        refine sq (v := (.int .i64 0)) hF13 (wantedS rfl) (run_as rfl rfl) rfl (by decide) fun a14 hF14 => ?_
        refine sq (v := (.int .i64 0)) hF14 (wantedS rfl) (run_as rfl rfl) rfl (by decide) fun a15 hF15 => ?_
        refine sq (v := (.int .i64 3)) hF15 (wantedS rfl) (run_as rfl rfl) rfl (by decide) fun a16 hF16 => ?_
        refine sqEnd ?_
        clear hF13 hF14 hF15
        refine nx ?_
        refine wp_ret ?_
        refine nxRet ?_
        refine bkRet ?_
        refine nxRet ?_
        refine nxRet ?_
        refine bkRet ?_
        refine nxRet ?_
        exact ret3 hF16 rfl rfl rfl rfl ⟨by rw [hres], hM0.below⟩
      · skip
        refine wp_seq ?_
        refine wp_region_lit ?_
        refine sq (v := (.bool true)) hF0 (wantedS rfl) (run_lss rfl (hF0.ev 10 rfl) (hF0.ev 9 rfl) (decide_eq_true (by omega))) rfl (by decide) fun a1 hF1 => ?_
        refine sqEnd ?_
        clear hF0
        refine nx ?_
        refine wp_seq ?_
        refine wp_cond_true (hF1.ev 11 rfl) ?_
        refine wp_skip ?_
        refine nx ?_
        refine wp_seq ?_
        refine wp_block ?_
        refine wp_seq ?_
        refine wp_region_lit ?_
        refine sq (v := (.int .i64 (i : Int))) hF1 (wantedS rfl) (run_mv rfl (hF1.ev 10 rfl)) rfl (by decide) fun a2 hF2 => ?_
        refine sq (v := (.int .i64 (i : Int))) hF2 (wantedS rfl) (run_as rfl (hF2.ev 12 rfl)) rfl (by decide) fun a3 hF3 => ?_
        refine sqEnd ?_
        clear hF1 hF2
        refine nx ?_
        refine wp_seq ?_
        refine wp_region_lit ?_
        refine sq (v := (.string ⟨b.toArray⟩)) hF3 (wantedS rfl) (run_mv rfl (hF3.ev 0 rfl)) rfl (by decide) fun a4 hF4 => ?_
        refine sq (v := (.int .i64 (i : Int))) hF4 (wantedS rfl) (run_mv rfl (hF4.ev 6 rfl)) rfl (by decide) fun a5 hF5 => ?_
        refine sq (v := (.int .u8 ((bt b i).toNat : Int))) hF5 (wantedS rfl) (run_sAt (n := i) rfl (hF5.ev 13 rfl) (hF5.ev 14 rfl) Tryd.underlying9 rfl (by omega)) rfl (by decide) fun a6 hF6 => ?_
        refine sq (v := (.int .u8 ((bt b i).toNat : Int))) hF6 (wantedS rfl) (run_as rfl (hF6.ev 15 rfl)) rfl (by decide) fun a7 hF7 => ?_
        refine sqEnd ?_
        clear hF3 hF4 hF5 hF6
        refine nx ?_
        refine wp_seq ?_
        refine wp_seq ?_
        refine wp_region_lit ?_
        refine sq (v := (.int .i64 (i : Int))) hF7 (wantedS rfl) (run_mv rfl (hF7.ev 6 rfl)) rfl (by decide) fun a8 hF8 => ?_
        refine sq (v := (.bool false)) hF8 (wantedS rfl) (run_eqi rfl (hF8.ev 16 rfl) rfl (beq_eq_false_iff_ne.2 (by omega))) rfl (by decide) fun a9 hF9 => ?_
        refine sq (v := (.bool false)) hF9 (wantedS rfl) (run_mv rfl (hF9.ev 17 rfl)) rfl (by decide) fun a10 hF10 => ?_
        refine sqSkip hF10 (unwantedG hF10 rfl rfl rfl rfl rfl) rfl (by decide) fun a11 hF11 => ?_
        refine sqSkip hF11 (unwantedG hF11 rfl rfl rfl rfl rfl) rfl (by decide) fun a12 hF12 => ?_
        refine sq (v := (.bool false)) hF12 (wantedS rfl) (run_pick rfl (hF12.ev 18 rfl) (hF12.ev 20 rfl) rfl) rfl (by decide) fun a13 hF13 => ?_
        refine sqEnd ?_
        clear hF7 hF8 hF9 hF10 hF11 hF12
        refine nx ?_
        refine wp_cond_false (hF13.ev 21 rfl) ?_
        refine wp_skip ?_
        refine nx ?_
        refine wp_seq ?_
        refine wp_region_lit ?_
        refine sq (v := (.int .i64 (n : Int))) hF13 (wantedS rfl) (run_mv rfl (hF13.ev 5 rfl)) rfl (by decide) fun a14 hF14 => ?_
        refine sq (v := (.int .u8 ((bt b i).toNat : Int))) hF14 (wantedS rfl) (run_mv rfl (hF14.ev 7 rfl)) rfl (by decide) fun a15 hF15 => ?_
        refine sq (v := (.int .u8 (((bt b i).toNat % 128 : Nat) : Int))) hF15 (wantedS rfl) (run_and (r := (((bt b i).toNat % 128 : Nat) : Int)) rfl (hF15.ev 23 rfl) rfl (and127u8 _)) rfl (by decide) fun a16 hF16 => ?_
        refine sq (v := (.int .i64 (((bt b i).toNat % 128 : Nat) : Int))) hF16 (wantedS rfl) (run_cvI (r := (((bt b i).toNat % 128 : Nat) : Int)) rfl (hF16.ev 24 rfl) Tryd.underlying5 Tryd.underlying3 (by rw [IntKind.wrap_i64]; omega)) rfl (by decide) fun a17 hF17 => ?_
        refine sq (v := (.int .i64 (i : Int))) hF17 (wantedS rfl) (run_mv rfl (hF17.ev 6 rfl)) rfl (by decide) fun a18 hF18 => ?_
        refine sq (v := (.int .i64 ((7 * i : Nat) : Int))) hF18 (wantedS rfl) (run_mul (r := ((7 * i : Nat) : Int)) rfl rfl (hF18.ev 26 rfl) (by rw [IntKind.wrap_i64]; omega)) rfl (by decide) fun a19 hF19 => ?_
        refine sq (v := (.int .i64 (((bt b i).toNat % 128 * 128 ^ i : Nat) : Int))) hF19 (wantedS rfl) (run_shl (r := (((bt b i).toNat % 128 * 128 ^ i : Nat) : Int)) rfl (hF19.ev 25 rfl) (hF19.ev 27 rfl) (by omega) (by first | decide | (simp [IntKind.bits]; omega)) (shl7 _ i (Nat.mod_lt _ (by decide)) hi3)) rfl (by decide) fun a20 hF20 => ?_
        refine sq (v := (.int .i64 ((n + (bt b i).toNat % 128 * 128 ^ i : Nat) : Int))) hF20 (wantedS rfl) (run_or (r := ((n + (bt b i).toNat % 128 * 128 ^ i : Nat) : Int)) rfl (hF20.ev 22 rfl) (hF20.ev 28 rfl) (or7 n _ i (Nat.mod_lt _ (by decide)) hn hi3)) rfl (by decide) fun a21 hF21 => ?_
        refine sq (v := (.int .i64 ((n + (bt b i).toNat % 128 * 128 ^ i : Nat) : Int))) hF21 (wantedS rfl) (run_as rfl (hF21.ev 29 rfl)) rfl (by decide) fun a22 hF22 => ?_
        refine sqEnd ?_
        clear hF13 hF14 hF15 hF16 hF17 hF18 hF19 hF20 hF21
        refine nx ?_
        refine wp_seq ?_
        refine wp_seq ?_
        refine wp_region_lit ?_
        refine sq (v := (.int .u8 ((bt b i).toNat : Int))) hF22 (wantedS rfl) (run_mv rfl (hF22.ev 7 rfl)) rfl (by decide) fun a23 hF23 => ?_
        refine sq (v := (.bool true)) hF23 (wantedS rfl) (run_geq rfl (hF23.ev 30 rfl) rfl (decide_eq_true (by omega))) rfl (by decide) fun a24 hF24 => ?_
        refine sqEnd ?_
        clear hF22 hF23
        refine nx ?_
        refine wp_cond_true (hF24.ev 31 rfl) ?_
        refine wp_exit ?_
        refine nxExit ?_
        refine bkHere ?_
        refine nx ?_
        refine wp_region_lit ?_
        refine sq (v := (.int .i64 ((i + 1 : Nat) : Int))) hF24 (wantedS rfl) (run_add (r := ((i + 1 : Nat) : Int)) rfl (hF24.ev 10 rfl) rfl (by rw [IntKind.wrap_i64]; omega)) rfl (by decide) fun a25 hF25 => ?_
        refine sq (v := (.int .i64 ((i + 1 : Nat) : Int))) hF25 (wantedS rfl) (run_mv rfl (hF25.ev 41 rfl)) rfl (by decide) fun a26 hF26 => ?_
        refine sqEnd ?_
        clear hF24 hF25
        refine nx ?_
        refine ⟨_, by omega, i + 1, n + (bt b i).toNat % 128 * 128 ^ i, by omega, by omega, ?_, rfl, ?_, hF26.sub ⟨rfl, rfl, rfl, rfl, trivial⟩, hM0⟩
        · have := Nat.mul_le_mul_right (128 ^ i) (show (bt b i).toNat % 128 ≤ 127 by omega)
          rw [Nat.pow_succ]; omega
        · rw [hR, lenAcc_step i n _ _ h8 h3]
  · have hie : i = b.length := by omega
    have hres : lenR b = .tuple #[.int .i64 0, .int .i64 0, .int .i64 4] := by unfold lenR; rw [hR, hie, List.drop_length]; rfl
    refine wp_seq ?_
    refine wp_region_lit ?_
    refine sq (v := (.bool false)) hF0 (wantedS rfl) (run_lss rfl (hF0.ev 10 rfl) (hF0.ev 9 rfl) (decide_eq_false (by omega))) rfl (by decide) fun a1 hF1 => ?_
    refine sqEnd ?_
    clear hF0
    refine nx ?_
    refine wp_seq ?_
    refine wp_cond_false (hF1.ev 11 rfl) ?_
    refine wp_exit ?_
    refine nxExit ?_
    refine nxExit ?_
    refine bkHere ?_
    refine nx ?_
    refine wp_seq ?_
    refine wp_region_lit ?_
    refine sq (v := (.int .i64 0)) hF1 (wantedS rfl) (run_as rfl rfl) rfl (by decide) fun a2 hF2 => ?_
    refine sq (v := (.int .i64 0)) hF2 (wantedS rfl) (run_as rfl rfl) rfl (by decide) fun a3 hF3 => ?_
    refine sq (v := (.int .i64 4)) hF3 (wantedS rfl) (run_as rfl rfl) rfl (by decide) fun a4 hF4 => ?_
    refine sqEnd ?_
    clear hF1 hF2 hF3
    refine nx ?_
    refine wp_ret ?_
    exact ret3 hF4 rfl rfl rfl rfl ⟨by rw [hres], hM0.below⟩
theorem elStr : ElT Tryd.prog 23 9 1 16 := by
  obtain ⟨i, h1, h2, h3, h4⟩ := info_parts (show (Tryd.prog.info? 9).map (fun i => (i.zero, i.size, i.bytes)) = some (some (.string ⟨#[]⟩), 1, 16) by kernel_rfl)
  exact ⟨Tryd.underlying23, ⟨i, _, h1, h2, h3, h4, rfl⟩, by decide⟩
theorem lenP_err : ∀ (b : List UInt8) (k : Nat) (e : Int), lenP k b = .error e → e = 3 ∨ e = 4
  | [], _, e, h => by simp [lenP] at h; omega
  | c :: r, k, e, h => by
    rw [lenP_cons] at h
    split at h
    · split at h
      · injection h with h; omega
      · cases h
    · split at h
      · injection h with h; omega
      · cases hl : lenP (k + 1) r with
        | ok p => rw [hl] at h; cases h
        | error e2 => rw [hl] at h; injection h with h; subst h; exact lenP_err r (k + 1) _ hl
theorem lenP_drop {b x : List UInt8} {n : Nat} (h : lenP 0 b = .ok (n, x)) : b.drop (b.length - x.length) = x ∧ x.length < b.length ∧ n < 2 ^ 28 := by
  obtain ⟨h1, h2, _⟩ := lenP_back b 0 n x (by omega) h
  refine ⟨?_, lenP_len (by omega) h, by simpa using h2⟩
  rw [h1, List.length_append, Nat.add_sub_cancel, List.drop_left]
/-- the texts when some stood ahead. -/
def txAcc (d : List (List UInt8)) : Except Int (List (List UInt8)) → Except Int (List (List UInt8))
  | .ok l => .ok (d ++ l)
  | .error e => .error e
theorem txAcc_nil (r : Except Int (List (List UInt8))) : txAcc [] r = r := by cases r <;> rfl
theorem txAcc_snoc (d : List (List UInt8)) (s : List UInt8) (r : Except Int (List (List UInt8))) : txAcc d (match r with | .error e => .error e | .ok l => .ok (s :: l)) = txAcc (d ++ [s]) r := by
  cases r with
  | error e => rfl
  | ok l => simp [txAcc]
/-- what Texts hands back. -/
def TxR (b : List UInt8) (base : Nat) (u : Value) (w : World) : Prop := match textsS b with
  | .ok l => ∃ v, u = .tuple #[v, .int .i64 0] ∧ w.ownsRow base 9 1 v l.length (l.map tx)
  | .error e => u = .tuple #[.slice none 0 0, .int .i64 e]
set_option maxRecDepth 100000 in
set_option maxHeartbeats 1000000 in
theorem ntexts_any (b : List UInt8) (w : World) (hb : b.length < 2 ^ 42) : Calls Tryd.prog 85 #[.string ⟨b.toArray⟩] w fun e w' => ∃ u, e = .returned u ∧ TxR b w.heap.size u w' ∧ Below w.heap.size w w' := by
  refine walk_enter Tryd.func85 rfl rfl rfl fun a0 hF0 => ?_
  have hM0 := Mem.new w
  refine wp_seq ?_
  refine wp_region_lit ?_
  refine sq (v := (.slice none 0 0)) hF0 (wantedS rfl) (run_as rfl rfl) rfl (by decide) fun a1 hF1 => ?_
  refine sq (v := (.int .i64 0)) hF1 (wantedS rfl) (run_as rfl rfl) rfl (by decide) fun a2 hF2 => ?_
  refine sqEnd ?_
  clear hF0 hF1
  refine nx ?_
  refine wp_seq ?_
  refine wp_region_lit ?_
  refine sq (v := (.slice none 0 0)) hF2 (wantedS rfl) (run_as rfl rfl) rfl (by decide) fun a3 hF3 => ?_
  refine sqEnd ?_
  clear hF2
  refine nx ?_
  refine wp_seq ?_
  refine wp_block ?_
  refine wkLoop (fun m a w2 => ∃ (d : List (List UInt8)) (r : List UInt8) (v : Value), m = r.length ∧ d.length + r.length ≤ b.length ∧ textsS b = txAcc d (textsS r) ∧ OwnR w [] w2 9 1 v d.length (d.map tx) ∧ Fr a 37 [(0, .string ⟨r.toArray⟩), (4, v)] ∧ Mem w [] w2) b.length ⟨[], b, .slice none 0 0, rfl, by simp, by rw [txAcc_nil], OwnR.nil _ _ _ _ _, hF3.sub ⟨rfl, rfl, trivial⟩, hM0⟩ ?_
  rintro m a0 w1 ⟨d, r, v, rfl, hlen, hT, hO0, hF0, hM0⟩
  by_cases hr : r = []
  · have hT2 : textsS b = .ok d := by rw [hT, hr, textsS_nil]; simp [txAcc]
    have hrl : r.length = 0 := by rw [hr]; rfl
    refine wp_seq ?_
    refine wp_seq ?_
    refine wp_region_lit ?_
    refine sq (v := (.string ⟨r.toArray⟩)) hF0 (wantedS rfl) (run_mv rfl (hF0.ev 0 rfl)) rfl (by decide) fun a1 hF1 => ?_
    refine sq (v := (.int .i64 (r.length : Int))) hF1 (wantedS rfl) (run_len rfl (hF1.ev 8 rfl) rfl Tryd.underlying9) rfl (by decide) fun a2 hF2 => ?_
    refine sq (v := (.bool false)) hF2 (wantedS rfl) (run_gtr rfl (hF2.ev 9 rfl) rfl (decide_eq_false (by omega))) rfl (by decide) fun a3 hF3 => ?_
    refine sqEnd ?_
    clear hF0 hF1 hF2
    refine nx ?_
    refine wp_cond_false (hF3.ev 10 rfl) ?_
    refine wp_exit ?_
    refine nxExit ?_
    refine nxExit ?_
    refine bkHere ?_
    refine nx ?_
    refine wp_seq ?_
    refine wp_region_lit ?_
    refine sq (v := v) hF3 (wantedS rfl) (run_mv rfl (hF3.ev 4 rfl)) rfl (by decide) fun a4 hF4 => ?_
    refine sq (v := v) hF4 (wantedS rfl) (run_as rfl (hF4.ev 36 rfl)) rfl (by decide) fun a5 hF5 => ?_
    refine sq (v := (.int .i64 0)) hF5 (wantedS rfl) (run_as rfl rfl) rfl (by decide) fun a6 hF6 => ?_
    refine sqEnd ?_
    clear hF3 hF4 hF5
    refine nx ?_
    refine wp_ret ?_
    exact ret2 hF6 rfl rfl rfl ⟨_, rfl, by unfold TxR; rw [hT2]; exact ⟨v, rfl, hO0.owns⟩, hM0.below⟩
  · have hrl : 0 < r.length := List.length_pos_iff.2 hr
    rw [textsS_step hr] at hT
    cases hl : lenP 0 r with
    | error e =>
      have he := lenP_err r 0 e hl
      have hlr : lenR r = .tuple #[.int .i64 0, .int .i64 0, .int .i64 e] := by unfold lenR; rw [hl]
      have hT2 : textsS b = .error e := by rw [hT, hl]; try rfl
      refine wp_seq ?_
      refine wp_seq ?_
      refine wp_region_lit ?_
      refine sq (v := (.string ⟨r.toArray⟩)) hF0 (wantedS rfl) (run_mv rfl (hF0.ev 0 rfl)) rfl (by decide) fun a1 hF1 => ?_
      refine sq (v := (.int .i64 (r.length : Int))) hF1 (wantedS rfl) (run_len rfl (hF1.ev 8 rfl) rfl Tryd.underlying9) rfl (by decide) fun a2 hF2 => ?_
      refine sq (v := (.bool true)) hF2 (wantedS rfl) (run_gtr rfl (hF2.ev 9 rfl) rfl (decide_eq_true (by omega))) rfl (by decide) fun a3 hF3 => ?_
      refine sqEnd ?_
      clear hF0 hF1 hF2
      refine nx ?_
      refine wp_cond_true (hF3.ev 10 rfl) ?_
      refine wp_skip ?_
      refine nx ?_
      refine wp_block ?_
      refine wp_seq ?_
      refine wp_region_lit ?_
      refine sq (v := (.string ⟨r.toArray⟩)) hF3 (wantedS rfl) (run_mv rfl (hF3.ev 0 rfl)) rfl (by decide) fun a4 hF4 => ?_
      refine sqC (v := (.tuple #[(.int .i64 0), (.int .i64 0), (.int .i64 e)])) hF4 hM0 (wantedS rfl) (run_call rfl Tryd.func104 (by kernel_rfl) rfl (mapE1 (hF4.ev 12 rfl))) rfl (by decide) (by rw [← hlr]; exact nlen_any r w1 (by omega)) fun a5 w2 hb2 hF5 hM1 => ?_
      have hO1 := hO0.grow hb2
      refine sq (v := (.tuple #[(.int .i64 0), (.int .i64 0), (.int .i64 e)])) hF5 (wantedS rfl) (run_mv rfl (hF5.ev 13 rfl)) rfl (by decide) fun a6 hF6 => ?_
      refine sq (v := (.int .i64 0)) hF6 (wantedS rfl) (run_ext rfl (hF6.ev 11 rfl) rfl) rfl (by decide) fun a7 hF7 => ?_
      refine sq (v := (.int .i64 0)) hF7 (wantedS rfl) (run_ext rfl (hF7.ev 11 rfl) rfl) rfl (by decide) fun a8 hF8 => ?_
      refine sq (v := (.int .i64 e)) hF8 (wantedS rfl) (run_ext rfl (hF8.ev 11 rfl) rfl) rfl (by decide) fun a9 hF9 => ?_
      refine sq (v := (.int .i64 0)) hF9 (wantedS rfl) (run_as rfl (hF9.ev 14 rfl)) rfl (by decide) fun a10 hF10 => ?_
      refine sq (v := (.int .i64 0)) hF10 (wantedS rfl) (run_as rfl (hF10.ev 15 rfl)) rfl (by decide) fun a11 hF11 => ?_
      refine sq (v := (.int .i64 e)) hF11 (wantedS rfl) (run_as rfl (hF11.ev 16 rfl)) rfl (by decide) fun a12 hF12 => ?_
      refine sqEnd ?_
      clear hF3 hF4 hF5 hF6 hF7 hF8 hF9 hF10 hF11 hM0
      refine nx ?_
      refine wp_seq ?_
      refine wp_seq ?_
      refine wp_region_lit ?_
      refine sq (v := (.int .i64 e)) hF12 (wantedS rfl) (run_mv rfl (hF12.ev 7 rfl)) rfl (by decide) fun a13 hF13 => ?_
      refine sq (v := (.bool true)) hF13 (wantedS rfl) (run_nei rfl (hF13.ev 17 rfl) rfl (bne_iff_ne.2 (by omega))) rfl (by decide) fun a14 hF14 => ?_
      refine sqEnd ?_
      clear hF12 hF13
      refine nx ?_
      refine wp_cond_true (hF14.ev 18 rfl) ?_
      refine wp_seq ?_
      refine wp_region_lit ?_
      refine sq (v := (.int .i64 e)) hF14 (wantedS rfl) (run_mv rfl (hF14.ev 7 rfl)) rfl (by decide) fun a15 hF15 => ?_
      refine sq (v := (.slice none 0 0)) hF15 (wantedS rfl) (run_as rfl rfl) rfl (by decide) fun a16 hF16 => ?_
      refine sq (v := (.int .i64 e)) hF16 (wantedS rfl) (run_as rfl (hF16.ev 19 rfl)) rfl (by decide) fun a17 hF17 => ?_
      refine sqEnd ?_
      clear hF14 hF15 hF16
      refine nx ?_
      refine wp_ret ?_
      refine nxRet ?_
      refine bkRet ?_
      refine nxRet ?_
      refine bkRet ?_
      refine nxRet ?_
      exact ret2 hF17 rfl rfl rfl ⟨_, rfl, by unfold TxR; rw [hT2], hM1.below⟩
    | ok p =>
      obtain ⟨k, x⟩ := p
      obtain ⟨hx1, hx2, hx3⟩ := lenP_drop hl
      have hlr : lenR r = .tuple #[.int .i64 (k : Int), .int .i64 ((r.length - x.length : Nat) : Int), .int .i64 0] := by unfold lenR; rw [hl]
      rw [hl] at hT
      dsimp only at hT
      by_cases hk : x.length < k
      · have hT2 : textsS b = .error 4 := by rw [hT, if_pos hk]; try rfl
        refine wp_seq ?_
        refine wp_seq ?_
        refine wp_region_lit ?_
        refine sq (v := (.string ⟨r.toArray⟩)) hF0 (wantedS rfl) (run_mv rfl (hF0.ev 0 rfl)) rfl (by decide) fun a1 hF1 => ?_
        refine sq (v := (.int .i64 (r.length : Int))) hF1 (wantedS rfl) (run_len rfl (hF1.ev 8 rfl) rfl Tryd.underlying9) rfl (by decide) fun a2 hF2 => ?_
        refine sq (v := (.bool true)) hF2 (wantedS rfl) (run_gtr rfl (hF2.ev 9 rfl) rfl (decide_eq_true (by omega))) rfl (by decide) fun a3 hF3 => ?_
        refine sqEnd ?_
        clear hF0 hF1 hF2
        refine nx ?_
        refine wp_cond_true (hF3.ev 10 rfl) ?_
        refine wp_skip ?_
        refine nx ?_
        refine wp_block ?_
        refine wp_seq ?_
        refine wp_region_lit ?_
        refine sq (v := (.string ⟨r.toArray⟩)) hF3 (wantedS rfl) (run_mv rfl (hF3.ev 0 rfl)) rfl (by decide) fun a4 hF4 => ?_
        refine sqC (v := (.tuple #[(.int .i64 (k : Int)), (.int .i64 ((r.length - x.length : Nat) : Int)), (.int .i64 0)])) hF4 hM0 (wantedS rfl) (run_call rfl Tryd.func104 (by kernel_rfl) rfl (mapE1 (hF4.ev 12 rfl))) rfl (by decide) (by rw [← hlr]; exact nlen_any r w1 (by omega)) fun a5 w2 hb2 hF5 hM1 => ?_
        have hO1 := hO0.grow hb2
        refine sq (v := (.tuple #[(.int .i64 (k : Int)), (.int .i64 ((r.length - x.length : Nat) : Int)), (.int .i64 0)])) hF5 (wantedS rfl) (run_mv rfl (hF5.ev 13 rfl)) rfl (by decide) fun a6 hF6 => ?_
        refine sq (v := (.int .i64 (k : Int))) hF6 (wantedS rfl) (run_ext rfl (hF6.ev 11 rfl) rfl) rfl (by decide) fun a7 hF7 => ?_
        refine sq (v := (.int .i64 ((r.length - x.length : Nat) : Int))) hF7 (wantedS rfl) (run_ext rfl (hF7.ev 11 rfl) rfl) rfl (by decide) fun a8 hF8 => ?_
        refine sq (v := (.int .i64 0)) hF8 (wantedS rfl) (run_ext rfl (hF8.ev 11 rfl) rfl) rfl (by decide) fun a9 hF9 => ?_
        refine sq (v := (.int .i64 (k : Int))) hF9 (wantedS rfl) (run_as rfl (hF9.ev 14 rfl)) rfl (by decide) fun a10 hF10 => ?_
        refine sq (v := (.int .i64 ((r.length - x.length : Nat) : Int))) hF10 (wantedS rfl) (run_as rfl (hF10.ev 15 rfl)) rfl (by decide) fun a11 hF11 => ?_
        refine sq (v := (.int .i64 0)) hF11 (wantedS rfl) (run_as rfl (hF11.ev 16 rfl)) rfl (by decide) fun a12 hF12 => ?_
        refine sqEnd ?_
        clear hF3 hF4 hF5 hF6 hF7 hF8 hF9 hF10 hF11 hM0
        refine nx ?_
        refine wp_seq ?_
        refine wp_seq ?_
        refine wp_region_lit ?_
        refine sq (v := (.int .i64 0)) hF12 (wantedS rfl) (run_mv rfl (hF12.ev 7 rfl)) rfl (by decide) fun a13 hF13 => ?_
        refine sq (v := (.bool false)) hF13 (wantedS rfl) (run_nei rfl (hF13.ev 17 rfl) rfl (bne_eq_false_iff_eq.2 (by omega))) rfl (by decide) fun a14 hF14 => ?_
        refine sqEnd ?_
        clear hF12 hF13
        refine nx ?_
        refine wp_cond_false (hF14.ev 18 rfl) ?_
        refine wp_skip ?_
        refine nx ?_
        refine wp_seq ?_
        refine wp_region_lit ?_
        refine sq (v := (.string ⟨r.toArray⟩)) hF14 (wantedS rfl) (run_mv rfl (hF14.ev 0 rfl)) rfl (by decide) fun a15 hF15 => ?_
        refine sq (v := (.int .i64 ((r.length - x.length : Nat) : Int))) hF15 (wantedS rfl) (run_mv rfl (hF15.ev 6 rfl)) rfl (by decide) fun a16 hF16 => ?_
        refine sq (v := (.string ⟨x.toArray⟩)) hF16 (wantedS rfl) (run_sFromE (m := (r.length - x.length)) hx1 rfl (hF16.ev 20 rfl) (hF16.ev 21 rfl) Tryd.underlying9 rfl (by omega)) rfl (by decide) fun a17 hF17 => ?_
        refine sq (v := (.string ⟨x.toArray⟩)) hF17 (wantedS rfl) (run_as rfl (hF17.ev 22 rfl)) rfl (by decide) fun a18 hF18 => ?_
        refine sqEnd ?_
        clear hF14 hF15 hF16 hF17
        refine nx ?_
        refine wp_seq ?_
        refine wp_seq ?_
        refine wp_region_lit ?_
        refine sq (v := (.string ⟨x.toArray⟩)) hF18 (wantedS rfl) (run_mv rfl (hF18.ev 0 rfl)) rfl (by decide) fun a19 hF19 => ?_
        refine sq (v := (.int .i64 (x.length : Int))) hF19 (wantedS rfl) (run_len rfl (hF19.ev 23 rfl) rfl Tryd.underlying9) rfl (by decide) fun a20 hF20 => ?_
        refine sq (v := (.int .i64 (k : Int))) hF20 (wantedS rfl) (run_mv rfl (hF20.ev 5 rfl)) rfl (by decide) fun a21 hF21 => ?_
        refine sq (v := (.bool true)) hF21 (wantedS rfl) (run_lss rfl (hF21.ev 24 rfl) (hF21.ev 25 rfl) (decide_eq_true (by omega))) rfl (by decide) fun a22 hF22 => ?_
        refine sqEnd ?_
        clear hF18 hF19 hF20 hF21
        refine nx ?_
        refine wp_cond_true (hF22.ev 26 rfl) ?_
        refine wp_seq ?_
        refine wp_region_lit ?_
        refine sq (v := (.slice none 0 0)) hF22 (wantedS rfl) (run_as rfl rfl) rfl (by decide) fun a23 hF23 => ?_
        refine sq (v := (.int .i64 4)) hF23 (wantedS rfl) (run_as rfl rfl) rfl (by decide) fun a24 hF24 => ?_
        refine sqEnd ?_
        clear hF22 hF23
        refine nx ?_
        refine wp_ret ?_
        refine nxRet ?_
        refine bkRet ?_
        refine nxRet ?_
        refine bkRet ?_
        refine nxRet ?_
        exact ret2 hF24 rfl rfl rfl ⟨_, rfl, by unfold TxR; rw [hT2], hM1.below⟩
      · rw [if_neg hk] at hT
        replace hT := hT.trans (txAcc_snoc d (x.take k) (textsS (x.drop k)))
        have hdl : (x.drop k).length = x.length - k := List.length_drop ..
        refine wp_seq ?_
        refine wp_seq ?_
        refine wp_region_lit ?_
        refine sq (v := (.string ⟨r.toArray⟩)) hF0 (wantedS rfl) (run_mv rfl (hF0.ev 0 rfl)) rfl (by decide) fun a1 hF1 => ?_
        refine sq (v := (.int .i64 (r.length : Int))) hF1 (wantedS rfl) (run_len rfl (hF1.ev 8 rfl) rfl Tryd.underlying9) rfl (by decide) fun a2 hF2 => ?_
        refine sq (v := (.bool true)) hF2 (wantedS rfl) (run_gtr rfl (hF2.ev 9 rfl) rfl (decide_eq_true (by omega))) rfl (by decide) fun a3 hF3 => ?_
        refine sqEnd ?_
        clear hF0 hF1 hF2
        refine nx ?_
        refine wp_cond_true (hF3.ev 10 rfl) ?_
        refine wp_skip ?_
        refine nx ?_
        refine wp_block ?_
        refine wp_seq ?_
        refine wp_region_lit ?_
        refine sq (v := (.string ⟨r.toArray⟩)) hF3 (wantedS rfl) (run_mv rfl (hF3.ev 0 rfl)) rfl (by decide) fun a4 hF4 => ?_
        refine sqC (v := (.tuple #[(.int .i64 (k : Int)), (.int .i64 ((r.length - x.length : Nat) : Int)), (.int .i64 0)])) hF4 hM0 (wantedS rfl) (run_call rfl Tryd.func104 (by kernel_rfl) rfl (mapE1 (hF4.ev 12 rfl))) rfl (by decide) (by rw [← hlr]; exact nlen_any r w1 (by omega)) fun a5 w2 hb2 hF5 hM1 => ?_
        have hO1 := hO0.grow hb2
        refine sq (v := (.tuple #[(.int .i64 (k : Int)), (.int .i64 ((r.length - x.length : Nat) : Int)), (.int .i64 0)])) hF5 (wantedS rfl) (run_mv rfl (hF5.ev 13 rfl)) rfl (by decide) fun a6 hF6 => ?_
        refine sq (v := (.int .i64 (k : Int))) hF6 (wantedS rfl) (run_ext rfl (hF6.ev 11 rfl) rfl) rfl (by decide) fun a7 hF7 => ?_
        refine sq (v := (.int .i64 ((r.length - x.length : Nat) : Int))) hF7 (wantedS rfl) (run_ext rfl (hF7.ev 11 rfl) rfl) rfl (by decide) fun a8 hF8 => ?_
        refine sq (v := (.int .i64 0)) hF8 (wantedS rfl) (run_ext rfl (hF8.ev 11 rfl) rfl) rfl (by decide) fun a9 hF9 => ?_
        refine sq (v := (.int .i64 (k : Int))) hF9 (wantedS rfl) (run_as rfl (hF9.ev 14 rfl)) rfl (by decide) fun a10 hF10 => ?_
        refine sq (v := (.int .i64 ((r.length - x.length : Nat) : Int))) hF10 (wantedS rfl) (run_as rfl (hF10.ev 15 rfl)) rfl (by decide) fun a11 hF11 => ?_
        refine sq (v := (.int .i64 0)) hF11 (wantedS rfl) (run_as rfl (hF11.ev 16 rfl)) rfl (by decide) fun a12 hF12 => ?_
        refine sqEnd ?_
        clear hF3 hF4 hF5 hF6 hF7 hF8 hF9 hF10 hF11 hM0
        refine nx ?_
        refine wp_seq ?_
        refine wp_seq ?_
        refine wp_region_lit ?_
        refine sq (v := (.int .i64 0)) hF12 (wantedS rfl) (run_mv rfl (hF12.ev 7 rfl)) rfl (by decide) fun a13 hF13 => ?_
        refine sq (v := (.bool false)) hF13 (wantedS rfl) (run_nei rfl (hF13.ev 17 rfl) rfl (bne_eq_false_iff_eq.2 (by omega))) rfl (by decide) fun a14 hF14 => ?_
        refine sqEnd ?_
        clear hF12 hF13
        refine nx ?_
        refine wp_cond_false (hF14.ev 18 rfl) ?_
        refine wp_skip ?_
        refine nx ?_
        refine wp_seq ?_
        refine wp_region_lit ?_
        refine sq (v := (.string ⟨r.toArray⟩)) hF14 (wantedS rfl) (run_mv rfl (hF14.ev 0 rfl)) rfl (by decide) fun a15 hF15 => ?_
        refine sq (v := (.int .i64 ((r.length - x.length : Nat) : Int))) hF15 (wantedS rfl) (run_mv rfl (hF15.ev 6 rfl)) rfl (by decide) fun a16 hF16 => ?_
        refine sq (v := (.string ⟨x.toArray⟩)) hF16 (wantedS rfl) (run_sFromE (m := (r.length - x.length)) hx1 rfl (hF16.ev 20 rfl) (hF16.ev 21 rfl) Tryd.underlying9 rfl (by omega)) rfl (by decide) fun a17 hF17 => ?_
        refine sq (v := (.string ⟨x.toArray⟩)) hF17 (wantedS rfl) (run_as rfl (hF17.ev 22 rfl)) rfl (by decide) fun a18 hF18 => ?_
        refine sqEnd ?_
        clear hF14 hF15 hF16 hF17
        refine nx ?_
        refine wp_seq ?_
        refine wp_seq ?_
        refine wp_region_lit ?_
        refine sq (v := (.string ⟨x.toArray⟩)) hF18 (wantedS rfl) (run_mv rfl (hF18.ev 0 rfl)) rfl (by decide) fun a19 hF19 => ?_
        refine sq (v := (.int .i64 (x.length : Int))) hF19 (wantedS rfl) (run_len rfl (hF19.ev 23 rfl) rfl Tryd.underlying9) rfl (by decide) fun a20 hF20 => ?_
        refine sq (v := (.int .i64 (k : Int))) hF20 (wantedS rfl) (run_mv rfl (hF20.ev 5 rfl)) rfl (by decide) fun a21 hF21 => ?_
        refine sq (v := (.bool false)) hF21 (wantedS rfl) (run_lss rfl (hF21.ev 24 rfl) (hF21.ev 25 rfl) (decide_eq_false (by omega))) rfl (by decide) fun a22 hF22 => ?_
        refine sqEnd ?_
        clear hF18 hF19 hF20 hF21
        refine nx ?_
        refine wp_cond_false (hF22.ev 26 rfl) ?_
        refine wp_skip ?_
        refine nx ?_
        refine wp_seq ?_
        refine wp_region_lit ?_
        refine sq (v := v) hF22 (wantedS rfl) (run_mv rfl (hF22.ev 4 rfl)) rfl (by decide) fun a23 hF23 => ?_
        refine sq (v := (.string ⟨x.toArray⟩)) hF23 (wantedS rfl) (run_mv rfl (hF23.ev 0 rfl)) rfl (by decide) fun a24 hF24 => ?_
        refine sq (v := (.int .i64 (k : Int))) hF24 (wantedS rfl) (run_mv rfl (hF24.ev 5 rfl)) rfl (by decide) fun a25 hF25 => ?_
        refine sq (v := (.string ⟨(x.take k).toArray⟩)) hF25 (wantedS rfl) (run_sTo (n := k) rfl (hF25.ev 28 rfl) (hF25.ev 29 rfl) Tryd.underlying9 rfl (by omega)) rfl (by decide) fun a26 hF26 => ?_
        refine sqRow (cs := #[.string ⟨(x.take k).toArray⟩]) (t := 9) (m := 1) hF26 hM1 (wantedS rfl) (run_strs1 rfl (hF26.ev 30 rfl)) rfl (by decide) fun g0 a27 w3 hgg0 hb3 hF27 hM2 => ?_
        have hO2 := hO1.add (S := isB 9 #[.string ⟨(x.take k).toArray⟩]) hb3 hgg0
        refine sqAppend (news := [.string ⟨(x.take k).toArray⟩]) elStr hF27 hM2 hO2 rfl rfl (hF27.ev 27 rfl) (hF27.ev 31 rfl) rfl (blkNews (hM2.at 0 rfl)) (all_one rfl) (by unfold maxLen; omega) (by omega) rfl (by decide) fun v1 a28 w4 hO3 hM3 hnilv1 hF28 => ?_
        refine sq (v := v1) hF28 (wantedS rfl) (run_as rfl (hF28.ev 32 rfl)) rfl (by decide) fun a29 hF29 => ?_
        refine sqEnd ?_
        clear hF22 hF23 hF24 hF25 hF26 hF27 hF28 hM1 hM2
        refine nx ?_
        refine wp_region_lit ?_
        refine sq (v := (.string ⟨x.toArray⟩)) hF29 (wantedS rfl) (run_mv rfl (hF29.ev 0 rfl)) rfl (by decide) fun a30 hF30 => ?_
        refine sq (v := (.int .i64 (k : Int))) hF30 (wantedS rfl) (run_mv rfl (hF30.ev 5 rfl)) rfl (by decide) fun a31 hF31 => ?_
        refine sq (v := (.string ⟨(x.drop k).toArray⟩)) hF31 (wantedS rfl) (run_sFrom (m := k) rfl (hF31.ev 33 rfl) (hF31.ev 34 rfl) Tryd.underlying9 rfl (by omega)) rfl (by decide) fun a32 hF32 => ?_
        refine sq (v := (.string ⟨(x.drop k).toArray⟩)) hF32 (wantedS rfl) (run_as rfl (hF32.ev 35 rfl)) rfl (by decide) fun a33 hF33 => ?_
        refine sqEnd ?_
        clear hF29 hF30 hF31 hF32
        refine bkEnd ?_
        refine nx ?_
        exact ⟨_, by omega, d ++ [x.take k], x.drop k, v1, rfl, by rw [List.length_append, List.length_singleton]; omega, hT, by rw [List.map_append, List.length_append]; exact hO3.sub (List.nil_sublist _), hF33.sub ⟨rfl, rfl, trivial⟩, hM3.sub (List.nil_sublist _)⟩
end Go.Proofs.YtdjjiblijbjobaaDoor
