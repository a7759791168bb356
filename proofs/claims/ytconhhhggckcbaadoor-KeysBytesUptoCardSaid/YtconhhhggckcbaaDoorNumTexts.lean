/- The walks of num.length and num.Texts. Printed by gen_num.py. -/
import Derived.Test.YtconhhhggckcbaaDoorOpsB
namespace Go.Proofs.YtconhhhggckcbaaDoor
open Go.RowKit

theorem i64_or_nat (a b : Nat) (ha : a < 9223372036854775808) (hb : b < 9223372036854775808) : bits .or .i64 (a : Int) (b : Int) = ((a ||| b : Nat) : Int) := by
  have hx : a ||| b < 2 ^ 63 := Nat.or_lt_two_pow (by omega) (by omega)
  show IntKind.i64.wrap ((BitVec.ofInt 64 (a : Int) ||| BitVec.ofInt 64 (b : Int)).toNat : Int) = _
  have e : ∀ c : Nat, c < 9223372036854775808 → (BitVec.ofInt 64 (c : Int)).toNat = c := by
    intro c hc
    rw [BitVec.toNat_ofInt]
    omega
  rw [BitVec.toNat_or, e a ha, e b hb, IntKind.wrap_i64]
  omega
theorem and127u8 (c : UInt8) : bits .and .u8 (c.toNat : Int) 127 = ((c.toNat % 128 : Nat) : Int) := by
  have h : ∀ n : Nat, n < 256 → bits .and .u8 (n : Int) 127 = ((n % 128 : Nat) : Int) := by decide +kernel
  exact h _ c.toNat_lt
theorem shl7 (m i : Nat) (hm : m < 128) (hi : i ≤ 3) : IntKind.i64.wrap ((m : Int) * 2 ^ ((7 * i : Nat) : Int).toNat) = ((m * 128 ^ i : Nat) : Int) := by
  rw [IntKind.wrap_i64]
  have : i = 0 ∨ i = 1 ∨ i = 2 ∨ i = 3 := by omega
  rcases this with rfl | rfl | rfl | rfl <;> simp <;> omega
theorem or7 (n m i : Nat) (hm : m < 128) (hn : n < 128 ^ i) (hi : i ≤ 3) : bits .or .i64 (n : Int) ((m * 128 ^ i : Nat) : Int) = ((n + m * 128 ^ i : Nat) : Int) := by
  have e : (128 : Nat) ^ i = 2 ^ (7 * i) := by rw [Nat.pow_mul]
  have hb : (128 : Nat) ^ i ≤ 128 ^ 3 := Nat.pow_le_pow_right (by decide) hi
  have h2 : m * 128 ^ i ≤ 127 * 128 ^ 3 := Nat.mul_le_mul (by omega) hb
  rw [i64_or_nat n _ (by omega) (by omega)]
  congr 1
  have h3 := Nat.shiftLeft_add_eq_or_of_lt (i := 7 * i) (b := n) (by rw [← e]; exact hn) m
  rw [Nat.shiftLeft_eq, ← e] at h3
  rw [Nat.or_comm, ← h3, Nat.add_comm]
/-- what a length came to, when i bytes of it stood ahead and made n. -/
def lenAcc (i n : Nat) : Except Int (Nat × List UInt8) → Except Int (Nat × List UInt8)
  | .ok (m, x) => .ok (n + m * 128 ^ i, x)
  | .error e => .error e
theorem lenAcc_zero (r : Except Int (Nat × List UInt8)) : lenAcc 0 0 r = r := by
  cases r with
  | error e => rfl
  | ok p => obtain ⟨m, x⟩ := p; simp [lenAcc]
theorem drop_bt (b : List UInt8) (i : Nat) (h : i < b.length) : b.drop i = bt b i :: b.drop (i + 1) := by
  rw [List.drop_eq_getElem_cons h]; simp [bt, h]
theorem lenP_cons (k : Nat) (c : UInt8) (r : List UInt8) : lenP k (c :: r) = if c.toNat < 128 then (if c.toNat = 0 ∧ 0 < k then .error 3 else .ok (c.toNat, r)) else if k = 3 then .error 3 else match lenP (k + 1) r with
    | .ok (n, x) => .ok (c.toNat % 128 + 128 * n, x)
    | .error e => .error e := by rfl
theorem lenAcc_step (i n : Nat) (c : UInt8) (r : List UInt8) (hc : ¬ c.toNat < 128) (hi : i ≠ 3) : lenAcc i n (lenP i (c :: r)) = lenAcc (i + 1) (n + c.toNat % 128 * 128 ^ i) (lenP (i + 1) r) := by
  rw [lenP_cons, if_neg hc, if_neg hi]
  cases lenP (i + 1) r with
  | error e => rfl
  | ok p =>
    obtain ⟨m, x⟩ := p
    simp only [lenAcc, Except.ok.injEq, Prod.mk.injEq, and_true]
    rw [Nat.add_mul, Nat.pow_succ, Nat.add_assoc, Nat.mul_comm 128 m, Nat.mul_assoc, Nat.mul_comm 128 (128 ^ i)]
/-- what num.length hands back. -/
def lenR (b : List UInt8) : Value := match lenP 0 b with
  | .ok (n, x) => .tuple #[.int .i64 (n : Int), .int .i64 ((b.length - x.length : Nat) : Int), .int .i64 0]
  | .error e => .tuple #[.int .i64 0, .int .i64 0, .int .i64 e]
set_option maxRecDepth 100000 in
set_option maxHeartbeats 1000000 in
theorem nlen_any (b : List UInt8) (w : World) (hb : b.length < 2 ^ 47) : Calls Tryd.prog 97 #[.string ⟨b.toArray⟩] w fun e w' => e = .returned (lenR b) ∧ Below w.heap.size w w' := by
  refine walk_enter Tryd.func97 rfl rfl rfl fun a0 F0 => ?_
  have M0 := Mem.new w
  refine wsl ?_
  refine sr (v := (.int .i64 0)) F0 (run_as rfl rfl) rfl rfl rfl fun a1 F1 => ?_
  refine sr (v := (.int .i64 0)) F1 (run_as rfl rfl) rfl rfl rfl fun a2 F2 => ?_
  refine sr (v := (.int .i64 0)) F2 (run_as rfl rfl) rfl rfl rfl fun a3 F3 => ?_
  refine sn ?_
  clear F0 F1 F2
  refine wsl ?_
  refine sr (v := (.int .i64 0)) F3 (run_as rfl rfl) rfl rfl rfl fun a4 F4 => ?_
  refine sn ?_
  clear F3
  refine wp_seq ?_
  refine wsl ?_
  refine mvS F4 rfl rfl rfl rfl rfl fun a5 F5 => ?_
  refine sr F5 (run_len rfl (F5.ev 8 rfl) rfl Tryd.underlying9) rfl rfl rfl fun a6 F6 => ?_
  refine sr (v := (.int .i64 0)) F6 (run_mv rfl rfl) rfl rfl rfl fun a7 F7 => ?_
  refine sn ?_
  clear F4 F5 F6
  refine wp_block ?_
  refine wkLoop (fun m a w2 => ∃ i n : Nat, i ≤ b.length ∧ i ≤ 3 ∧ n < 128 ^ i ∧ m = b.length - i ∧ lenP 0 b = lenAcc i n (lenP i (b.drop i)) ∧ Fr a 42 [(0, .string ⟨b.toArray⟩), (5, .int .i64 (n : Int)), (9, .int .i64 (b.length : Int)), (10, .int .i64 (i : Int))] ∧ Mem w [] w2) b.length ⟨0, 0, Nat.zero_le _, by omega, by simp, rfl, by rw [List.drop_zero, lenAcc_zero], F7.sub ⟨rfl, rfl, rfl, rfl, trivial⟩, M0⟩ ?_
  rintro m a0 w1 ⟨i, n, hi, hi3, hn, rfl, hR, F0, M0⟩
  have hSz : b.length < 2 ^ 47 := hb
  by_cases hlt : i < b.length
  · have hd := drop_bt b i hlt
    have hc := (bt b i).toNat_lt
    rw [hd] at hR
    by_cases h8 : (bt b i).toNat < 128
    · by_cases h0 : (bt b i).toNat = 0 ∧ 0 < i
      · have hres : lenR b = .tuple #[.int .i64 0, .int .i64 0, .int .i64 3] := by unfold lenR; rw [hR, lenP_cons, if_pos h8, if_pos h0]; rfl
        by_cases h3 : i = 3
        · skip
          refine wsl ?_
          refine sr (v := (.bool true)) F0 (run_lss rfl (F0.ev 10 rfl) (F0.ev 9 rfl) (decide_eq_true (by omega))) rfl rfl rfl fun a1 F1 => ?_
          refine sn ?_
          clear F0
          refine wp_seq ?_
          refine cts (F1.ev 11 rfl) ?_
          refine wp_seq ?_
          refine wp_block ?_
          refine wsl ?_
          refine mvS F1 rfl rfl rfl rfl rfl fun a2 F2 => ?_
          refine asS F2 rfl rfl rfl rfl rfl fun a3 F3 => ?_
          refine sn ?_
          clear F1 F2
          refine wsl ?_
          refine mvS F3 rfl rfl rfl rfl rfl fun a4 F4 => ?_
          refine mvS F4 rfl rfl rfl rfl rfl fun a5 F5 => ?_
          refine sr (v := (.int .u8 ((bt b i).toNat : Int))) F5 (run_sAt (n := i) rfl (F5.ev 13 rfl) (F5.ev 14 rfl) Tryd.underlying9 rfl (by omega)) rfl rfl rfl fun a6 F6 => ?_
          refine asS F6 rfl rfl rfl rfl rfl fun a7 F7 => ?_
          refine sn ?_
          clear F3 F4 F5 F6
          refine wp_seq ?_
          refine wsl ?_
          refine mvS F7 rfl rfl rfl rfl rfl fun a8 F8 => ?_
          refine sr (v := (.bool true)) F8 (run_eqi rfl (F8.ev 16 rfl) rfl (beq_iff_eq.2 (by omega))) rfl rfl rfl fun a9 F9 => ?_
          refine mvS F9 rfl rfl rfl rfl rfl fun a10 F10 => ?_
          refine sq (v := (.int .u8 ((bt b i).toNat : Int))) F10 (wantedG F10 rfl rfl rfl rfl rfl) (run_mv rfl (F10.ev 7 rfl)) rfl (by decide) fun a11 F11 => ?_
          refine sq (v := (.bool false)) F11 (wantedG F11 rfl rfl rfl rfl rfl) (run_geq rfl (F11.ev 19 rfl) rfl (decide_eq_false (by omega))) rfl (by decide) fun a12 F12 => ?_
          refine sr (v := (.bool false)) F12 (run_pick rfl (F12.ev 18 rfl) (F12.ev 20 rfl) rfl) rfl rfl rfl fun a13 F13 => ?_
          refine sn ?_
          clear F7 F8 F9 F10 F11 F12
          refine cfs (F13.ev 21 rfl) ?_
          refine wsl ?_
          refine mvS F13 rfl rfl rfl rfl rfl fun a14 F14 => ?_
          refine mvS F14 rfl rfl rfl rfl rfl fun a15 F15 => ?_
          refine sr (v := (.int .u8 (((bt b i).toNat % 128 : Nat) : Int))) F15 (run_and (r := (((bt b i).toNat % 128 : Nat) : Int)) rfl (F15.ev 23 rfl) rfl (and127u8 _)) rfl rfl rfl fun a16 F16 => ?_
          refine sr F16 (run_cvI (r := (((bt b i).toNat % 128 : Nat) : Int)) rfl (F16.ev 24 rfl) Tryd.underlying5 Tryd.underlying3 (by rw [IntKind.wrap_i64]; omega)) rfl rfl rfl fun a17 F17 => ?_
          refine mvS F17 rfl rfl rfl rfl rfl fun a18 F18 => ?_
          refine sr (v := (.int .i64 ((7 * i : Nat) : Int))) F18 (run_mul (r := ((7 * i : Nat) : Int)) rfl rfl (F18.ev 26 rfl) (by rw [IntKind.wrap_i64]; omega)) rfl rfl rfl fun a19 F19 => ?_
          refine sr (v := (.int .i64 (((bt b i).toNat % 128 * 128 ^ i : Nat) : Int))) F19 (run_shl (r := (((bt b i).toNat % 128 * 128 ^ i : Nat) : Int)) rfl (F19.ev 25 rfl) (F19.ev 27 rfl) (by omega) (by first | decide | (simp [IntKind.bits]; omega)) (shl7 _ i (Nat.mod_lt _ (by decide)) hi3)) rfl rfl rfl fun a20 F20 => ?_
          refine sr (v := (.int .i64 ((n + (bt b i).toNat % 128 * 128 ^ i : Nat) : Int))) F20 (run_or (r := ((n + (bt b i).toNat % 128 * 128 ^ i : Nat) : Int)) rfl (F20.ev 22 rfl) (F20.ev 28 rfl) (or7 n _ i (Nat.mod_lt _ (by decide)) hn hi3)) rfl rfl rfl fun a21 F21 => ?_
          refine asS F21 rfl rfl rfl rfl rfl fun a22 F22 => ?_
          refine sn ?_
          clear F13 F14 F15 F16 F17 F18 F19 F20 F21
          refine wp_seq ?_
          refine wsl ?_
          refine mvS F22 rfl rfl rfl rfl rfl fun a23 F23 => ?_
          refine sr (v := (.bool false)) F23 (run_geq rfl (F23.ev 30 rfl) rfl (decide_eq_false (by omega))) rfl rfl rfl fun a24 F24 => ?_
          refine sn ?_
          clear F22 F23
          refine cfs (F24.ev 31 rfl) ?_
          refine wp_seq ?_
          refine wsl ?_
          refine mvS F24 rfl rfl rfl rfl rfl fun a25 F25 => ?_
          refine sr (v := (.bool true)) F25 (run_eqi rfl (F25.ev 32 rfl) rfl (beq_iff_eq.2 (by omega))) rfl rfl rfl fun a26 F26 => ?_
          refine mvS F26 rfl rfl rfl rfl rfl fun a27 F27 => ?_
          refine sq (v := (.int .i64 (i : Int))) F27 (wantedG F27 rfl rfl rfl rfl rfl) (run_mv rfl (F27.ev 6 rfl)) rfl (by decide) fun a28 F28 => ?_
          refine sq (v := (.bool true)) F28 (wantedG F28 rfl rfl rfl rfl rfl) (run_gtr rfl (F28.ev 35 rfl) rfl (decide_eq_true (by omega))) rfl (by decide) fun a29 F29 => ?_
          refine sr (v := (.bool true)) F29 (run_pick rfl (F29.ev 34 rfl) (F29.ev 36 rfl) rfl) rfl rfl rfl fun a30 F30 => ?_
          refine sn ?_
          clear F24 F25 F26 F27 F28 F29
          refine wp_cond_true (F30.ev 37 rfl) ?_
          refine wsl ?_
          refine sr (v := (.int .i64 0)) F30 (run_as rfl rfl) rfl rfl rfl fun a31 F31 => ?_
          refine sr (v := (.int .i64 0)) F31 (run_as rfl rfl) rfl rfl rfl fun a32 F32 => ?_
          refine sr (v := (.int .i64 3)) F32 (run_as rfl rfl) rfl rfl rfl fun a33 F33 => ?_
          refine sn ?_
          clear F30 F31 F32
          refine wp_ret ?_
          refine nxRet ?_
          refine bkRet ?_
          refine nxRet ?_
          refine nxRet ?_
          refine bkRet ?_
          refine nxRet ?_
          exact ret3 F33 rfl rfl rfl rfl ⟨by rw [hres], M0.below⟩
        · skip
          refine wsl ?_
          refine sr (v := (.bool true)) F0 (run_lss rfl (F0.ev 10 rfl) (F0.ev 9 rfl) (decide_eq_true (by omega))) rfl rfl rfl fun a1 F1 => ?_
          refine sn ?_
          clear F0
          refine wp_seq ?_
          refine cts (F1.ev 11 rfl) ?_
          refine wp_seq ?_
          refine wp_block ?_
          refine wsl ?_
          refine mvS F1 rfl rfl rfl rfl rfl fun a2 F2 => ?_
          refine asS F2 rfl rfl rfl rfl rfl fun a3 F3 => ?_
          refine sn ?_
          clear F1 F2
          refine wsl ?_
          refine mvS F3 rfl rfl rfl rfl rfl fun a4 F4 => ?_
          refine mvS F4 rfl rfl rfl rfl rfl fun a5 F5 => ?_
          refine sr (v := (.int .u8 ((bt b i).toNat : Int))) F5 (run_sAt (n := i) rfl (F5.ev 13 rfl) (F5.ev 14 rfl) Tryd.underlying9 rfl (by omega)) rfl rfl rfl fun a6 F6 => ?_
          refine asS F6 rfl rfl rfl rfl rfl fun a7 F7 => ?_
          refine sn ?_
          clear F3 F4 F5 F6
          refine wp_seq ?_
          refine wsl ?_
          refine mvS F7 rfl rfl rfl rfl rfl fun a8 F8 => ?_
          refine sr (v := (.bool false)) F8 (run_eqi rfl (F8.ev 16 rfl) rfl (beq_eq_false_iff_ne.2 (by omega))) rfl rfl rfl fun a9 F9 => ?_
          refine mvS F9 rfl rfl rfl rfl rfl fun a10 F10 => ?_
          refine sqSkip F10 (unwantedG F10 rfl rfl rfl rfl rfl) rfl (by decide) fun a11 F11 => ?_
          refine sqSkip F11 (unwantedG F11 rfl rfl rfl rfl rfl) rfl (by decide) fun a12 F12 => ?_
          refine sr (v := (.bool false)) F12 (run_pick rfl (F12.ev 18 rfl) (F12.ev 20 rfl) rfl) rfl rfl rfl fun a13 F13 => ?_
          refine sn ?_
          clear F7 F8 F9 F10 F11 F12
          refine cfs (F13.ev 21 rfl) ?_
          refine wsl ?_
          refine mvS F13 rfl rfl rfl rfl rfl fun a14 F14 => ?_
          refine mvS F14 rfl rfl rfl rfl rfl fun a15 F15 => ?_
          refine sr (v := (.int .u8 (((bt b i).toNat % 128 : Nat) : Int))) F15 (run_and (r := (((bt b i).toNat % 128 : Nat) : Int)) rfl (F15.ev 23 rfl) rfl (and127u8 _)) rfl rfl rfl fun a16 F16 => ?_
          refine sr F16 (run_cvI (r := (((bt b i).toNat % 128 : Nat) : Int)) rfl (F16.ev 24 rfl) Tryd.underlying5 Tryd.underlying3 (by rw [IntKind.wrap_i64]; omega)) rfl rfl rfl fun a17 F17 => ?_
          refine mvS F17 rfl rfl rfl rfl rfl fun a18 F18 => ?_
          refine sr (v := (.int .i64 ((7 * i : Nat) : Int))) F18 (run_mul (r := ((7 * i : Nat) : Int)) rfl rfl (F18.ev 26 rfl) (by rw [IntKind.wrap_i64]; omega)) rfl rfl rfl fun a19 F19 => ?_
          refine sr (v := (.int .i64 (((bt b i).toNat % 128 * 128 ^ i : Nat) : Int))) F19 (run_shl (r := (((bt b i).toNat % 128 * 128 ^ i : Nat) : Int)) rfl (F19.ev 25 rfl) (F19.ev 27 rfl) (by omega) (by first | decide | (simp [IntKind.bits]; omega)) (shl7 _ i (Nat.mod_lt _ (by decide)) hi3)) rfl rfl rfl fun a20 F20 => ?_
          refine sr (v := (.int .i64 ((n + (bt b i).toNat % 128 * 128 ^ i : Nat) : Int))) F20 (run_or (r := ((n + (bt b i).toNat % 128 * 128 ^ i : Nat) : Int)) rfl (F20.ev 22 rfl) (F20.ev 28 rfl) (or7 n _ i (Nat.mod_lt _ (by decide)) hn hi3)) rfl rfl rfl fun a21 F21 => ?_
          refine asS F21 rfl rfl rfl rfl rfl fun a22 F22 => ?_
          refine sn ?_
          clear F13 F14 F15 F16 F17 F18 F19 F20 F21
          refine wp_seq ?_
          refine wsl ?_
          refine mvS F22 rfl rfl rfl rfl rfl fun a23 F23 => ?_
          refine sr (v := (.bool false)) F23 (run_geq rfl (F23.ev 30 rfl) rfl (decide_eq_false (by omega))) rfl rfl rfl fun a24 F24 => ?_
          refine sn ?_
          clear F22 F23
          refine cfs (F24.ev 31 rfl) ?_
          refine wp_seq ?_
          refine wsl ?_
          refine mvS F24 rfl rfl rfl rfl rfl fun a25 F25 => ?_
          refine sr (v := (.bool true)) F25 (run_eqi rfl (F25.ev 32 rfl) rfl (beq_iff_eq.2 (by omega))) rfl rfl rfl fun a26 F26 => ?_
          refine mvS F26 rfl rfl rfl rfl rfl fun a27 F27 => ?_
          refine sq (v := (.int .i64 (i : Int))) F27 (wantedG F27 rfl rfl rfl rfl rfl) (run_mv rfl (F27.ev 6 rfl)) rfl (by decide) fun a28 F28 => ?_
          refine sq (v := (.bool true)) F28 (wantedG F28 rfl rfl rfl rfl rfl) (run_gtr rfl (F28.ev 35 rfl) rfl (decide_eq_true (by omega))) rfl (by decide) fun a29 F29 => ?_
          refine sr (v := (.bool true)) F29 (run_pick rfl (F29.ev 34 rfl) (F29.ev 36 rfl) rfl) rfl rfl rfl fun a30 F30 => ?_
          refine sn ?_
          clear F24 F25 F26 F27 F28 F29
          refine wp_cond_true (F30.ev 37 rfl) ?_
          refine wsl ?_
          refine sr (v := (.int .i64 0)) F30 (run_as rfl rfl) rfl rfl rfl fun a31 F31 => ?_
          refine sr (v := (.int .i64 0)) F31 (run_as rfl rfl) rfl rfl rfl fun a32 F32 => ?_
          refine sr (v := (.int .i64 3)) F32 (run_as rfl rfl) rfl rfl rfl fun a33 F33 => ?_
          refine sn ?_
          clear F30 F31 F32
          refine wp_ret ?_
          refine nxRet ?_
          refine bkRet ?_
          refine nxRet ?_
          refine nxRet ?_
          refine bkRet ?_
          refine nxRet ?_
          exact ret3 F33 rfl rfl rfl rfl ⟨by rw [hres], M0.below⟩
      · have hres : lenR b = .tuple #[.int .i64 ((n + (bt b i).toNat % 128 * 128 ^ i : Nat) : Int), .int .i64 ((i + 1 : Nat) : Int), .int .i64 0] := by
          unfold lenR; rw [hR, lenP_cons, if_pos h8, if_neg h0]
          simp only [lenAcc, List.length_drop]
          rw [Nat.mod_eq_of_lt h8, show b.length - (b.length - (i + 1)) = i + 1 by omega]
        by_cases hz : (bt b i).toNat = 0
        · have hi0 : i = 0 := by omega
          refine wsl ?_
          refine sr (v := (.bool true)) F0 (run_lss rfl (F0.ev 10 rfl) (F0.ev 9 rfl) (decide_eq_true (by omega))) rfl rfl rfl fun a1 F1 => ?_
          refine sn ?_
          clear F0
          refine wp_seq ?_
          refine cts (F1.ev 11 rfl) ?_
          refine wp_seq ?_
          refine wp_block ?_
          refine wsl ?_
          refine mvS F1 rfl rfl rfl rfl rfl fun a2 F2 => ?_
          refine asS F2 rfl rfl rfl rfl rfl fun a3 F3 => ?_
          refine sn ?_
          clear F1 F2
          refine wsl ?_
          refine mvS F3 rfl rfl rfl rfl rfl fun a4 F4 => ?_
          refine mvS F4 rfl rfl rfl rfl rfl fun a5 F5 => ?_
          refine sr (v := (.int .u8 ((bt b i).toNat : Int))) F5 (run_sAt (n := i) rfl (F5.ev 13 rfl) (F5.ev 14 rfl) Tryd.underlying9 rfl (by omega)) rfl rfl rfl fun a6 F6 => ?_
          refine asS F6 rfl rfl rfl rfl rfl fun a7 F7 => ?_
          refine sn ?_
          clear F3 F4 F5 F6
          refine wp_seq ?_
          refine wsl ?_
          refine mvS F7 rfl rfl rfl rfl rfl fun a8 F8 => ?_
          refine sr (v := (.bool false)) F8 (run_eqi rfl (F8.ev 16 rfl) rfl (beq_eq_false_iff_ne.2 (by omega))) rfl rfl rfl fun a9 F9 => ?_
          refine mvS F9 rfl rfl rfl rfl rfl fun a10 F10 => ?_
          refine sqSkip F10 (unwantedG F10 rfl rfl rfl rfl rfl) rfl (by decide) fun a11 F11 => ?_
          refine sqSkip F11 (unwantedG F11 rfl rfl rfl rfl rfl) rfl (by decide) fun a12 F12 => ?_
          refine sr (v := (.bool false)) F12 (run_pick rfl (F12.ev 18 rfl) (F12.ev 20 rfl) rfl) rfl rfl rfl fun a13 F13 => ?_
          refine sn ?_
          clear F7 F8 F9 F10 F11 F12
          refine cfs (F13.ev 21 rfl) ?_
          refine wsl ?_
          refine mvS F13 rfl rfl rfl rfl rfl fun a14 F14 => ?_
          refine mvS F14 rfl rfl rfl rfl rfl fun a15 F15 => ?_
          refine sr (v := (.int .u8 (((bt b i).toNat % 128 : Nat) : Int))) F15 (run_and (r := (((bt b i).toNat % 128 : Nat) : Int)) rfl (F15.ev 23 rfl) rfl (and127u8 _)) rfl rfl rfl fun a16 F16 => ?_
          refine sr F16 (run_cvI (r := (((bt b i).toNat % 128 : Nat) : Int)) rfl (F16.ev 24 rfl) Tryd.underlying5 Tryd.underlying3 (by rw [IntKind.wrap_i64]; omega)) rfl rfl rfl fun a17 F17 => ?_
          refine mvS F17 rfl rfl rfl rfl rfl fun a18 F18 => ?_
          refine sr (v := (.int .i64 ((7 * i : Nat) : Int))) F18 (run_mul (r := ((7 * i : Nat) : Int)) rfl rfl (F18.ev 26 rfl) (by rw [IntKind.wrap_i64]; omega)) rfl rfl rfl fun a19 F19 => ?_
          refine sr (v := (.int .i64 (((bt b i).toNat % 128 * 128 ^ i : Nat) : Int))) F19 (run_shl (r := (((bt b i).toNat % 128 * 128 ^ i : Nat) : Int)) rfl (F19.ev 25 rfl) (F19.ev 27 rfl) (by omega) (by first | decide | (simp [IntKind.bits]; omega)) (shl7 _ i (Nat.mod_lt _ (by decide)) hi3)) rfl rfl rfl fun a20 F20 => ?_
          refine sr (v := (.int .i64 ((n + (bt b i).toNat % 128 * 128 ^ i : Nat) : Int))) F20 (run_or (r := ((n + (bt b i).toNat % 128 * 128 ^ i : Nat) : Int)) rfl (F20.ev 22 rfl) (F20.ev 28 rfl) (or7 n _ i (Nat.mod_lt _ (by decide)) hn hi3)) rfl rfl rfl fun a21 F21 => ?_
          refine asS F21 rfl rfl rfl rfl rfl fun a22 F22 => ?_
          refine sn ?_
          clear F13 F14 F15 F16 F17 F18 F19 F20 F21
          refine wp_seq ?_
          refine wsl ?_
          refine mvS F22 rfl rfl rfl rfl rfl fun a23 F23 => ?_
          refine sr (v := (.bool false)) F23 (run_geq rfl (F23.ev 30 rfl) rfl (decide_eq_false (by omega))) rfl rfl rfl fun a24 F24 => ?_
          refine sn ?_
          clear F22 F23
          refine cfs (F24.ev 31 rfl) ?_
          refine wp_seq ?_
          refine wsl ?_
          refine mvS F24 rfl rfl rfl rfl rfl fun a25 F25 => ?_
          refine sr (v := (.bool true)) F25 (run_eqi rfl (F25.ev 32 rfl) rfl (beq_iff_eq.2 (by omega))) rfl rfl rfl fun a26 F26 => ?_
          refine mvS F26 rfl rfl rfl rfl rfl fun a27 F27 => ?_
          refine sq (v := (.int .i64 (i : Int))) F27 (wantedG F27 rfl rfl rfl rfl rfl) (run_mv rfl (F27.ev 6 rfl)) rfl (by decide) fun a28 F28 => ?_
          refine sq (v := (.bool false)) F28 (wantedG F28 rfl rfl rfl rfl rfl) (run_gtr rfl (F28.ev 35 rfl) rfl (decide_eq_false (by omega))) rfl (by decide) fun a29 F29 => ?_
          refine sr (v := (.bool false)) F29 (run_pick rfl (F29.ev 34 rfl) (F29.ev 36 rfl) rfl) rfl rfl rfl fun a30 F30 => ?_
          refine sn ?_
          clear F24 F25 F26 F27 F28 F29
          refine cfs (F30.ev 37 rfl) ?_
          refine wsl ?_
          refine mvS F30 rfl rfl rfl rfl rfl fun a31 F31 => ?_
          refine mvS F31 rfl rfl rfl rfl rfl fun a32 F32 => ?_
          refine sr F32 (run_add (r := ((i + 1 : Nat) : Int)) rfl (F32.ev 39 rfl) rfl (by rw [IntKind.wrap_i64]; omega)) rfl rfl rfl fun a33 F33 => ?_
          refine asS F33 rfl rfl rfl rfl rfl fun a34 F34 => ?_
          refine asS F34 rfl rfl rfl rfl rfl fun a35 F35 => ?_
          refine sr (v := (.int .i64 0)) F35 (run_as rfl rfl) rfl rfl rfl fun a36 F36 => ?_
          refine sn ?_
          clear F30 F31 F32 F33 F34 F35
          refine wp_ret ?_
          refine bkRet ?_
          refine nxRet ?_
          refine nxRet ?_
          refine bkRet ?_
          refine nxRet ?_
          exact ret3 F36 rfl rfl rfl rfl ⟨by rw [hres], M0.below⟩
        · skip
          by_cases h3 : i = 3
          · skip
            refine wsl ?_
            refine sr (v := (.bool true)) F0 (run_lss rfl (F0.ev 10 rfl) (F0.ev 9 rfl) (decide_eq_true (by omega))) rfl rfl rfl fun a1 F1 => ?_
            refine sn ?_
            clear F0
            refine wp_seq ?_
            refine cts (F1.ev 11 rfl) ?_
            refine wp_seq ?_
            refine wp_block ?_
            refine wsl ?_
            refine mvS F1 rfl rfl rfl rfl rfl fun a2 F2 => ?_
            refine asS F2 rfl rfl rfl rfl rfl fun a3 F3 => ?_
            refine sn ?_
            clear F1 F2
            refine wsl ?_
            refine mvS F3 rfl rfl rfl rfl rfl fun a4 F4 => ?_
            refine mvS F4 rfl rfl rfl rfl rfl fun a5 F5 => ?_
            refine sr (v := (.int .u8 ((bt b i).toNat : Int))) F5 (run_sAt (n := i) rfl (F5.ev 13 rfl) (F5.ev 14 rfl) Tryd.underlying9 rfl (by omega)) rfl rfl rfl fun a6 F6 => ?_
            refine asS F6 rfl rfl rfl rfl rfl fun a7 F7 => ?_
            refine sn ?_
            clear F3 F4 F5 F6
            refine wp_seq ?_
            refine wsl ?_
            refine mvS F7 rfl rfl rfl rfl rfl fun a8 F8 => ?_
            refine sr (v := (.bool true)) F8 (run_eqi rfl (F8.ev 16 rfl) rfl (beq_iff_eq.2 (by omega))) rfl rfl rfl fun a9 F9 => ?_
            refine mvS F9 rfl rfl rfl rfl rfl fun a10 F10 => ?_
            refine sq (v := (.int .u8 ((bt b i).toNat : Int))) F10 (wantedG F10 rfl rfl rfl rfl rfl) (run_mv rfl (F10.ev 7 rfl)) rfl (by decide) fun a11 F11 => ?_
            refine sq (v := (.bool false)) F11 (wantedG F11 rfl rfl rfl rfl rfl) (run_geq rfl (F11.ev 19 rfl) rfl (decide_eq_false (by omega))) rfl (by decide) fun a12 F12 => ?_
            refine sr (v := (.bool false)) F12 (run_pick rfl (F12.ev 18 rfl) (F12.ev 20 rfl) rfl) rfl rfl rfl fun a13 F13 => ?_
            refine sn ?_
            clear F7 F8 F9 F10 F11 F12
            refine cfs (F13.ev 21 rfl) ?_
            refine wsl ?_
            refine mvS F13 rfl rfl rfl rfl rfl fun a14 F14 => ?_
            refine mvS F14 rfl rfl rfl rfl rfl fun a15 F15 => ?_
            refine sr (v := (.int .u8 (((bt b i).toNat % 128 : Nat) : Int))) F15 (run_and (r := (((bt b i).toNat % 128 : Nat) : Int)) rfl (F15.ev 23 rfl) rfl (and127u8 _)) rfl rfl rfl fun a16 F16 => ?_
            refine sr F16 (run_cvI (r := (((bt b i).toNat % 128 : Nat) : Int)) rfl (F16.ev 24 rfl) Tryd.underlying5 Tryd.underlying3 (by rw [IntKind.wrap_i64]; omega)) rfl rfl rfl fun a17 F17 => ?_
            refine mvS F17 rfl rfl rfl rfl rfl fun a18 F18 => ?_
            refine sr (v := (.int .i64 ((7 * i : Nat) : Int))) F18 (run_mul (r := ((7 * i : Nat) : Int)) rfl rfl (F18.ev 26 rfl) (by rw [IntKind.wrap_i64]; omega)) rfl rfl rfl fun a19 F19 => ?_
            refine sr (v := (.int .i64 (((bt b i).toNat % 128 * 128 ^ i : Nat) : Int))) F19 (run_shl (r := (((bt b i).toNat % 128 * 128 ^ i : Nat) : Int)) rfl (F19.ev 25 rfl) (F19.ev 27 rfl) (by omega) (by first | decide | (simp [IntKind.bits]; omega)) (shl7 _ i (Nat.mod_lt _ (by decide)) hi3)) rfl rfl rfl fun a20 F20 => ?_
            refine sr (v := (.int .i64 ((n + (bt b i).toNat % 128 * 128 ^ i : Nat) : Int))) F20 (run_or (r := ((n + (bt b i).toNat % 128 * 128 ^ i : Nat) : Int)) rfl (F20.ev 22 rfl) (F20.ev 28 rfl) (or7 n _ i (Nat.mod_lt _ (by decide)) hn hi3)) rfl rfl rfl fun a21 F21 => ?_
            refine asS F21 rfl rfl rfl rfl rfl fun a22 F22 => ?_
            refine sn ?_
            clear F13 F14 F15 F16 F17 F18 F19 F20 F21
            refine wp_seq ?_
            refine wsl ?_
            refine mvS F22 rfl rfl rfl rfl rfl fun a23 F23 => ?_
            refine sr (v := (.bool false)) F23 (run_geq rfl (F23.ev 30 rfl) rfl (decide_eq_false (by omega))) rfl rfl rfl fun a24 F24 => ?_
            refine sn ?_
            clear F22 F23
            refine cfs (F24.ev 31 rfl) ?_
            refine wp_seq ?_
            refine wsl ?_
            refine mvS F24 rfl rfl rfl rfl rfl fun a25 F25 => ?_
            refine sr (v := (.bool false)) F25 (run_eqi rfl (F25.ev 32 rfl) rfl (beq_eq_false_iff_ne.2 (by omega))) rfl rfl rfl fun a26 F26 => ?_
            refine mvS F26 rfl rfl rfl rfl rfl fun a27 F27 => ?_
            refine sqSkip F27 (unwantedG F27 rfl rfl rfl rfl rfl) rfl (by decide) fun a28 F28 => ?_
            refine sqSkip F28 (unwantedG F28 rfl rfl rfl rfl rfl) rfl (by decide) fun a29 F29 => ?_
            refine sr (v := (.bool false)) F29 (run_pick rfl (F29.ev 34 rfl) (F29.ev 36 rfl) rfl) rfl rfl rfl fun a30 F30 => ?_
            refine sn ?_
            clear F24 F25 F26 F27 F28 F29
            refine cfs (F30.ev 37 rfl) ?_
            refine wsl ?_
            refine mvS F30 rfl rfl rfl rfl rfl fun a31 F31 => ?_
            refine mvS F31 rfl rfl rfl rfl rfl fun a32 F32 => ?_
            refine sr F32 (run_add (r := ((i + 1 : Nat) : Int)) rfl (F32.ev 39 rfl) rfl (by rw [IntKind.wrap_i64]; omega)) rfl rfl rfl fun a33 F33 => ?_
            refine asS F33 rfl rfl rfl rfl rfl fun a34 F34 => ?_
            refine asS F34 rfl rfl rfl rfl rfl fun a35 F35 => ?_
            refine sr (v := (.int .i64 0)) F35 (run_as rfl rfl) rfl rfl rfl fun a36 F36 => ?_
            refine sn ?_
            clear F30 F31 F32 F33 F34 F35
            refine wp_ret ?_
            refine bkRet ?_
            refine nxRet ?_
            refine nxRet ?_
            refine bkRet ?_
            refine nxRet ?_
            exact ret3 F36 rfl rfl rfl rfl ⟨by rw [hres], M0.below⟩
          · skip
            refine wsl ?_
            refine sr (v := (.bool true)) F0 (run_lss rfl (F0.ev 10 rfl) (F0.ev 9 rfl) (decide_eq_true (by omega))) rfl rfl rfl fun a1 F1 => ?_
            refine sn ?_
            clear F0
            refine wp_seq ?_
            refine cts (F1.ev 11 rfl) ?_
            refine wp_seq ?_
            refine wp_block ?_
            refine wsl ?_
            refine mvS F1 rfl rfl rfl rfl rfl fun a2 F2 => ?_
            refine asS F2 rfl rfl rfl rfl rfl fun a3 F3 => ?_
            refine sn ?_
            clear F1 F2
            refine wsl ?_
            refine mvS F3 rfl rfl rfl rfl rfl fun a4 F4 => ?_
            refine mvS F4 rfl rfl rfl rfl rfl fun a5 F5 => ?_
            refine sr (v := (.int .u8 ((bt b i).toNat : Int))) F5 (run_sAt (n := i) rfl (F5.ev 13 rfl) (F5.ev 14 rfl) Tryd.underlying9 rfl (by omega)) rfl rfl rfl fun a6 F6 => ?_
            refine asS F6 rfl rfl rfl rfl rfl fun a7 F7 => ?_
            refine sn ?_
            clear F3 F4 F5 F6
            refine wp_seq ?_
            refine wsl ?_
            refine mvS F7 rfl rfl rfl rfl rfl fun a8 F8 => ?_
            refine sr (v := (.bool false)) F8 (run_eqi rfl (F8.ev 16 rfl) rfl (beq_eq_false_iff_ne.2 (by omega))) rfl rfl rfl fun a9 F9 => ?_
            refine mvS F9 rfl rfl rfl rfl rfl fun a10 F10 => ?_
            refine sqSkip F10 (unwantedG F10 rfl rfl rfl rfl rfl) rfl (by decide) fun a11 F11 => ?_
            refine sqSkip F11 (unwantedG F11 rfl rfl rfl rfl rfl) rfl (by decide) fun a12 F12 => ?_
            refine sr (v := (.bool false)) F12 (run_pick rfl (F12.ev 18 rfl) (F12.ev 20 rfl) rfl) rfl rfl rfl fun a13 F13 => ?_
            refine sn ?_
            clear F7 F8 F9 F10 F11 F12
            refine cfs (F13.ev 21 rfl) ?_
            refine wsl ?_
            refine mvS F13 rfl rfl rfl rfl rfl fun a14 F14 => ?_
            refine mvS F14 rfl rfl rfl rfl rfl fun a15 F15 => ?_
            refine sr (v := (.int .u8 (((bt b i).toNat % 128 : Nat) : Int))) F15 (run_and (r := (((bt b i).toNat % 128 : Nat) : Int)) rfl (F15.ev 23 rfl) rfl (and127u8 _)) rfl rfl rfl fun a16 F16 => ?_
            refine sr F16 (run_cvI (r := (((bt b i).toNat % 128 : Nat) : Int)) rfl (F16.ev 24 rfl) Tryd.underlying5 Tryd.underlying3 (by rw [IntKind.wrap_i64]; omega)) rfl rfl rfl fun a17 F17 => ?_
            refine mvS F17 rfl rfl rfl rfl rfl fun a18 F18 => ?_
            refine sr (v := (.int .i64 ((7 * i : Nat) : Int))) F18 (run_mul (r := ((7 * i : Nat) : Int)) rfl rfl (F18.ev 26 rfl) (by rw [IntKind.wrap_i64]; omega)) rfl rfl rfl fun a19 F19 => ?_
            refine sr (v := (.int .i64 (((bt b i).toNat % 128 * 128 ^ i : Nat) : Int))) F19 (run_shl (r := (((bt b i).toNat % 128 * 128 ^ i : Nat) : Int)) rfl (F19.ev 25 rfl) (F19.ev 27 rfl) (by omega) (by first | decide | (simp [IntKind.bits]; omega)) (shl7 _ i (Nat.mod_lt _ (by decide)) hi3)) rfl rfl rfl fun a20 F20 => ?_
            refine sr (v := (.int .i64 ((n + (bt b i).toNat % 128 * 128 ^ i : Nat) : Int))) F20 (run_or (r := ((n + (bt b i).toNat % 128 * 128 ^ i : Nat) : Int)) rfl (F20.ev 22 rfl) (F20.ev 28 rfl) (or7 n _ i (Nat.mod_lt _ (by decide)) hn hi3)) rfl rfl rfl fun a21 F21 => ?_
            refine asS F21 rfl rfl rfl rfl rfl fun a22 F22 => ?_
            refine sn ?_
            clear F13 F14 F15 F16 F17 F18 F19 F20 F21
            refine wp_seq ?_
            refine wsl ?_
            refine mvS F22 rfl rfl rfl rfl rfl fun a23 F23 => ?_
            refine sr (v := (.bool false)) F23 (run_geq rfl (F23.ev 30 rfl) rfl (decide_eq_false (by omega))) rfl rfl rfl fun a24 F24 => ?_
            refine sn ?_
            clear F22 F23
            refine cfs (F24.ev 31 rfl) ?_
            refine wp_seq ?_
            refine wsl ?_
            refine mvS F24 rfl rfl rfl rfl rfl fun a25 F25 => ?_
            refine sr (v := (.bool false)) F25 (run_eqi rfl (F25.ev 32 rfl) rfl (beq_eq_false_iff_ne.2 (by omega))) rfl rfl rfl fun a26 F26 => ?_
            refine mvS F26 rfl rfl rfl rfl rfl fun a27 F27 => ?_
            refine sqSkip F27 (unwantedG F27 rfl rfl rfl rfl rfl) rfl (by decide) fun a28 F28 => ?_
            refine sqSkip F28 (unwantedG F28 rfl rfl rfl rfl rfl) rfl (by decide) fun a29 F29 => ?_
            refine sr (v := (.bool false)) F29 (run_pick rfl (F29.ev 34 rfl) (F29.ev 36 rfl) rfl) rfl rfl rfl fun a30 F30 => ?_
            refine sn ?_
            clear F24 F25 F26 F27 F28 F29
            refine cfs (F30.ev 37 rfl) ?_
            refine wsl ?_
            refine mvS F30 rfl rfl rfl rfl rfl fun a31 F31 => ?_
            refine mvS F31 rfl rfl rfl rfl rfl fun a32 F32 => ?_
            refine sr F32 (run_add (r := ((i + 1 : Nat) : Int)) rfl (F32.ev 39 rfl) rfl (by rw [IntKind.wrap_i64]; omega)) rfl rfl rfl fun a33 F33 => ?_
            refine asS F33 rfl rfl rfl rfl rfl fun a34 F34 => ?_
            refine asS F34 rfl rfl rfl rfl rfl fun a35 F35 => ?_
            refine sr (v := (.int .i64 0)) F35 (run_as rfl rfl) rfl rfl rfl fun a36 F36 => ?_
            refine sn ?_
            clear F30 F31 F32 F33 F34 F35
            refine wp_ret ?_
            refine bkRet ?_
            refine nxRet ?_
            refine nxRet ?_
            refine bkRet ?_
            refine nxRet ?_
            exact ret3 F36 rfl rfl rfl rfl ⟨by rw [hres], M0.below⟩
    · by_cases h3 : i = 3
      · have hres : lenR b = .tuple #[.int .i64 0, .int .i64 0, .int .i64 3] := by unfold lenR; rw [hR, lenP_cons, if_neg h8, if_pos h3]; rfl
        refine wsl ?_
        refine sr (v := (.bool true)) F0 (run_lss rfl (F0.ev 10 rfl) (F0.ev 9 rfl) (decide_eq_true (by omega))) rfl rfl rfl fun a1 F1 => ?_
        refine sn ?_
        clear F0
        refine wp_seq ?_
        refine cts (F1.ev 11 rfl) ?_
        refine wp_seq ?_
        refine wp_block ?_
        refine wsl ?_
        refine mvS F1 rfl rfl rfl rfl rfl fun a2 F2 => ?_
        refine asS F2 rfl rfl rfl rfl rfl fun a3 F3 => ?_
        refine sn ?_
        clear F1 F2
        refine wsl ?_
        refine mvS F3 rfl rfl rfl rfl rfl fun a4 F4 => ?_
        refine mvS F4 rfl rfl rfl rfl rfl fun a5 F5 => ?_
        refine sr (v := (.int .u8 ((bt b i).toNat : Int))) F5 (run_sAt (n := i) rfl (F5.ev 13 rfl) (F5.ev 14 rfl) Tryd.underlying9 rfl (by omega)) rfl rfl rfl fun a6 F6 => ?_
        refine asS F6 rfl rfl rfl rfl rfl fun a7 F7 => ?_
        refine sn ?_
        clear F3 F4 F5 F6
        refine wp_seq ?_
        refine wsl ?_
        refine mvS F7 rfl rfl rfl rfl rfl fun a8 F8 => ?_
        refine sr (v := (.bool true)) F8 (run_eqi rfl (F8.ev 16 rfl) rfl (beq_iff_eq.2 (by omega))) rfl rfl rfl fun a9 F9 => ?_
        refine mvS F9 rfl rfl rfl rfl rfl fun a10 F10 => ?_
        refine sq (v := (.int .u8 ((bt b i).toNat : Int))) F10 (wantedG F10 rfl rfl rfl rfl rfl) (run_mv rfl (F10.ev 7 rfl)) rfl (by decide) fun a11 F11 => ?_
        refine sq (v := (.bool true)) F11 (wantedG F11 rfl rfl rfl rfl rfl) (run_geq rfl (F11.ev 19 rfl) rfl (decide_eq_true (by omega))) rfl (by decide) fun a12 F12 => ?_
        refine sr (v := (.bool true)) F12 (run_pick rfl (F12.ev 18 rfl) (F12.ev 20 rfl) rfl) rfl rfl rfl fun a13 F13 => ?_
        refine sn ?_
        clear F7 F8 F9 F10 F11 F12
        refine wp_cond_true (F13.ev 21 rfl) ?_
        refine wsl ?_
        refine sr (v := (.int .i64 0)) F13 (run_as rfl rfl) rfl rfl rfl fun a14 F14 => ?_
        refine sr (v := (.int .i64 0)) F14 (run_as rfl rfl) rfl rfl rfl fun a15 F15 => ?_
        refine sr (v := (.int .i64 3)) F15 (run_as rfl rfl) rfl rfl rfl fun a16 F16 => ?_
        refine sn ?_
        clear F13 F14 F15
        refine wp_ret ?_
        refine nxRet ?_
        refine bkRet ?_
        refine nxRet ?_
        refine nxRet ?_
        refine bkRet ?_
        refine nxRet ?_
        exact ret3 F16 rfl rfl rfl rfl ⟨by rw [hres], M0.below⟩
      · skip
        refine wsl ?_
        refine sr (v := (.bool true)) F0 (run_lss rfl (F0.ev 10 rfl) (F0.ev 9 rfl) (decide_eq_true (by omega))) rfl rfl rfl fun a1 F1 => ?_
        refine sn ?_
        clear F0
        refine wp_seq ?_
        refine cts (F1.ev 11 rfl) ?_
        refine wp_seq ?_
        refine wp_block ?_
        refine wsl ?_
        refine mvS F1 rfl rfl rfl rfl rfl fun a2 F2 => ?_
        refine asS F2 rfl rfl rfl rfl rfl fun a3 F3 => ?_
        refine sn ?_
        clear F1 F2
        refine wsl ?_
        refine mvS F3 rfl rfl rfl rfl rfl fun a4 F4 => ?_
        refine mvS F4 rfl rfl rfl rfl rfl fun a5 F5 => ?_
        refine sr (v := (.int .u8 ((bt b i).toNat : Int))) F5 (run_sAt (n := i) rfl (F5.ev 13 rfl) (F5.ev 14 rfl) Tryd.underlying9 rfl (by omega)) rfl rfl rfl fun a6 F6 => ?_
        refine asS F6 rfl rfl rfl rfl rfl fun a7 F7 => ?_
        refine sn ?_
        clear F3 F4 F5 F6
        refine wp_seq ?_
        refine wsl ?_
        refine mvS F7 rfl rfl rfl rfl rfl fun a8 F8 => ?_
        refine sr (v := (.bool false)) F8 (run_eqi rfl (F8.ev 16 rfl) rfl (beq_eq_false_iff_ne.2 (by omega))) rfl rfl rfl fun a9 F9 => ?_
        refine mvS F9 rfl rfl rfl rfl rfl fun a10 F10 => ?_
        refine sqSkip F10 (unwantedG F10 rfl rfl rfl rfl rfl) rfl (by decide) fun a11 F11 => ?_
        refine sqSkip F11 (unwantedG F11 rfl rfl rfl rfl rfl) rfl (by decide) fun a12 F12 => ?_
        refine sr (v := (.bool false)) F12 (run_pick rfl (F12.ev 18 rfl) (F12.ev 20 rfl) rfl) rfl rfl rfl fun a13 F13 => ?_
        refine sn ?_
        clear F7 F8 F9 F10 F11 F12
        refine cfs (F13.ev 21 rfl) ?_
        refine wsl ?_
        refine mvS F13 rfl rfl rfl rfl rfl fun a14 F14 => ?_
        refine mvS F14 rfl rfl rfl rfl rfl fun a15 F15 => ?_
        refine sr (v := (.int .u8 (((bt b i).toNat % 128 : Nat) : Int))) F15 (run_and (r := (((bt b i).toNat % 128 : Nat) : Int)) rfl (F15.ev 23 rfl) rfl (and127u8 _)) rfl rfl rfl fun a16 F16 => ?_
        refine sr F16 (run_cvI (r := (((bt b i).toNat % 128 : Nat) : Int)) rfl (F16.ev 24 rfl) Tryd.underlying5 Tryd.underlying3 (by rw [IntKind.wrap_i64]; omega)) rfl rfl rfl fun a17 F17 => ?_
        refine mvS F17 rfl rfl rfl rfl rfl fun a18 F18 => ?_
        refine sr (v := (.int .i64 ((7 * i : Nat) : Int))) F18 (run_mul (r := ((7 * i : Nat) : Int)) rfl rfl (F18.ev 26 rfl) (by rw [IntKind.wrap_i64]; omega)) rfl rfl rfl fun a19 F19 => ?_
        refine sr (v := (.int .i64 (((bt b i).toNat % 128 * 128 ^ i : Nat) : Int))) F19 (run_shl (r := (((bt b i).toNat % 128 * 128 ^ i : Nat) : Int)) rfl (F19.ev 25 rfl) (F19.ev 27 rfl) (by omega) (by first | decide | (simp [IntKind.bits]; omega)) (shl7 _ i (Nat.mod_lt _ (by decide)) hi3)) rfl rfl rfl fun a20 F20 => ?_
        refine sr (v := (.int .i64 ((n + (bt b i).toNat % 128 * 128 ^ i : Nat) : Int))) F20 (run_or (r := ((n + (bt b i).toNat % 128 * 128 ^ i : Nat) : Int)) rfl (F20.ev 22 rfl) (F20.ev 28 rfl) (or7 n _ i (Nat.mod_lt _ (by decide)) hn hi3)) rfl rfl rfl fun a21 F21 => ?_
        refine asS F21 rfl rfl rfl rfl rfl fun a22 F22 => ?_
        refine sn ?_
        clear F13 F14 F15 F16 F17 F18 F19 F20 F21
        refine wp_seq ?_
        refine wsl ?_
        refine mvS F22 rfl rfl rfl rfl rfl fun a23 F23 => ?_
        refine sr (v := (.bool true)) F23 (run_geq rfl (F23.ev 30 rfl) rfl (decide_eq_true (by omega))) rfl rfl rfl fun a24 F24 => ?_
        refine sn ?_
        clear F22 F23
        refine wp_cond_true (F24.ev 31 rfl) ?_
        refine wp_exit ?_
        refine nxExit ?_
        refine bkHere ?_
        refine nx ?_
        refine wp_region_lit ?_
        refine sr F24 (run_add (r := ((i + 1 : Nat) : Int)) rfl (F24.ev 10 rfl) rfl (by rw [IntKind.wrap_i64]; omega)) rfl rfl rfl fun a25 F25 => ?_
        refine mvS F25 rfl rfl rfl rfl rfl fun a26 F26 => ?_
        refine sn ?_
        clear F24 F25
        refine ⟨_, by omega, i + 1, n + (bt b i).toNat % 128 * 128 ^ i, by omega, by omega, ?_, rfl, ?_, F26.sub ⟨rfl, rfl, rfl, rfl, trivial⟩, M0⟩
        · have := Nat.mul_le_mul_right (128 ^ i) (show (bt b i).toNat % 128 ≤ 127 by omega)
          rw [Nat.pow_succ]; omega
        · rw [hR, lenAcc_step i n _ _ h8 h3]
  · have hie : i = b.length := by omega
    have hres : lenR b = .tuple #[.int .i64 0, .int .i64 0, .int .i64 4] := by unfold lenR; rw [hR, hie, List.drop_length]; rfl
    refine wsl ?_
    refine sr (v := (.bool false)) F0 (run_lss rfl (F0.ev 10 rfl) (F0.ev 9 rfl) (decide_eq_false (by omega))) rfl rfl rfl fun a1 F1 => ?_
    refine sn ?_
    clear F0
    refine wp_seq ?_
    refine wp_cond_false (F1.ev 11 rfl) ?_
    refine wp_exit ?_
    refine nxExit ?_
    refine nxExit ?_
    refine bkHere ?_
    refine nx ?_
    refine wsl ?_
    refine sr (v := (.int .i64 0)) F1 (run_as rfl rfl) rfl rfl rfl fun a2 F2 => ?_
    refine sr (v := (.int .i64 0)) F2 (run_as rfl rfl) rfl rfl rfl fun a3 F3 => ?_
    refine sr (v := (.int .i64 4)) F3 (run_as rfl rfl) rfl rfl rfl fun a4 F4 => ?_
    refine sn ?_
    clear F1 F2 F3
    refine wp_ret ?_
    exact ret3 F4 rfl rfl rfl rfl ⟨by rw [hres], M0.below⟩
theorem elStr : ElT Tryd.prog 91 9 1 16 := by
  obtain ⟨i, h1, h2, h3, h4⟩ := info_parts (show (Tryd.prog.info? 9).map (fun i => (i.zero, i.size, i.bytes)) = some (some (.string ⟨#[]⟩), 1, 16) by kernel_rfl)
  exact ⟨Tryd.underlying91, ⟨i, _, h1, h2, h3, h4, rfl⟩, by decide⟩
theorem lenP_err : ∀ (b : List UInt8) (k : Nat) (e : Int), lenP k b = .error e → e = 3 ∨ e = 4
  | [], _, e, h => by simp [lenP] at h; omega
  | c :: r, k, e, h => by
    rw [lenP_cons] at h
    split at h
    · split at h
      · injection h with h; omega
      · cases h
    · split at h
      · injection h with h; omega
      · cases hl : lenP (k + 1) r with
        | ok p => rw [hl] at h; cases h
        | error e2 => rw [hl] at h; injection h with h; subst h; exact lenP_err r (k + 1) _ hl
theorem lenP_drop {b x : List UInt8} {n : Nat} (h : lenP 0 b = .ok (n, x)) : b.drop (b.length - x.length) = x ∧ x.length < b.length ∧ n < 2 ^ 28 := by
  obtain ⟨h1, h2, _⟩ := lenP_back b 0 n x (by omega) h
  refine ⟨?_, lenP_len (by omega) h, by simpa using h2⟩
  rw [h1, List.length_append, Nat.add_sub_cancel, List.drop_left]
/-- the texts when some stood ahead. -/
def txAcc (d : List (List UInt8)) : Except Int (List (List UInt8)) → Except Int (List (List UInt8))
  | .ok l => .ok (d ++ l)
  | .error e => .error e
theorem txAcc_nil (r : Except Int (List (List UInt8))) : txAcc [] r = r := by cases r <;> rfl
theorem txAcc_snoc (d : List (List UInt8)) (s : List UInt8) (r : Except Int (List (List UInt8))) : txAcc d (match r with | .error e => .error e | .ok l => .ok (s :: l)) = txAcc (d ++ [s]) r := by
  cases r with
  | error e => rfl
  | ok l => simp [txAcc]
/-- what Texts hands back. -/
def TxR (b : List UInt8) (base : Nat) (u : Value) (w : World) : Prop := match textsS b with
  | .ok l => ∃ v, u = .tuple #[v, .int .i64 0] ∧ w.ownsRow base 9 1 v l.length (l.map tx)
  | .error e => u = .tuple #[.slice none 0 0, .int .i64 e]
set_option maxRecDepth 100000 in
set_option maxHeartbeats 1000000 in
theorem ntexts_any (b : List UInt8) (w : World) (hb : b.length < 2 ^ 42) : Calls Tryd.prog 63 #[.string ⟨b.toArray⟩] w fun e w' => ∃ u, e = .returned u ∧ TxR b w.heap.size u w' ∧ Below w.heap.size w w' := by
  refine walk_enter Tryd.func63 rfl rfl rfl fun a0 F0 => ?_
  have M0 := Mem.new w
  refine wsl ?_
  refine sr (v := (.slice none 0 0)) F0 (run_as rfl rfl) rfl rfl rfl fun a1 F1 => ?_
  refine sr (v := (.int .i64 0)) F1 (run_as rfl rfl) rfl rfl rfl fun a2 F2 => ?_
  refine sn ?_
  clear F0 F1
  refine wsl ?_
  refine sr (v := (.slice none 0 0)) F2 (run_as rfl rfl) rfl rfl rfl fun a3 F3 => ?_
  refine sn ?_
  clear F2
  refine wp_seq ?_
  refine wp_block ?_
  refine wkLoop (fun m a w2 => ∃ (d : List (List UInt8)) (r : List UInt8) (v : Value), m = r.length ∧ d.length + r.length ≤ b.length ∧ textsS b = txAcc d (textsS r) ∧ OwnR w [] w2 9 1 v d.length (d.map tx) ∧ Fr a 37 [(0, .string ⟨r.toArray⟩), (4, v)] ∧ Mem w [] w2) b.length ⟨[], b, .slice none 0 0, rfl, by simp, by rw [txAcc_nil], OwnR.nil _ _ _ _ _, F3.sub ⟨rfl, rfl, trivial⟩, M0⟩ ?_
  rintro m a0 w1 ⟨d, r, v, rfl, hlen, hT, hO0, F0, M0⟩
  by_cases hr : r = []
  · have hT2 : textsS b = .ok d := by rw [hT, hr, textsS_nil]; simp [txAcc]
    have hrl : r.length = 0 := by rw [hr]; rfl
    refine wp_seq ?_
    refine wsl ?_
    refine mvS F0 rfl rfl rfl rfl rfl fun a1 F1 => ?_
    refine sr F1 (run_len rfl (F1.ev 8 rfl) rfl Tryd.underlying9) rfl rfl rfl fun a2 F2 => ?_
    refine sr (v := (.bool false)) F2 (run_gtr rfl (F2.ev 9 rfl) rfl (decide_eq_false (by omega))) rfl rfl rfl fun a3 F3 => ?_
    refine sn ?_
    clear F0 F1 F2
    refine wp_cond_false (F3.ev 10 rfl) ?_
    refine wp_exit ?_
    refine nxExit ?_
    refine nxExit ?_
    refine bkHere ?_
    refine nx ?_
    refine wsl ?_
    refine mvS F3 rfl rfl rfl rfl rfl fun a4 F4 => ?_
    refine asS F4 rfl rfl rfl rfl rfl fun a5 F5 => ?_
    refine sr (v := (.int .i64 0)) F5 (run_as rfl rfl) rfl rfl rfl fun a6 F6 => ?_
    refine sn ?_
    clear F3 F4 F5
    refine wp_ret ?_
    exact ret2 F6 rfl rfl rfl ⟨_, rfl, by unfold TxR; rw [hT2]; exact ⟨v, rfl, hO0.owns⟩, M0.below⟩
  · have hrl : 0 < r.length := List.length_pos_iff.2 hr
    rw [textsS_step hr] at hT
    cases hl : lenP 0 r with
    | error e =>
      have he := lenP_err r 0 e hl
      have hlr : lenR r = .tuple #[.int .i64 0, .int .i64 0, .int .i64 e] := by unfold lenR; rw [hl]
      have hT2 : textsS b = .error e := by rw [hT, hl]; try rfl
      refine wp_seq ?_
      refine wsl ?_
      refine mvS F0 rfl rfl rfl rfl rfl fun a1 F1 => ?_
      refine sr F1 (run_len rfl (F1.ev 8 rfl) rfl Tryd.underlying9) rfl rfl rfl fun a2 F2 => ?_
      refine sr (v := (.bool true)) F2 (run_gtr rfl (F2.ev 9 rfl) rfl (decide_eq_true (by omega))) rfl rfl rfl fun a3 F3 => ?_
      refine sn ?_
      clear F0 F1 F2
      refine cts (F3.ev 10 rfl) ?_
      refine wp_block ?_
      refine wsl ?_
      refine mvS F3 rfl rfl rfl rfl rfl fun a4 F4 => ?_
      refine sqC (v := (.tuple #[(.int .i64 0), (.int .i64 0), (.int .i64 e)])) F4 M0 (wantedS rfl) (run_call rfl Tryd.func97 (by kernel_rfl) rfl (mapE1 (F4.ev 12 rfl))) rfl (by decide) (by rw [← hlr]; exact nlen_any r w1 (by omega)) fun a5 w2 hb2 F5 M1 => ?_
      have hO1 := hO0.grow hb2
      refine mvS F5 rfl rfl rfl rfl rfl fun a6 F6 => ?_
      refine sr (v := (.int .i64 0)) F6 (run_ext rfl (F6.ev 11 rfl) rfl) rfl rfl rfl fun a7 F7 => ?_
      refine sr (v := (.int .i64 0)) F7 (run_ext rfl (F7.ev 11 rfl) rfl) rfl rfl rfl fun a8 F8 => ?_
      refine sr (v := (.int .i64 e)) F8 (run_ext rfl (F8.ev 11 rfl) rfl) rfl rfl rfl fun a9 F9 => ?_
      refine asS F9 rfl rfl rfl rfl rfl fun a10 F10 => ?_
      refine asS F10 rfl rfl rfl rfl rfl fun a11 F11 => ?_
      refine asS F11 rfl rfl rfl rfl rfl fun a12 F12 => ?_
      refine sn ?_
      clear F3 F4 F5 F6 F7 F8 F9 F10 F11 M0
      refine wp_seq ?_
      refine wsl ?_
      refine mvS F12 rfl rfl rfl rfl rfl fun a13 F13 => ?_
      refine sr (v := (.bool true)) F13 (run_nei rfl (F13.ev 17 rfl) rfl (bne_iff_ne.2 (by omega))) rfl rfl rfl fun a14 F14 => ?_
      refine sn ?_
      clear F12 F13
      refine wp_cond_true (F14.ev 18 rfl) ?_
      refine wsl ?_
      refine mvS F14 rfl rfl rfl rfl rfl fun a15 F15 => ?_
      refine sr (v := (.slice none 0 0)) F15 (run_as rfl rfl) rfl rfl rfl fun a16 F16 => ?_
      refine asS F16 rfl rfl rfl rfl rfl fun a17 F17 => ?_
      refine sn ?_
      clear F14 F15 F16
      refine wp_ret ?_
      refine nxRet ?_
      refine bkRet ?_
      refine nxRet ?_
      refine bkRet ?_
      refine nxRet ?_
      exact ret2 F17 rfl rfl rfl ⟨_, rfl, by unfold TxR; rw [hT2], M1.below⟩
    | ok p =>
      obtain ⟨k, x⟩ := p
      obtain ⟨hx1, hx2, hx3⟩ := lenP_drop hl
      have hlr : lenR r = .tuple #[.int .i64 (k : Int), .int .i64 ((r.length - x.length : Nat) : Int), .int .i64 0] := by unfold lenR; rw [hl]
      rw [hl] at hT
      dsimp only at hT
      by_cases hk : x.length < k
      · have hT2 : textsS b = .error 4 := by rw [hT, if_pos hk]; try rfl
        refine wp_seq ?_
        refine wsl ?_
        refine mvS F0 rfl rfl rfl rfl rfl fun a1 F1 => ?_
        refine sr F1 (run_len rfl (F1.ev 8 rfl) rfl Tryd.underlying9) rfl rfl rfl fun a2 F2 => ?_
        refine sr (v := (.bool true)) F2 (run_gtr rfl (F2.ev 9 rfl) rfl (decide_eq_true (by omega))) rfl rfl rfl fun a3 F3 => ?_
        refine sn ?_
        clear F0 F1 F2
        refine cts (F3.ev 10 rfl) ?_
        refine wp_block ?_
        refine wsl ?_
        refine mvS F3 rfl rfl rfl rfl rfl fun a4 F4 => ?_
        refine sqC (v := (.tuple #[(.int .i64 (k : Int)), (.int .i64 ((r.length - x.length : Nat) : Int)), (.int .i64 0)])) F4 M0 (wantedS rfl) (run_call rfl Tryd.func97 (by kernel_rfl) rfl (mapE1 (F4.ev 12 rfl))) rfl (by decide) (by rw [← hlr]; exact nlen_any r w1 (by omega)) fun a5 w2 hb2 F5 M1 => ?_
        have hO1 := hO0.grow hb2
        refine mvS F5 rfl rfl rfl rfl rfl fun a6 F6 => ?_
        refine sr (v := (.int .i64 (k : Int))) F6 (run_ext rfl (F6.ev 11 rfl) rfl) rfl rfl rfl fun a7 F7 => ?_
        refine sr (v := (.int .i64 ((r.length - x.length : Nat) : Int))) F7 (run_ext rfl (F7.ev 11 rfl) rfl) rfl rfl rfl fun a8 F8 => ?_
        refine sr (v := (.int .i64 0)) F8 (run_ext rfl (F8.ev 11 rfl) rfl) rfl rfl rfl fun a9 F9 => ?_
        refine asS F9 rfl rfl rfl rfl rfl fun a10 F10 => ?_
        refine asS F10 rfl rfl rfl rfl rfl fun a11 F11 => ?_
        refine asS F11 rfl rfl rfl rfl rfl fun a12 F12 => ?_
        refine sn ?_
        clear F3 F4 F5 F6 F7 F8 F9 F10 F11 M0
        refine wp_seq ?_
        refine wsl ?_
        refine mvS F12 rfl rfl rfl rfl rfl fun a13 F13 => ?_
        refine sr (v := (.bool false)) F13 (run_nei rfl (F13.ev 17 rfl) rfl (bne_eq_false_iff_eq.2 (by omega))) rfl rfl rfl fun a14 F14 => ?_
        refine sn ?_
        clear F12 F13
        refine cfs (F14.ev 18 rfl) ?_
        refine wsl ?_
        refine mvS F14 rfl rfl rfl rfl rfl fun a15 F15 => ?_
        refine mvS F15 rfl rfl rfl rfl rfl fun a16 F16 => ?_
        refine sr (v := (.string ⟨x.toArray⟩)) F16 (run_sFromE (m := (r.length - x.length)) hx1 rfl (F16.ev 20 rfl) (F16.ev 21 rfl) Tryd.underlying9 rfl (by omega)) rfl rfl rfl fun a17 F17 => ?_
        refine asS F17 rfl rfl rfl rfl rfl fun a18 F18 => ?_
        refine sn ?_
        clear F14 F15 F16 F17
        refine wp_seq ?_
        refine wsl ?_
        refine mvS F18 rfl rfl rfl rfl rfl fun a19 F19 => ?_
        refine sr F19 (run_len rfl (F19.ev 23 rfl) rfl Tryd.underlying9) rfl rfl rfl fun a20 F20 => ?_
        refine mvS F20 rfl rfl rfl rfl rfl fun a21 F21 => ?_
        refine sr (v := (.bool true)) F21 (run_lss rfl (F21.ev 24 rfl) (F21.ev 25 rfl) (decide_eq_true (by omega))) rfl rfl rfl fun a22 F22 => ?_
        refine sn ?_
        clear F18 F19 F20 F21
        refine wp_cond_true (F22.ev 26 rfl) ?_
        refine wsl ?_
        refine sr (v := (.slice none 0 0)) F22 (run_as rfl rfl) rfl rfl rfl fun a23 F23 => ?_
        refine sr (v := (.int .i64 4)) F23 (run_as rfl rfl) rfl rfl rfl fun a24 F24 => ?_
        refine sn ?_
        clear F22 F23
        refine wp_ret ?_
        refine nxRet ?_
        refine bkRet ?_
        refine nxRet ?_
        refine bkRet ?_
        refine nxRet ?_
        exact ret2 F24 rfl rfl rfl ⟨_, rfl, by unfold TxR; rw [hT2], M1.below⟩
      · rw [if_neg hk] at hT
        replace hT := hT.trans (txAcc_snoc d (x.take k) (textsS (x.drop k)))
        have hdl : (x.drop k).length = x.length - k := List.length_drop ..
        refine wp_seq ?_
        refine wsl ?_
        refine mvS F0 rfl rfl rfl rfl rfl fun a1 F1 => ?_
        refine sr F1 (run_len rfl (F1.ev 8 rfl) rfl Tryd.underlying9) rfl rfl rfl fun a2 F2 => ?_
        refine sr (v := (.bool true)) F2 (run_gtr rfl (F2.ev 9 rfl) rfl (decide_eq_true (by omega))) rfl rfl rfl fun a3 F3 => ?_
        refine sn ?_
        clear F0 F1 F2
        refine cts (F3.ev 10 rfl) ?_
        refine wp_block ?_
        refine wsl ?_
        refine mvS F3 rfl rfl rfl rfl rfl fun a4 F4 => ?_
        refine sqC (v := (.tuple #[(.int .i64 (k : Int)), (.int .i64 ((r.length - x.length : Nat) : Int)), (.int .i64 0)])) F4 M0 (wantedS rfl) (run_call rfl Tryd.func97 (by kernel_rfl) rfl (mapE1 (F4.ev 12 rfl))) rfl (by decide) (by rw [← hlr]; exact nlen_any r w1 (by omega)) fun a5 w2 hb2 F5 M1 => ?_
        have hO1 := hO0.grow hb2
        refine mvS F5 rfl rfl rfl rfl rfl fun a6 F6 => ?_
        refine sr (v := (.int .i64 (k : Int))) F6 (run_ext rfl (F6.ev 11 rfl) rfl) rfl rfl rfl fun a7 F7 => ?_
        refine sr (v := (.int .i64 ((r.length - x.length : Nat) : Int))) F7 (run_ext rfl (F7.ev 11 rfl) rfl) rfl rfl rfl fun a8 F8 => ?_
        refine sr (v := (.int .i64 0)) F8 (run_ext rfl (F8.ev 11 rfl) rfl) rfl rfl rfl fun a9 F9 => ?_
        refine asS F9 rfl rfl rfl rfl rfl fun a10 F10 => ?_
        refine asS F10 rfl rfl rfl rfl rfl fun a11 F11 => ?_
        refine asS F11 rfl rfl rfl rfl rfl fun a12 F12 => ?_
        refine sn ?_
        clear F3 F4 F5 F6 F7 F8 F9 F10 F11 M0
        refine wp_seq ?_
        refine wsl ?_
        refine mvS F12 rfl rfl rfl rfl rfl fun a13 F13 => ?_
        refine sr (v := (.bool false)) F13 (run_nei rfl (F13.ev 17 rfl) rfl (bne_eq_false_iff_eq.2 (by omega))) rfl rfl rfl fun a14 F14 => ?_
        refine sn ?_
        clear F12 F13
        refine cfs (F14.ev 18 rfl) ?_
        refine wsl ?_
        refine mvS F14 rfl rfl rfl rfl rfl fun a15 F15 => ?_
        refine mvS F15 rfl rfl rfl rfl rfl fun a16 F16 => ?_
        refine sr (v := (.string ⟨x.toArray⟩)) F16 (run_sFromE (m := (r.length - x.length)) hx1 rfl (F16.ev 20 rfl) (F16.ev 21 rfl) Tryd.underlying9 rfl (by omega)) rfl rfl rfl fun a17 F17 => ?_
        refine asS F17 rfl rfl rfl rfl rfl fun a18 F18 => ?_
        refine sn ?_
        clear F14 F15 F16 F17
        refine wp_seq ?_
        refine wsl ?_
        refine mvS F18 rfl rfl rfl rfl rfl fun a19 F19 => ?_
        refine sr F19 (run_len rfl (F19.ev 23 rfl) rfl Tryd.underlying9) rfl rfl rfl fun a20 F20 => ?_
        refine mvS F20 rfl rfl rfl rfl rfl fun a21 F21 => ?_
        refine sr (v := (.bool false)) F21 (run_lss rfl (F21.ev 24 rfl) (F21.ev 25 rfl) (decide_eq_false (by omega))) rfl rfl rfl fun a22 F22 => ?_
        refine sn ?_
        clear F18 F19 F20 F21
        refine cfs (F22.ev 26 rfl) ?_
        refine wsl ?_
        refine mvS F22 rfl rfl rfl rfl rfl fun a23 F23 => ?_
        refine mvS F23 rfl rfl rfl rfl rfl fun a24 F24 => ?_
        refine mvS F24 rfl rfl rfl rfl rfl fun a25 F25 => ?_
        refine sr (v := (.string ⟨(x.take k).toArray⟩)) F25 (run_sTo (n := k) rfl (F25.ev 28 rfl) (F25.ev 29 rfl) Tryd.underlying9 rfl (by omega)) rfl rfl rfl fun a26 F26 => ?_
        refine sqRow (cs := #[.string ⟨(x.take k).toArray⟩]) (t := 9) (m := 1) F26 M1 (wantedS rfl) (run_strs1 rfl (F26.ev 30 rfl)) rfl (by decide) fun g0 a27 w3 hgg0 hb3 F27 M2 => ?_
        have hO2 := hO1.add (S := isB 9 #[.string ⟨(x.take k).toArray⟩]) hb3 hgg0
        refine sqAppend (news := [.string ⟨(x.take k).toArray⟩]) elStr F27 M2 hO2 rfl rfl (F27.ev 27 rfl) (F27.ev 31 rfl) rfl (blkNews (M2.at 0 rfl)) (all_one rfl) (by unfold maxLen; omega) (by omega) rfl (by decide) fun v1 a28 w4 hO3 M3 hnilv1 F28 => ?_
        refine asS F28 rfl rfl rfl rfl rfl fun a29 F29 => ?_
        refine sn ?_
        clear F22 F23 F24 F25 F26 F27 F28 M1 M2
        refine wp_region_lit ?_
        refine mvS F29 rfl rfl rfl rfl rfl fun a30 F30 => ?_
        refine mvS F30 rfl rfl rfl rfl rfl fun a31 F31 => ?_
        refine sr (v := (.string ⟨(x.drop k).toArray⟩)) F31 (run_sFrom (m := k) rfl (F31.ev 33 rfl) (F31.ev 34 rfl) Tryd.underlying9 rfl (by omega)) rfl rfl rfl fun a32 F32 => ?_
        refine asS F32 rfl rfl rfl rfl rfl fun a33 F33 => ?_
        refine sqEnd ?_
        clear F29 F30 F31 F32
        refine bkEnd ?_
        refine nx ?_
        exact ⟨_, by omega, d ++ [x.take k], x.drop k, v1, rfl, by rw [List.length_append, List.length_singleton]; omega, hT, by rw [List.map_append, List.length_append]; exact hO3.sub (List.nil_sublist _), F33.sub ⟨rfl, rfl, trivial⟩, M3.sub (List.nil_sublist _)⟩
end Go.Proofs.YtconhhhggckcbaaDoor
