/- Laws and walks that many claims share: Fld1, Fld2. -/
import Derived.Test.YtconhhhggckcbaaDoorFldQ
import Derived.Test.YtconhhhggckcbaaDoorOpsB
import Derived.Test.YtconhhhggckcbaaDoorShQ
/- The walks of field.Mul, Inv and Eval. Printed by gen_key1.py. -/
namespace Go.Proofs.YtconhhhggckcbaaDoor
open Go.RowKit

theorem shr_nat (b i : Nat) : (b : Int) / 2 ^ ((i : Int)).toNat = ((b / 2 ^ i : Nat) : Int) := by
  rw [Int.toNat_natCast, Int.natCast_ediv, Int.natCast_pow]; rfl
theorem and1 (n : Nat) (h : n < 256) : bits .and .u8 (n : Int) 1 = ((n % 2 : Nat) : Int) := by
  have : ∀ m : Nat, m < 256 → bits .and .u8 (m : Int) 1 = ((m % 2 : Nat) : Int) := by decide +kernel
  exact this n h
theorem and128 (n : Nat) (h : n < 256) : bits .and .u8 (n : Int) 128 = ((n / 128 * 128 : Nat) : Int) := by
  have : ∀ m : Nat, m < 256 → bits .and .u8 (m : Int) 128 = ((m / 128 * 128 : Nat) : Int) := by decide +kernel
  exact this n h
set_option maxRecDepth 100000 in
set_option maxHeartbeats 1000000 in
theorem fmul_any (a b : UInt8) (w : World) : Calls Tryd.prog 87 #[.int .u8 (a.toNat : Int), .int .u8 (b.toNat : Int)] w fun e w' => e = .returned (.int .u8 ((mulS a b).toNat : Int)) ∧ Below w.heap.size w w' := by
  refine walk_enter Tryd.func87 rfl rfl rfl fun a0 F0 => ?_
  have M0 := Mem.new w
  refine wsl ?_
  refine sr (v := (.int .u8 0)) F0 (run_as rfl rfl) rfl rfl rfl fun a1 F1 => ?_
  refine sn ?_
  clear F0
  refine wsl ?_
  refine sr (v := (.int .u8 0)) F1 (run_as rfl rfl) rfl rfl rfl fun a2 F2 => ?_
  refine sn ?_
  clear F1
  refine wp_seq ?_
  refine wsl ?_
  refine sr (v := (.int .i64 0)) F2 (run_mv rfl rfl) rfl rfl rfl fun a3 F3 => ?_
  refine sn ?_
  clear F2
  refine wp_block ?_
  refine wkLoop (fun m a0 w2 => ∃ i : Nat, i ≤ 8 ∧ m = 8 - i ∧ Fr a0 29 [(0, .int .u8 ((mulA a i).toNat : Int)), (1, .int .u8 (b.toNat : Int)), (5, .int .u8 ((mulP a b i).toNat : Int)), (8, .int .i64 (i : Int))] ∧ Mem w [] w2) 8 ⟨0, Nat.zero_le _, rfl, F3.sub ⟨rfl, rfl, rfl, rfl, trivial⟩, M0⟩ ?_
  rintro m a0 w1 ⟨i, hi, rfl, F0, M0⟩
  have hb := b.toNat_lt
  obtain ⟨A, hA⟩ : ∃ A, mulA a i = A := ⟨_, rfl⟩
  obtain ⟨Q, hQ⟩ : ∃ Q, mulP a b i = Q := ⟨_, rfl⟩
  have hAl := A.toNat_lt
  have hA1 : mulA a (i + 1) = xtF A := by rw [mulA, hA]
  have hd : b.toNat / 2 ^ i < 256 := Nat.lt_of_le_of_lt (Nat.div_le_self _ _) hb
  rw [hA, hQ] at F0
  by_cases h1 : i < 8
  · have hsh : (UInt8.ofNat (A.toNat * 2)).toNat = A.toNat * 2 % 256 := UInt8.toNat_ofNat'
    by_cases h2 : b.toNat / 2 ^ i % 2 = 1
    · have hP : mulP a b (i + 1) = Q ^^^ A := by rw [mulP, hA, hQ, if_pos h2]
      by_cases h3 : 128 ≤ A.toNat
      · have hx : xtF A = UInt8.ofNat (A.toNat * 2) ^^^ 29 := by rw [xtF, if_pos h3]
        refine wsl ?_
        refine sr (v := (.bool true)) F0 (run_lss rfl (F0.ev 8 rfl) rfl (decide_eq_true (by omega))) rfl rfl rfl fun a1 F1 => ?_
        refine sn ?_
        clear F0
        refine wp_seq ?_
        refine cts (F1.ev 9 rfl) ?_
        refine wp_seq ?_
        refine wp_block ?_
        refine wsl ?_
        refine mvS F1 rfl rfl rfl rfl rfl fun a2 F2 => ?_
        refine asS F2 rfl rfl rfl rfl rfl fun a3 F3 => ?_
        refine sn ?_
        clear F1 F2
        refine wp_seq ?_
        refine wsl ?_
        refine mvS F3 rfl rfl rfl rfl rfl fun a4 F4 => ?_
        refine mvS F4 rfl rfl rfl rfl rfl fun a5 F5 => ?_
        refine sr (v := (.int .u8 ((b.toNat / 2 ^ i : Nat) : Int))) F5 (run_shr (r := ((b.toNat / 2 ^ i : Nat) : Int)) rfl (F5.ev 11 rfl) (F5.ev 12 rfl) (by omega) (by first | decide | (simp [IntKind.bits]; omega)) (shr_nat _ _)) rfl rfl rfl fun a6 F6 => ?_
        refine sr (v := (.int .u8 ((b.toNat / 2 ^ i % 2 : Nat) : Int))) F6 (run_and (r := ((b.toNat / 2 ^ i % 2 : Nat) : Int)) rfl (F6.ev 13 rfl) rfl (and1 _ hd)) rfl rfl rfl fun a7 F7 => ?_
        refine sr (v := (.bool true)) F7 (run_eqi rfl (F7.ev 14 rfl) rfl (beq_iff_eq.2 (by omega))) rfl rfl rfl fun a8 F8 => ?_
        refine sn ?_
        clear F3 F4 F5 F6 F7
        refine wp_cond_true (F8.ev 15 rfl) ?_
        refine wp_region_lit ?_
        refine mvS F8 rfl rfl rfl rfl rfl fun a9 F9 => ?_
        refine mvS F9 rfl rfl rfl rfl rfl fun a10 F10 => ?_
        refine sr (v := (.int .u8 ((Q ^^^ A).toNat : Int))) F10 (run_xor8 rfl (F10.ev 16 rfl) (F10.ev 17 rfl)) rfl rfl rfl fun a11 F11 => ?_
        refine asS F11 rfl rfl rfl rfl rfl fun a12 F12 => ?_
        refine sn ?_
        clear F8 F9 F10 F11
        refine wsl ?_
        refine mvS F12 rfl rfl rfl rfl rfl fun a13 F13 => ?_
        refine sr (v := (.int .u8 ((A.toNat / 128 * 128 : Nat) : Int))) F13 (run_and (r := ((A.toNat / 128 * 128 : Nat) : Int)) rfl (F13.ev 19 rfl) rfl (and128 _ hAl)) rfl rfl rfl fun a14 F14 => ?_
        refine sr (v := (.bool true)) F14 (run_nei rfl (F14.ev 20 rfl) rfl (bne_iff_ne.2 (by omega))) rfl rfl rfl fun a15 F15 => ?_
        refine asS F15 rfl rfl rfl rfl rfl fun a16 F16 => ?_
        refine sn ?_
        clear F12 F13 F14 F15
        refine wsl ?_
        refine mvS F16 rfl rfl rfl rfl rfl fun a17 F17 => ?_
        refine sr (v := (.int .u8 ((UInt8.ofNat (A.toNat * 2)).toNat : Int))) F17 (run_shl (r := ((UInt8.ofNat (A.toNat * 2)).toNat : Int)) rfl (F17.ev 22 rfl) rfl (by omega) (by first | decide | (simp [IntKind.bits]; omega)) (by rw [hsh, IntKind.wrap_u8]; simp)) rfl rfl rfl fun a18 F18 => ?_
        refine asS F18 rfl rfl rfl rfl rfl fun a19 F19 => ?_
        refine sn ?_
        clear F16 F17 F18
        refine wsl ?_
        refine mvS F19 rfl rfl rfl rfl rfl fun a20 F20 => ?_
        refine sn ?_
        clear F19
        refine wp_cond_true (F20.ev 24 rfl) ?_
        refine wp_region_lit ?_
        refine mvS F20 rfl rfl rfl rfl rfl fun a21 F21 => ?_
        refine sr (v := (.int .u8 (((UInt8.ofNat (A.toNat * 2)) ^^^ 29).toNat : Int))) F21 (run_xor8 rfl (F21.ev 25 rfl) rfl) rfl rfl rfl fun a22 F22 => ?_
        refine asS F22 rfl rfl rfl rfl rfl fun a23 F23 => ?_
        refine sqEnd ?_
        clear F20 F21 F22
        refine bkEnd ?_
        refine nx ?_
        refine wp_region_lit ?_
        refine sr F23 (run_add (r := ((i + 1 : Nat) : Int)) rfl (F23.ev 8 rfl) rfl (by rw [IntKind.wrap_i64]; omega)) rfl rfl rfl fun a24 F24 => ?_
        refine mvS F24 rfl rfl rfl rfl rfl fun a25 F25 => ?_
        refine sn ?_
        clear F23 F24
        exact ⟨_, by omega, i + 1, by omega, rfl, by rw [hA1, hx, hP]; exact F25.sub ⟨rfl, rfl, rfl, rfl, trivial⟩, M0⟩
      · have hx : xtF A = UInt8.ofNat (A.toNat * 2) := by rw [xtF, if_neg h3]
        refine wsl ?_
        refine sr (v := (.bool true)) F0 (run_lss rfl (F0.ev 8 rfl) rfl (decide_eq_true (by omega))) rfl rfl rfl fun a1 F1 => ?_
        refine sn ?_
        clear F0
        refine wp_seq ?_
        refine cts (F1.ev 9 rfl) ?_
        refine wp_seq ?_
        refine wp_block ?_
        refine wsl ?_
        refine mvS F1 rfl rfl rfl rfl rfl fun a2 F2 => ?_
        refine asS F2 rfl rfl rfl rfl rfl fun a3 F3 => ?_
        refine sn ?_
        clear F1 F2
        refine wp_seq ?_
        refine wsl ?_
        refine mvS F3 rfl rfl rfl rfl rfl fun a4 F4 => ?_
        refine mvS F4 rfl rfl rfl rfl rfl fun a5 F5 => ?_
        refine sr (v := (.int .u8 ((b.toNat / 2 ^ i : Nat) : Int))) F5 (run_shr (r := ((b.toNat / 2 ^ i : Nat) : Int)) rfl (F5.ev 11 rfl) (F5.ev 12 rfl) (by omega) (by first | decide | (simp [IntKind.bits]; omega)) (shr_nat _ _)) rfl rfl rfl fun a6 F6 => ?_
        refine sr (v := (.int .u8 ((b.toNat / 2 ^ i % 2 : Nat) : Int))) F6 (run_and (r := ((b.toNat / 2 ^ i % 2 : Nat) : Int)) rfl (F6.ev 13 rfl) rfl (and1 _ hd)) rfl rfl rfl fun a7 F7 => ?_
        refine sr (v := (.bool true)) F7 (run_eqi rfl (F7.ev 14 rfl) rfl (beq_iff_eq.2 (by omega))) rfl rfl rfl fun a8 F8 => ?_
        refine sn ?_
        clear F3 F4 F5 F6 F7
        refine wp_cond_true (F8.ev 15 rfl) ?_
        refine wp_region_lit ?_
        refine mvS F8 rfl rfl rfl rfl rfl fun a9 F9 => ?_
        refine mvS F9 rfl rfl rfl rfl rfl fun a10 F10 => ?_
        refine sr (v := (.int .u8 ((Q ^^^ A).toNat : Int))) F10 (run_xor8 rfl (F10.ev 16 rfl) (F10.ev 17 rfl)) rfl rfl rfl fun a11 F11 => ?_
        refine asS F11 rfl rfl rfl rfl rfl fun a12 F12 => ?_
        refine sn ?_
        clear F8 F9 F10 F11
        refine wsl ?_
        refine mvS F12 rfl rfl rfl rfl rfl fun a13 F13 => ?_
        refine sr (v := (.int .u8 ((A.toNat / 128 * 128 : Nat) : Int))) F13 (run_and (r := ((A.toNat / 128 * 128 : Nat) : Int)) rfl (F13.ev 19 rfl) rfl (and128 _ hAl)) rfl rfl rfl fun a14 F14 => ?_
        refine sr (v := (.bool false)) F14 (run_nei rfl (F14.ev 20 rfl) rfl (bne_eq_false_iff_eq.2 (by omega))) rfl rfl rfl fun a15 F15 => ?_
        refine asS F15 rfl rfl rfl rfl rfl fun a16 F16 => ?_
        refine sn ?_
        clear F12 F13 F14 F15
        refine wsl ?_
        refine mvS F16 rfl rfl rfl rfl rfl fun a17 F17 => ?_
        refine sr (v := (.int .u8 ((UInt8.ofNat (A.toNat * 2)).toNat : Int))) F17 (run_shl (r := ((UInt8.ofNat (A.toNat * 2)).toNat : Int)) rfl (F17.ev 22 rfl) rfl (by omega) (by first | decide | (simp [IntKind.bits]; omega)) (by rw [hsh, IntKind.wrap_u8]; simp)) rfl rfl rfl fun a18 F18 => ?_
        refine asS F18 rfl rfl rfl rfl rfl fun a19 F19 => ?_
        refine sn ?_
        clear F16 F17 F18
        refine wsl ?_
        refine mvS F19 rfl rfl rfl rfl rfl fun a20 F20 => ?_
        refine sn ?_
        clear F19
        refine wp_cond_false (F20.ev 24 rfl) ?_
        refine wp_skip ?_
        refine bkEnd ?_
        refine nx ?_
        refine wp_region_lit ?_
        refine sr F20 (run_add (r := ((i + 1 : Nat) : Int)) rfl (F20.ev 8 rfl) rfl (by rw [IntKind.wrap_i64]; omega)) rfl rfl rfl fun a21 F21 => ?_
        refine mvS F21 rfl rfl rfl rfl rfl fun a22 F22 => ?_
        refine sn ?_
        clear F20 F21
        exact ⟨_, by omega, i + 1, by omega, rfl, by rw [hA1, hx, hP]; exact F22.sub ⟨rfl, rfl, rfl, rfl, trivial⟩, M0⟩
    · have hP : mulP a b (i + 1) = Q := by rw [mulP, hA, hQ, if_neg h2]
      by_cases h3 : 128 ≤ A.toNat
      · have hx : xtF A = UInt8.ofNat (A.toNat * 2) ^^^ 29 := by rw [xtF, if_pos h3]
        refine wsl ?_
        refine sr (v := (.bool true)) F0 (run_lss rfl (F0.ev 8 rfl) rfl (decide_eq_true (by omega))) rfl rfl rfl fun a1 F1 => ?_
        refine sn ?_
        clear F0
        refine wp_seq ?_
        refine cts (F1.ev 9 rfl) ?_
        refine wp_seq ?_
        refine wp_block ?_
        refine wsl ?_
        refine mvS F1 rfl rfl rfl rfl rfl fun a2 F2 => ?_
        refine asS F2 rfl rfl rfl rfl rfl fun a3 F3 => ?_
        refine sn ?_
        clear F1 F2
        refine wp_seq ?_
        refine wsl ?_
        refine mvS F3 rfl rfl rfl rfl rfl fun a4 F4 => ?_
        refine mvS F4 rfl rfl rfl rfl rfl fun a5 F5 => ?_
        refine sr (v := (.int .u8 ((b.toNat / 2 ^ i : Nat) : Int))) F5 (run_shr (r := ((b.toNat / 2 ^ i : Nat) : Int)) rfl (F5.ev 11 rfl) (F5.ev 12 rfl) (by omega) (by first | decide | (simp [IntKind.bits]; omega)) (shr_nat _ _)) rfl rfl rfl fun a6 F6 => ?_
        refine sr (v := (.int .u8 ((b.toNat / 2 ^ i % 2 : Nat) : Int))) F6 (run_and (r := ((b.toNat / 2 ^ i % 2 : Nat) : Int)) rfl (F6.ev 13 rfl) rfl (and1 _ hd)) rfl rfl rfl fun a7 F7 => ?_
        refine sr (v := (.bool false)) F7 (run_eqi rfl (F7.ev 14 rfl) rfl (beq_eq_false_iff_ne.2 (by omega))) rfl rfl rfl fun a8 F8 => ?_
        refine sn ?_
        clear F3 F4 F5 F6 F7
        refine cfs (F8.ev 15 rfl) ?_
        refine wsl ?_
        refine mvS F8 rfl rfl rfl rfl rfl fun a9 F9 => ?_
        refine sr (v := (.int .u8 ((A.toNat / 128 * 128 : Nat) : Int))) F9 (run_and (r := ((A.toNat / 128 * 128 : Nat) : Int)) rfl (F9.ev 19 rfl) rfl (and128 _ hAl)) rfl rfl rfl fun a10 F10 => ?_
        refine sr (v := (.bool true)) F10 (run_nei rfl (F10.ev 20 rfl) rfl (bne_iff_ne.2 (by omega))) rfl rfl rfl fun a11 F11 => ?_
        refine asS F11 rfl rfl rfl rfl rfl fun a12 F12 => ?_
        refine sn ?_
        clear F8 F9 F10 F11
        refine wsl ?_
        refine mvS F12 rfl rfl rfl rfl rfl fun a13 F13 => ?_
        refine sr (v := (.int .u8 ((UInt8.ofNat (A.toNat * 2)).toNat : Int))) F13 (run_shl (r := ((UInt8.ofNat (A.toNat * 2)).toNat : Int)) rfl (F13.ev 22 rfl) rfl (by omega) (by first | decide | (simp [IntKind.bits]; omega)) (by rw [hsh, IntKind.wrap_u8]; simp)) rfl rfl rfl fun a14 F14 => ?_
        refine asS F14 rfl rfl rfl rfl rfl fun a15 F15 => ?_
        refine sn ?_
        clear F12 F13 F14
        refine wsl ?_
        refine mvS F15 rfl rfl rfl rfl rfl fun a16 F16 => ?_
        refine sn ?_
        clear F15
        refine wp_cond_true (F16.ev 24 rfl) ?_
        refine wp_region_lit ?_
        refine mvS F16 rfl rfl rfl rfl rfl fun a17 F17 => ?_
        refine sr (v := (.int .u8 (((UInt8.ofNat (A.toNat * 2)) ^^^ 29).toNat : Int))) F17 (run_xor8 rfl (F17.ev 25 rfl) rfl) rfl rfl rfl fun a18 F18 => ?_
        refine asS F18 rfl rfl rfl rfl rfl fun a19 F19 => ?_
        refine sqEnd ?_
        clear F16 F17 F18
        refine bkEnd ?_
        refine nx ?_
        refine wp_region_lit ?_
        refine sr F19 (run_add (r := ((i + 1 : Nat) : Int)) rfl (F19.ev 8 rfl) rfl (by rw [IntKind.wrap_i64]; omega)) rfl rfl rfl fun a20 F20 => ?_
        refine mvS F20 rfl rfl rfl rfl rfl fun a21 F21 => ?_
        refine sn ?_
        clear F19 F20
        exact ⟨_, by omega, i + 1, by omega, rfl, by rw [hA1, hx, hP]; exact F21.sub ⟨rfl, rfl, rfl, rfl, trivial⟩, M0⟩
      · have hx : xtF A = UInt8.ofNat (A.toNat * 2) := by rw [xtF, if_neg h3]
        refine wsl ?_
        refine sr (v := (.bool true)) F0 (run_lss rfl (F0.ev 8 rfl) rfl (decide_eq_true (by omega))) rfl rfl rfl fun a1 F1 => ?_
        refine sn ?_
        clear F0
        refine wp_seq ?_
        refine cts (F1.ev 9 rfl) ?_
        refine wp_seq ?_
        refine wp_block ?_
        refine wsl ?_
        refine mvS F1 rfl rfl rfl rfl rfl fun a2 F2 => ?_
        refine asS F2 rfl rfl rfl rfl rfl fun a3 F3 => ?_
        refine sn ?_
        clear F1 F2
        refine wp_seq ?_
        refine wsl ?_
        refine mvS F3 rfl rfl rfl rfl rfl fun a4 F4 => ?_
        refine mvS F4 rfl rfl rfl rfl rfl fun a5 F5 => ?_
        refine sr (v := (.int .u8 ((b.toNat / 2 ^ i : Nat) : Int))) F5 (run_shr (r := ((b.toNat / 2 ^ i : Nat) : Int)) rfl (F5.ev 11 rfl) (F5.ev 12 rfl) (by omega) (by first | decide | (simp [IntKind.bits]; omega)) (shr_nat _ _)) rfl rfl rfl fun a6 F6 => ?_
        refine sr (v := (.int .u8 ((b.toNat / 2 ^ i % 2 : Nat) : Int))) F6 (run_and (r := ((b.toNat / 2 ^ i % 2 : Nat) : Int)) rfl (F6.ev 13 rfl) rfl (and1 _ hd)) rfl rfl rfl fun a7 F7 => ?_
        refine sr (v := (.bool false)) F7 (run_eqi rfl (F7.ev 14 rfl) rfl (beq_eq_false_iff_ne.2 (by omega))) rfl rfl rfl fun a8 F8 => ?_
        refine sn ?_
        clear F3 F4 F5 F6 F7
        refine cfs (F8.ev 15 rfl) ?_
        refine wsl ?_
        refine mvS F8 rfl rfl rfl rfl rfl fun a9 F9 => ?_
        refine sr (v := (.int .u8 ((A.toNat / 128 * 128 : Nat) : Int))) F9 (run_and (r := ((A.toNat / 128 * 128 : Nat) : Int)) rfl (F9.ev 19 rfl) rfl (and128 _ hAl)) rfl rfl rfl fun a10 F10 => ?_
        refine sr (v := (.bool false)) F10 (run_nei rfl (F10.ev 20 rfl) rfl (bne_eq_false_iff_eq.2 (by omega))) rfl rfl rfl fun a11 F11 => ?_
        refine asS F11 rfl rfl rfl rfl rfl fun a12 F12 => ?_
        refine sn ?_
        clear F8 F9 F10 F11
        refine wsl ?_
        refine mvS F12 rfl rfl rfl rfl rfl fun a13 F13 => ?_
        refine sr (v := (.int .u8 ((UInt8.ofNat (A.toNat * 2)).toNat : Int))) F13 (run_shl (r := ((UInt8.ofNat (A.toNat * 2)).toNat : Int)) rfl (F13.ev 22 rfl) rfl (by omega) (by first | decide | (simp [IntKind.bits]; omega)) (by rw [hsh, IntKind.wrap_u8]; simp)) rfl rfl rfl fun a14 F14 => ?_
        refine asS F14 rfl rfl rfl rfl rfl fun a15 F15 => ?_
        refine sn ?_
        clear F12 F13 F14
        refine wsl ?_
        refine mvS F15 rfl rfl rfl rfl rfl fun a16 F16 => ?_
        refine sn ?_
        clear F15
        refine wp_cond_false (F16.ev 24 rfl) ?_
        refine wp_skip ?_
        refine bkEnd ?_
        refine nx ?_
        refine wp_region_lit ?_
        refine sr F16 (run_add (r := ((i + 1 : Nat) : Int)) rfl (F16.ev 8 rfl) rfl (by rw [IntKind.wrap_i64]; omega)) rfl rfl rfl fun a17 F17 => ?_
        refine mvS F17 rfl rfl rfl rfl rfl fun a18 F18 => ?_
        refine sn ?_
        clear F16 F17
        exact ⟨_, by omega, i + 1, by omega, rfl, by rw [hA1, hx, hP]; exact F18.sub ⟨rfl, rfl, rfl, rfl, trivial⟩, M0⟩
  · have hie : i = 8 := by omega
    have hres : mulS a b = Q := by rw [← hQ, hie]; rfl
    refine wsl ?_
    refine sr (v := (.bool false)) F0 (run_lss rfl (F0.ev 8 rfl) rfl (decide_eq_false (by omega))) rfl rfl rfl fun a1 F1 => ?_
    refine sn ?_
    clear F0
    refine wp_seq ?_
    refine wp_cond_false (F1.ev 9 rfl) ?_
    refine wp_exit ?_
    refine nxExit ?_
    refine nxExit ?_
    refine bkHere ?_
    refine nx ?_
    refine wsl ?_
    refine mvS F1 rfl rfl rfl rfl rfl fun a2 F2 => ?_
    refine asS F2 rfl rfl rfl rfl rfl fun a3 F3 => ?_
    refine sn ?_
    clear F1 F2
    refine wp_ret ?_
    exact ret1 F3 rfl rfl ⟨by rw [hres], M0.below⟩
set_option maxRecDepth 100000 in
set_option maxHeartbeats 1000000 in
theorem finv_any (a : UInt8) (w : World) : Calls Tryd.prog 88 #[.int .u8 (a.toNat : Int)] w fun e w' => e = .returned (.int .u8 ((invS a).toNat : Int)) ∧ Below w.heap.size w w' := by
  refine walk_enter Tryd.func88 rfl rfl rfl fun a0 F0 => ?_
  have M0 := Mem.new w
  refine wsl ?_
  refine sr (v := (.int .u8 0)) F0 (run_as rfl rfl) rfl rfl rfl fun a1 F1 => ?_
  refine sn ?_
  clear F0
  refine wsl ?_
  refine sr (v := (.int .u8 1)) F1 (run_as rfl rfl) rfl rfl rfl fun a2 F2 => ?_
  refine sn ?_
  clear F1
  refine wp_seq ?_
  refine wsl ?_
  refine sr (v := (.int .i64 0)) F2 (run_mv rfl rfl) rfl rfl rfl fun a3 F3 => ?_
  refine sn ?_
  clear F2
  refine wp_block ?_
  refine wkLoop (fun m a0 w2 => ∃ i : Nat, i ≤ 7 ∧ m = 7 - i ∧ Fr a0 14 [(0, .int .u8 ((invT a i).1.toNat : Int)), (3, .int .u8 ((invT a i).2.toNat : Int)), (4, .int .i64 (i : Int))] ∧ Mem w [] w2) 7 ⟨0, Nat.zero_le _, rfl, F3.sub ⟨rfl, rfl, rfl, trivial⟩, M0⟩ ?_
  rintro m a0 w1 ⟨i, hi, rfl, F0, M0⟩
  have hst : invT a (i + 1) = (mulS (invT a i).1 (invT a i).1, mulS (invT a i).2 (mulS (invT a i).1 (invT a i).1)) := rfl
  obtain ⟨A, hA⟩ : ∃ A, (invT a i).1 = A := ⟨_, rfl⟩
  obtain ⟨Q, hQ⟩ : ∃ Q, (invT a i).2 = Q := ⟨_, rfl⟩
  rw [hA, hQ] at F0 hst
  by_cases h1 : i < 7
  · skip
    refine wsl ?_
    refine sr (v := (.bool true)) F0 (run_lss rfl (F0.ev 4 rfl) rfl (decide_eq_true (by omega))) rfl rfl rfl fun a1 F1 => ?_
    refine sn ?_
    clear F0
    refine wp_seq ?_
    refine cts (F1.ev 5 rfl) ?_
    refine wp_seq ?_
    refine wp_block ?_
    refine wsl ?_
    refine mvS F1 rfl rfl rfl rfl rfl fun a2 F2 => ?_
    refine mvS F2 rfl rfl rfl rfl rfl fun a3 F3 => ?_
    refine sqC (v := (.int .u8 ((mulS A A).toNat : Int))) F3 M0 (wantedS rfl) (run_call rfl Tryd.func87 (by kernel_rfl) rfl (mapE2 (F3.ev 6 rfl) (F3.ev 7 rfl))) rfl (by decide) (fmul_any A A w1) fun a4 w2 hb2 F4 M1 => ?_
    refine asS F4 rfl rfl rfl rfl rfl fun a5 F5 => ?_
    refine sn ?_
    clear F1 F2 F3 F4 M0
    refine wp_region_lit ?_
    refine mvS F5 rfl rfl rfl rfl rfl fun a6 F6 => ?_
    refine mvS F6 rfl rfl rfl rfl rfl fun a7 F7 => ?_
    refine sqC (v := (.int .u8 ((mulS Q (mulS A A)).toNat : Int))) F7 M1 (wantedS rfl) (run_call rfl Tryd.func87 (by kernel_rfl) rfl (mapE2 (F7.ev 9 rfl) (F7.ev 10 rfl))) rfl (by decide) (fmul_any Q (mulS A A) w2) fun a8 w3 hb3 F8 M2 => ?_
    refine asS F8 rfl rfl rfl rfl rfl fun a9 F9 => ?_
    refine sqEnd ?_
    clear F5 F6 F7 F8 M1
    refine bkEnd ?_
    refine nx ?_
    refine wp_region_lit ?_
    refine sr F9 (run_add (r := ((i + 1 : Nat) : Int)) rfl (F9.ev 4 rfl) rfl (by rw [IntKind.wrap_i64]; omega)) rfl rfl rfl fun a10 F10 => ?_
    refine mvS F10 rfl rfl rfl rfl rfl fun a11 F11 => ?_
    refine sn ?_
    clear F9 F10
    exact ⟨_, by omega, i + 1, by omega, rfl, by rw [hst]; exact F11.sub ⟨rfl, rfl, rfl, trivial⟩, M2⟩
  · have hie : i = 7 := by omega
    have hres : invS a = Q := by rw [← hQ, hie]; rfl
    refine wsl ?_
    refine sr (v := (.bool false)) F0 (run_lss rfl (F0.ev 4 rfl) rfl (decide_eq_false (by omega))) rfl rfl rfl fun a1 F1 => ?_
    refine sn ?_
    clear F0
    refine wp_seq ?_
    refine wp_cond_false (F1.ev 5 rfl) ?_
    refine wp_exit ?_
    refine nxExit ?_
    refine nxExit ?_
    refine bkHere ?_
    refine nx ?_
    refine wsl ?_
    refine mvS F1 rfl rfl rfl rfl rfl fun a2 F2 => ?_
    refine asS F2 rfl rfl rfl rfl rfl fun a3 F3 => ?_
    refine sn ?_
    clear F1 F2
    refine wp_ret ?_
    exact ret1 F3 rfl rfl ⟨by rw [hres], M0.below⟩
set_option maxRecDepth 100000 in
set_option maxHeartbeats 1000000 in
theorem feval_any (l : List UInt8) (v : Value) (x : UInt8) (w : World) (hV : Sl w v 1 l.length (l.map cb)) (_hl : l.length < 2 ^ 40) : Calls Tryd.prog 65 #[v, .int .u8 (x.toNat : Int)] w fun e w' => e = .returned (.int .u8 ((evalS l x).toNat : Int)) ∧ Below w.heap.size w w' := by
  refine walk_enter Tryd.func65 rfl rfl rfl fun a0 F0 => ?_
  have M0 := Mem.new w
  refine wsl ?_
  refine sr (v := (.int .u8 0)) F0 (run_as rfl rfl) rfl rfl rfl fun a1 F1 => ?_
  refine sn ?_
  clear F0
  refine wsl ?_
  refine sr (v := (.int .u8 0)) F1 (run_as rfl rfl) rfl rfl rfl fun a2 F2 => ?_
  refine sn ?_
  clear F1
  refine wp_seq ?_
  refine wsl ?_
  refine mvS F2 rfl rfl rfl rfl rfl fun a3 F3 => ?_
  refine sr F3 (run_lenS rfl (F3.ev 7 rfl) (hV.below M0.below) rfl Tryd.underlying52) rfl rfl rfl fun a4 F4 => ?_
  refine sr (v := (.int .i64 0)) F4 (run_mv rfl rfl) rfl rfl rfl fun a5 F5 => ?_
  refine sn ?_
  clear F2 F3 F4
  refine wp_block ?_
  refine wkLoop (fun m a0 w2 => ∃ i : Nat, i ≤ l.length ∧ m = l.length - i ∧ Fr a0 26 [(0, v), (1, .int .u8 (x.toNat : Int)), (5, .int .u8 ((evalT l x i).toNat : Int)), (8, .int .i64 (l.length : Int)), (9, .int .i64 (i : Int))] ∧ Mem w [] w2) l.length ⟨0, Nat.zero_le _, rfl, F5.sub ⟨rfl, rfl, rfl, rfl, rfl, trivial⟩, M0⟩ ?_
  rintro m a0 w1 ⟨i, hi, rfl, F0, M0⟩
  have hst : evalT l x (i + 1) = mulS (evalT l x i) x ^^^ l.getD (l.length - 1 - i) 0 := rfl
  obtain ⟨Q, hQ⟩ : ∃ Q, evalT l x i = Q := ⟨_, rfl⟩
  rw [hQ] at F0 hst
  by_cases h1 : i < l.length
  · obtain ⟨q, hq⟩ : ∃ q, l[l.length - 1 - i]? = some q := ⟨_, List.getElem?_eq_getElem (by omega)⟩
    rw [List.getD_eq_getElem?_getD, hq, Option.getD_some] at hst
    refine wsl ?_
    refine sr (v := (.bool true)) F0 (run_lss rfl (F0.ev 9 rfl) (F0.ev 8 rfl) (decide_eq_true (by omega))) rfl rfl rfl fun a1 F1 => ?_
    refine sn ?_
    clear F0
    refine wp_seq ?_
    refine cts (F1.ev 10 rfl) ?_
    refine wp_seq ?_
    refine wp_block ?_
    refine wsl ?_
    refine mvS F1 rfl rfl rfl rfl rfl fun a2 F2 => ?_
    refine asS F2 rfl rfl rfl rfl rfl fun a3 F3 => ?_
    refine sn ?_
    clear F1 F2
    obtain ⟨KL, hKL⟩ : ∃ KL, KL = [kval (.int .u8 (Q.toNat : Int)), kval (.int .u8 (x.toNat : Int)), kval (.int .u8 ((mulS Q x).toNat : Int)), kval v, kval v, kval (.int .i64 (l.length : Int)), kval (.int .i64 ((l.length - 1 : Nat) : Int)), kval (.int .i64 (i : Int)), kval (.int .i64 ((l.length - 1 - i : Nat) : Int)), kval (slPtr v ((l.length - 1 - i) * 1)), kval (.int .u8 (q.toNat : Int)), kval (.int .u8 (((mulS Q x) ^^^ q).toNat : Int))] := ⟨_, rfl⟩
    have K0 := getK hKL 0
    have K1 := getK hKL 1
    have K2 := getK hKL 2
    have K3 := getK hKL 3
    have K4 := getK hKL 4
    have K5 := getK hKL 5
    have K6 := getK hKL 6
    have K7 := getK hKL 7
    have K8 := getK hKL 8
    have K9 := getK hKL 9
    have K10 := getK hKL 10
    have K11 := getK hKL 11
    have HKL : KL.length ≤ 12 := by rw [hKL]; exact Nat.le_refl _
    clear hKL
    refine wp_region_kdTail2 26 12 (by kernel_rfl) (by kernel_rfl) (by kernel_rfl) (by kernel_rfl) F3.size KL HKL ?_ ?_
    · refine ⟨?_, ?_, ?_, ?_, ?_, ?_, ?_, ?_, ?_, ?_, ?_, ?_, trivial⟩
      · exact asksHY rfl fun a W hS hh hd => giv_run (run_mv rfl (eval_tmp (hh 5 _ rfl (F3.at 5 rfl)))) K0
      · exact asksHY rfl fun a W hS hh hd => giv_run (run_mv rfl (eval_tmp (hh 1 _ rfl (F3.at 1 rfl)))) K1
      · exact asksHY rfl fun a W hS hh hd => giv_call (run_call rfl Tryd.func87 (by kernel_rfl) rfl (mapE2 (eval_tmp (hd.vl 0 12 (by kernel_rfl) K0)) (eval_tmp (hd.vl 1 13 (by kernel_rfl) K1)))) (fmul_any Q x W) K2
      · exact asksHY rfl fun a W hS hh hd => giv_run (run_mv rfl (eval_tmp (hh 0 _ rfl (F3.at 0 rfl)))) K3
      · exact asksHY rfl fun a W hS hh hd => giv_run (run_mv rfl (eval_tmp (hh 0 _ rfl (F3.at 0 rfl)))) K4
      · exact asksHY rfl fun a W hS hh hd => giv_run (run_lenS rfl (eval_tmp (hd.vl 4 16 (by kernel_rfl) K4)) (hV.below (M0.grow hS).below) rfl Tryd.underlying52) K5
      · exact asksHY rfl fun a W hS hh hd => giv_run (run_sub (r := ((l.length - 1 : Nat) : Int)) rfl (eval_tmp (hd.vl 5 17 (by kernel_rfl) K5)) rfl (by rw [IntKind.wrap_i64]; omega)) K6
      · exact asksHY rfl fun a W hS hh hd => giv_run (run_mv rfl (eval_tmp (hh 6 _ rfl (F3.at 6 rfl)))) K7
      · exact asksHY rfl fun a W hS hh hd => giv_run (run_sub (r := ((l.length - 1 - i : Nat) : Int)) rfl (eval_tmp (hd.vl 6 18 (by kernel_rfl) K6)) (eval_tmp (hd.vl 7 19 (by kernel_rfl) K7)) (by rw [IntKind.wrap_i64]; omega)) K8
      · exact asksHY rfl fun a W hS hh hd => giv_run (run_atP (i := (l.length - 1 - i)) rfl (eval_tmp (hd.vl 3 15 (by kernel_rfl) K3)) (eval_tmp (hd.vl 8 20 (by kernel_rfl) K8)) rfl (hV.below (M0.grow hS).below) (by omega) elU8.un (by kernel_rfl)) K9
      · exact asksHY rfl fun a W hS hh hd => giv_run (run_ldP (u := cb q) rfl (eval_tmp (hd.vl 9 21 (by kernel_rfl) K9)) (hV.below (M0.grow hS).below) (map_atB hq) (by kernel_rfl)) K10
      · exact asksHY rfl fun a W hS hh hd => giv_run (run_xor8 rfl (eval_tmp (hd.vl 2 14 (by kernel_rfl) K2)) (eval_tmp (hd.vl 10 22 (by kernel_rfl) K10))) K11
    · intro a4 w2 hb2 hK
      have e0 := hK.hvl 0 12 rfl (by kernel_rfl) K0
      have e1 := hK.hvl 1 13 rfl (by kernel_rfl) K1
      have e2 := hK.hvl 2 14 rfl (by kernel_rfl) K2
      have e3 := hK.hvl 3 15 rfl (by kernel_rfl) K3
      have e4 := hK.hvl 4 16 rfl (by kernel_rfl) K4
      have e5 := hK.hvl 5 17 rfl (by kernel_rfl) K5
      have e6 := hK.hvl 6 18 rfl (by kernel_rfl) K6
      have e7 := hK.hvl 7 19 rfl (by kernel_rfl) K7
      have e8 := hK.hvl 8 20 rfl (by kernel_rfl) K8
      have e9 := hK.hvl 9 21 rfl (by kernel_rfl) K9
      have e10 := hK.hvl 10 22 rfl (by kernel_rfl) K10
      have e11 := hK.hvl 11 23 rfl (by kernel_rfl) K11
      have F4 : Fr a4 26 [(0, v), (1, (.int .u8 (x.toNat : Int))), (5, (.int .u8 (Q.toNat : Int))), (6, (.int .i64 (i : Int))), (8, (.int .i64 (l.length : Int))), (9, (.int .i64 (i : Int))), (10, (.bool true)), (11, (.int .i64 (i : Int))), (23, (.int .u8 (((mulS Q x) ^^^ q).toNat : Int)))] := (hK.hfr F3 [_, _, _, _, _, _, _, _, _, _, _, _] ⟨e0, e1, e2, e3, e4, e5, e6, e7, e8, e9, e10, e11, trivial⟩).sub ⟨rfl, rfl, rfl, rfl, rfl, rfl, rfl, rfl, rfl, trivial⟩
      have M1 := M0.grow hb2
      clear hK K0 e0 K1 e1 K2 e2 K3 e3 K4 e4 K5 e5 K6 e6 K7 e7 K8 e8 K9 e9 K10 e10 K11 e11 HKL
      simp only [List.drop_succ_cons, List.drop_zero]
      refine asS F4 rfl rfl rfl rfl rfl fun a5 F5 => ?_
      refine sqEnd ?_
      clear F3 F4 M0
      refine bkEnd ?_
      refine nx ?_
      refine wp_region_lit ?_
      refine sr F5 (run_add (r := ((i + 1 : Nat) : Int)) rfl (F5.ev 9 rfl) rfl (by rw [IntKind.wrap_i64]; omega)) rfl rfl rfl fun a6 F6 => ?_
      refine mvS F6 rfl rfl rfl rfl rfl fun a7 F7 => ?_
      refine sn ?_
      clear F5 F6
      exact ⟨_, by omega, i + 1, by omega, rfl, by rw [hst]; exact F7.sub ⟨rfl, rfl, rfl, rfl, rfl, trivial⟩, M1⟩
  · have hie : i = l.length := by omega
    have hres : evalS l x = Q := by rw [← hQ, hie]; rfl
    refine wsl ?_
    refine sr (v := (.bool false)) F0 (run_lss rfl (F0.ev 9 rfl) (F0.ev 8 rfl) (decide_eq_false (by omega))) rfl rfl rfl fun a1 F1 => ?_
    refine sn ?_
    clear F0
    refine wp_seq ?_
    refine wp_cond_false (F1.ev 10 rfl) ?_
    refine wp_exit ?_
    refine nxExit ?_
    refine nxExit ?_
    refine bkHere ?_
    refine nx ?_
    refine wsl ?_
    refine mvS F1 rfl rfl rfl rfl rfl fun a2 F2 => ?_
    refine asS F2 rfl rfl rfl rfl rfl fun a3 F3 => ?_
    refine sn ?_
    clear F1 F2
    refine wp_ret ?_
    exact ret1 F3 rfl rfl ⟨by rw [hres], M0.below⟩
end Go.Proofs.YtconhhhggckcbaaDoor
/- The walks of field.distinct and At. Printed by gen_key2.py. -/
namespace Go.Proofs.YtconhhhggckcbaaDoor
open Go.RowKit

set_option maxRecDepth 100000 in
set_option maxHeartbeats 1000000 in
theorem fdistinct_any (l : List UInt8) (v : Value) (w : World) (hV : Sl w v 1 l.length (l.map cb)) (_hl : l.length < 2 ^ 40) : Calls Tryd.prog 86 #[v] w fun e w' => e = .returned (.bool (decide l.Nodup)) ∧ Below w.heap.size w w' := by
  refine walk_enter Tryd.func86 rfl rfl rfl fun a0 F0 => ?_
  have M0 := Mem.new w
  refine wsl ?_
  refine sr (v := (.bool false)) F0 (run_as rfl rfl) rfl rfl rfl fun a1 F1 => ?_
  refine sn ?_
  clear F0
  refine wsl ?_
  refine sqNew (cs := (boolsF (fun _ => false))) (t := 144) F1 M0 (wantedS rfl) (run_alloc rfl (by kernel_rfl)) rfl (by decide) fun g0 a2 w1 hgg0 hb1 F2 M1 => ?_
  refine sn ?_
  clear F1 M0
  refine wp_seq ?_
  refine wsl ?_
  refine mvS F2 rfl rfl rfl rfl rfl fun a3 F3 => ?_
  refine sr F3 (run_lenS rfl (F3.ev 6 rfl) (hV.below M1.below) rfl Tryd.underlying52) rfl rfl rfl fun a4 F4 => ?_
  refine sr (v := (.int .i64 0)) F4 (run_mv rfl rfl) rfl rfl rfl fun a5 F5 => ?_
  refine sn ?_
  clear F2 F3 F4
  refine wp_block ?_
  refine wkLoop (fun m a0 w2 => ∃ i : Nat, i ≤ l.length ∧ m = l.length - i ∧ (l.take i).Nodup ∧ Fr a0 18 [(0, v), (3, .pointer (some ⟨g0, 0, none⟩)), (6, v), (7, .int .i64 (l.length : Int)), (8, .int .i64 (i : Int))] ∧ Mem w [(g0, isB 144 (boolsF (metF l i)))] w2) l.length ⟨0, Nat.zero_le _, rfl, by simp, F5.sub ⟨rfl, rfl, rfl, rfl, rfl, trivial⟩, M1⟩ ?_
  rintro m a0 w1 ⟨i, hi, rfl, hnd, F0, M0⟩
  by_cases h1 : i < l.length
  · obtain ⟨x, hx⟩ : ∃ x, l[i]? = some x := ⟨_, List.getElem?_eq_getElem h1⟩
    have hxl := x.toNat_lt
    cases hm : metF l i x.toNat
    · skip
      refine wsl ?_
      refine sr (v := (.bool true)) F0 (run_lss rfl (F0.ev 8 rfl) (F0.ev 7 rfl) (decide_eq_true (by omega))) rfl rfl rfl fun a1 F1 => ?_
      refine sn ?_
      clear F0
      refine wp_seq ?_
      refine cts (F1.ev 9 rfl) ?_
      refine wp_seq ?_
      refine wp_block ?_
      refine wsl ?_
      refine sr (v := (slPtr v (i * 1))) F1 (run_atP (i := i) rfl (F1.ev 6 rfl) (F1.ev 8 rfl) rfl (hV.below M0.below) (by omega) elU8.un (by kernel_rfl)) rfl rfl rfl fun a2 F2 => ?_
      refine sr (v := (.int .u8 (x.toNat : Int))) F2 (run_ldP (u := cb x) rfl (F2.ev 10 rfl) (hV.below M0.below) (map_atB hx) (by kernel_rfl)) rfl rfl rfl fun a3 F3 => ?_
      refine asS F3 rfl rfl rfl rfl rfl fun a4 F4 => ?_
      refine sn ?_
      clear F1 F2 F3
      refine wp_seq ?_
      refine wsl ?_
      refine mvS F4 rfl rfl rfl rfl rfl fun a5 F5 => ?_
      refine sr (v := (.pointer (some ⟨g0, x.toNat, none⟩))) F5 (run_idxA (i := x.toNat) (cnt := 256) rfl (F5.ev 3 rfl) (F5.ev 12 rfl) rfl (by omega) Tryd.underlying144 (by kernel_rfl)) rfl rfl rfl fun a6 F6 => ?_
      refine sr (v := (.bool false)) F6 (run_ldF rfl (F6.ev 13 rfl) (M0.at 0 rfl) (boolsF_at (by omega) hm) (by kernel_rfl)) rfl rfl rfl fun a7 F7 => ?_
      refine sn ?_
      clear F4 F5 F6
      refine cfs (F7.ev 14 rfl) ?_
      refine wp_region_lit ?_
      refine mvS F7 rfl rfl rfl rfl rfl fun a8 F8 => ?_
      refine sr (v := (.pointer (some ⟨g0, x.toNat, none⟩))) F8 (run_idxA (i := x.toNat) (cnt := 256) rfl (F8.ev 3 rfl) (F8.ev 15 rfl) rfl (by omega) Tryd.underlying144 (by kernel_rfl)) rfl rfl rfl fun a9 F9 => ?_
      refine sqSetBool (j := 0) (f := metF l i) F9 M0 rfl rfl rfl (F9.ev 16 rfl) rfl rfl (by omega) fun a10 w2 hgr2 F10 M1 => ?_
      refine sqEnd ?_
      clear F7 F8 F9 M0
      refine bkEnd ?_
      refine nx ?_
      refine wp_region_lit ?_
      refine sr F10 (run_add (r := ((i + 1 : Nat) : Int)) rfl (F10.ev 8 rfl) rfl (by rw [IntKind.wrap_i64]; omega)) rfl rfl rfl fun a11 F11 => ?_
      refine mvS F11 rfl rfl rfl rfl rfl fun a12 F12 => ?_
      refine sn ?_
      clear F10 F11
      exact ⟨_, by omega, i + 1, by omega, rfl, nodup_take_succ hx hnd hm, F12.sub ⟨rfl, rfl, rfl, rfl, rfl, trivial⟩, by rw [← metF_step hx]; exact M1⟩
    · have hres : decide l.Nodup = false := decide_eq_false (not_nodup_at hx hm)
      refine wsl ?_
      refine sr (v := (.bool true)) F0 (run_lss rfl (F0.ev 8 rfl) (F0.ev 7 rfl) (decide_eq_true (by omega))) rfl rfl rfl fun a1 F1 => ?_
      refine sn ?_
      clear F0
      refine wp_seq ?_
      refine cts (F1.ev 9 rfl) ?_
      refine wp_seq ?_
      refine wp_block ?_
      refine wsl ?_
      refine sr (v := (slPtr v (i * 1))) F1 (run_atP (i := i) rfl (F1.ev 6 rfl) (F1.ev 8 rfl) rfl (hV.below M0.below) (by omega) elU8.un (by kernel_rfl)) rfl rfl rfl fun a2 F2 => ?_
      refine sr (v := (.int .u8 (x.toNat : Int))) F2 (run_ldP (u := cb x) rfl (F2.ev 10 rfl) (hV.below M0.below) (map_atB hx) (by kernel_rfl)) rfl rfl rfl fun a3 F3 => ?_
      refine asS F3 rfl rfl rfl rfl rfl fun a4 F4 => ?_
      refine sn ?_
      clear F1 F2 F3
      refine wp_seq ?_
      refine wsl ?_
      refine mvS F4 rfl rfl rfl rfl rfl fun a5 F5 => ?_
      refine sr (v := (.pointer (some ⟨g0, x.toNat, none⟩))) F5 (run_idxA (i := x.toNat) (cnt := 256) rfl (F5.ev 3 rfl) (F5.ev 12 rfl) rfl (by omega) Tryd.underlying144 (by kernel_rfl)) rfl rfl rfl fun a6 F6 => ?_
      refine sr (v := (.bool true)) F6 (run_ldF rfl (F6.ev 13 rfl) (M0.at 0 rfl) (boolsF_at (by omega) hm) (by kernel_rfl)) rfl rfl rfl fun a7 F7 => ?_
      refine sn ?_
      clear F4 F5 F6
      refine wp_cond_true (F7.ev 14 rfl) ?_
      refine wsl ?_
      refine sr (v := (.bool false)) F7 (run_as rfl rfl) rfl rfl rfl fun a8 F8 => ?_
      refine sn ?_
      clear F7
      refine wp_ret ?_
      refine nxRet ?_
      refine bkRet ?_
      refine nxRet ?_
      refine nxRet ?_
      refine bkRet ?_
      refine nxRet ?_
      exact ret1 F8 rfl rfl ⟨by rw [hres], M0.below⟩
  · have hie : i = l.length := by omega
    have hres : decide l.Nodup = true := decide_eq_true (by rw [hie, List.take_length] at hnd; exact hnd)
    refine wsl ?_
    refine sr (v := (.bool false)) F0 (run_lss rfl (F0.ev 8 rfl) (F0.ev 7 rfl) (decide_eq_false (by omega))) rfl rfl rfl fun a1 F1 => ?_
    refine sn ?_
    clear F0
    refine wp_seq ?_
    refine wp_cond_false (F1.ev 9 rfl) ?_
    refine wp_exit ?_
    refine nxExit ?_
    refine nxExit ?_
    refine bkHere ?_
    refine nx ?_
    refine wsl ?_
    refine sr (v := (.bool true)) F1 (run_as rfl rfl) rfl rfl rfl fun a2 F2 => ?_
    refine sn ?_
    clear F1
    refine wp_ret ?_
    exact ret1 F2 rfl rfl ⟨by rw [hres], M0.below⟩
set_option maxRecDepth 100000 in
set_option maxHeartbeats 1000000 in
theorem fat_any (X Y : List UInt8) (vx vy : Value) (z : UInt8) (w : World) (hVx : Sl w vx 1 X.length (X.map cb)) (hVy : Sl w vy 1 Y.length (Y.map cb)) (hl : X.length = Y.length) (_hl : X.length < 2 ^ 40) : Calls Tryd.prog 56 #[vx, vy, .int .u8 (z.toNat : Int)] w fun e w' => e = .returned (if X.Nodup then .tuple #[.int .u8 ((atT X Y z X.length).toNat : Int), .bool true] else .tuple #[.int .u8 0, .bool false]) ∧ Below w.heap.size w w' := by
  by_cases hn : X.Nodup
  · have hnd : decide X.Nodup = true := decide_eq_true hn
    rw [if_pos hn]
    refine walk_enter Tryd.func56 rfl rfl rfl fun a0 F0 => ?_
    have M0 := Mem.new w
    refine wsl ?_
    refine sr (v := (.int .u8 0)) F0 (run_as rfl rfl) rfl rfl rfl fun a1 F1 => ?_
    refine sr (v := (.bool false)) F1 (run_as rfl rfl) rfl rfl rfl fun a2 F2 => ?_
    refine sn ?_
    clear F0 F1
    refine wp_seq ?_
    refine wsl ?_
    refine mvS F2 rfl rfl rfl rfl rfl fun a3 F3 => ?_
    refine sr F3 (run_lenS rfl (F3.ev 15 rfl) (hVx.below M0.below) rfl Tryd.underlying52) rfl rfl rfl fun a4 F4 => ?_
    refine mvS F4 rfl rfl rfl rfl rfl fun a5 F5 => ?_
    refine sr F5 (run_lenS rfl (F5.ev 17 rfl) (hVy.below M0.below) rfl Tryd.underlying52) rfl rfl rfl fun a6 F6 => ?_
    refine sr (v := (.bool false)) F6 (run_nei rfl (F6.ev 16 rfl) (F6.ev 18 rfl) (bne_eq_false_iff_eq.2 (by omega))) rfl rfl rfl fun a7 F7 => ?_
    refine mvS F7 rfl rfl rfl rfl rfl fun a8 F8 => ?_
    refine sq (v := vx) F8 (wantedG F8 rfl rfl rfl rfl rfl) (run_mv rfl (F8.ev 0 rfl)) rfl (by decide) fun a9 F9 => ?_
    refine sqC (v := (.bool true)) F9 M0 (wantedG F9 rfl rfl rfl rfl rfl) (run_call rfl Tryd.func86 (by kernel_rfl) rfl (mapE1 (F9.ev 21 rfl))) rfl (by decide) ((by have h := fdistinct_any X vx w (hVx.below M0.below) (by omega); rw [hnd] at h; exact h)) fun a10 w1 hb1 F10 M1 => ?_
    refine sq (v := (.bool false)) F10 (wantedG F10 rfl rfl rfl rfl rfl) (run_not rfl (F10.ev 22 rfl)) rfl (by decide) fun a11 F11 => ?_
    refine sr (v := (.bool false)) F11 (run_pick rfl (F11.ev 20 rfl) rfl (F11.ev 23 rfl)) rfl rfl rfl fun a12 F12 => ?_
    refine sn ?_
    clear F2 F3 F4 F5 F6 F7 F8 F9 F10 F11 M0
    refine cfs (F12.ev 24 rfl) ?_
    refine wsl ?_
    refine sr (v := (.int .u8 0)) F12 (run_as rfl rfl) rfl rfl rfl fun a13 F13 => ?_
    refine sn ?_
    clear F12
    refine wp_seq ?_
    refine wsl ?_
    refine mvS F13 rfl rfl rfl rfl rfl fun a14 F14 => ?_
    refine sr F14 (run_lenS rfl (F14.ev 25 rfl) (hVx.below M1.below) rfl Tryd.underlying52) rfl rfl rfl fun a15 F15 => ?_
    refine sr (v := (.int .i64 0)) F15 (run_mv rfl rfl) rfl rfl rfl fun a16 F16 => ?_
    refine sn ?_
    clear F13 F14 F15
    refine wp_block ?_
    refine wkLoop (fun m a0 w2 => ∃ i : Nat, i ≤ X.length ∧ m = X.length - i ∧ Fr a0 65 [(0, vx), (1, vy), (2, .int .u8 (z.toNat : Int)), (8, .int .u8 ((atT X Y z i).toNat : Int)), (25, vx), (26, .int .i64 (X.length : Int)), (27, .int .i64 (i : Int))] ∧ Mem w [] w2) X.length ⟨0, Nat.zero_le _, rfl, F16.sub ⟨rfl, rfl, rfl, rfl, rfl, rfl, rfl, trivial⟩, M1⟩ ?_
    rintro m a0 w1 ⟨i, hi, rfl, F0, M0⟩
    have hst : atT X Y z (i + 1) = atT X Y z i ^^^ mulS (aboT X z (Y.getD i 0) i X.length) (invS (belT X i X.length)) := rfl
    obtain ⟨Q, hQ⟩ : ∃ Q, atT X Y z i = Q := ⟨_, rfl⟩
    rw [hQ] at F0 hst
    by_cases h1 : i < X.length
    · obtain ⟨x, hx⟩ : ∃ x, X[i]? = some x := ⟨_, List.getElem?_eq_getElem h1⟩
      obtain ⟨y, hy⟩ : ∃ y, Y[i]? = some y := ⟨_, List.getElem?_eq_getElem (by omega)⟩
      have hyD : Y.getD i 0 = y := by rw [List.getD_eq_getElem?_getD, hy]; rfl
      rw [hyD] at hst
      refine wsl ?_
      refine sr (v := (.bool true)) F0 (run_lss rfl (F0.ev 27 rfl) (F0.ev 26 rfl) (decide_eq_true (by omega))) rfl rfl rfl fun a1 F1 => ?_
      refine sn ?_
      clear F0
      refine wp_seq ?_
      refine cts (F1.ev 28 rfl) ?_
      refine wp_seq ?_
      refine wp_block ?_
      refine wsl ?_
      refine mvS F1 rfl rfl rfl rfl rfl fun a2 F2 => ?_
      refine sr (v := (slPtr vx (i * 1))) F2 (run_atP (i := i) rfl (F2.ev 25 rfl) (F2.ev 27 rfl) rfl (hVx.below M0.below) (by omega) elU8.un (by kernel_rfl)) rfl rfl rfl fun a3 F3 => ?_
      refine sr (v := (.int .u8 (x.toNat : Int))) F3 (run_ldP (u := cb x) rfl (F3.ev 30 rfl) (hVx.below M0.below) (map_atB hx) (by kernel_rfl)) rfl rfl rfl fun a4 F4 => ?_
      refine asS F4 rfl rfl rfl rfl rfl fun a5 F5 => ?_
      refine asS F5 rfl rfl rfl rfl rfl fun a6 F6 => ?_
      refine sn ?_
      clear F1 F2 F3 F4 F5
      refine wsl ?_
      refine mvS F6 rfl rfl rfl rfl rfl fun a7 F7 => ?_
      refine mvS F7 rfl rfl rfl rfl rfl fun a8 F8 => ?_
      refine sr (v := (slPtr vy (i * 1))) F8 (run_atP (i := i) rfl (F8.ev 32 rfl) (F8.ev 33 rfl) rfl (hVy.below M0.below) (by omega) elU8.un (by kernel_rfl)) rfl rfl rfl fun a9 F9 => ?_
      refine sr (v := (.int .u8 (y.toNat : Int))) F9 (run_ldP (u := cb y) rfl (F9.ev 34 rfl) (hVy.below M0.below) (map_atB hy) (by kernel_rfl)) rfl rfl rfl fun a10 F10 => ?_
      refine asS F10 rfl rfl rfl rfl rfl fun a11 F11 => ?_
      refine sr (v := (.int .u8 1)) F11 (run_as rfl rfl) rfl rfl rfl fun a12 F12 => ?_
      refine sn ?_
      clear F6 F7 F8 F9 F10 F11
      refine wp_seq ?_
      refine wsl ?_
      refine mvS F12 rfl rfl rfl rfl rfl fun a13 F13 => ?_
      refine sr F13 (run_lenS rfl (F13.ev 36 rfl) (hVx.below M0.below) rfl Tryd.underlying52) rfl rfl rfl fun a14 F14 => ?_
      refine sr (v := (.int .i64 0)) F14 (run_mv rfl rfl) rfl rfl rfl fun a15 F15 => ?_
      refine sn ?_
      clear F12 F13 F14
      refine wp_block ?_
      refine wkLoop (fun m a0 w2 => ∃ j : Nat, j ≤ X.length ∧ m = X.length - j ∧ Fr a0 65 [(0, vx), (1, vy), (2, .int .u8 (z.toNat : Int)), (8, .int .u8 (Q.toNat : Int)), (25, vx), (26, .int .i64 (X.length : Int)), (27, .int .i64 (i : Int)), (9, .int .i64 (i : Int)), (10, .int .u8 (x.toNat : Int)), (11, .int .u8 ((aboT X z y i j).toNat : Int)), (12, .int .u8 ((belT X i j).toNat : Int)), (36, vx), (37, .int .i64 (X.length : Int)), (38, .int .i64 (j : Int))] ∧ Mem w [] w2) X.length ⟨0, Nat.zero_le _, rfl, F15.sub ⟨rfl, rfl, rfl, rfl, rfl, rfl, rfl, rfl, rfl, rfl, rfl, rfl, rfl, rfl, trivial⟩, M0⟩ ?_
      rintro m a0 w1 ⟨j, hj, rfl, F0, M0⟩
      have sa : aboT X z y i (j + 1) = if j = i then aboT X z y i j else mulS (aboT X z y i j) (z ^^^ X.getD j 0) := rfl
      have sb : belT X i (j + 1) = if j = i then belT X i j else mulS (belT X i j) (X.getD i 0 ^^^ X.getD j 0) := rfl
      obtain ⟨A, hA⟩ : ∃ A, aboT X z y i j = A := ⟨_, rfl⟩
      obtain ⟨B, hB⟩ : ∃ B, belT X i j = B := ⟨_, rfl⟩
      rw [hA, hB] at F0
      rw [hA] at sa
      rw [hB] at sb
      by_cases h2 : j < X.length
      · obtain ⟨q, hq⟩ : ∃ q, X[j]? = some q := ⟨_, List.getElem?_eq_getElem h2⟩
        have hqD : X.getD j 0 = q := by rw [List.getD_eq_getElem?_getD, hq]; rfl
        have hxD : X.getD i 0 = x := by rw [List.getD_eq_getElem?_getD, hx]; rfl
        rw [hqD] at sa sb
        rw [hxD] at sb
        by_cases h3 : j = i
        · rw [if_pos h3] at sa sb
          refine wsl ?_
          refine sr (v := (.bool true)) F0 (run_lss rfl (F0.ev 38 rfl) (F0.ev 37 rfl) (decide_eq_true (by omega))) rfl rfl rfl fun a1 F1 => ?_
          refine sn ?_
          clear F0
          refine wp_seq ?_
          refine cts (F1.ev 39 rfl) ?_
          refine wp_seq ?_
          refine wp_block ?_
          refine wsl ?_
          refine mvS F1 rfl rfl rfl rfl rfl fun a2 F2 => ?_
          refine sr (v := (slPtr vx (j * 1))) F2 (run_atP (i := j) rfl (F2.ev 36 rfl) (F2.ev 38 rfl) rfl (hVx.below M0.below) (by omega) elU8.un (by kernel_rfl)) rfl rfl rfl fun a3 F3 => ?_
          refine sr (v := (.int .u8 (q.toNat : Int))) F3 (run_ldP (u := cb q) rfl (F3.ev 41 rfl) (hVx.below M0.below) (map_atB hq) (by kernel_rfl)) rfl rfl rfl fun a4 F4 => ?_
          refine asS F4 rfl rfl rfl rfl rfl fun a5 F5 => ?_
          refine asS F5 rfl rfl rfl rfl rfl fun a6 F6 => ?_
          refine sn ?_
          clear F1 F2 F3 F4 F5
          refine wsl ?_
          refine mvS F6 rfl rfl rfl rfl rfl fun a7 F7 => ?_
          refine mvS F7 rfl rfl rfl rfl rfl fun a8 F8 => ?_
          refine sr (v := (.bool false)) F8 (run_nei rfl (F8.ev 43 rfl) (F8.ev 44 rfl) (bne_eq_false_iff_eq.2 (by omega))) rfl rfl rfl fun a9 F9 => ?_
          refine sn ?_
          clear F6 F7 F8
          refine wp_cond_false (F9.ev 45 rfl) ?_
          refine wp_skip ?_
          refine bkEnd ?_
          refine nx ?_
          refine wp_region_lit ?_
          refine sr F9 (run_add (r := ((j + 1 : Nat) : Int)) rfl (F9.ev 38 rfl) rfl (by rw [IntKind.wrap_i64]; omega)) rfl rfl rfl fun a10 F10 => ?_
          refine mvS F10 rfl rfl rfl rfl rfl fun a11 F11 => ?_
          refine sn ?_
          clear F9 F10
          exact ⟨_, by omega, j + 1, by omega, rfl, by rw [sa, sb]; exact F11.sub ⟨rfl, rfl, rfl, rfl, rfl, rfl, rfl, rfl, rfl, rfl, rfl, rfl, rfl, rfl, trivial⟩, M0⟩
        · rw [if_neg h3] at sa sb
          refine wsl ?_
          refine sr (v := (.bool true)) F0 (run_lss rfl (F0.ev 38 rfl) (F0.ev 37 rfl) (decide_eq_true (by omega))) rfl rfl rfl fun a1 F1 => ?_
          refine sn ?_
          clear F0
          refine wp_seq ?_
          refine cts (F1.ev 39 rfl) ?_
          refine wp_seq ?_
          refine wp_block ?_
          refine wsl ?_
          refine mvS F1 rfl rfl rfl rfl rfl fun a2 F2 => ?_
          refine sr (v := (slPtr vx (j * 1))) F2 (run_atP (i := j) rfl (F2.ev 36 rfl) (F2.ev 38 rfl) rfl (hVx.below M0.below) (by omega) elU8.un (by kernel_rfl)) rfl rfl rfl fun a3 F3 => ?_
          refine sr (v := (.int .u8 (q.toNat : Int))) F3 (run_ldP (u := cb q) rfl (F3.ev 41 rfl) (hVx.below M0.below) (map_atB hq) (by kernel_rfl)) rfl rfl rfl fun a4 F4 => ?_
          refine asS F4 rfl rfl rfl rfl rfl fun a5 F5 => ?_
          refine asS F5 rfl rfl rfl rfl rfl fun a6 F6 => ?_
          refine sn ?_
          clear F1 F2 F3 F4 F5
          refine wsl ?_
          refine mvS F6 rfl rfl rfl rfl rfl fun a7 F7 => ?_
          refine mvS F7 rfl rfl rfl rfl rfl fun a8 F8 => ?_
          refine sr (v := (.bool true)) F8 (run_nei rfl (F8.ev 43 rfl) (F8.ev 44 rfl) (bne_iff_ne.2 (by omega))) rfl rfl rfl fun a9 F9 => ?_
          refine sn ?_
          clear F6 F7 F8
          refine wp_cond_true (F9.ev 45 rfl) ?_
          refine wsl ?_
          refine mvS F9 rfl rfl rfl rfl rfl fun a10 F10 => ?_
          refine mvS F10 rfl rfl rfl rfl rfl fun a11 F11 => ?_
          refine mvS F11 rfl rfl rfl rfl rfl fun a12 F12 => ?_
          refine sr (v := (.int .u8 ((z ^^^ q).toNat : Int))) F12 (run_xor8 rfl (F12.ev 47 rfl) (F12.ev 48 rfl)) rfl rfl rfl fun a13 F13 => ?_
          refine sqC (v := (.int .u8 ((mulS A (z ^^^ q)).toNat : Int))) F13 M0 (wantedS rfl) (run_call rfl Tryd.func87 (by kernel_rfl) rfl (mapE2 (F13.ev 46 rfl) (F13.ev 49 rfl))) rfl (by decide) (fmul_any A (z ^^^ q) w1) fun a14 w2 hb2 F14 M1 => ?_
          refine asS F14 rfl rfl rfl rfl rfl fun a15 F15 => ?_
          refine sn ?_
          clear F9 F10 F11 F12 F13 F14 M0
          refine wp_region_lit ?_
          refine mvS F15 rfl rfl rfl rfl rfl fun a16 F16 => ?_
          refine mvS F16 rfl rfl rfl rfl rfl fun a17 F17 => ?_
          refine mvS F17 rfl rfl rfl rfl rfl fun a18 F18 => ?_
          refine sr (v := (.int .u8 ((x ^^^ q).toNat : Int))) F18 (run_xor8 rfl (F18.ev 52 rfl) (F18.ev 53 rfl)) rfl rfl rfl fun a19 F19 => ?_
          refine sqC (v := (.int .u8 ((mulS B (x ^^^ q)).toNat : Int))) F19 M1 (wantedS rfl) (run_call rfl Tryd.func87 (by kernel_rfl) rfl (mapE2 (F19.ev 51 rfl) (F19.ev 54 rfl))) rfl (by decide) (fmul_any B (x ^^^ q) w2) fun a20 w3 hb3 F20 M2 => ?_
          refine asS F20 rfl rfl rfl rfl rfl fun a21 F21 => ?_
          refine sqEnd ?_
          clear F15 F16 F17 F18 F19 F20 M1
          refine bkEnd ?_
          refine nx ?_
          refine wp_region_lit ?_
          refine sr F21 (run_add (r := ((j + 1 : Nat) : Int)) rfl (F21.ev 38 rfl) rfl (by rw [IntKind.wrap_i64]; omega)) rfl rfl rfl fun a22 F22 => ?_
          refine mvS F22 rfl rfl rfl rfl rfl fun a23 F23 => ?_
          refine sn ?_
          clear F21 F22
          exact ⟨_, by omega, j + 1, by omega, rfl, by rw [sa, sb]; exact F23.sub ⟨rfl, rfl, rfl, rfl, rfl, rfl, rfl, rfl, rfl, rfl, rfl, rfl, rfl, rfl, trivial⟩, M2⟩
      · have hje : j = X.length := by omega
        have hAA : aboT X z y i X.length = A := by rw [← hA, hje]
        have hBB : belT X i X.length = B := by rw [← hB, hje]
        rw [hAA, hBB] at hst
        refine wsl ?_
        refine sr (v := (.bool false)) F0 (run_lss rfl (F0.ev 38 rfl) (F0.ev 37 rfl) (decide_eq_false (by omega))) rfl rfl rfl fun a1 F1 => ?_
        refine sn ?_
        clear F0
        refine wp_seq ?_
        refine wp_cond_false (F1.ev 39 rfl) ?_
        refine wp_exit ?_
        refine nxExit ?_
        refine nxExit ?_
        refine bkHere ?_
        refine nx ?_
        refine wp_region_lit ?_
        refine mvS F1 rfl rfl rfl rfl rfl fun a2 F2 => ?_
        refine mvS F2 rfl rfl rfl rfl rfl fun a3 F3 => ?_
        refine mvS F3 rfl rfl rfl rfl rfl fun a4 F4 => ?_
        refine sqC (v := (.int .u8 ((invS B).toNat : Int))) F4 M0 (wantedS rfl) (run_call rfl Tryd.func88 (by kernel_rfl) rfl (mapE1 (F4.ev 59 rfl))) rfl (by decide) (finv_any B w1) fun a5 w2 hb2 F5 M1 => ?_
        refine sqC (v := (.int .u8 ((mulS A (invS B)).toNat : Int))) F5 M1 (wantedS rfl) (run_call rfl Tryd.func87 (by kernel_rfl) rfl (mapE2 (F5.ev 58 rfl) (F5.ev 60 rfl))) rfl (by decide) (fmul_any A (invS B) w2) fun a6 w3 hb3 F6 M2 => ?_
        refine sr (v := (.int .u8 ((Q ^^^ (mulS A (invS B))).toNat : Int))) F6 (run_xor8 rfl (F6.ev 57 rfl) (F6.ev 61 rfl)) rfl rfl rfl fun a7 F7 => ?_
        refine asS F7 rfl rfl rfl rfl rfl fun a8 F8 => ?_
        refine sqEnd ?_
        clear F1 F2 F3 F4 F5 F6 F7 M0 M1
        refine bkEnd ?_
        refine nx ?_
        refine wp_region_lit ?_
        refine sr F8 (run_add (r := ((i + 1 : Nat) : Int)) rfl (F8.ev 27 rfl) rfl (by rw [IntKind.wrap_i64]; omega)) rfl rfl rfl fun a9 F9 => ?_
        refine mvS F9 rfl rfl rfl rfl rfl fun a10 F10 => ?_
        refine sn ?_
        clear F8 F9
        exact ⟨_, by omega, i + 1, by omega, rfl, by rw [hst]; exact F10.sub ⟨rfl, rfl, rfl, rfl, rfl, rfl, rfl, trivial⟩, M2⟩
    · have hie : i = X.length := by omega
      have hres : atT X Y z X.length = Q := by rw [← hQ, hie]
      refine wsl ?_
      refine sr (v := (.bool false)) F0 (run_lss rfl (F0.ev 27 rfl) (F0.ev 26 rfl) (decide_eq_false (by omega))) rfl rfl rfl fun a1 F1 => ?_
      refine sn ?_
      clear F0
      refine wp_seq ?_
      refine wp_cond_false (F1.ev 28 rfl) ?_
      refine wp_exit ?_
      refine nxExit ?_
      refine nxExit ?_
      refine bkHere ?_
      refine nx ?_
      refine wsl ?_
      refine mvS F1 rfl rfl rfl rfl rfl fun a2 F2 => ?_
      refine asS F2 rfl rfl rfl rfl rfl fun a3 F3 => ?_
      refine sr (v := (.bool true)) F3 (run_as rfl rfl) rfl rfl rfl fun a4 F4 => ?_
      refine sn ?_
      clear F1 F2 F3
      refine wp_ret ?_
      exact ret2 F4 rfl rfl rfl ⟨by rw [hres], M0.below⟩
  · have hnd : decide X.Nodup = false := decide_eq_false hn
    rw [if_neg hn]
    refine walk_enter Tryd.func56 rfl rfl rfl fun a0 F0 => ?_
    have M0 := Mem.new w
    refine wsl ?_
    refine sr (v := (.int .u8 0)) F0 (run_as rfl rfl) rfl rfl rfl fun a1 F1 => ?_
    refine sr (v := (.bool false)) F1 (run_as rfl rfl) rfl rfl rfl fun a2 F2 => ?_
    refine sn ?_
    clear F0 F1
    refine wp_seq ?_
    refine wsl ?_
    refine mvS F2 rfl rfl rfl rfl rfl fun a3 F3 => ?_
    refine sr F3 (run_lenS rfl (F3.ev 15 rfl) (hVx.below M0.below) rfl Tryd.underlying52) rfl rfl rfl fun a4 F4 => ?_
    refine mvS F4 rfl rfl rfl rfl rfl fun a5 F5 => ?_
    refine sr F5 (run_lenS rfl (F5.ev 17 rfl) (hVy.below M0.below) rfl Tryd.underlying52) rfl rfl rfl fun a6 F6 => ?_
    refine sr (v := (.bool false)) F6 (run_nei rfl (F6.ev 16 rfl) (F6.ev 18 rfl) (bne_eq_false_iff_eq.2 (by omega))) rfl rfl rfl fun a7 F7 => ?_
    refine mvS F7 rfl rfl rfl rfl rfl fun a8 F8 => ?_
    refine sq (v := vx) F8 (wantedG F8 rfl rfl rfl rfl rfl) (run_mv rfl (F8.ev 0 rfl)) rfl (by decide) fun a9 F9 => ?_
    refine sqC (v := (.bool false)) F9 M0 (wantedG F9 rfl rfl rfl rfl rfl) (run_call rfl Tryd.func86 (by kernel_rfl) rfl (mapE1 (F9.ev 21 rfl))) rfl (by decide) ((by have h := fdistinct_any X vx w (hVx.below M0.below) (by omega); rw [hnd] at h; exact h)) fun a10 w1 hb1 F10 M1 => ?_
    refine sq (v := (.bool true)) F10 (wantedG F10 rfl rfl rfl rfl rfl) (run_not rfl (F10.ev 22 rfl)) rfl (by decide) fun a11 F11 => ?_
    refine sr (v := (.bool true)) F11 (run_pick rfl (F11.ev 20 rfl) rfl (F11.ev 23 rfl)) rfl rfl rfl fun a12 F12 => ?_
    refine sn ?_
    clear F2 F3 F4 F5 F6 F7 F8 F9 F10 F11 M0
    refine wp_cond_true (F12.ev 24 rfl) ?_
    refine wsl ?_
    refine sr (v := (.int .u8 0)) F12 (run_as rfl rfl) rfl rfl rfl fun a13 F13 => ?_
    refine sr (v := (.bool false)) F13 (run_as rfl rfl) rfl rfl rfl fun a14 F14 => ?_
    refine sn ?_
    clear F12 F13
    refine wp_ret ?_
    refine nxRet ?_
    exact ret2 F14 rfl rfl rfl ⟨rfl, M1.below⟩
end Go.Proofs.YtconhhhggckcbaaDoor
