/- Laws and walks that many claims share: SesW, Ses1, Put2. -/
import Derived.Test.YtdjjiblijbjobaaDoorOpsB
import Derived.Test.YtdjjiblijbjobaaDoorChkPB
/- Operations that the walks of package session need: bytes of an array in its block, fields of a boxed end. -/
namespace Go.Proofs.YtdjjiblijbjobaaDoor
open Go.RowKit
variable {D : List Deferred}

section
variable {a : Act} {o : Oper} {w w0 : World} {n s : Nat} {L : List (Nat × Value)} {v : Value} {ops : Array Oper} {rest : List Oper} {Q : Exit → Act → World → Prop} {M : List (Nat × (Obj → Prop))} {x y z : Operand} {g m i : Nat}
theorem run_idxA {k : IntKind} {p : Int} {t e : TypeId} {cnt : Nat} (ho : o.op = .indexAddr t x y) (hx : a.eval x = .pointer (some ⟨g, 0, none⟩)) (hy : a.eval y = .int k p) (hp : p = (i : Int)) (hi : i < cnt) (hu : Tryd.prog.underlying t = some (.array cnt e)) (hz : (sizeOf e).run Tryd.prog w = .ok 1 w) : (execOp a.eval o).run Tryd.prog w = .ok (.value (.pointer (some ⟨g, i, none⟩))) w := by
  subst hp
  obtain ⟨h1, h2⟩ := arrLen_of hu
  have ht : Tryd.prog.underlying t = some (.array (Tryd.prog.arrayLen t) (Tryd.prog.elem t)) := by rw [h1, h2]; exact hu
  have hz' : (sizeOf (Tryd.prog.elem t)).run Tryd.prog w = .ok 1 w := by rw [h2]; exact hz
  have hr := run_indexAt_array (P := Tryd.prog) w t ⟨g, 0, none⟩ k (i : Int) ht
  unfold execOp
  simp only [ho, hx, hy]
  rw [Sem.run_bind, hr]
  simp [hz', h1, hi, Addr.add]
  intro h; exact h.symm
theorem run_slA2 {ty : TypeId} {k : IntKind} {p : Int} {c : Value} (ho : o.op = .slice ty x none (some y) none) (hx : a.eval x = .pointer (some ⟨g, 0, none⟩)) (hy : a.eval y = .int k p) (hr : (Instr.sliceAt ty (.pointer (some ⟨g, 0, none⟩)) none (some (.int k p)) none).run Tryd.prog w = .ok c w) : (execOp a.eval o).run Tryd.prog w = .ok (.value c) w := by
  unfold execOp
  simp only [ho, hx, hy, Option.map, Sem.run_bind, hr, Result.andThen_ok, Sem.run_pure]
theorem sqSetA {j : Nat} {l : List UInt8} {b : UInt8} {t : TypeId} (hF : FrD D a n L) (hM : Mem w0 M w) (hgd : o.guard = none) (ho : o.op = .store 5 x y) (hd : o.dst = none) (hx : a.eval x = .pointer (some ⟨g, i, none⟩)) (hy : a.eval y = .int .u8 (b.toNat : Int))
    (e : M[j]? = some (g, isB t (cells8 l))) (hi : i < l.length) (h : ∀ a2 w2, FrD D a2 n L → Mem w0 (M.set j (g, isB t (cells8 (l.set i b)))) w2 → wpList Tryd.prog ops Q rest a2 w2) : wpList Tryd.prog ops Q (o :: rest) a w := by
  have hB := hM.at j e
  have hc : w.cell? ⟨g, i, none⟩ = some (cb l[i]) := by
    rw [hB.cell]
    simp [cells8, hi]
  have hf := hB.frozen i
  refine sqN hF (wantedS hgd) (w2 := w.setCell ⟨g, i, none⟩ (.int .u8 (b.toNat : Int))) ?_ hd fun a2 hF2 => h a2 _ hF2 (hM.upd j e (grown_setCell w g i _) ⟨_, ?_, rfl⟩)
  · unfold execOp
    simp only [ho, hx, hy]
    simp [go_sem, hc, hf]
  · unfold Blk at hB
    simp [World.setCell, Array.getElem?_modify, hB, cells8, List.map_set, cb]
end
end Go.Proofs.YtdjjiblijbjobaaDoor
/- The walks of num.Put, num.Get and of the reference's. Printed by gen_ses1.py. -/
namespace Go.Proofs.YtdjjiblijbjobaaDoor
open Go.RowKit

theorem put_step (n i : Nat) (h : i < 8) (l : List UInt8) (hl : (putS n).take i ++ List.replicate (8 - i) 0 = l) : (putS n).take (i + 1) ++ List.replicate (8 - (i + 1)) 0 = l.set i (UInt8.ofNat (n / 256 ^ i)) := by
  have hp := putS_len n
  have e0 : List.replicate (8 - i) (0 : UInt8) = 0 :: List.replicate (8 - (i + 1)) 0 := by rw [show 8 - i = 8 - (i + 1) + 1 by omega]; rfl
  have ht : ((putS n).take i).length = i := by rw [List.length_take]; omega
  have hg : (putS n)[i]'(by omega) = UInt8.ofNat (n / 256 ^ i) := by
    have := putS_get n i h
    rwa [List.getD_eq_getElem?_getD, List.getElem?_eq_getElem (by omega), Option.getD_some] at this
  rw [← hl, e0, List.set_append_right _ _ (by omega), ht, Nat.sub_self, List.set_cons_zero, List.take_succ_eq_append_getElem (by omega), hg, List.append_assoc]
  rfl
theorem pow8 (i : Nat) : (2 : Int) ^ (8 * (i : Int)).toNat = ((256 ^ i : Nat) : Int) := by
  have e : (8 * (i : Int)).toNat = 8 * i := by omega
  rw [e, Int.natCast_pow, show ((256 : Nat) : Int) = 2 ^ 8 from rfl, ← Int.pow_mul]
theorem u64_or2 (a b : Nat) (ha : a < 2 ^ 64) (hb : b < 2 ^ 64) : bits .or .u64 (a : Int) (b : Int) = ((a ||| b : Nat) : Int) := by
  have hx : a ||| b < 2 ^ 64 := Nat.or_lt_two_pow ha hb
  show IntKind.u64.wrap ((BitVec.ofInt 64 (a : Int) ||| BitVec.ofInt 64 (b : Int)).toNat : Int) = _
  have e : ∀ c : Nat, c < 2 ^ 64 → (BitVec.ofInt 64 (c : Int)).toNat = c := by
    intro c hc
    rw [BitVec.toNat_ofInt]
    omega
  rw [BitVec.toNat_or, e a ha, e b hb, IntKind.wrap_u64]
  omega
theorem pow256 (i : Nat) (h : i < 8) : (256 : Nat) ^ i ≤ 256 ^ 7 := Nat.pow_le_pow_right (by decide) (by omega)
theorem or_get (a m i : Nat) (ha : a < 256 ^ i) (hm : m < 256) (hi : i < 8) : bits .or .u64 (a : Int) ((m * 256 ^ i : Nat) : Int) = ((a + m * 256 ^ i : Nat) : Int) := by
  have hp := pow256 i hi
  have h7 : (256 : Nat) ^ 7 * 256 = 2 ^ 64 := by decide
  have hm2 : m * 256 ^ i ≤ 255 * 256 ^ 7 := Nat.mul_le_mul (by omega) hp
  rw [u64_or2 a _ (by omega) (by omega)]
  congr 1
  have e : (256 : Nat) ^ i = 2 ^ (8 * i) := by rw [Nat.pow_mul]
  have h3 := Nat.shiftLeft_add_eq_or_of_lt (i := 8 * i) (b := a) (by rw [← e]; exact ha) m
  rw [Nat.shiftLeft_eq, ← e] at h3
  rw [Nat.or_comm, ← h3, Nat.add_comm]
set_option maxRecDepth 100000 in
set_option maxHeartbeats 1000000 in
theorem nget_any (s : List UInt8) (w : World) : Calls Tryd.prog 48 #[.string ⟨s.toArray⟩] w fun e w' => e = .returned (.int .u64 (getS s : Int)) ∧ Below w.heap.size w w' := by
  obtain ⟨k, hk⟩ : ∃ k, k = min s.length 8 := ⟨_, rfl⟩
  refine walk_enter Tryd.func48 rfl rfl rfl fun a0 F0 => ?_
  have M0 := Mem.new w
  refine wsl ?_
  refine sr (v := (.int .u64 0)) F0 (run_as rfl rfl) rfl rfl rfl fun a1 F1 => ?_
  refine sn ?_
  clear F0
  refine wsl ?_
  refine sr (v := (.int .u64 0)) F1 (run_as rfl rfl) rfl rfl rfl fun a2 F2 => ?_
  refine sn ?_
  clear F1
  refine wp_seq ?_
  refine wsl ?_
  refine mvS F2 rfl rfl rfl rfl rfl fun a3 F3 => ?_
  refine sr F3 (run_len rfl (F3.ev 5 rfl) rfl Tryd.underlying9) rfl rfl rfl fun a4 F4 => ?_
  refine sr (v := (.int .i64 (k : Int))) F4 (run_min2 (r := (k : Int)) rfl (F4.ev 6 rfl) rfl (by split <;> omega)) rfl rfl rfl fun a5 F5 => ?_
  refine sr (v := (.int .i64 0)) F5 (run_mv rfl rfl) rfl rfl rfl fun a6 F6 => ?_
  refine sn ?_
  clear F2 F3 F4 F5
  refine wp_block ?_
  refine wkLoop (fun m a w2 => ∃ i : Nat, i ≤ k ∧ m = k - i ∧ Fr a 22 [(0, .string ⟨s.toArray⟩), (3, .int .u64 (getTo s i : Int)), (7, .int .i64 (k : Int)), (8, .int .i64 (i : Int))] ∧ Mem w [] w2) k ⟨0, Nat.zero_le _, rfl, F6.sub ⟨rfl, rfl, rfl, rfl, trivial⟩, M0⟩ ?_
  rintro m a0 w1 ⟨i, hi, rfl, F0, M0⟩
  by_cases h1 : i < k
  · have hb := (bt s i).toNat_lt
    have hg := getTo_lt s i
    have hp := pow256 i (by omega)
    have h7 : (256 : Nat) ^ 7 * 256 = 2 ^ 64 := by decide
    have hm2 : (bt s i).toNat * 256 ^ i ≤ 255 * 256 ^ 7 := Nat.mul_le_mul (by omega) hp
    have hst : getTo s (i + 1) = getTo s i + (bt s i).toNat * 256 ^ i := rfl
    refine wsl ?_
    refine sr (v := (.bool true)) F0 (run_lss rfl (F0.ev 8 rfl) (F0.ev 7 rfl) (decide_eq_true (by omega))) rfl rfl rfl fun a1 F1 => ?_
    refine sn ?_
    clear F0
    refine wp_seq ?_
    refine cts (F1.ev 9 rfl) ?_
    refine wp_seq ?_
    refine wp_block ?_
    refine wsl ?_
    refine mvS F1 rfl rfl rfl rfl rfl fun a2 F2 => ?_
    refine asS F2 rfl rfl rfl rfl rfl fun a3 F3 => ?_
    refine sn ?_
    clear F1 F2
    refine wp_region_lit ?_
    refine mvS F3 rfl rfl rfl rfl rfl fun a4 F4 => ?_
    refine mvS F4 rfl rfl rfl rfl rfl fun a5 F5 => ?_
    refine mvS F5 rfl rfl rfl rfl rfl fun a6 F6 => ?_
    refine sr (v := (.int .u8 ((bt s i).toNat : Int))) F6 (run_sAt (n := i) rfl (F6.ev 12 rfl) (F6.ev 13 rfl) Tryd.underlying9 rfl (by omega)) rfl rfl rfl fun a7 F7 => ?_
    refine sr F7 (run_cvI (r := ((bt s i).toNat : Int)) rfl (F7.ev 14 rfl) Tryd.underlying5 Tryd.underlying74 (by rw [IntKind.wrap_u64]; omega)) rfl rfl rfl fun a8 F8 => ?_
    refine mvS F8 rfl rfl rfl rfl rfl fun a9 F9 => ?_
    refine sr (v := (.int .i64 (8 * (i : Int)))) F9 (run_mul (r := 8 * (i : Int)) rfl rfl (F9.ev 16 rfl) (by rw [IntKind.wrap_i64]; omega)) rfl rfl rfl fun a10 F10 => ?_
    refine sr (v := (.int .u64 (((bt s i).toNat * 256 ^ i : Nat) : Int))) F10 (run_shl (r := (((bt s i).toNat * 256 ^ i : Nat) : Int)) rfl (F10.ev 15 rfl) (F10.ev 17 rfl) (by omega) (by first | decide | (simp [IntKind.bits]; omega)) (by rw [pow8, ← Int.natCast_mul, IntKind.wrap_u64]; omega)) rfl rfl rfl fun a11 F11 => ?_
    refine sr (v := (.int .u64 (getTo s (i + 1) : Int))) F11 (run_or (r := (getTo s (i + 1) : Int)) rfl (F11.ev 11 rfl) (F11.ev 18 rfl) (by rw [hst]; exact or_get _ _ i hg hb (by omega))) rfl rfl rfl fun a12 F12 => ?_
    refine asS F12 rfl rfl rfl rfl rfl fun a13 F13 => ?_
    refine sqEnd ?_
    clear F3 F4 F5 F6 F7 F8 F9 F10 F11 F12
    refine bkEnd ?_
    refine nx ?_
    refine wp_region_lit ?_
    refine sr F13 (run_add (r := ((i + 1 : Nat) : Int)) rfl (F13.ev 8 rfl) rfl (by rw [IntKind.wrap_i64]; omega)) rfl rfl rfl fun a14 F14 => ?_
    refine mvS F14 rfl rfl rfl rfl rfl fun a15 F15 => ?_
    refine sn ?_
    clear F13 F14
    exact ⟨_, by omega, i + 1, by omega, rfl, F15.sub ⟨rfl, rfl, rfl, rfl, trivial⟩, M0⟩
  · have hie : i = k := by omega
    have hres : getS s = getTo s i := by unfold getS; rw [hie, hk]
    refine wsl ?_
    refine sr (v := (.bool false)) F0 (run_lss rfl (F0.ev 8 rfl) (F0.ev 7 rfl) (decide_eq_false (by omega))) rfl rfl rfl fun a1 F1 => ?_
    refine sn ?_
    clear F0
    refine wp_seq ?_
    refine wp_cond_false (F1.ev 9 rfl) ?_
    refine wp_exit ?_
    refine nxExit ?_
    refine nxExit ?_
    refine bkHere ?_
    refine nx ?_
    refine wsl ?_
    refine mvS F1 rfl rfl rfl rfl rfl fun a2 F2 => ?_
    refine asS F2 rfl rfl rfl rfl rfl fun a3 F3 => ?_
    refine sn ?_
    clear F1 F2
    refine wp_ret ?_
    exact ret1 F3 rfl rfl ⟨by rw [hres], M0.below⟩
end Go.Proofs.YtdjjiblijbjobaaDoor
/- The walks of num.Put (two bytes), num.Get and of the reference's. Printed by gen_chk4.py. -/
namespace Go.Proofs.YtdjjiblijbjobaaDoor
open Go.RowKit

theorem run_strTake {w : World} {g cap j : Nat} {t : TypeId} {l : List UInt8} (hj : j ≤ l.length) (hB : Blk w g t (cells8 l)) :
    (convert 48 9 (.slice (some ⟨g, 0, none⟩) j cap)).run Tryd.prog w = .ok (.string ⟨(l.take j).toArray⟩) w := by
  have hl : (l.take j).length = j := by rw [List.length_take]; omega
  refine run_strOf hl fun q hq => ?_
  rw [hl] at hq
  rw [Nat.zero_add, hB.cell, cells8_get l q (by omega)]
  simp [bt, hq]
set_option maxRecDepth 100000 in
set_option maxHeartbeats 1000000 in
theorem nput2_any (n : Nat) (w : World) : Calls Tryd.prog 42 #[.int .u64 (n : Int), .int .i64 2] w fun e w' => e = .returned (.string ⟨(put2 n).toArray⟩) ∧ Below w.heap.size w w' := by
  refine walk_enter Tryd.func42 rfl rfl rfl fun a0 F0 => ?_
  have M0 := Mem.new w
  refine wsl ?_
  refine sr (v := (.string ⟨List.toArray []⟩)) F0 (run_as rfl rfl) rfl rfl rfl fun a1 F1 => ?_
  refine sn ?_
  clear F0
  refine wsl ?_
  refine mvS F1 rfl rfl rfl rfl rfl fun a2 F2 => ?_
  refine sr (v := (.int .i64 2)) F2 (run_max2 (r := 2) rfl (F2.ev 7 rfl) rfl (by decide)) rfl rfl rfl fun a3 F3 => ?_
  refine sr (v := (.int .i64 2)) F3 (run_min2 (r := 2) rfl (F3.ev 8 rfl) rfl (by decide)) rfl rfl rfl fun a4 F4 => ?_
  refine asS F4 rfl rfl rfl rfl rfl fun a5 F5 => ?_
  refine sn ?_
  clear F1 F2 F3 F4
  refine wsl ?_
  refine sqNew (cs := (cells8 (List.replicate 8 0))) (t := 113) F5 M0 (wantedS rfl) (run_alloc rfl (by kernel_rfl)) rfl (by decide) fun g0 a6 w1 hgg0 hb1 F6 M1 => ?_
  refine sn ?_
  clear F5 M0
  refine wp_seq ?_
  refine wsl ?_
  refine mvS F6 rfl rfl rfl rfl rfl fun a7 F7 => ?_
  refine sr (v := (.int .i64 0)) F7 (run_mv rfl rfl) rfl rfl rfl fun a8 F8 => ?_
  refine sn ?_
  clear F6 F7
  refine wp_block ?_
  refine wkLoop (fun m a w2 => ∃ i : Nat, i ≤ 2 ∧ m = 2 - i ∧ Fr a 25 [(0, .int .u64 (n : Int)), (1, .int .i64 2), (5, .pointer (some ⟨g0, 0, none⟩)), (10, .int .i64 2), (11, .int .i64 (i : Int))] ∧ Mem w [(g0, isB 113 (cells8 ((putS n).take i ++ List.replicate (8 - i) 0)))] w2) 2 ⟨0, Nat.zero_le _, rfl, F8.sub ⟨rfl, rfl, rfl, rfl, rfl, trivial⟩, M1⟩ ?_
  rintro m a0 w1 ⟨i, hi, rfl, F0, M0⟩
  obtain ⟨l, hl⟩ : ∃ l, ((putS n).take i ++ List.replicate (8 - i) 0) = l := ⟨_, rfl⟩
  have hll : l.length = 8 := by rw [← hl, List.length_append, List.length_take, List.length_replicate, putS_len]; omega
  rw [hl] at M0
  by_cases h1 : i < 2
  · have hst := put_step n i (by omega) l hl
    have hub : (UInt8.ofNat (n / 256 ^ i)).toNat = n / 256 ^ i % 256 := by rw [UInt8.toNat_ofNat']
    refine wsl ?_
    refine sr (v := (.bool true)) F0 (run_lss rfl (F0.ev 11 rfl) (F0.ev 10 rfl) (decide_eq_true (by omega))) rfl rfl rfl fun a1 F1 => ?_
    refine sn ?_
    clear F0
    refine wp_seq ?_
    refine cts (F1.ev 12 rfl) ?_
    refine wp_seq ?_
    refine wp_block ?_
    refine wsl ?_
    refine mvS F1 rfl rfl rfl rfl rfl fun a2 F2 => ?_
    refine asS F2 rfl rfl rfl rfl rfl fun a3 F3 => ?_
    refine sn ?_
    clear F1 F2
    refine wp_region_lit ?_
    refine mvS F3 rfl rfl rfl rfl rfl fun a4 F4 => ?_
    refine mvS F4 rfl rfl rfl rfl rfl fun a5 F5 => ?_
    refine mvS F5 rfl rfl rfl rfl rfl fun a6 F6 => ?_
    refine sr (v := (.int .i64 (8 * (i : Int)))) F6 (run_mul (r := 8 * (i : Int)) rfl rfl (F6.ev 16 rfl) (by rw [IntKind.wrap_i64]; omega)) rfl rfl rfl fun a7 F7 => ?_
    refine sr (v := (.int .u64 ((n / 256 ^ i : Nat) : Int))) F7 (run_shr (r := ((n / 256 ^ i : Nat) : Int)) rfl (F7.ev 15 rfl) (F7.ev 17 rfl) (by omega) (by first | decide | (simp [IntKind.bits]; omega)) (by rw [pow8]; exact (Int.natCast_ediv _ _).symm)) rfl rfl rfl fun a8 F8 => ?_
    refine sr F8 (run_cvI (r := ((UInt8.ofNat (n / 256 ^ i)).toNat : Int)) rfl (F8.ev 18 rfl) Tryd.underlying74 Tryd.underlying5 (by rw [hub, IntKind.wrap_u8]; omega)) rfl rfl rfl fun a9 F9 => ?_
    refine sr (v := (.pointer (some ⟨g0, i, none⟩))) F9 (run_idxA (i := i) (cnt := 8) rfl (F9.ev 5 rfl) (F9.ev 14 rfl) rfl (by omega) Tryd.underlying113 (by kernel_rfl)) rfl rfl rfl fun a10 F10 => ?_
    refine sqSetA (j := 0) (l := l) F10 M0 rfl rfl rfl (F10.ev 20 rfl) (F10.ev 19 rfl) rfl (by omega) fun a11 w2 F11 M1 => ?_
    refine sqEnd ?_
    clear F3 F4 F5 F6 F7 F8 F9 F10 M0
    refine bkEnd ?_
    refine nx ?_
    refine wp_region_lit ?_
    refine sr F11 (run_add (r := ((i + 1 : Nat) : Int)) rfl (F11.ev 11 rfl) rfl (by rw [IntKind.wrap_i64]; omega)) rfl rfl rfl fun a12 F12 => ?_
    refine mvS F12 rfl rfl rfl rfl rfl fun a13 F13 => ?_
    refine sn ?_
    clear F11 F12
    exact ⟨_, by omega, i + 1, by omega, rfl, F13.sub ⟨rfl, rfl, rfl, rfl, rfl, trivial⟩, by rw [hst]; exact M1⟩
  · have hie : i = 2 := by omega
    have hfin : l.take 2 = put2 n := by rw [← hl, hie, List.take_append_of_le_length (by rw [List.length_take, putS_len]; decide), List.take_take]; rfl
    refine wsl ?_
    refine sr (v := (.bool false)) F0 (run_lss rfl (F0.ev 11 rfl) (F0.ev 10 rfl) (decide_eq_false (by omega))) rfl rfl rfl fun a1 F1 => ?_
    refine sn ?_
    clear F0
    refine wp_seq ?_
    refine wp_cond_false (F1.ev 12 rfl) ?_
    refine wp_exit ?_
    refine nxExit ?_
    refine nxExit ?_
    refine bkHere ?_
    refine nx ?_
    refine wsl ?_
    refine mvS F1 rfl rfl rfl rfl rfl fun a2 F2 => ?_
    refine sr (v := (.slice (some ⟨g0, 0, none⟩) 2 8)) F2 (run_slA2 rfl (F2.ev 5 rfl) (F2.ev 22 rfl) (run_sliceArr_h (P := Tryd.prog) Tryd.underlying113 (fun _ => by kernel_rfl) g0 0 2 (by decide) (by decide) (by decide) _)) rfl rfl rfl fun a3 F3 => ?_
    refine sr (v := (.string ⟨(l.take 2).toArray⟩)) F3 (run_cv rfl (F3.ev 23 rfl) (run_strTake (j := 2) (by omega) (M0.at 0 rfl))) rfl rfl rfl fun a4 F4 => ?_
    refine asS F4 rfl rfl rfl rfl rfl fun a5 F5 => ?_
    refine sn ?_
    clear F1 F2 F3 F4
    refine wp_ret ?_
    exact ret1 F5 rfl rfl ⟨by rw [← hfin], M0.below⟩
/-- the number of the bytes from i on. -/
def getFrom (s : List UInt8) (i : Nat) : Nat := if i < min s.length 8 then getFrom s (i + 1) * 256 + (s.getD i 0).toNat else 0
termination_by s.length - i
end Go.Proofs.YtdjjiblijbjobaaDoor
