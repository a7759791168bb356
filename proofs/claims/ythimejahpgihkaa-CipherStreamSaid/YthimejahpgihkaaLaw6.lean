/- The walk of the law CipherStream: it answers true, whatever comes in, and leaves old memory as it was. Printed by gen_law6.py. -/
import Derived.Test.YthimejahpgihkaaLaw4
import Derived.Test.YthimejahpgihkaaHeld
import Derived.Laws.MakeOwn
namespace Go.Proofs.Ythimejahpgihkaa
open Go.RowKit

section
variable {P : Program} {S : World → Prop}
theorem take_loadM {o : Oper} {a : Act} (ty : TypeId) (x : Operand) (ho : o.op = .load ty x) (b off : Nat) (hx : a.eval x = .pointer (some ⟨b, off, none⟩)) (l : List UInt8)
    (hc : ∀ w, S w → w.rangeAt b off (l.map cb)) {d : TypeDesc} (hu : P.underlying ty = some d) (hd : d.isRow = true) {m : Nat} (hi : (P.info? ty).map (·.size) = some m) (hm : l.length = m) :
    ∀ w, S w → (execOp a.eval o).run P w = .ok (.value (.agg (cells8 l))) w := by
  intro w hS
  unfold execOp
  simp only [ho, hx, Instr.loadAt, Instr.sureAddr, Sem.run_bind, Sem.run_pure, Result.andThen_ok, run_loadVar_mid w b off ty (l.map cb) d (hc w hS) hu hd (by rw [List.length_map, hm]; exact hi)]
  rfl
/-- a text's middle. -/
theorem gives_mid {o : Oper} {a : Act} (t : TypeId) (x lo hi : Operand) (ho : o.op = .slice t x (some lo) (some hi) none) (hu : P.underlying t = some .string) (l : List UInt8) (p q : Nat) (zp zq : Int) (hx : a.eval x = .string ⟨l.toArray⟩) (hl : a.eval lo = .int .i64 zp) (hh : a.eval hi = .int .i64 zq)
    (hp : zp = p) (hq : zq = q) (hpq : p ≤ q) (hm : q ≤ l.length) : ∀ w, S w → GivesRes P S (.string ⟨((l.drop p).take (q - p)).toArray⟩) ((execOp a.eval o).run P w) := by
  intro w hS
  subst hp hq
  unfold execOp
  have h1 : (Instr.slice t (.string ⟨l.toArray⟩) (some (.int .i64 (p : Int))) (some (.int .i64 (q : Int))) none).run P w = .ok (.string ⟨((l.drop p).take (q - p)).toArray⟩) w := by
    rw [run_slice_string w t ⟨l.toArray⟩ .i64 .i64 (p : Int) (q : Int) hu (by omega) (by omega) (by show (q : Int) ≤ ((l.toArray.size : Nat) : Int); simp; exact_mod_cast hm), Lib.extract_mk]
    simp
  simp only [ho, hx, hl, hh, Option.map_none, Option.map_some, run_sliceAt_string w t _ _ _ _ hu, Sem.run_bind, h1, Result.andThen_ok, Sem.run_pure]
  exact ⟨rfl, hS⟩
end
theorem zeros_of (n : Nat) : madeCells #[.int .u8 0] n = cells8 (List.replicate n 0) := by
  apply Array.toList_inj.1
  rw [toList_madeCells_one]
  simp [cells8, cb]
theorem nm_addNat (n : Wd) (i : Nat) : (nm n + (i : Int)) % 4294967296 = nm (n + BitVec.ofNat 32 i) := by
  unfold nm; rw [BitVec.toNat_add, BitVec.toNat_ofNat]; omega

set_option maxRecDepth 100000 in
set_option maxHeartbeats 1000000 in
theorem cstream_any (k nonce : List UInt8) (n : Wd) (b : UInt8) (w : World) (hk : k.length = 32) (hn : nonce.length = 12) :
    Calls Try.prog 8 #[.agg (caseCells k nonce n), .int .u8 (b.toNat : Int)] w fun e w' => e = .returned (.bool true) ∧ Below w.heap.size w w' := by
  have HK := Lib.hid hk
  have HN := Lib.hid hn
  clear hk hn
  have hbb := b.toNat_lt
  have hb1 : Below w.heap.size w (w.alloc (.cells (caseCells k nonce n) 31)) := (Below.refl _ _).alloc (Nat.le_refl _) _
  obtain ⟨i0, hi, hz0, hz1, hz2⟩ := info_parts info8
  go_enter Try.func8, Try.ntmps8
  have HI := Lib.hid hi; have HZ0 := Lib.hid hz0; have HZ1 := Lib.hid hz1; have HZ2 := Lib.hid hz2
  clear hi hz0 hz1 hz2
  go_wp2
  have hm0 : ((b.toNat : Int) % 20) = ((b.toNat % 20 : Nat) : Int) := by omega
  rw [hm0]
  have hm : b.toNat % 20 < 20 := Nat.mod_lt _ (by omega)
  clear hm0
  generalize b.toNat % 20 = m at *
  have H0 := Lib.hid (fun W (h : Below (w.alloc (.cells (caseCells k nonce n) 31)).heap.size (w.alloc (.cells (caseCells k nonce n) 31)) W) => Blk.newBelow h)
  generalize w.alloc (.cells (caseCells k nonce n) 31) = w1 at *
  have hwm : IntKind.i64.wrap (64 * (m : Int)) = 64 * (m : Int) := IntWalk.i64_in _ (by omega)
  refine wp_region_take 8 (by kernel_rfl) (by kernel_rfl) (Below w1.heap.size w1) (Below.refl _ _).drew ?_
  refine wpTake_step rfl (by intro W hS; go_simp; rfl) (fun K hK => ?_); go_simp; refine hK _ ?_; clear hK K
  refine wpTake_step rfl (take_loadM 23 (.tmp 12) rfl w.heap.size 0 rfl k (fun W h => case_key (H0.out W h)) Try.underlying23 rfl size32k HK.out) (fun K hK => ?_); go_simp; refine hK _ ?_; clear hK K
  refine wpTake_step rfl (by intro W hS; go_simp; rfl) (fun K hK => ?_); go_simp; refine hK _ ?_; clear hK K
  refine wpTake_step rfl (take_loadM 24 (.tmp 14) rfl w.heap.size 32 rfl nonce (fun W h => case_nonce (H0.out W h) HK.out) Try.underlying24 rfl size12b HN.out) (fun K hK => ?_); go_simp; refine hK _ ?_; clear hK K
  refine wpTake_step rfl (by intro W hS; go_simp; rfl) (fun K hK => ?_); go_simp; refine hK _ ?_; clear hK K
  refine wpTake_step rfl (by intro W hS; have c := case_num (H0.out W hS) HK.out HN.out; go_simp; rfl) (fun K hK => ?_); go_simp; refine hK _ ?_; clear hK K
  refine wpTake_step rfl (by intro W hS; go_simp; rfl) (fun K hK => ?_); go_simp; refine hK _ ?_; clear hK K
  refine wpTake_step rfl (by intro W hS; go_simp; rfl) (fun K hK => ?_); go_simp; refine hK _ ?_; clear hK K
  refine wpTake_nil ?_
  simp only [List.drop_succ_cons, List.drop_zero]
  have hmk : ∀ u : World, (Instr.makeSlice 36 (.int .i64 (64 * (m : Int))) (.int .i64 (64 * (m : Int)))).run Try.prog u = .ok (.slice (some ⟨u.heap.size, 0, none⟩) (64 * m) (64 * m)) (u.alloc (.cells (cells8 (List.replicate (64 * m) 0)) 5)) := fun u => by
    have h := run_make (P := Try.prog) u 36 5 i0 (.int .u8 0) Try.underlying36 HI.out HZ0.out .i64 .i64 (64 * (m : Int)) (64 * (m : Int)) (by omega) (Int.le_refl _) (by rw [HZ2.out]; omega) (by omega)
    have e : (64 * (m : Int)).toNat = 64 * m := by omega
    rw [e, HZ1.out, Nat.mul_one] at h
    rw [← zeros_of]
    exact h
  have hxz := xorS_zeros k nonce n m
  have hzl : (List.replicate (64 * m) (0 : UInt8)).length = 64 * m := by simp
  have HXZ := Lib.hid hxz
  have HZL := Lib.hid hzl
  clear hxz hzl
  generalize List.replicate (64 * m) (0 : UInt8) = Z at *
  refine wpListS_value (w' := (w1.alloc (.cells (cells8 Z) 5)).drew) rfl (by go_simp; rfl) (((Below.refl _ _).alloc (Nat.le_refl _) _).drew) (fun K hK => ?_)
  go_simp
  refine hK _ ?_
  clear hK K hmk
  have hcv := run_strOf (w := (w1.alloc (.cells (cells8 Z) 5)).drew) (g := w1.heap.size) (off := 0) (cap := 64 * m) (n := 64 * m) (l := Z) HZL.out (fun j hj => by
    rw [Nat.zero_add]
    show (w1.alloc (.cells (cells8 Z) 5)).cell? _ = _
    rw [(Blk.new w1 _ _).cell]
    exact cells8_get Z j hj)
  refine wpListS_value (w' := (w1.alloc (.cells (cells8 Z) 5)).drew) rfl (by go_simp; rfl) (((Below.refl _ _).alloc (Nat.le_refl _) _).drew) (fun K hK => ?_)
  go_simp
  refine hK _ ?_
  clear hK K hcv
  refine wpListS_call (v := .string ⟨(xorS k nonce n Z).toArray⟩) rfl (by go_simp; rfl) ((xor_any k nonce n Z _ HK.out HN.out (by have := HZL.out; omega)).mono (fun e w' h => ⟨h.1, (((Below.refl _ _).alloc (Nat.le_refl _) _).drew).trans (h.2.mono (by simp))⟩)) (fun w2 hS K hK => ?_)
  go_simp
  refine hK _ ?_
  clear hK K
  have hxl := xorS_len k nonce n Z
  rw [HZL.out] at hxl
  generalize xorS k nonce n Z = X at *
  have HXL := Lib.hid hxl
  have hx1 : X.length ≤ 5000 := by omega
  refine wpListS_value (w' := w2) rfl (by go_simp; rfl) hS (fun K hK => ?_)
  go_simp
  refine hK _ ?_
  clear hK K
  refine wpListS_nil ?_
  refine NoPanic.normal ?_
  have hb2 : Below w.heap.size w w2 := hb1.trans (hS.mono hb1.size)
  have h0 := H0.out w2 hS
  have hne : ((X.length : Int) != 64 * (m : Int)) = false := by rw [hxl]; simp
  clear hxl hS H0 hb1 HZL
  go_wp2
  clear hne hwm
  go_loopw [29] (fun t wr => ∃ i : Nat, i ≤ m ∧ t = .int .i64 i ∧ Blk wr w.heap.size 31 (caseCells k nonce n) ∧ Below w.heap.size w wr) (fun t _ => m - (intOf t).toNat)
  case atStart => exact ⟨0, by omega, rfl, h0, hb2⟩
  case round =>
    clear h0 hb2
    obtain ⟨i, hi, rfl, h0, hR⟩ := hrel
    by_cases hlt : i < m
    · have hlt' : (i : Int) < (m : Int) := by omega
      have c44 := case_num h0 HK.out HN.out
      have HNA := Lib.hid (nm_addNat n i)
      go_wp2_with (first | (refine wpList_loadMg 23 (.tmp 32) rfl rfl w.heap.size 0 rfl k (case_key h0) Try.underlying23 rfl size32k HK.out ?_) | (refine wpList_loadMg 24 (.tmp 34) rfl rfl w.heap.size 32 rfl nonce (case_nonce h0 HK.out) Try.underlying24 rfl size12b HN.out ?_))
      rw [HNA.out]
      refine (block_any k nonce (n + BitVec.ofNat 32 i) _ HK.out HN.out).mono ?_
      rintro e w3 ⟨rfl, hb⟩
      have hx := HXZ.out i hlt
      rw [← hx]
      have HCS : Hid ((cells8 (List.take 64 (List.drop (64 * i) X))).size = 64) := Lib.hid (by rw [hx, cells8_size, chacha_len])
      have HCL : Hid ((List.take 64 (List.drop (64 * i) X)).length = 64) := Lib.hid (by rw [hx, chacha_len])
      clear hx
      generalize hst : List.take 64 (List.drop (64 * i) X) = st at *
      have HST := Lib.hid hst
      clear hst c44
      have g0 : Blk (w3.alloc (.cells (cells8 st) 27)) w.heap.size 31 (caseCells k nonce n) := (h0.below hb h0.lt).alloc _
      have gR : Below w.heap.size w (w3.alloc (.cells (cells8 st) 27)) := (hR.trans (hb.mono hR.size)).alloc (by have := hR.size; have := hb.size; omega) _
      have gS : Blk (w3.alloc (.cells (cells8 st) 27)) w3.heap.size 27 (cells8 st) := Blk.new _ _ _
      clear h0 hR hb
      go_wp2_with (refine wpList_storeNew rfl 27 (.tmp 8) (.tmp 41) rfl w3 w3.heap.size rfl rfl _ rfl rfl size64b HCS.out rfl (cells8_one _) ?_)
      generalize w3.alloc (.cells (cells8 st) 27) = w4 at *
      generalize w3.heap.size = q at *
      have hsl := run_sliceArr_all Try.underlying27 size8 q 0 (by omega)
      have hcv := run_strBlk (cap := 64) HCL.out gS.drew
      have hw1 : IntKind.i64.wrap (64 * (i : Int)) = 64 * (i : Int) := IntWalk.i64_in _ (by omega)
      have hw2 : IntKind.i64.wrap (64 * (i : Int) + 64) = 64 * (i : Int) + 64 := IntWalk.i64_in _ (by omega)
      refine wp_region_val (by kernel_rfl) (by kernel_rfl) (fun W => W = w4.drew) rfl ?_
      refine wpVal_stepK rfl (by intro W hS; subst hS; go_simp; exact ⟨rfl, rfl⟩) (fun K hK => ?_); go_simp; refine hK _ ?_; clear hK K
      refine wpVal_stepK rfl (by intro W hS; subst hS; go_simp; exact ⟨rfl, rfl⟩) (fun K hK => ?_); go_simp; refine hK _ ?_; clear hK K
      refine wpVal_stepK rfl (by intro W hS; subst hS; go_simp; exact ⟨rfl, rfl⟩) (fun K hK => ?_); go_simp; refine hK _ ?_; clear hK K
      refine wpVal_stepK rfl (by intro W hS; subst hS; go_simp; exact ⟨rfl, rfl⟩) (fun K hK => ?_); go_simp; refine hK _ ?_; clear hK K
      refine wpVal_stepK rfl (by intro W hS; subst hS; go_simp; exact ⟨rfl, rfl⟩) (fun K hK => ?_); go_simp; refine hK _ ?_; clear hK K
      refine wpVal_stepK rfl (by intro W hS; subst hS; go_simp; exact ⟨rfl, rfl⟩) (fun K hK => ?_); go_simp; refine hK _ ?_; clear hK K
      refine wpVal_stepK rfl (gives_mid 9 (.tmp 42) (.tmp 44) (.tmp 47) rfl Try.underlying9 X (64 * i) (64 * i + 64) _ _ rfl rfl rfl (by omega) (by omega) (by omega) (by have := HXL.out; omega)) (fun K hK => ?_); go_simp; refine hK _ ?_; clear hK K
      rw [HST.out]
      refine wpVal_stepK rfl (by intro W hS; subst hS; go_simp; exact ⟨rfl, rfl⟩) (fun K hK => ?_); go_simp; refine hK _ ?_; clear hK K
      refine wpVal_stepK rfl (by intro W hS; subst hS; go_simp; exact ⟨rfl, rfl⟩) (fun K hK => ?_); go_simp; refine hK _ ?_; clear hK K
      refine wpVal_stepK rfl (by intro W hS; subst hS; go_simp; exact ⟨rfl, rfl⟩) (fun K hK => ?_); go_simp; refine hK _ ?_; clear hK K
      refine wpVal_nil ?_
      rintro W rfl
      go_wp2
      go_roundw
      case rel => exact ⟨i + 1, by omega, by go_num, g0.drew, gR.drew⟩
      case measure => simp [intOf]; omega
    · go_wp2_with fail
      refine (fixed_any _).mono ?_
      rintro e w3 ⟨rfl, hb⟩
      go_wp2
      go_ret
      exact ⟨rfl, hR.trans (hb.mono hR.size)⟩
end Go.Proofs.Ythimejahpgihkaa
