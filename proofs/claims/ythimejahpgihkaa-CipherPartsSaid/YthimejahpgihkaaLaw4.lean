/- The walk of the law CipherParts: it answers true, whatever comes in, and leaves old memory as it was. Printed by gen_law4.py. -/
import Derived.Test.YthimejahpgihkaaLaw3
import Derived.Lib.TrimByte
namespace Go.Proofs.Ythimejahpgihkaa
open Go.RowKit

section
variable {P : Program} {S : World → Prop}
/-- a text's front, in whatever world. -/
theorem gives_front {o : Oper} {a : Act} (t : TypeId) (x h : Operand) (ho : o.op = .slice t x none (some h) none) (hu : P.underlying t = some .string) (l : List UInt8) (m : Nat) (z : Int) (hx : a.eval x = .string ⟨l.toArray⟩) (hh : a.eval h = .int .i64 z) (hz : z = m) (hm : m ≤ l.length) :
    ∀ w, S w → GivesRes P S (.string ⟨(l.take m).toArray⟩) ((execOp a.eval o).run P w) := by
  intro w hS
  subst hz
  unfold execOp
  have h1 : (Instr.slice t (.string ⟨l.toArray⟩) none (some (.int .i64 (m : Int))) none).run P w = .ok (.string ⟨(l.take m).toArray⟩) w := by
    rw [run_slice_string_h w t ⟨l.toArray⟩ hu .i64 (m : Int) (by omega) (by show (m : Int) ≤ ((l.toArray.size : Nat) : Int); simp; exact_mod_cast hm), Lib.extract_mk]
    simp
  simp only [ho, hx, hh, Option.map_none, Option.map_some, run_sliceAt_string w t _ _ _ _ hu, Sem.run_bind, h1, Result.andThen_ok, Sem.run_pure]
  exact ⟨rfl, hS⟩
/-- a text's rest. -/
theorem gives_rest {o : Oper} {a : Act} (t : TypeId) (x h : Operand) (ho : o.op = .slice t x (some h) none none) (hu : P.underlying t = some .string) (l : List UInt8) (m : Nat) (z : Int) (hx : a.eval x = .string ⟨l.toArray⟩) (hh : a.eval h = .int .i64 z) (hz : z = m) (hm : m ≤ l.length) :
    ∀ w, S w → GivesRes P S (.string ⟨(l.drop m).toArray⟩) ((execOp a.eval o).run P w) := by
  intro w hS
  subst hz
  unfold execOp
  have h1 : (Instr.slice t (.string ⟨l.toArray⟩) (some (.int .i64 (m : Int))) none none).run P w = .ok (.string ⟨(l.drop m).toArray⟩) w := by
    rw [run_slice_string_l w t ⟨l.toArray⟩ hu .i64 (m : Int) (by omega) (by show (m : Int) ≤ ((l.toArray.size : Nat) : Int); simp; exact_mod_cast hm), Lib.extract_mk]
    have e : (⟨l.toArray⟩ : ByteArray).size = l.length := by show l.toArray.size = _; simp
    rw [e, List.take_of_length_le (by rw [List.length_drop]; omega)]
    simp
  simp only [ho, hx, hh, Option.map_none, Option.map_some, run_sliceAt_string w t _ _ _ _ hu, Sem.run_bind, h1, Result.andThen_ok, Sem.run_pure]
  exact ⟨rfl, hS⟩
end
theorem str_app (a b : List UInt8) : ((⟨a.toArray⟩ : ByteArray) ++ (⟨b.toArray⟩ : ByteArray)) = ⟨(a ++ b).toArray⟩ := by
  apply ByteArray.ext
  simp
attribute [local go_sem] str_app
theorem nm_byte (n : Wd) (b : UInt8) : IntKind.u32.wrap (nm n + IntKind.u32.wrap (b.toNat : Int)) = nm (n + BitVec.ofNat 32 b.toNat) := by
  rw [wrap_u32, wrap_u32]; unfold nm; rw [BitVec.toNat_add, BitVec.toNat_ofNat]; omega

set_option maxRecDepth 100000 in
set_option maxHeartbeats 1000000 in
theorem cparts_any (k nonce : List UInt8) (n : Wd) (data : List UInt8) (b : UInt8) (w : World) (hk : k.length = 32) (hn : nonce.length = 12) (hd : data.length ≤ maxLen) :
    Calls Try.prog 6 #[.agg (caseCells k nonce n), .string ⟨data.toArray⟩, .int .u8 (b.toNat : Int)] w fun e w' => e = .returned (.bool true) ∧ Below w.heap.size w w' := by
  have HK := Lib.hid hk
  have HN := Lib.hid hn
  clear hk hn
  unfold maxLen at hd
  have hbb := b.toNat_lt
  have hb1 : Below w.heap.size w (w.alloc (.cells (caseCells k nonce n) 31)) := (Below.refl _ _).alloc (Nat.le_refl _) _
  by_cases hlen : 5000 < data.length
  · have hlen' : (5000 : Int) < (data.length : Int) := by omega
    have hdec : decide ((5000 : Int) < (data.length : Int)) = true := by simp; omega
    go_enter Try.func6, Try.ntmps6
    go_wp2_with fail
    refine (fixed_any _).mono ?_
    rintro e w1 ⟨rfl, hb⟩
    go_wp2
    go_ret
    exact ⟨rfl, hb1.trans (hb.mono hb1.size)⟩
  · have hlen' : (data.length : Int) ≤ 5000 := by omega
    have hdec : decide ((5000 : Int) < (data.length : Int)) = false := by simp; omega
    by_cases hat : data.length < 64 * b.toNat
    · have hat' : (data.length : Int) < 64 * (b.toNat : Int) := by omega
      go_enter Try.func6, Try.ntmps6
      go_wp2_with fail
      refine (fixed_any _).mono ?_
      rintro e w1 ⟨rfl, hb⟩
      go_wp2
      go_ret
      exact ⟨rfl, hb1.trans (hb.mono hb1.size)⟩
    · have hat' : 64 * (b.toNat : Int) ≤ (data.length : Int) := by omega
      have hpar := xorS_parts k nonce n data b.toNat (by omega)
      have HP := Lib.hid hpar
      have HNB := Lib.hid (nm_byte n b)
      have hlt1 : (data.take (64 * b.toNat)).length ≤ data.length := by rw [List.length_take]; omega
      have hlt2 : (data.drop (64 * b.toNat)).length ≤ data.length := by rw [List.length_drop]; omega
      clear hpar
      go_enter Try.func6, Try.ntmps6
      go_wp2
      have H0 := Lib.hid (fun W (h : Below (w.alloc (.cells (caseCells k nonce n) 31)).heap.size (w.alloc (.cells (caseCells k nonce n) 31)) W) => Blk.newBelow h)
      generalize w.alloc (.cells (caseCells k nonce n) 31) = w1 at *
      refine wp_region_val (by kernel_rfl) (by kernel_rfl) (Below w1.heap.size w1) (Below.refl _ _).drew ?_
      refine wpVal_stepK rfl (by intro W hS; go_simp; exact ⟨rfl, hS⟩) (fun K hK => ?_); go_simp; refine hK _ ?_; clear hK K
      refine wpVal_stepK rfl (gives_loadM 23 (.tmp 23) rfl w.heap.size 0 rfl k (fun W h => case_key (H0.out W h)) Try.underlying23 rfl size32k HK.out) (fun K hK => ?_); go_simp; refine hK _ ?_; clear hK K
      refine wpVal_stepK rfl (by intro W hS; go_simp; exact ⟨rfl, hS⟩) (fun K hK => ?_); go_simp; refine hK _ ?_; clear hK K
      refine wpVal_stepK rfl (gives_loadM 24 (.tmp 25) rfl w.heap.size 32 rfl nonce (fun W h => case_nonce (H0.out W h) HK.out) Try.underlying24 rfl size12b HN.out) (fun K hK => ?_); go_simp; refine hK _ ?_; clear hK K
      refine wpVal_stepK rfl (by intro W hS; go_simp; exact ⟨rfl, hS⟩) (fun K hK => ?_); go_simp; refine hK _ ?_; clear hK K
      refine wpVal_stepK rfl (by intro W hS; have c := case_num (H0.out W hS) HK.out HN.out; go_simp; exact ⟨rfl, hS⟩) (fun K hK => ?_); go_simp; refine hK _ ?_; clear hK K
      refine wpVal_stepK rfl (by intro W hS; go_simp; exact ⟨rfl, hS⟩) (fun K hK => ?_); go_simp; refine hK _ ?_; clear hK K
      refine wpVal_stepK rfl (by intro W hS; go_simp; exact ⟨rfl, hS⟩) (fun K hK => ?_); go_simp; refine hK _ ?_; clear hK K
      refine wpVal_stepK rfl (gives_front 9 (.tmp 29) (.tmp 30) rfl Try.underlying9 data (64 * b.toNat) _ rfl rfl (by omega) (by omega)) (fun K hK => ?_); go_simp; refine hK _ ?_; clear hK K
      generalize hA : data.take (64 * b.toNat) = A at *
      refine wpVal_stepK rfl (by intro W hS; go_simp; exact (xor_any k nonce n A _ HK.out HN.out (by omega)).mono (fun e w' h => ⟨h.1, hS.trans (h.2.mono hS.size)⟩)) (fun K hK => ?_); go_simp; refine hK _ ?_; clear hK K
      generalize hXA : xorS k nonce n A = XA at *
      refine wpVal_stepK rfl (by intro W hS; go_simp; exact ⟨rfl, hS⟩) (fun K hK => ?_); go_simp; refine hK _ ?_; clear hK K
      refine wpVal_nil ?_
      intro w2 hS
      have hb2 : Below w.heap.size w w2 := hb1.trans (hS.mono hb1.size)
      have H1 := Lib.hid (fun W (h : Below w2.heap.size w2 W) => H0.out W (hS.trans (h.mono hS.size)))
      have HHA := Lib.hid hA
      have HHXA := Lib.hid hXA
      clear H0 hS hb1 hA hXA
      go_wp2
      refine wp_region_val (by kernel_rfl) (by kernel_rfl) (Below w2.heap.size w2) (Below.refl _ _).drew ?_
      refine wpVal_stepK rfl (by intro W hS; go_simp; exact ⟨rfl, hS⟩) (fun K hK => ?_); go_simp; refine hK _ ?_; clear hK K
      refine wpVal_stepK rfl (gives_loadM 23 (.tmp 33) rfl w.heap.size 0 rfl k (fun W h => case_key (H1.out W h)) Try.underlying23 rfl size32k HK.out) (fun K hK => ?_); go_simp; refine hK _ ?_; clear hK K
      refine wpVal_stepK rfl (by intro W hS; go_simp; exact ⟨rfl, hS⟩) (fun K hK => ?_); go_simp; refine hK _ ?_; clear hK K
      refine wpVal_stepK rfl (gives_loadM 24 (.tmp 35) rfl w.heap.size 32 rfl nonce (fun W h => case_nonce (H1.out W h) HK.out) Try.underlying24 rfl size12b HN.out) (fun K hK => ?_); go_simp; refine hK _ ?_; clear hK K
      refine wpVal_stepK rfl (by intro W hS; go_simp; exact ⟨rfl, hS⟩) (fun K hK => ?_); go_simp; refine hK _ ?_; clear hK K
      refine wpVal_stepK rfl (by intro W hS; have c := case_num (H1.out W hS) HK.out HN.out; go_simp; exact ⟨rfl, hS⟩) (fun K hK => ?_); go_simp; refine hK _ ?_; clear hK K
      refine wpVal_stepK rfl (by intro W hS; go_simp; exact ⟨rfl, hS⟩) (fun K hK => ?_); go_simp; refine hK _ ?_; clear hK K
      refine wpVal_stepK rfl (by intro W hS; go_simp; exact ⟨rfl, hS⟩) (fun K hK => ?_); go_simp; refine hK _ ?_; clear hK K
      refine wpVal_stepK rfl (by intro W hS; go_simp; exact ⟨rfl, hS⟩) (fun K hK => ?_); go_simp; rw [HNB.out]; refine hK _ ?_; clear hK K
      refine wpVal_stepK rfl (by intro W hS; go_simp; exact ⟨rfl, hS⟩) (fun K hK => ?_); go_simp; refine hK _ ?_; clear hK K
      refine wpVal_stepK rfl (by intro W hS; go_simp; exact ⟨rfl, hS⟩) (fun K hK => ?_); go_simp; refine hK _ ?_; clear hK K
      refine wpVal_stepK rfl (gives_rest 9 (.tmp 42) (.tmp 43) rfl Try.underlying9 data (64 * b.toNat) _ rfl rfl (by omega) (by omega)) (fun K hK => ?_); go_simp; refine hK _ ?_; clear hK K
      generalize hB : data.drop (64 * b.toNat) = B at *
      refine wpVal_stepK rfl (by intro W hS; go_simp; exact (xor_any k nonce (n + BitVec.ofNat 32 b.toNat) B _ HK.out HN.out (by omega)).mono (fun e w' h => ⟨h.1, hS.trans (h.2.mono hS.size)⟩)) (fun K hK => ?_); go_simp; refine hK _ ?_; clear hK K
      generalize hXB : xorS k nonce (n + BitVec.ofNat 32 b.toNat) B = XB at *
      refine wpVal_stepK rfl (by intro W hS; go_simp; exact ⟨rfl, hS⟩) (fun K hK => ?_); go_simp; refine hK _ ?_; clear hK K
      refine wpVal_nil ?_
      intro w3 hS
      have hb3 : Below w.heap.size w w3 := hb2.trans (hS.mono hb2.size)
      have H2 := Lib.hid (fun W (h : Below w3.heap.size w3 W) => H1.out W (hS.trans (h.mono hS.size)))
      have HHB := Lib.hid hB
      have HHXB := Lib.hid hXB
      clear H1 hS hb2 hB hXB
      go_wp2_with fail
      refine (fixed_any _).mono ?_
      rintro e w4 ⟨rfl, hb⟩
      have h0 := H2.out w4 hb
      have hb4 : Below w.heap.size w w4 := hb3.trans (hb.mono hb3.size)
      have c44 := case_num h0 HK.out HN.out
      clear hb hb3 H2
      go_wp2_with (first | (refine wpList_loadMg 23 (.tmp 48) rfl rfl w.heap.size 0 rfl k (case_key h0) Try.underlying23 rfl size32k HK.out ?_) | (refine wpList_loadMg 24 (.tmp 50) rfl rfl w.heap.size 32 rfl nonce (case_nonce h0 HK.out) Try.underlying24 rfl size12b HN.out ?_))
      refine (xor_any k nonce n data _ HK.out HN.out (by omega)).mono ?_
      rintro e w5 ⟨rfl, hb⟩
      rw [HP.out]
      have hxa : XA.length ≤ 5000 := by rw [← HHXA.out, xorS_len]; omega
      have hxb : XB.length ≤ 5000 := by rw [← HHXB.out, xorS_len]; omega
      go_wp2
      go_ret
      exact ⟨rfl, hb4.trans (hb.mono hb4.size)⟩
end Go.Proofs.Ythimejahpgihkaa
