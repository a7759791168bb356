/- Laws and walks that many claims share: Hex, Rhex. -/
import Derived.Test.YtdjjiblijbjobaaDoorRsumB
import Derived.Test.YtdjjiblijbjobaaDoorBaseB
/- The walks of hash.Hex, hash.half and hash.Of. -/
namespace Go.Proofs.YtdjjiblijbjobaaDoor
open Go.RowKit

def signsL : List UInt8 := [48, 49, 50, 51, 52, 53, 54, 55, 56, 57, 97, 98, 99, 100, 101, 102]
def hxd (n : Nat) : UInt8 := bt signsL n
def hexB (b : UInt8) : List UInt8 := [hxd (b.toNat / 16), hxd (b.toNat % 16)]
/-- the text of bytes, two signs each. -/
def hexS (d : List UInt8) : List UInt8 := d.flatMap hexB
theorem hexS_len (d : List UInt8) : (hexS d).length = 2 * d.length := by
  unfold hexS
  induction d with
  | nil => rfl
  | cons b d ih => rw [List.flatMap_cons, List.length_append, ih]; simp [hexB]; omega
theorem hexS_snoc (d : List UInt8) (i : Nat) (h : i < d.length) : hexS (d.take (i + 1)) = hexS (d.take i) ++ hexB (bt d i) := by
  unfold hexS
  rw [List.take_succ_eq_append_getElem h, List.flatMap_append]
  simp [bt, h]
theorem and15 (b : UInt8) : bits .and .u8 (b.toNat : Int) 15 = ((b.toNat % 16 : Nat) : Int) := by
  have h : ∀ n : Nat, n < 256 → bits .and .u8 (n : Int) 15 = ((n % 16 : Nat) : Int) := by decide +kernel
  exact h b.toNat b.toNat_lt

attribute [local go_sem] str_byte
set_option maxRecDepth 100000 in
set_option maxHeartbeats 1000000 in
theorem hex_any (d : List UInt8) (w : World) (hd : d.length = 32) :
    Calls Tryd.prog 34 #[.agg (cells8 d)] w fun e w' => e = .returned (.string ⟨(hexS d).toArray⟩) ∧ Below w.heap.size w w' := by
  obtain ⟨i0, hi, hz0, hz1, hz2⟩ := info_parts info8
  have HI := Lib.hid hi; have HZ0 := Lib.hid hz0; have HZ1 := Lib.hid hz1; have HZ2 := Lib.hid hz2
  clear hi hz0 hz1 hz2
  have HD := Lib.hid hd
  have HD8 : Hid ((cells8 d).size = 32) := Lib.hid (by rw [cells8_size]; exact hd)
  clear hd
  have hmk : ∀ w, (Instr.makeSlice 48 (.int .i64 0) (.int .i64 64)).run Tryd.prog w = .ok (.slice (some ⟨w.heap.size, 0, none⟩) 0 64) (w.alloc (.cells (cells8 (List.replicate 64 0)) 5)) := fun _ => by kernel_rfl
  have HZ64 : Hid ((cells8 (List.replicate 64 0)).size = 64) := Lib.hid (by rw [cells8_size, List.length_replicate])
  generalize cells8 (List.replicate 64 0) = z64 at *
  go_enter Tryd.func34, Tryd.ntmps34
  have hB : Blk ((w.alloc (.cells (cells8 d) 53)).alloc (.cells z64 5)) w.heap.size 53 (cells8 d) := (Blk.new _ _ _).alloc _
  have hO : ((w.alloc (.cells (cells8 d) 53)).alloc (.cells z64 5)).ownsRow (w.heap.size + 1) 5 1 (.slice (some ⟨w.heap.size + 1, 0, none⟩) 0 64) 0 [] := own_new _ 64 _ _ (by simp) (Nat.le_refl _) HZ64.out (by decide)
  have hb : Below w.heap.size w ((w.alloc (.cells (cells8 d) 53)).alloc (.cells z64 5)) := ((Below.refl _ _).alloc (Nat.le_refl _) _).alloc (by simp) _
  have HB := Lib.hid hB
  have HO := Lib.hid hO
  clear hB hO
  go_wp2_with (refine wpList_loadB (cs := cells8 d) rfl 53 (.tmp 1) rfl w.heap.size rfl HB.out Tryd.underlying53 rfl sz32d HD8.out ?_)
  generalize (w.alloc (.cells (cells8 d) 53)).alloc (.cells z64 5) = wa at *
  clear hmk HB
  have HO0 := Lib.hid hb
  clear hb
  go_loopw [3, 8] (fun v j wr => ∃ i : Nat, i ≤ 32 ∧ j = .int .i64 i ∧ wr.ownsRow (w.heap.size + 1) 5 1 v (2 * i) ((hexS (d.take i)).map cb) ∧ Below w.heap.size w wr) (fun _ j _ => 32 - (intOf j).toNat)
  case atStart => exact ⟨0, by omega, rfl, HO.out, HO0.out⟩
  case round =>
    obtain ⟨i, hi, rfl, hO, hb⟩ := hrel
    by_cases hlt : i < 32
    · have hlt' : (i : Int) < 32 := by omega
      have hix := run_indexAgg Tryd.underlying53 Tryd.underlying5 rfl so8 (cells8 d) i hlt _ (cells8_get d i (by have := HD.out; omega)) .i64
      have HSN := Lib.hid (hexS_snoc d i (by have := HD.out; omega))
      generalize bt d i = x at *
      have hx0 := x.toNat_lt
      have ha := and15 x
      have hd1 : ((x.toNat : Int) / 16).toNat = x.toNat / 16 := by omega
      have hd2 : ((x.toNat : Int) % 16).toNat = x.toNat % 16 := by omega
      have hd3 : x.toNat / 16 < 16 := by omega
      have hd4 : x.toNat % 16 < 16 := by omega
      have hd5 : (x.toNat : Int) / 16 < 16 := by omega
      have hd6 : (x.toNat : Int) % 16 < 16 := by omega
      have hd8 : 0 ≤ (x.toNat : Int) % 16 := by omega
      have hd7 : 0 ≤ (x.toNat : Int) / 16 := by omega
      go_wp2
      refine wp_region_preTailN 6 (by kernel_rfl) (by kernel_rfl) (fun W => W = wr.drew) rfl rfl (fun _ => rfl) ?_
      simp only [List.take_succ_cons, List.take_zero, List.drop_succ_cons, List.drop_zero]
      refine wpVal_stepK rfl (by intro W hS; subst hS; go_simp; exact ⟨rfl, rfl⟩) (fun K hK => ?_); go_simp; refine hK _ ?_; clear hK K
      refine wpVal_stepK rfl (by intro W hS; subst hS; go_simp; exact ⟨rfl, rfl⟩) (fun K hK => ?_); go_simp; refine hK _ ?_; clear hK K
      refine wpVal_stepK rfl (by intro W hS; subst hS; go_simp; exact ⟨rfl, rfl⟩) (fun K hK => ?_); go_simp; refine hK _ ?_; clear hK K
      refine wpVal_stepK rfl (by intro W hS; subst hS; go_simp; exact ⟨rfl, rfl⟩) (fun K hK => ?_); go_simp; refine hK _ ?_; clear hK K
      refine wpVal_stepK rfl (by intro W hS; subst hS; go_simp; exact ⟨rfl, rfl⟩) (fun K hK => ?_); go_simp; refine hK _ ?_; clear hK K
      refine wpVal_stepK rfl (by intro W hS; subst hS; go_simp; exact ⟨rfl, rfl⟩) (fun K hK => ?_); go_simp; refine hK _ ?_; clear hK K
      refine wpVal_nil ?_
      rintro W rfl
      have HE : Hid (hexB x = [bt [48, 49, 50, 51, 52, 53, 54, 55, 56, 57, 97, 98, 99, 100, 101, 102] (x.toNat / 16), bt [48, 49, 50, 51, 52, 53, 54, 55, 56, 57, 97, 98, 99, 100, 101, 102] (x.toNat % 16)]) := Lib.hid rfl
      clear ha hd1 hd2 hd3 hd4 hd5 hd6 hd7 hd8 hix
      generalize bt [48, 49, 50, 51, 52, 53, 54, 55, 56, 57, 97, 98, 99, 100, 101, 102] (x.toNat / 16) = y at *
      generalize bt [48, 49, 50, 51, 52, 53, 54, 55, 56, 57, 97, 98, 99, 100, 101, 102] (x.toNat % 16) = z at *
      have HSM : Hid ((hexS (d.take i)).map cb ++ [.int .u8 (y.toNat : Int), .int .u8 (z.toNat : Int)] = (hexS (d.take (i + 1))).map cb) := Lib.hid (by rw [HSN.out, HE.out, List.map_append]; rfl)
      clear HSN HE
      generalize (hexS (d.take i)).map cb = pre at hO HSM
      go_wp2_with (at_builtin; refine wpList_append_own _ rfl (.tmp 11) (.tmp 18) 48 rfl (w.heap.size + 1) 5 i0 (.int .u8 0) 1 1 Tryd.underlying48 HI.out HZ0.out HZ1.out HZ2.out rfl (by decide) _ _ _ rfl (hO.alloc _) ⟨wr.heap.size, 0, none⟩ 2 2 [.int .u8 (y.toNat : Int), .int .u8 (z.toNat : Int)] rfl rfl ?_ ?_ ?_ ?_ ?_ ?_)
      · exact cells_new wr [.int .u8 (y.toNat : Int), .int .u8 (z.toNat : Int)] 5
      · intro u hu; simp at hu; rcases hu with rfl | rfl <;> rfl
      · unfold maxLen; omega
      · omega
      · simp; have := hb.size; omega
      · intro v' w3 hown hgrow _
        rw [HSM.out] at hown
        have HR : Hid (w3.ownsRow (w.heap.size + 1) 5 1 v' (2 * (i + 1)) ((hexS (d.take (i + 1))).map cb)) := Lib.hid hown
        have HBW : Hid (Below w.heap.size w w3) := Lib.hid (below_grownRow ((hb.alloc hb.size _).drew) hgrow (fun g hg => by have := own_base hO hg; omega) (by simp; have := hb.size; omega))
        clear hown hgrow hO hb HSM
        go_wp2
        refine NoPanic.normal ?_
        go_wp2
        go_roundw
        case rel => exact ⟨i + 1, by omega, by go_num, HR.out, HBW.out⟩
        case measure => simp [intOf]; omega
    · obtain rfl : i = 32 := by omega
      rw [List.take_of_length_le (by rw [HD.out]; omega)] at hO
      have hl := hexS_len d
      rw [HD.out] at hl
      rw [show 2 * 32 = (hexS d).length by rw [hl]] at hO
      have hcv := run_strOwn hO
      clear hO
      obtain ⟨S, hS⟩ : ∃ S, hexS d = S := ⟨_, rfl⟩
      rw [hS] at hcv
      have HSE := Lib.hid hS
      clear hS hl
      go_wp2
      go_ret
      exact ⟨by rw [HSE.out]; rfl, hb⟩
end Go.Proofs.YtdjjiblijbjobaaDoor
/- The walk of the reference's Hex (layer 2). -/
namespace Go.Proofs.YtdjjiblijbjobaaDoor
open Go.RowKit

attribute [local go_sem] str_byte str_app
end Go.Proofs.YtdjjiblijbjobaaDoor
