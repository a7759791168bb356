/- The walk of hash.Sum: the digest of parts. -/
import Derived.Test.YtdjjiblijbjobaaDoorEndB
namespace Go.Proofs.YtdjjiblijbjobaaDoor
open Go.RowKit

set_option maxRecDepth 100000 in
set_option maxHeartbeats 1000000 in
theorem sum_any (l : List (List UInt8)) (v : Value) (w : World) (hG : Glob w) (hS : Strs w v l) (hl : l.flatten.length < 2 ^ 60) (hn : l.length < 2 ^ 60) :
    Calls Tryd.prog 62 #[v] w fun e w' => e = .returned (.agg (cells8 (sumS l.flatten))) ∧ Below w.heap.size w w' := by
  obtain ⟨a, c, rfl⟩ := hS.len
  have HS := Lib.hid hS
  have HG := Lib.hid hG
  clear hS hG
  go_enter Tryd.func62, Tryd.ntmps62
  go_upto_region 1 with (fail)
  change Code.wp _ _ _ _ (w.alloc (.cells (cells8 (List.replicate 32 0)) 53))
  have hR : Blk (w.alloc (.cells (cells8 (List.replicate 32 0)) 53)) w.heap.size 53 (cells8 (List.replicate 32 0)) := Blk.new _ _ _
  have hb : Below w.heap.size w (w.alloc (.cells (cells8 (List.replicate 32 0)) 53)) := (Below.refl _ _).alloc (Nat.le_refl _) _
  have hG1 := HG.out.alloc (.cells (cells8 (List.replicate 32 0)) 53)
  generalize w.alloc (.cells (cells8 (List.replicate 32 0)) 53) = w1 at *
  have HG1 := Lib.hid hG1
  clear hG1
  have hz := zeroSt
  obtain ⟨cs, hcs⟩ : ∃ cs, stCells (List.replicate 8 0) (List.replicate 64 0) 0 0 = cs := ⟨_, rfl⟩
  rw [hcs] at hz
  have HCSZ : Hid (cs.size = 74) := Lib.hid (by rw [← hcs]; exact st_size rfl rfl)
  clear hcs
  go_wp2_with fail
  refine (begin_any false _ HG1.out).mono ?_
  rintro e w2 ⟨rfl, hb2⟩
  have HSS : Hid ((stCells (h0Of false) (List.replicate 64 0) 0 0).size = 74) := Lib.hid (st_size rfl (by simp))
  have HON : Hid ((stCells (h0Of false) (List.replicate 64 0) 0 0).all (·.oneCell') = true) := Lib.hid st_one
  obtain ⟨S, hS⟩ : ∃ S, stCells (h0Of false) (List.replicate 64 0) 0 0 = S := ⟨_, rfl⟩
  rw [hS] at HSS HON
  have HSE := Lib.hid hS
  rw [hS]
  clear hS
  go_upto_region 2 with (refine wpList_storeNew rfl 128 (.tmp 3) (.tmp 6) rfl w2 w2.heap.size rfl rfl S rfl rfl sz74 HSS.out HCSZ.out HON.out ?_)
  have hg0 : w.heap.size < w2.heap.size := Nat.lt_of_lt_of_le hR.lt hb2.size
  have hB : Blk (w2.alloc (.cells S 128)) w2.heap.size 128 S := Blk.new _ _ _
  have hR3 : Blk (w2.alloc (.cells S 128)) w.heap.size 53 (cells8 (List.replicate 32 0)) := (hR.below hb2 hR.lt).alloc _
  have hb3 : Below w.heap.size w (w2.alloc (.cells S 128)) := (hb.trans (hb2.mono hb.size)).alloc (by omega) _
  have hG3 : Glob (w2.alloc (.cells S 128)) := (HG1.out.below hb2).alloc _
  generalize w2.alloc (.cells S 128) = w3 at *
  generalize w2.heap.size = g at *
  rw [← HSE.out] at hB
  have hA := start_post (by rfl) hB
  have HR3 := Lib.hid hR3
  have HB3 := Lib.hid hb3
  have HG3 := Lib.hid hG3
  have HG2 := Lib.hid (Nat.le_trans HG.out.two (Nat.le_of_lt hg0))
  have hg3 := hB.lt
  clear hB hR hb hb2 hR3 hb3 hG3 hz HCSZ HSS HON HSE HG1
  go_wp2_with fail
  go_loopw [5, 9] (fun _ i wr => ∃ k : Nat, k ≤ l.length ∧ i = .int .i64 k ∧ AddPost (h0Of false) (joinTo l k) g w3 wr) (fun _ i _ => l.length - (intOf i).toNat)
  case atStart => exact ⟨0, by omega, rfl, hA⟩
  case round =>
    clear hA
    obtain ⟨k, hk, rfl, hA⟩ := hrel
    have HA := Lib.hid hA
    clear hA
    by_cases hlt : k < l.length
    · have hlt' : (k : Int) < l.length := by omega
      rcases HS.out.grown HB3.out HA.out.gr (Nat.le_of_lt hg0) with ⟨_, h2⟩ | ⟨b, o, c', h1, h2, h3⟩
      · subst h2; simp at hlt
      · injection h1 with h1a _ h1c
        subst h1a h1c
        have hc := h3 k hlt
        clear h3
        have hj := joinTo_le l k
        have hj2 := joinTo_le l (k + 1)
        have HJ := Lib.hid (joinTo_succ l k hlt)
        rw [← HJ.out, List.length_append] at hj2
        generalize l.getD k [] = s at *
        unfold tx at hc
        go_wp2_with fail
        refine (add_any g (h0Of false) (joinTo l k) s wr (HG3.out.grown HA.out.gr HG2.out) HG2.out HA.out.here (by omega)).mono ?_
        rintro e w4 ⟨rfl, hA4⟩
        have HA4 := Lib.hid (HA.out.join hA4)
        rw [HJ.out] at HA4
        clear hA4
        go_wp2_with fail
        go_roundw
        case rel => exact ⟨k + 1, by omega, by go_num, HA4.out⟩
        case measure => simp [intOf]; omega
    · obtain rfl : k = l.length := by omega
      rw [joinTo_all] at HA
      go_wp2_with fail
      refine (end_any g (h0Of false) l.flatten wr (HG3.out.grown HA.out.gr HG2.out) HG2.out HA.out.here (by omega)).mono ?_
      rintro e w4 ⟨rfl, hg4⟩
      have hR4 := (HR3.out.grown HA.out.gr (by simp; omega)).grown hg4 (by simp; omega)
      have hb4 := below_grown (below_grown HB3.out HA.out.gr (Nat.le_of_lt hg0) HB3.out.size) hg4 (Nat.le_of_lt hg0) (Nat.le_trans HB3.out.size HA.out.gr.size)
      have HL : Hid ((cells8 (outD (blake (h0Of false) l.flatten) 32)).size = 32) := Lib.hid (by rw [cells8_size, outD_len])
      have HZ : Hid ((cells8 (List.replicate 32 0)).size = 32) := Lib.hid (by rw [cells8_size, List.length_replicate])
      obtain ⟨D, hD⟩ : ∃ D, outD (blake (h0Of false) l.flatten) 32 = D := ⟨_, rfl⟩
      rw [hD] at HL
      have HD := Lib.hid hD
      rw [hD]
      clear hD
      go_wp2_with (refine wpList_storeB rfl 53 (.tmp 2) (.tmp 16) rfl w.heap.size (cells8 D) rfl rfl hR4 sz32d HL.out HZ.out (cells8_one _) ?_)
      refine bodyPost_ret (results_B rfl _ (g := w.heap.size) rfl (hR4.row _) Tryd.underlying53 rfl sz32d HL.out) rfl ⟨by rw [← HD.out]; rfl, below_row hb4 (Nat.le_refl _) _⟩
end Go.Proofs.YtdjjiblijbjobaaDoor
