/- The walks of the reference's digest, Sum, Keyed and One (layer 2). -/
import Derived.Test.YthimejahpgihkaaDoorRtake
import Derived.Test.YthimejahpgihkaaDoorHold
namespace Go.Proofs.YthimejahpgihkaaDoor
open Go.RowKit

theorem str_app (a b : List UInt8) : ((⟨a.toArray⟩ : ByteArray) ++ (⟨b.toArray⟩ : ByteArray)) = ⟨(a ++ b).toArray⟩ := by
  apply ByteArray.ext
  simp
theorem str_size (a : List UInt8) : (⟨a.toArray⟩ : ByteArray).size = a.length := by show a.toArray.size = _; simp
theorem str_drop (s : List UInt8) (a : Nat) : (⟨s.toArray⟩ : ByteArray).extract a s.length = ⟨(s.drop a).toArray⟩ := by
  rw [Lib.extract_mk, List.take_of_length_le (by rw [List.length_drop]; omega)]
theorem str_mid (s : List UInt8) (a b : Nat) : (⟨s.toArray⟩ : ByteArray).extract a b = ⟨((s.drop a).take (b - a)).toArray⟩ := by
  rw [Lib.extract_mk]
attribute [local go_sem] str_app str_byte

set_option maxRecDepth 100000 in
set_option maxHeartbeats 400000 in
theorem joined_any (l : List (List UInt8)) (v : Value) (w : World) (hS : Strs w v l) (hl : l.flatten.length < 2 ^ 46) (hn : l.length < 2 ^ 60) :
    Calls Tryd.prog 25 #[v] w fun e w' => e = .returned (.string ⟨l.flatten.toArray⟩) ∧ w' = w := by
  obtain ⟨a, c, rfl⟩ := hS.len
  have HS := Lib.hid hS
  clear hS
  go_enter Tryd.func25, Tryd.ntmps25
  go_wp2
  go_loop [3, 4] (fun t i => ∃ k : Nat, k ≤ l.length ∧ i = .int .i64 k ∧ t = .string ⟨(joinTo l k).toArray⟩) (fun _ i => l.length - (intOf i).toNat)
  case atStart => exact ⟨0, by omega, rfl, rfl⟩
  case round =>
    obtain ⟨k, hk, rfl, rfl⟩ := hrel
    by_cases hlt : k < l.length
    · have hlt' : (k : Int) < l.length := by omega
      rcases HS.out with ⟨_, h2⟩ | ⟨b, o, c', h1, h2, h3⟩
      · subst h2; simp at hlt
      · injection h1 with h1a _ h1c
        subst h1a h1c
        have hc := h3 k hlt
        clear h3
        have hj := joinTo_le l k
        have hj2 := joinTo_le l (k + 1)
        have HJ := Lib.hid (joinTo_succ l k hlt)
        rw [← HJ.out, List.length_append] at hj2
        generalize l.getD k [] = s at *
        unfold tx at hc
        generalize joinTo l k = p at *
        go_wp2
        go_round
        case rel => exact ⟨k + 1, by omega, by go_num, by rw [← HJ.out]⟩
        case measure => simp [intOf]; omega
    · obtain rfl : k = l.length := by omega
      rw [joinTo_all]
      go_wp2
      go_ret
      exact ⟨rfl, rfl⟩

theorem fill64 (s : List UInt8) : s ++ List.replicate (64 - s.length) 0 = pad64 s := rfl
theorem full_pos (n q : Nat) (h0 : 64 * q < n ∨ q = 0) (h : n ≤ 64 * q + 64) : full n = q := by unfold full; omega
/-- the world while digests are made. -/
def DRel (n0 n1 : Nat) (h : List Wd) (w wr : World) : Prop := Blk wr n0 42 (cells h) ∧ Blk wr n1 24 (cells8 (List.replicate 32 0)) ∧ Below n0 w wr ∧ n0 < n1
theorem DRel.below {n0 n1 : Nat} {h : List Wd} {w wr w1 : World} (hR : DRel n0 n1 h w wr) (hb : Below wr.heap.size wr w1) : DRel n0 n1 h w w1 := by
  obtain ⟨h1, h2, h3, h4⟩ := hR
  exact ⟨h1.below hb h1.lt, h2.below hb h2.lt, h3.trans (hb.mono (Nat.le_of_lt h1.lt)), h4⟩
theorem DRel.row {n0 n1 : Nat} {h : List Wd} {w wr : World} (hR : DRel n0 n1 h w wr) (h' : List Wd) : DRel n0 n1 h' w (wr.setRow n0 (cells h')) := by
  obtain ⟨h1, h2, h3, h4⟩ := hR
  exact ⟨h1.row _, h2.rowFar (by omega) _, below_row h3 (Nat.le_refl _) _, h4⟩

theorem div256 (x : Wd) (k : Nat) : nm x / 2 ^ (8 * k) / 256 = nm x / 2 ^ (8 * (k + 1)) := by
  have e : (2 : Int) ^ (8 * (k + 1)) = 2 ^ (8 * k) * 256 := by rw [show 8 * (k + 1) = 8 * k + 8 by omega, Int.pow_add]; rfl
  rw [e, Int.ediv_ediv_of_nonneg (Int.le_of_lt (Int.pow_pos (by omega)))]
theorem div_bd (x : Wd) (k : Nat) : 0 ≤ nm x / 2 ^ (8 * k) ∧ nm x / 2 ^ (8 * k) < 4294967296 := by
  have h0 := nm_nonneg x
  have h1 := nm_lt x
  have h2 := Int.ediv_nonneg h0 (Int.le_of_lt (Int.pow_pos (by omega : (0 : Int) < 2) : (0 : Int) < 2 ^ (8 * k)))
  have h3 := Int.ediv_le_self (2 ^ (8 * k)) h0
  omega
set_option maxRecDepth 100000 in
set_option maxHeartbeats 2000000 in
theorem digest_any (h0 : List Wd) (s : List UInt8) (w : World) (hh : h0.length = 8) (hs : s.length < 2 ^ 46) :
    Calls Tryd.prog 24 #[.agg (cells h0), .string ⟨s.toArray⟩] w fun e w' =>
      e = .returned (.agg (cells8 (outD (blake h0 s) 32))) ∧ Below w.heap.size w w' := by
  have HH := Lib.hid hh
  clear hh
  go_enter Tryd.func24, Tryd.ntmps24
  go_upto_region 1 with (fail)
  change Code.wp _ _ _ _ ((w.alloc (.cells (cells h0) 42)).alloc (.cells (cells8 (List.replicate 32 0)) 24))
  have hR0 : DRel w.heap.size (w.heap.size + 1) h0 w ((w.alloc (.cells (cells h0) 42)).alloc (.cells (cells8 (List.replicate 32 0)) 24)) :=
    ⟨(Blk.new _ _ _).alloc _, Blk.newAt _ _ _ (by simp), ((Below.refl _ _).alloc (Nat.le_refl _) _).alloc (by simp) _, by omega⟩
  generalize (w.alloc (.cells (cells h0) 42)).alloc (.cells (cells8 (List.replicate 32 0)) 24) = wa at *
  generalize w.heap.size + 1 = n1 at *
  obtain ⟨n0, hn0⟩ : ∃ n0, w.heap.size = n0 := ⟨_, rfl⟩
  rw [hn0] at hR0 ⊢
  have HN := Lib.hid hn0
  clear hn0
  go_wp2_with fail
  go_loopw [5] (fun t wr => ∃ q : Nat, (64 * q < s.length ∨ q = 0) ∧ t = .int .i64 ((64 * q : Nat) : Int) ∧ DRel n0 n1 (hashTo h0 s q) w wr) (fun t _ => s.length - (intOf t).toNat)
  case atStart => exact ⟨0, .inr rfl, rfl, hR0⟩
  case round =>
    clear hR0
    obtain ⟨q, hq, rfl, hR⟩ := hrel
    have hql : 64 * q ≤ s.length := by omega
    have hwl : (hashTo h0 s q).length = 8 := by rw [hashTo_len]; exact HH.out
    have HSQ : Hid ((cells (hashTo h0 s q)).size = 8) := Lib.hid (by rw [cells_size]; exact hwl)
    have HWL := Lib.hid hwl
    clear hwl
    by_cases hlast : s.length ≤ 64 * q + 64
    · have hlast' : ((s.length : Nat) : Int) ≤ 64 * (q : Int) + 64 := by omega
      have HFQ := Lib.hid (full_pos s.length q hq hlast)
      have HBL : Hid (blake h0 s = compress (hashTo h0 s q) (pad64 (s.drop (64 * q))) s.length true) := Lib.hid (by unfold blake; rw [HFQ.out])
      generalize hashTo h0 s q = hq' at *
      go_upto_region 8 with (fail)
      rw [str_drop]
      have HPL : Hid ((s.drop (64 * q)).length = s.length - 64 * q) := Lib.hid (List.length_drop ..)
      generalize s.drop (64 * q) = p at *
      have hpl : p.length ≤ 64 := by have := HPL.out; omega
      have HDL := Lib.hid hR
      clear hR
      go_loop [8] (fun t => ∃ k : Nat, p.length + k ≤ 64 ∧ t = .string ⟨(p ++ List.replicate k 0).toArray⟩) (fun t => 64 - textLen t)
      case atStart => exact ⟨0, by omega, by simp⟩
      case round =>
        obtain ⟨k, hk, rfl⟩ := hrel
        by_cases hlt : p.length + k < 64
        · have hlt' : ((p.length : Nat) : Int) + (k : Int) < 64 := by omega
          go_wp2
          go_round
          case rel => exact ⟨k + 1, by omega, by rw [List.replicate_succ']; first | done | rfl⟩
          case measure => rw [textLen_mk, textLen_mk]; simp; omega
        · have hlt' : ¬ ((p.length : Nat) : Int) + (k : Int) < 64 := by omega
          obtain rfl : k = 64 - p.length := by omega
          rw [fill64]
          have hB : (pad64 p).length = 64 := by unfold pad64; rw [List.length_append, List.length_replicate]; omega
          generalize pad64 p = B at *
          have HB := Lib.hid hB
          go_upto_region 11 with (fail)
          clear hB
          go_wp2_with (refine wpList_loadB (cs := cells hq') rfl 42 (.tmp 2) rfl n0 rfl HDL.out.1 Tryd.underlying42 rfl sz8 HSQ.out ?_)
          refine (rtake_any hq' B s.length true _ HWL.out HB.out (by omega)).mono ?_
          rintro e w5 ⟨rfl, hb5⟩
          rw [← HBL.out]
          have HR5 := Lib.hid (HDL.out.below hb5)
          clear hb5 HDL
          have HLB : Hid ((blake h0 s).length = 8) := Lib.hid (by rw [HBL.out, compress_len]; exact HWL.out)
          clear HBL
          have HSB : Hid ((cells (blake h0 s)).size = 8) := Lib.hid (by rw [cells_size]; exact HLB.out)
          obtain ⟨H, hH⟩ : ∃ H, blake h0 s = H := ⟨_, rfl⟩
          rw [hH] at HLB HSB ⊢
          have HHE := Lib.hid hH
          clear hH
          go_upto_region 14 with (refine wpList_storeB rfl 42 (.tmp 2) (.tmp 39) rfl n0 (cells H) rfl rfl HR5.out.1 sz8 HSB.out HSQ.out (cells_one _) ?_)
          have HR6 := Lib.hid (HR5.out.row H)
          clear HR5
          generalize w5.setRow n0 (cells H) = w6 at *
          go_wp2_with fail
          change Code.wp _ _ _ _ (w6.alloc (.cells (cells8 (outD H 0)) 24))
          have hR7 := HR6.out.below ((Below.refl _ _).alloc (Nat.le_refl _) (.cells (cells8 (outD H 0)) 24))
          have hD7 : Blk (w6.alloc (.cells (cells8 (outD H 0)) 24)) w6.heap.size 24 (cells8 (outD H 0)) := Blk.new _ _ _
          have hd1 := HR6.out.2.1.lt
          clear HR6
          generalize w6.alloc (.cells (cells8 (outD H 0)) 24) = w7 at *
          generalize w6.heap.size = d at *
          go_loopw [10] (fun j wr => ∃ i : Nat, i ≤ 32 ∧ j = .int .i64 i ∧ DRel n0 n1 H w wr ∧ Blk wr d 24 (cells8 (outD H i))) (fun j _ => 32 - (intOf j).toNat)
          case atStart => exact ⟨0, by omega, rfl, hR7, hD7⟩
          case round =>
            clear hR7 hD7
            obtain ⟨i, hi, rfl, hR, hD⟩ := hrel
            by_cases hlt : i < 32
            · have hlt' : (i : Int) < 32 := by omega
              have ch := (hR.1.cell (i / 4)).trans (cells_get H (i / 4) (by have := HLB.out; omega))
              have h4 : i / 4 < 8 := by omega
              have h4' : (i : Int) / 4 < 8 := by omega
              go_wp2_with fail
              go_loop [11, 12] (fun x j => ∃ k : Nat, k ≤ i % 4 ∧ j = .int .i64 k ∧ x = .int .u32 (nm (gt H (i / 4)) / 2 ^ (8 * k))) (fun _ j => i % 4 - (intOf j).toNat)
              case atStart => exact ⟨0, by omega, rfl, by simp⟩
              case round =>
                obtain ⟨k, hk, rfl, rfl⟩ := hrel
                obtain ⟨b1, b2⟩ := div_bd (gt H (i / 4)) k
                by_cases hlt2 : k < i % 4
                · have hlt2' : (k : Int) < (i : Int) % 4 := by omega
                  have HDV := Lib.hid (div256 (gt H (i / 4)) k)
                  generalize nm (gt H (i / 4)) / 2 ^ (8 * k) = X at *
                  go_wp2
                  go_round
                  case rel => exact ⟨k + 1, by omega, by go_num, by rw [← HDV.out]⟩
                  case measure => simp [intOf]; omega
                · have hlt2' : ¬ (k : Int) < (i : Int) % 4 := by omega
                  obtain rfl : k = i % 4 := by omega
                  have cd := (hD.cell i).trans (cells8_get _ i (by rw [outD_len]; exact hlt))
                  have fd := hD.frozen i
                  have HBY := Lib.hid (byteOf_eq' (gt H (i / 4)) (i % 4))
                  have HNX : Hid (outD H (i + 1) = (outD H i).set i (byteOf (gt H (i / 4)) (i % 4))) := Lib.hid rfl
                  generalize nm (gt H (i / 4)) / 2 ^ (8 * (i % 4)) = X at *
                  clear ch
                  go_wp2
                  go_roundw
                  case rel =>
                    rw [HBY.out]
                    refine ⟨i + 1, by omega, by go_num, ⟨hR.1.far (by have := hR.2.2.2; dsimp only; omega) _, hR.2.1.far (by dsimp only; omega) _, hR.2.2.1.setCell (by have := hR.2.2.2; dsimp only; omega) _, hR.2.2.2⟩, ?_⟩
                    rw [HNX.out, ← cells8_set]
                    exact hD.set_ i _
                  case measure => simp [intOf]; omega
            · obtain rfl : i = 32 := by omega
              have HS1 : Hid ((cells8 (outD H 32)).size = 32) := Lib.hid (by rw [cells8_size, outD_len])
              have HS0 : Hid ((cells8 (List.replicate 32 0)).size = 32) := Lib.hid (by rw [cells8_size, List.length_replicate])
              have HO : Hid (outD (blake h0 s) 32 = outD H 32) := Lib.hid (by rw [HHE.out])
              generalize outD H 32 = D at *
              go_wp2_with (first | (refine wpList_loadB (cs := cells8 D) rfl 24 (.tmp 9) rfl d rfl hD Tryd.underlying24 rfl sz32d HS1.out ?_) | (refine wpList_storeB rfl 24 (.tmp 4) (.tmp 63) rfl n1 (cells8 D) rfl rfl hR.2.1 sz32d HS1.out HS0.out (cells8_one _) ?_))
              refine bodyPost_ret (results_B rfl _ (g := n1) rfl (hR.2.1.row _) Tryd.underlying24 rfl sz32d HS1.out) rfl ⟨by rw [HO.out], by rw [HN.out]; exact below_row hR.2.2.1 (Nat.le_of_lt hR.2.2.2) _⟩
    · have hlast' : ¬ ((s.length : Nat) : Int) ≤ 64 * (q : Int) + 64 := by omega
      have HNX : Hid (hashTo h0 s (q + 1) = compress (hashTo h0 s q) ((s.drop (64 * q)).take 64) (64 * (q + 1)) false) := Lib.hid rfl
      have HBL : Hid (((s.drop (64 * q)).take 64).length = 64) := Lib.hid (by rw [List.length_take, List.length_drop]; omega)
      generalize hashTo h0 s q = hq' at *
      go_upto_region 11 with (fail)
      rw [str_mid, show 64 * q + 64 - 64 * q = 64 by omega]
      generalize (s.drop (64 * q)).take 64 = B at *
      go_wp2_with (refine wpList_loadB (cs := cells hq') rfl 42 (.tmp 2) rfl n0 rfl hR.1 Tryd.underlying42 rfl sz8 HSQ.out ?_)
      rw [show (64 * (q : Int) + 64) = ((64 * (q + 1) : Nat) : Int) by omega]
      refine (rtake_any hq' B (64 * (q + 1)) false _ HWL.out HBL.out (by omega)).mono ?_
      rintro e w5 ⟨rfl, hb5⟩
      rw [← HNX.out]
      have HR5 := Lib.hid (hR.below hb5)
      clear hb5 hR
      have HSB : Hid ((cells (hashTo h0 s (q + 1))).size = 8) := Lib.hid (by rw [cells_size, hashTo_len]; exact HH.out)
      obtain ⟨H, hH⟩ : ∃ H, hashTo h0 s (q + 1) = H := ⟨_, rfl⟩
      rw [hH] at HSB ⊢
      have HHE := Lib.hid hH
      clear hH HNX
      go_wp2_with (refine wpList_storeB rfl 42 (.tmp 2) (.tmp 39) rfl n0 (cells H) rfl rfl HR5.out.1 sz8 HSB.out HSQ.out (cells_one _) ?_)
      go_roundw
      case rel => exact ⟨q + 1, .inl (by omega), rfl, by rw [HHE.out]; exact HR5.out.row H⟩
      case measure => simp [intOf]; omega
end Go.Proofs.YthimejahpgihkaaDoor
