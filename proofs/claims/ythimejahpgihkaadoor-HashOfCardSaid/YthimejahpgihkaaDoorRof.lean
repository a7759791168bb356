/- The walks of the reference's Of and Hex (layer 2). -/
import Derived.Test.YthimejahpgihkaaDoorOf
namespace Go.Proofs.YthimejahpgihkaaDoor
open Go.RowKit

theorem rhv_yes (c : UInt8) (h : isH c = true) : rhv c = (hvl c : Int) := by unfold rhv; rw [if_pos h]
theorem rhv_no (c : UInt8) (h : isH c = false) : rhv c = -1 := by unfold rhv; rw [h]; rfl
attribute [local go_sem] str_byte str_app
set_option maxRecDepth 100000 in
set_option maxHeartbeats 1000000 in
theorem rof_any (s : List UInt8) (w : World) (_hs : s.length ≤ maxLen) :
    Calls Tryd.prog 18 #[.string ⟨s.toArray⟩] w fun e w' => e = .returned (.tuple #[.agg (cells8 (ofD s)), .bool (ofOk s)]) ∧ Below w.heap.size w w' := by
  unfold maxLen at _hs
  have HZ : Hid ((cells8 (List.replicate 32 0)).size = 32) := Lib.hid (by rw [cells8_size, List.length_replicate])
  have HNO : Hid (ofOk s = false → ofD s = List.replicate 32 0) := Lib.hid (fun h => by unfold ofD; rw [h]; rfl)
  have HYES : Hid (ofOk s = true → ofD s = ofTo s 32) := Lib.hid (fun h => by unfold ofD; rw [h]; rfl)
  go_enter Tryd.func18, Tryd.ntmps18
  go_upto_region 2 with (fail)
  change Code.wp _ _ _ _ ((w.alloc (.cells (cells8 (List.replicate 32 0)) 24)).alloc (.cells (cells8 (ofTo s 0)) 24))
  have hR : ORel w.heap.size (w.heap.size + 1) (ofTo s 0) w ((w.alloc (.cells (cells8 (List.replicate 32 0)) 24)).alloc (.cells (cells8 (ofTo s 0)) 24)) :=
    ⟨(Blk.new _ _ _).alloc _, Blk.newAt _ _ _ (by simp), ((Below.refl _ _).alloc (Nat.le_refl _) _).alloc (by simp) _, by omega⟩
  generalize (w.alloc (.cells (cells8 (List.replicate 32 0)) 24)).alloc (.cells (cells8 (ofTo s 0)) 24) = wa at *
  generalize w.heap.size + 1 = n1 at *
  obtain ⟨n0, hn0⟩ : ∃ n0, w.heap.size = n0 := ⟨_, rfl⟩
  rw [hn0] at hR ⊢
  have HN := Lib.hid hn0
  clear hn0
  by_cases hlen : s.length = 64
  · have hlb : (((s.length : Nat) : Int) != 64) = false := by simp; omega
    have HLEN := Lib.hid hlen
    clear hlen
    go_wp2_with fail
    clear hlb
    go_loopw [5] (fun j wr => ∃ i : Nat, i ≤ 32 ∧ j = .int .i64 i ∧ (∀ t, t < 2 * i → isH (bt s t) = true) ∧ ORel n0 n1 (ofTo s i) w wr) (fun j _ => 32 - (intOf j).toNat)
    case atStart => exact ⟨0, by omega, rfl, fun t ht => by omega, hR⟩
    case round =>
      clear hR
      obtain ⟨i, hi, rfl, hA, hR⟩ := hrel
      have HA := Lib.hid hA
      clear hA
      by_cases hlt : i < 32
      · have hlt' : (i : Int) < 32 := by omega
        have hv0 : 2 * i < s.length := by rw [HLEN.out]; omega
        have hv1 : 2 * i + 1 < s.length := by rw [HLEN.out]; omega
        have HNX : Hid (ofTo s (i + 1) = (ofTo s i).set i (two s i)) := Lib.hid rfl
        have HTW := Lib.hid (two_nat s i)
        have HA2 : Hid (isH (bt s (2 * i)) = true → isH (bt s (2 * i + 1)) = true → ∀ t, t < 2 * (i + 1) → isH (bt s t) = true) := Lib.hid (fun h1 h2 t ht => by
          rcases Nat.lt_or_ge t (2 * i) with h | h
          · exact HA.out t h
          · rcases Nat.lt_or_ge t (2 * i + 1) with h' | h'
            · rwa [show t = 2 * i by omega]
            · rwa [show t = 2 * i + 1 by omega])
        have HBAD : Hid (isH (bt s (2 * i)) = false ∨ isH (bt s (2 * i + 1)) = false → ofOk s = false) := Lib.hid (fun h => by
          cases hk : ofOk s with
          | false => rfl
          | true =>
            have h2 := ((ofOk_iff s).1 hk).2
            rcases h with h | h
            · rw [h2 _ (by omega)] at h; cases h
            · rw [h2 _ (by omega)] at h; cases h)
        have hx1 := hvl_lt (bt s (2 * i))
        have hx2 := hvl_lt (bt s (2 * i + 1))
        generalize two s i = tw at *
        have HC1 := Lib.hid (rhalf2_any (bt s (2 * i)))
        have HC2 := Lib.hid (rhalf2_any (bt s (2 * i + 1)))
        have HY1 := Lib.hid (rhv_yes (bt s (2 * i)))
        have HY2 := Lib.hid (rhv_yes (bt s (2 * i + 1)))
        have HX1 := Lib.hid (rhv_no (bt s (2 * i)))
        have HX2 := Lib.hid (rhv_no (bt s (2 * i + 1)))
        have w0 : IntKind.i64.wrap (2 * (i : Int)) = 2 * (i : Int) := IntWalk.i64_in _ (by omega)
        have w1 : IntKind.i64.wrap (2 * (i : Int) + 1) = 2 * (i : Int) + 1 := IntWalk.i64_in _ (by omega)
        have e0 : (2 * (i : Int)).toNat = 2 * i := by omega
        have e1 : (2 * (i : Int) + 1).toNat = 2 * i + 1 := by omega
        have z0 : 0 ≤ 2 * (i : Int) := by omega
        have z1 : 0 ≤ 2 * (i : Int) + 1 := by omega
        have q0 : 2 * (i : Int) < (s.length : Int) := by omega
        have q1 : 2 * (i : Int) + 1 < (s.length : Int) := by omega
        go_wp2
        refine wp_region_still_lit (by kernel_rfl) (by kernel_rfl) ?_
        change wpStill _ _ wr.drew _ _ _
        repeat still_step
        still_call (HC1.out _)
        repeat still_step
        still_call (HC2.out _)
        repeat still_step
        refine wpStill_nil ?_
        change Exit.then _ _ Exit.normal _ wr.drew
        have hR1 := hR.drew
        clear hR w0 w1 e0 e1 z0 z1 q0 q1 hv0 hv1 HYES HC1 HC2
        generalize wr.drew = wy at *
        have cd := (hR1.2.1.cell i).trans (cells8_get _ i (by rw [ofTo_len]; exact hlt))
        have fd := hR1.2.1.frozen i
        generalize isH (bt s (2 * i)) = b1 at *
        generalize isH (bt s (2 * i + 1)) = b2 at *
        generalize hvl (bt s (2 * i)) = x1 at *
        generalize hvl (bt s (2 * i + 1)) = x2 at *
        generalize rhv (bt s (2 * i)) = r1 at *
        generalize rhv (bt s (2 * i + 1)) = r2 at *
        cases b1
        · as_aux_lemma =>
          obtain rfl : r1 = -1 := HX1.out rfl
          have HOK : Hid (ofOk s = false) := Lib.hid (HBAD.out (.inl rfl))
          have HE : Hid (ofD s = List.replicate 32 0) := Lib.hid (HNO.out HOK.out)
          have HBD := Lib.hid build24
          have HB1 := Lib.hid (cells8_one (List.replicate 32 0))
          have HR0 := Lib.hid hR1.1
          obtain ⟨Z, hZ⟩ : ∃ Z, cells8 (List.replicate 32 0) = Z := ⟨_, rfl⟩
          rw [hZ] at HZ HBD HB1 HR0
          have HZE := Lib.hid hZ
          clear hZ
          go_wp2_with (first | (refine wpList_build0 (r := .agg Z) rfl 24 rfl HBD.out ?_) | (refine wpList_storeB rfl 24 (.tmp 2) (.tmp 33) rfl n0 Z rfl rfl HR0.out sz32d HZ.out HZ.out HB1.out ?_))
          refine bodyPost_ret (results_B2 rfl _ (g := n0) rfl (HR0.out.row _) Tryd.underlying24 rfl sz32d HZ.out) rfl ⟨by rw [HE.out, HOK.out, HZE.out]; rfl, by rw [HN.out]; exact below_row hR1.2.2.1 (Nat.le_refl _) _⟩
        · obtain rfl : r1 = (x1 : Int) := HY1.out rfl
          have hn1 : decide ((x1 : Int) < 0) = false := by simp
          cases b2
          · as_aux_lemma =>
            obtain rfl : r2 = -1 := HX2.out rfl
            have HOK : Hid (ofOk s = false) := Lib.hid (HBAD.out (.inr rfl))
            have HE : Hid (ofD s = List.replicate 32 0) := Lib.hid (HNO.out HOK.out)
            have HBD := Lib.hid build24
            have HB1 := Lib.hid (cells8_one (List.replicate 32 0))
            have HR0 := Lib.hid hR1.1
            obtain ⟨Z, hZ⟩ : ∃ Z, cells8 (List.replicate 32 0) = Z := ⟨_, rfl⟩
            rw [hZ] at HZ HBD HB1 HR0
            have HZE := Lib.hid hZ
            clear hZ
            go_wp2_with (first | (refine wpList_build0 (r := .agg Z) rfl 24 rfl HBD.out ?_) | (refine wpList_storeB rfl 24 (.tmp 2) (.tmp 33) rfl n0 Z rfl rfl HR0.out sz32d HZ.out HZ.out HB1.out ?_))
            refine bodyPost_ret (results_B2 rfl _ (g := n0) rfl (HR0.out.row _) Tryd.underlying24 rfl sz32d HZ.out) rfl ⟨by rw [HE.out, HOK.out, HZE.out]; rfl, by rw [HN.out]; exact below_row hR1.2.2.1 (Nat.le_refl _) _⟩
          · as_aux_lemma =>
            obtain rfl : r2 = (x2 : Int) := HY2.out rfl
            have hn2 : decide ((x2 : Int) < 0) = false := by simp
            go_wp2
            go_roundw
            case rel =>
              have e : (16 * (x1 : Int) + (x2 : Int)) = ((16 * x1 + x2 : Nat) : Int) := by omega
              rw [e, ← HTW.out]
              exact ⟨i + 1, by omega, by go_num, HA2.out (by simp) (by simp), by rw [HNX.out]; exact hR1.put i tw⟩
            case measure => simp [intOf]; omega
      · obtain rfl : i = 32 := by omega
        have HOK : Hid (ofOk s = true) := Lib.hid ((ofOk_iff s).2 ⟨HLEN.out, fun t ht => HA.out t (by omega)⟩)
        have HS1 : Hid ((cells8 (ofTo s 32)).size = 32) := Lib.hid (by rw [cells8_size, ofTo_len])
        have HE : Hid (ofD s = ofTo s 32) := Lib.hid (HYES.out HOK.out)
        obtain ⟨D, hD⟩ : ∃ D, ofTo s 32 = D := ⟨_, rfl⟩
        rw [hD] at HS1 HE hR
        clear hD HYES HNO
        go_wp2_with (first | (refine wpList_loadB (cs := cells8 D) rfl 24 (.tmp 4) rfl n1 rfl hR.2.1 Tryd.underlying24 rfl sz32d HS1.out ?_) | (refine wpList_storeB rfl 24 (.tmp 2) (.tmp 41) rfl n0 (cells8 D) rfl rfl hR.1 sz32d HS1.out HZ.out (cells8_one _) ?_))
        refine bodyPost_ret (results_B2 rfl _ (g := n0) rfl (hR.1.row _) Tryd.underlying24 rfl sz32d HS1.out) rfl ⟨by rw [HE.out, HOK.out]; rfl, by rw [HN.out]; exact below_row hR.2.2.1 (Nat.le_refl _) _⟩
  · have hlb : (((s.length : Nat) : Int) != 64) = true := by simp; omega
    have HOK : Hid (ofOk s = false) := Lib.hid (by cases h : ofOk s with | false => rfl | true => exact absurd ((ofOk_iff s).1 h).1 hlen)
    have HE : Hid (ofD s = List.replicate 32 0) := Lib.hid (HNO.out HOK.out)
    have HB1 := Lib.hid (cells8_one (List.replicate 32 0))
    have HR0 := Lib.hid hR.1
    have HR1 : Hid (Blk wa n1 24 (cells8 (List.replicate 32 0))) := Lib.hid hR.2.1
    obtain ⟨Z, hZ⟩ : ∃ Z, cells8 (List.replicate 32 0) = Z := ⟨_, rfl⟩
    rw [hZ] at HZ HB1 HR0 HR1
    have HZE := Lib.hid hZ
    clear hZ
    go_wp2_with (first | (refine wpList_loadB (cs := Z) rfl 24 (.tmp 4) rfl n1 rfl HR1.out Tryd.underlying24 rfl sz32d HZ.out ?_) | (refine wpList_storeB rfl 24 (.tmp 2) (.tmp 11) rfl n0 Z rfl rfl HR0.out sz32d HZ.out HZ.out HB1.out ?_))
    refine bodyPost_ret (results_B2 rfl _ (g := n0) rfl (HR0.out.row _) Tryd.underlying24 rfl sz32d HZ.out) rfl ⟨by rw [HE.out, HOK.out, HZE.out]; rfl, by rw [HN.out]; exact below_row hR.2.2.1 (Nat.le_refl _) _⟩
end Go.Proofs.YthimejahpgihkaaDoor
