/- share.Split's error; the walks of the reference's Right, At and Join (layer 6). Printed by gen_key6.py. -/
import Derived.Test.YtconhhhggckcbaaDoorFld3
import Derived.Test.YtconhhhggckcbaaDoorShr3
import Derived.Test.YtconhhhggckcbaaDoorShQ
import Derived.Test.YtconhhhggckcbaaDoorShr1
namespace Go.Proofs.YtconhhhggckcbaaDoor
open Go.RowKit

set_option maxRecDepth 100000 in
set_option maxHeartbeats 1000000 in
theorem splitE_any (k no : List UInt8) (w : World) (_hLk : k.length = 32) (hno : no.length ≠ 64) : Calls Tryd.prog 38 #[.agg (cells8 k), .int .i64 5, .string ⟨no.toArray⟩] w fun e w' => e = .returned (.tuple #[.slice none 0 0, .int .i64 1]) ∧ Below w.heap.size w w' := by
  refine walk_enter Tryd.func38 rfl rfl rfl fun a0 F0 => ?_
  have M0 := Mem.new w
  refine wsl ?_
  refine sqNew (cs := (cells8 k)) (t := 23) F0 M0 (wantedS rfl) (run_box rfl (F0.ev 0 rfl)) rfl (by decide) fun g0 a1 w1 hgg0 hb1 F1 M1 => ?_
  refine sr (v := (.slice none 0 0)) F1 (run_as rfl rfl) rfl rfl rfl fun a2 F2 => ?_
  refine sr (v := (.int .i64 0)) F2 (run_as rfl rfl) rfl rfl rfl fun a3 F3 => ?_
  refine sn ?_
  clear F0 F1 F2 M0
  refine wp_seq ?_
  refine wsl ?_
  refine mvS F3 rfl rfl rfl rfl rfl fun a4 F4 => ?_
  refine sr (v := (.bool false)) F4 (run_lss rfl (F4.ev 14 rfl) rfl (decide_eq_false (by omega))) rfl rfl rfl fun a5 F5 => ?_
  refine mvS F5 rfl rfl rfl rfl rfl fun a6 F6 => ?_
  refine sq (v := (.int .i64 5)) F6 (wantedG F6 rfl rfl rfl rfl rfl) (run_mv rfl (F6.ev 1 rfl)) rfl (by decide) fun a7 F7 => ?_
  refine sq (v := (.bool false)) F7 (wantedG F7 rfl rfl rfl rfl rfl) (run_gtr rfl (F7.ev 17 rfl) rfl (decide_eq_false (by omega))) rfl (by decide) fun a8 F8 => ?_
  refine sr (v := (.bool false)) F8 (run_pick rfl (F8.ev 16 rfl) rfl (F8.ev 18 rfl)) rfl rfl rfl fun a9 F9 => ?_
  refine mvS F9 rfl rfl rfl rfl rfl fun a10 F10 => ?_
  refine sq (v := (.string ⟨no.toArray⟩)) F10 (wantedG F10 rfl rfl rfl rfl rfl) (run_mv rfl (F10.ev 2 rfl)) rfl (by decide) fun a11 F11 => ?_
  refine sq (v := (.int .i64 (no.length : Int))) F11 (wantedG F11 rfl rfl rfl rfl rfl) (run_len rfl (F11.ev 21 rfl) rfl Tryd.underlying9) rfl (by decide) fun a12 F12 => ?_
  refine sq (v := (.bool true)) F12 (wantedG F12 rfl rfl rfl rfl rfl) (run_nei rfl (F12.ev 22 rfl) rfl (bne_iff_ne.2 (by omega))) rfl (by decide) fun a13 F13 => ?_
  refine sr (v := (.bool true)) F13 (run_pick rfl (F13.ev 20 rfl) rfl (F13.ev 23 rfl)) rfl rfl rfl fun a14 F14 => ?_
  refine sn ?_
  clear F3 F4 F5 F6 F7 F8 F9 F10 F11 F12 F13
  refine wp_cond_true (F14.ev 24 rfl) ?_
  refine wsl ?_
  refine sr (v := (.slice none 0 0)) F14 (run_as rfl rfl) rfl rfl rfl fun a15 F15 => ?_
  refine sr (v := (.int .i64 1)) F15 (run_as rfl rfl) rfl rfl rfl fun a16 F16 => ?_
  refine sn ?_
  clear F14 F15
  refine wp_ret ?_
  refine nxRet ?_
  exact ret2 F16 rfl rfl rfl ⟨rfl, M1.below⟩
set_option maxRecDepth 100000 in
set_option maxHeartbeats 1000000 in
theorem rrightN_any (l : List Sh) (v : Value) (w : World) (hV : Sl w v 33 l.length (l.flatMap shareC)) (hl : l.length ≠ 3) : Calls Tryd.prog 76 #[v] w fun e w' => e = .returned (.bool false) ∧ Below w.heap.size w w' := by
  refine walk_enter Tryd.func76 rfl rfl rfl fun a0 F0 => ?_
  have M0 := Mem.new w
  refine wsl ?_
  refine sr (v := (.bool false)) F0 (run_as rfl rfl) rfl rfl rfl fun a1 F1 => ?_
  refine sn ?_
  clear F0
  refine wp_seq ?_
  refine wsl ?_
  refine mvS F1 rfl rfl rfl rfl rfl fun a2 F2 => ?_
  refine sr F2 (run_lenS rfl (F2.ev 3 rfl) (hV.below M0.below) rfl Tryd.underlying31) rfl rfl rfl fun a3 F3 => ?_
  refine sr (v := (.bool true)) F3 (run_nei rfl (F3.ev 4 rfl) rfl (bne_iff_ne.2 (by omega))) rfl rfl rfl fun a4 F4 => ?_
  refine sn ?_
  clear F1 F2 F3
  refine wp_cond_true (F4.ev 5 rfl) ?_
  refine wsl ?_
  refine sr (v := (.bool false)) F4 (run_as rfl rfl) rfl rfl rfl fun a5 F5 => ?_
  refine sn ?_
  clear F4
  refine wp_ret ?_
  refine nxRet ?_
  exact ret1 F5 rfl rfl ⟨rfl, M0.below⟩
theorem asksG {P : Program} {l : List Oper} {a0 : Act} {w : World} {KL : List Kd} {i : Nat} {o : Oper} {b : Bool} {j s : Nat} {x : Value} (hg : guardB l o j s true = true) (hdp : depB l i j s = true) (hj : KL.getD j kany = kval (.bool b)) (hi : KL.getD i kany = kval (bif b then x else undef)) (h : b = true → ∀ (a : Act) (W : World), Below w.heap.size w W → Had l a0 a → Dep l KL i a W → (execOp a.eval o).run P W = .ok (.value x) W) : Asks P l a0 (Below w.heap.size w) (kT KL) grows i o := by
  cases b with
  | true => exact asks_mk fun a W hS hh hd => ⟨wanted_of hg (hd.val hdp hj), giv_run (h rfl a W hS hh hd) hi⟩
  | false => exact asks_skip fun a W hS hh hd => ⟨unwanted_of hg (hd.val hdp hj), by unfold kT; rw [hi]; rfl⟩
theorem kC {KL : List Kd} {i : Nat} {b : Bool} {x y : Value} (h : KL.getD i kany = kval (bif b then x else y)) (hb : b = true) : KL.getD i kany = kval x := by rw [h, hb]; rfl
theorem run_pickB {P : Program} {W : World} {a : Act} {o : Oper} {x y z : Operand} {b c : Bool} (ho : o.op = .pick x y z) (hx : a.eval x = .bool b) (hy : a.eval y = (bif b then .bool c else undef)) (hz : a.eval z = .bool false) : (execOp a.eval o).run P W = .ok (.value (.bool (b && c))) W := by
  rw [run_pick ho hx hy hz]
  cases b <;> rfl
theorem join_some (s0 s1 s2 : Sh) : (joinT [s0, s1, s2]).isSome = (((((((s0.x.toNat : Int) != 0) && ((s1.x.toNat : Int) != 0)) && ((s2.x.toNat : Int) != 0)) && ((s0.x.toNat : Int) != (s1.x.toNat : Int))) && ((s0.x.toNat : Int) != (s2.x.toNat : Int))) && ((s1.x.toNat : Int) != (s2.x.toNat : Int))) := by
  have e0 : ∀ x : UInt8, ((x.toNat : Int) != 0) = !decide (x = 0) := fun x => by
    by_cases h : x = 0
    · subst h; rfl
    · have : x.toNat ≠ 0 := fun e => h (UInt8.toNat_inj.1 e)
      rw [decide_eq_false h, bne_iff_ne.2 (by omega)]; rfl
  have e1 : ∀ x y : UInt8, ((x.toNat : Int) != (y.toNat : Int)) = !decide (x = y) := fun x y => by
    by_cases h : x = y
    · subst h; simp
    · have : x.toNat ≠ y.toNat := fun e => h (UInt8.toNat_inj.1 e)
      rw [decide_eq_false h, bne_iff_ne.2 (by omega)]; rfl
  rw [joinT, e0, e0, e0, e1, e1, e1]
  by_cases h : s0.x = 0 ∨ s1.x = 0 ∨ s2.x = 0
  · rw [if_pos h]
    rcases h with h | h | h <;> simp [h]
  · rw [if_neg h]
    simp only [not_or] at h
    by_cases hn : [s0.x, s1.x, s2.x].Nodup
    · rw [if_pos hn]
      simp only [List.nodup_cons, List.mem_cons, List.not_mem_nil, or_false, not_or] at hn
      simp [h.1, h.2.1, h.2.2, hn.1.1, hn.1.2, hn.2.1]
    · rw [if_neg hn]
      simp only [List.nodup_cons, List.mem_cons, List.not_mem_nil, or_false, not_or, not_false_eq_true, List.nodup_nil, and_true] at hn
      by_cases h01 : s0.x = s1.x
      · simp [h01]
      · by_cases h02 : s0.x = s2.x
        · simp [h02]
        · by_cases h12 : s1.x = s2.x
          · simp [h12]
          · exact absurd ⟨⟨h01, h02⟩, h12⟩ hn
set_option maxRecDepth 100000 in
set_option maxHeartbeats 1000000 in
theorem rright3_any (s0 s1 s2 : Sh) (v : Value) (w : World) (hV : Sl w v 33 3 ([s0, s1, s2].flatMap shareC)) : Calls Tryd.prog 76 #[v] w fun e w' => e = .returned (.bool (joinT [s0, s1, s2]).isSome) ∧ Below w.heap.size w w' := by
  rw [join_some]
  obtain ⟨c0, hc0⟩ : ∃ b : Bool, ((s0.x.toNat : Int) != 0) = b := ⟨_, rfl⟩
  obtain ⟨c1, hc1⟩ : ∃ b : Bool, ((s1.x.toNat : Int) != 0) = b := ⟨_, rfl⟩
  obtain ⟨c2, hc2⟩ : ∃ b : Bool, ((s2.x.toNat : Int) != 0) = b := ⟨_, rfl⟩
  obtain ⟨c3, hc3⟩ : ∃ b : Bool, ((s0.x.toNat : Int) != (s1.x.toNat : Int)) = b := ⟨_, rfl⟩
  obtain ⟨c4, hc4⟩ : ∃ b : Bool, ((s0.x.toNat : Int) != (s2.x.toNat : Int)) = b := ⟨_, rfl⟩
  obtain ⟨c5, hc5⟩ : ∃ b : Bool, ((s1.x.toNat : Int) != (s2.x.toNat : Int)) = b := ⟨_, rfl⟩
  rw [hc0, hc1, hc2, hc3, hc4, hc5]
  refine walk_enter Tryd.func76 rfl rfl rfl fun a0 F0 => ?_
  have M0 := Mem.new w
  refine wsl ?_
  refine sr (v := (.bool false)) F0 (run_as rfl rfl) rfl rfl rfl fun a1 F1 => ?_
  refine sn ?_
  clear F0
  refine wp_seq ?_
  refine wsl ?_
  refine mvS F1 rfl rfl rfl rfl rfl fun a2 F2 => ?_
  refine sr F2 (run_lenS rfl (F2.ev 3 rfl) (hV.below M0.below) rfl Tryd.underlying31) rfl rfl rfl fun a3 F3 => ?_
  refine sr (v := (.bool false)) F3 (run_nei rfl (F3.ev 4 rfl) rfl (bne_eq_false_iff_eq.2 (by omega))) rfl rfl rfl fun a4 F4 => ?_
  refine sn ?_
  clear F1 F2 F3
  refine cfs (F4.ev 5 rfl) ?_
  refine wp_seq ?_
  obtain ⟨KL, hKL⟩ : ∃ KL, KL = [kval v, kval (slPtr v (0 * 33)), kval (slPtr v (0 * 33 + 0)), kval (.int .u8 (s0.x.toNat : Int)), kval (.bool c0), kval (.bool c0), kval (bif c0 then v else undef), kval (bif c0 then (slPtr v (1 * 33)) else undef), kval (bif c0 then (slPtr v (1 * 33 + 0)) else undef), kval (bif c0 then (.int .u8 (s1.x.toNat : Int)) else undef), kval (bif c0 then (.bool c1) else undef), kval (.bool (c0 && c1)), kval (.bool (c0 && c1)), kval (bif (c0 && c1) then v else undef), kval (bif (c0 && c1) then (slPtr v (2 * 33)) else undef), kval (bif (c0 && c1) then (slPtr v (2 * 33 + 0)) else undef), kval (bif (c0 && c1) then (.int .u8 (s2.x.toNat : Int)) else undef), kval (bif (c0 && c1) then (.bool c2) else undef), kval (.bool ((c0 && c1) && c2)), kval (.bool ((c0 && c1) && c2)), kval (bif ((c0 && c1) && c2) then v else undef), kval (bif ((c0 && c1) && c2) then (slPtr v (0 * 33)) else undef), kval (bif ((c0 && c1) && c2) then (slPtr v (0 * 33 + 0)) else undef), kval (bif ((c0 && c1) && c2) then (.int .u8 (s0.x.toNat : Int)) else undef), kval (bif ((c0 && c1) && c2) then v else undef), kval (bif ((c0 && c1) && c2) then (slPtr v (1 * 33)) else undef), kval (bif ((c0 && c1) && c2) then (slPtr v (1 * 33 + 0)) else undef), kval (bif ((c0 && c1) && c2) then (.int .u8 (s1.x.toNat : Int)) else undef), kval (bif ((c0 && c1) && c2) then (.bool c3) else undef), kval (.bool (((c0 && c1) && c2) && c3)), kval (.bool (((c0 && c1) && c2) && c3)), kval (bif (((c0 && c1) && c2) && c3) then v else undef), kval (bif (((c0 && c1) && c2) && c3) then (slPtr v (0 * 33)) else undef), kval (bif (((c0 && c1) && c2) && c3) then (slPtr v (0 * 33 + 0)) else undef), kval (bif (((c0 && c1) && c2) && c3) then (.int .u8 (s0.x.toNat : Int)) else undef), kval (bif (((c0 && c1) && c2) && c3) then v else undef), kval (bif (((c0 && c1) && c2) && c3) then (slPtr v (2 * 33)) else undef), kval (bif (((c0 && c1) && c2) && c3) then (slPtr v (2 * 33 + 0)) else undef), kval (bif (((c0 && c1) && c2) && c3) then (.int .u8 (s2.x.toNat : Int)) else undef), kval (bif (((c0 && c1) && c2) && c3) then (.bool c4) else undef), kval (.bool ((((c0 && c1) && c2) && c3) && c4)), kval (.bool ((((c0 && c1) && c2) && c3) && c4)), kval (bif ((((c0 && c1) && c2) && c3) && c4) then v else undef), kval (bif ((((c0 && c1) && c2) && c3) && c4) then (slPtr v (1 * 33)) else undef), kval (bif ((((c0 && c1) && c2) && c3) && c4) then (slPtr v (1 * 33 + 0)) else undef), kval (bif ((((c0 && c1) && c2) && c3) && c4) then (.int .u8 (s1.x.toNat : Int)) else undef), kval (bif ((((c0 && c1) && c2) && c3) && c4) then v else undef), kval (bif ((((c0 && c1) && c2) && c3) && c4) then (slPtr v (2 * 33)) else undef), kval (bif ((((c0 && c1) && c2) && c3) && c4) then (slPtr v (2 * 33 + 0)) else undef), kval (bif ((((c0 && c1) && c2) && c3) && c4) then (.int .u8 (s2.x.toNat : Int)) else undef), kval (bif ((((c0 && c1) && c2) && c3) && c4) then (.bool c5) else undef), kval (.bool (((((c0 && c1) && c2) && c3) && c4) && c5)), kval (.bool (((((c0 && c1) && c2) && c3) && c4) && c5))] := ⟨_, rfl⟩
  have K0 := getK hKL 0
  have K1 := getK hKL 1
  have K2 := getK hKL 2
  have K3 := getK hKL 3
  have K4 := getK hKL 4
  have K5 := getK hKL 5
  have K6 := getK hKL 6
  have K7 := getK hKL 7
  have K8 := getK hKL 8
  have K9 := getK hKL 9
  have K10 := getK hKL 10
  have K11 := getK hKL 11
  have K12 := getK hKL 12
  have K13 := getK hKL 13
  have K14 := getK hKL 14
  have K15 := getK hKL 15
  have K16 := getK hKL 16
  have K17 := getK hKL 17
  have K18 := getK hKL 18
  have K19 := getK hKL 19
  have K20 := getK hKL 20
  have K21 := getK hKL 21
  have K22 := getK hKL 22
  have K23 := getK hKL 23
  have K24 := getK hKL 24
  have K25 := getK hKL 25
  have K26 := getK hKL 26
  have K27 := getK hKL 27
  have K28 := getK hKL 28
  have K29 := getK hKL 29
  have K30 := getK hKL 30
  have K31 := getK hKL 31
  have K32 := getK hKL 32
  have K33 := getK hKL 33
  have K34 := getK hKL 34
  have K35 := getK hKL 35
  have K36 := getK hKL 36
  have K37 := getK hKL 37
  have K38 := getK hKL 38
  have K39 := getK hKL 39
  have K40 := getK hKL 40
  have K41 := getK hKL 41
  have K42 := getK hKL 42
  have K43 := getK hKL 43
  have K44 := getK hKL 44
  have K45 := getK hKL 45
  have K46 := getK hKL 46
  have K47 := getK hKL 47
  have K48 := getK hKL 48
  have K49 := getK hKL 49
  have K50 := getK hKL 50
  have K51 := getK hKL 51
  have K52 := getK hKL 52
  clear hKL
  refine wp_region_kd 58 (by kernel_rfl) (by kernel_rfl) (by kernel_rfl) F4.size KL ?_ ?_
  · refine ⟨?_, ?_, ?_, ?_, ?_, ?_, ?_, ?_, ?_, ?_, ?_, ?_, ?_, ?_, ?_, ?_, ?_, ?_, ?_, ?_, ?_, ?_, ?_, ?_, ?_, ?_, ?_, ?_, ?_, ?_, ?_, ?_, ?_, ?_, ?_, ?_, ?_, ?_, ?_, ?_, ?_, ?_, ?_, ?_, ?_, ?_, ?_, ?_, ?_, ?_, ?_, ?_, ?_, trivial⟩
    · exact asksY rfl fun a W hS hh hd => giv_run (run_mv rfl (eval_tmp (hh 0 _ rfl (F4.at 0 rfl)))) K0
    · exact asksY rfl fun a W hS hh hd => giv_run (run_atP (i := 0) rfl (eval_tmp (hd.vl 0 6 (by kernel_rfl) K0)) rfl rfl (hV.below (M0.grow hS).below) (by omega) eltSh.un (by kernel_rfl)) K1
    · exact asksY rfl fun a W hS hh hd => giv_run (run_fldP (m2 := 1) (s := 0) rfl (eval_tmp (hd.vl 1 7 (by kernel_rfl) K1)) (hV.below (M0.grow hS).below) (by omega) Tryd.underlying54 rfl rfl (by kernel_rfl) (by decide)) K2
    · exact asksY rfl fun a W hS hh hd => giv_run (run_ldP rfl (eval_tmp (hd.vl 2 8 (by kernel_rfl) K2)) (hV.below (M0.grow hS).below) (flat_at shareC_len (rfl : [s0, s1, s2][0]? = some s0) 0 rfl) (by kernel_rfl)) K3
    · exact asksY rfl fun a W hS hh hd => giv_run (run_nei rfl (eval_tmp (hd.vl 3 9 (by kernel_rfl) K3)) rfl hc0) K4
    · exact asksY rfl fun a W hS hh hd => giv_run (run_mv rfl (eval_tmp (hd.vl 4 10 (by kernel_rfl) K4))) K5
    · exact asksG (s := 11) (by kernel_rfl) (by kernel_rfl) K5 K6 fun hb a W hS hh hd => (run_mv rfl (eval_tmp (hh 0 _ rfl (F4.at 0 rfl))))
    · exact asksG (s := 11) (by kernel_rfl) (by kernel_rfl) K5 K7 fun hb a W hS hh hd => (run_atP (i := 1) rfl (eval_tmp (hd.vl 6 12 (by kernel_rfl) (kC K6 hb))) rfl rfl (hV.below (M0.grow hS).below) (by omega) eltSh.un (by kernel_rfl))
    · exact asksG (s := 11) (by kernel_rfl) (by kernel_rfl) K5 K8 fun hb a W hS hh hd => (run_fldP (m2 := 1) (s := 0) rfl (eval_tmp (hd.vl 7 13 (by kernel_rfl) (kC K7 hb))) (hV.below (M0.grow hS).below) (by omega) Tryd.underlying54 rfl rfl (by kernel_rfl) (by decide))
    · exact asksG (s := 11) (by kernel_rfl) (by kernel_rfl) K5 K9 fun hb a W hS hh hd => (run_ldP rfl (eval_tmp (hd.vl 8 14 (by kernel_rfl) (kC K8 hb))) (hV.below (M0.grow hS).below) (flat_at shareC_len (rfl : [s0, s1, s2][1]? = some s1) 0 rfl) (by kernel_rfl))
    · exact asksG (s := 11) (by kernel_rfl) (by kernel_rfl) K5 K10 fun hb a W hS hh hd => (run_nei rfl (eval_tmp (hd.vl 9 15 (by kernel_rfl) (kC K9 hb))) rfl hc1)
    · exact asksY rfl fun a W hS hh hd => giv_run (run_pickB rfl (eval_tmp (hd.vl 5 11 (by kernel_rfl) K5)) (eval_tmp (hd.vl 10 16 (by kernel_rfl) K10)) rfl) K11
    · exact asksY rfl fun a W hS hh hd => giv_run (run_mv rfl (eval_tmp (hd.vl 11 17 (by kernel_rfl) K11))) K12
    · exact asksG (s := 18) (by kernel_rfl) (by kernel_rfl) K12 K13 fun hb a W hS hh hd => (run_mv rfl (eval_tmp (hh 0 _ rfl (F4.at 0 rfl))))
    · exact asksG (s := 18) (by kernel_rfl) (by kernel_rfl) K12 K14 fun hb a W hS hh hd => (run_atP (i := 2) rfl (eval_tmp (hd.vl 13 19 (by kernel_rfl) (kC K13 hb))) rfl rfl (hV.below (M0.grow hS).below) (by omega) eltSh.un (by kernel_rfl))
    · exact asksG (s := 18) (by kernel_rfl) (by kernel_rfl) K12 K15 fun hb a W hS hh hd => (run_fldP (m2 := 1) (s := 0) rfl (eval_tmp (hd.vl 14 20 (by kernel_rfl) (kC K14 hb))) (hV.below (M0.grow hS).below) (by omega) Tryd.underlying54 rfl rfl (by kernel_rfl) (by decide))
    · exact asksG (s := 18) (by kernel_rfl) (by kernel_rfl) K12 K16 fun hb a W hS hh hd => (run_ldP rfl (eval_tmp (hd.vl 15 21 (by kernel_rfl) (kC K15 hb))) (hV.below (M0.grow hS).below) (flat_at shareC_len (rfl : [s0, s1, s2][2]? = some s2) 0 rfl) (by kernel_rfl))
    · exact asksG (s := 18) (by kernel_rfl) (by kernel_rfl) K12 K17 fun hb a W hS hh hd => (run_nei rfl (eval_tmp (hd.vl 16 22 (by kernel_rfl) (kC K16 hb))) rfl hc2)
    · exact asksY rfl fun a W hS hh hd => giv_run (run_pickB rfl (eval_tmp (hd.vl 12 18 (by kernel_rfl) K12)) (eval_tmp (hd.vl 17 23 (by kernel_rfl) K17)) rfl) K18
    · exact asksY rfl fun a W hS hh hd => giv_run (run_mv rfl (eval_tmp (hd.vl 18 24 (by kernel_rfl) K18))) K19
    · exact asksG (s := 25) (by kernel_rfl) (by kernel_rfl) K19 K20 fun hb a W hS hh hd => (run_mv rfl (eval_tmp (hh 0 _ rfl (F4.at 0 rfl))))
    · exact asksG (s := 25) (by kernel_rfl) (by kernel_rfl) K19 K21 fun hb a W hS hh hd => (run_atP (i := 0) rfl (eval_tmp (hd.vl 20 26 (by kernel_rfl) (kC K20 hb))) rfl rfl (hV.below (M0.grow hS).below) (by omega) eltSh.un (by kernel_rfl))
    · exact asksG (s := 25) (by kernel_rfl) (by kernel_rfl) K19 K22 fun hb a W hS hh hd => (run_fldP (m2 := 1) (s := 0) rfl (eval_tmp (hd.vl 21 27 (by kernel_rfl) (kC K21 hb))) (hV.below (M0.grow hS).below) (by omega) Tryd.underlying54 rfl rfl (by kernel_rfl) (by decide))
    · exact asksG (s := 25) (by kernel_rfl) (by kernel_rfl) K19 K23 fun hb a W hS hh hd => (run_ldP rfl (eval_tmp (hd.vl 22 28 (by kernel_rfl) (kC K22 hb))) (hV.below (M0.grow hS).below) (flat_at shareC_len (rfl : [s0, s1, s2][0]? = some s0) 0 rfl) (by kernel_rfl))
    · exact asksG (s := 25) (by kernel_rfl) (by kernel_rfl) K19 K24 fun hb a W hS hh hd => (run_mv rfl (eval_tmp (hh 0 _ rfl (F4.at 0 rfl))))
    · exact asksG (s := 25) (by kernel_rfl) (by kernel_rfl) K19 K25 fun hb a W hS hh hd => (run_atP (i := 1) rfl (eval_tmp (hd.vl 24 30 (by kernel_rfl) (kC K24 hb))) rfl rfl (hV.below (M0.grow hS).below) (by omega) eltSh.un (by kernel_rfl))
    · exact asksG (s := 25) (by kernel_rfl) (by kernel_rfl) K19 K26 fun hb a W hS hh hd => (run_fldP (m2 := 1) (s := 0) rfl (eval_tmp (hd.vl 25 31 (by kernel_rfl) (kC K25 hb))) (hV.below (M0.grow hS).below) (by omega) Tryd.underlying54 rfl rfl (by kernel_rfl) (by decide))
    · exact asksG (s := 25) (by kernel_rfl) (by kernel_rfl) K19 K27 fun hb a W hS hh hd => (run_ldP rfl (eval_tmp (hd.vl 26 32 (by kernel_rfl) (kC K26 hb))) (hV.below (M0.grow hS).below) (flat_at shareC_len (rfl : [s0, s1, s2][1]? = some s1) 0 rfl) (by kernel_rfl))
    · exact asksG (s := 25) (by kernel_rfl) (by kernel_rfl) K19 K28 fun hb a W hS hh hd => (run_nei rfl (eval_tmp (hd.vl 23 29 (by kernel_rfl) (kC K23 hb))) (eval_tmp (hd.vl 27 33 (by kernel_rfl) (kC K27 hb))) hc3)
    · exact asksY rfl fun a W hS hh hd => giv_run (run_pickB rfl (eval_tmp (hd.vl 19 25 (by kernel_rfl) K19)) (eval_tmp (hd.vl 28 34 (by kernel_rfl) K28)) rfl) K29
    · exact asksY rfl fun a W hS hh hd => giv_run (run_mv rfl (eval_tmp (hd.vl 29 35 (by kernel_rfl) K29))) K30
    · exact asksG (s := 36) (by kernel_rfl) (by kernel_rfl) K30 K31 fun hb a W hS hh hd => (run_mv rfl (eval_tmp (hh 0 _ rfl (F4.at 0 rfl))))
    · exact asksG (s := 36) (by kernel_rfl) (by kernel_rfl) K30 K32 fun hb a W hS hh hd => (run_atP (i := 0) rfl (eval_tmp (hd.vl 31 37 (by kernel_rfl) (kC K31 hb))) rfl rfl (hV.below (M0.grow hS).below) (by omega) eltSh.un (by kernel_rfl))
    · exact asksG (s := 36) (by kernel_rfl) (by kernel_rfl) K30 K33 fun hb a W hS hh hd => (run_fldP (m2 := 1) (s := 0) rfl (eval_tmp (hd.vl 32 38 (by kernel_rfl) (kC K32 hb))) (hV.below (M0.grow hS).below) (by omega) Tryd.underlying54 rfl rfl (by kernel_rfl) (by decide))
    · exact asksG (s := 36) (by kernel_rfl) (by kernel_rfl) K30 K34 fun hb a W hS hh hd => (run_ldP rfl (eval_tmp (hd.vl 33 39 (by kernel_rfl) (kC K33 hb))) (hV.below (M0.grow hS).below) (flat_at shareC_len (rfl : [s0, s1, s2][0]? = some s0) 0 rfl) (by kernel_rfl))
    · exact asksG (s := 36) (by kernel_rfl) (by kernel_rfl) K30 K35 fun hb a W hS hh hd => (run_mv rfl (eval_tmp (hh 0 _ rfl (F4.at 0 rfl))))
    · exact asksG (s := 36) (by kernel_rfl) (by kernel_rfl) K30 K36 fun hb a W hS hh hd => (run_atP (i := 2) rfl (eval_tmp (hd.vl 35 41 (by kernel_rfl) (kC K35 hb))) rfl rfl (hV.below (M0.grow hS).below) (by omega) eltSh.un (by kernel_rfl))
    · exact asksG (s := 36) (by kernel_rfl) (by kernel_rfl) K30 K37 fun hb a W hS hh hd => (run_fldP (m2 := 1) (s := 0) rfl (eval_tmp (hd.vl 36 42 (by kernel_rfl) (kC K36 hb))) (hV.below (M0.grow hS).below) (by omega) Tryd.underlying54 rfl rfl (by kernel_rfl) (by decide))
    · exact asksG (s := 36) (by kernel_rfl) (by kernel_rfl) K30 K38 fun hb a W hS hh hd => (run_ldP rfl (eval_tmp (hd.vl 37 43 (by kernel_rfl) (kC K37 hb))) (hV.below (M0.grow hS).below) (flat_at shareC_len (rfl : [s0, s1, s2][2]? = some s2) 0 rfl) (by kernel_rfl))
    · exact asksG (s := 36) (by kernel_rfl) (by kernel_rfl) K30 K39 fun hb a W hS hh hd => (run_nei rfl (eval_tmp (hd.vl 34 40 (by kernel_rfl) (kC K34 hb))) (eval_tmp (hd.vl 38 44 (by kernel_rfl) (kC K38 hb))) hc4)
    · exact asksY rfl fun a W hS hh hd => giv_run (run_pickB rfl (eval_tmp (hd.vl 30 36 (by kernel_rfl) K30)) (eval_tmp (hd.vl 39 45 (by kernel_rfl) K39)) rfl) K40
    · exact asksY rfl fun a W hS hh hd => giv_run (run_mv rfl (eval_tmp (hd.vl 40 46 (by kernel_rfl) K40))) K41
    · exact asksG (s := 47) (by kernel_rfl) (by kernel_rfl) K41 K42 fun hb a W hS hh hd => (run_mv rfl (eval_tmp (hh 0 _ rfl (F4.at 0 rfl))))
    · exact asksG (s := 47) (by kernel_rfl) (by kernel_rfl) K41 K43 fun hb a W hS hh hd => (run_atP (i := 1) rfl (eval_tmp (hd.vl 42 48 (by kernel_rfl) (kC K42 hb))) rfl rfl (hV.below (M0.grow hS).below) (by omega) eltSh.un (by kernel_rfl))
    · exact asksG (s := 47) (by kernel_rfl) (by kernel_rfl) K41 K44 fun hb a W hS hh hd => (run_fldP (m2 := 1) (s := 0) rfl (eval_tmp (hd.vl 43 49 (by kernel_rfl) (kC K43 hb))) (hV.below (M0.grow hS).below) (by omega) Tryd.underlying54 rfl rfl (by kernel_rfl) (by decide))
    · exact asksG (s := 47) (by kernel_rfl) (by kernel_rfl) K41 K45 fun hb a W hS hh hd => (run_ldP rfl (eval_tmp (hd.vl 44 50 (by kernel_rfl) (kC K44 hb))) (hV.below (M0.grow hS).below) (flat_at shareC_len (rfl : [s0, s1, s2][1]? = some s1) 0 rfl) (by kernel_rfl))
    · exact asksG (s := 47) (by kernel_rfl) (by kernel_rfl) K41 K46 fun hb a W hS hh hd => (run_mv rfl (eval_tmp (hh 0 _ rfl (F4.at 0 rfl))))
    · exact asksG (s := 47) (by kernel_rfl) (by kernel_rfl) K41 K47 fun hb a W hS hh hd => (run_atP (i := 2) rfl (eval_tmp (hd.vl 46 52 (by kernel_rfl) (kC K46 hb))) rfl rfl (hV.below (M0.grow hS).below) (by omega) eltSh.un (by kernel_rfl))
    · exact asksG (s := 47) (by kernel_rfl) (by kernel_rfl) K41 K48 fun hb a W hS hh hd => (run_fldP (m2 := 1) (s := 0) rfl (eval_tmp (hd.vl 47 53 (by kernel_rfl) (kC K47 hb))) (hV.below (M0.grow hS).below) (by omega) Tryd.underlying54 rfl rfl (by kernel_rfl) (by decide))
    · exact asksG (s := 47) (by kernel_rfl) (by kernel_rfl) K41 K49 fun hb a W hS hh hd => (run_ldP rfl (eval_tmp (hd.vl 48 54 (by kernel_rfl) (kC K48 hb))) (hV.below (M0.grow hS).below) (flat_at shareC_len (rfl : [s0, s1, s2][2]? = some s2) 0 rfl) (by kernel_rfl))
    · exact asksG (s := 47) (by kernel_rfl) (by kernel_rfl) K41 K50 fun hb a W hS hh hd => (run_nei rfl (eval_tmp (hd.vl 45 51 (by kernel_rfl) (kC K45 hb))) (eval_tmp (hd.vl 49 55 (by kernel_rfl) (kC K49 hb))) hc5)
    · exact asksY rfl fun a W hS hh hd => giv_run (run_pickB rfl (eval_tmp (hd.vl 41 47 (by kernel_rfl) K41)) (eval_tmp (hd.vl 50 56 (by kernel_rfl) K50)) rfl) K51
    · exact asksY rfl fun a W hS hh hd => giv_run (run_as rfl (eval_tmp (hd.vl 51 57 (by kernel_rfl) K51))) K52
  · intro a5 w1 hb1 hK
    have e0 := hK.vl 0 6 (by kernel_rfl) K0
    have e1 := hK.vl 1 7 (by kernel_rfl) K1
    have e2 := hK.vl 2 8 (by kernel_rfl) K2
    have e3 := hK.vl 3 9 (by kernel_rfl) K3
    have e4 := hK.vl 4 10 (by kernel_rfl) K4
    have e5 := hK.vl 5 11 (by kernel_rfl) K5
    have e6 := hK.vl 6 12 (by kernel_rfl) K6
    have e7 := hK.vl 7 13 (by kernel_rfl) K7
    have e8 := hK.vl 8 14 (by kernel_rfl) K8
    have e9 := hK.vl 9 15 (by kernel_rfl) K9
    have e10 := hK.vl 10 16 (by kernel_rfl) K10
    have e11 := hK.vl 11 17 (by kernel_rfl) K11
    have e12 := hK.vl 12 18 (by kernel_rfl) K12
    have e13 := hK.vl 13 19 (by kernel_rfl) K13
    have e14 := hK.vl 14 20 (by kernel_rfl) K14
    have e15 := hK.vl 15 21 (by kernel_rfl) K15
    have e16 := hK.vl 16 22 (by kernel_rfl) K16
    have e17 := hK.vl 17 23 (by kernel_rfl) K17
    have e18 := hK.vl 18 24 (by kernel_rfl) K18
    have e19 := hK.vl 19 25 (by kernel_rfl) K19
    have e20 := hK.vl 20 26 (by kernel_rfl) K20
    have e21 := hK.vl 21 27 (by kernel_rfl) K21
    have e22 := hK.vl 22 28 (by kernel_rfl) K22
    have e23 := hK.vl 23 29 (by kernel_rfl) K23
    have e24 := hK.vl 24 30 (by kernel_rfl) K24
    have e25 := hK.vl 25 31 (by kernel_rfl) K25
    have e26 := hK.vl 26 32 (by kernel_rfl) K26
    have e27 := hK.vl 27 33 (by kernel_rfl) K27
    have e28 := hK.vl 28 34 (by kernel_rfl) K28
    have e29 := hK.vl 29 35 (by kernel_rfl) K29
    have e30 := hK.vl 30 36 (by kernel_rfl) K30
    have e31 := hK.vl 31 37 (by kernel_rfl) K31
    have e32 := hK.vl 32 38 (by kernel_rfl) K32
    have e33 := hK.vl 33 39 (by kernel_rfl) K33
    have e34 := hK.vl 34 40 (by kernel_rfl) K34
    have e35 := hK.vl 35 41 (by kernel_rfl) K35
    have e36 := hK.vl 36 42 (by kernel_rfl) K36
    have e37 := hK.vl 37 43 (by kernel_rfl) K37
    have e38 := hK.vl 38 44 (by kernel_rfl) K38
    have e39 := hK.vl 39 45 (by kernel_rfl) K39
    have e40 := hK.vl 40 46 (by kernel_rfl) K40
    have e41 := hK.vl 41 47 (by kernel_rfl) K41
    have e42 := hK.vl 42 48 (by kernel_rfl) K42
    have e43 := hK.vl 43 49 (by kernel_rfl) K43
    have e44 := hK.vl 44 50 (by kernel_rfl) K44
    have e45 := hK.vl 45 51 (by kernel_rfl) K45
    have e46 := hK.vl 46 52 (by kernel_rfl) K46
    have e47 := hK.vl 47 53 (by kernel_rfl) K47
    have e48 := hK.vl 48 54 (by kernel_rfl) K48
    have e49 := hK.vl 49 55 (by kernel_rfl) K49
    have e50 := hK.vl 50 56 (by kernel_rfl) K50
    have e51 := hK.vl 51 57 (by kernel_rfl) K51
    have e52 := hK.vl 52 2 (by kernel_rfl) K52
    have F5 : Fr a5 58 [(0, v), (2, (.bool (((((c0 && c1) && c2) && c3) && c4) && c5))), (3, v), (4, (.int .i64 3)), (5, (.bool false))] := (hK.fr F4 [_, _, _, _, _, _, _, _, _, _, _, _, _, _, _, _, _, _, _, _, _, _, _, _, _, _, _, _, _, _, _, _, _, _, _, _, _, _, _, _, _, _, _, _, _, _, _, _, _, _, _, _, _] ⟨e0, e1, e2, e3, e4, e5, e6, e7, e8, e9, e10, e11, e12, e13, e14, e15, e16, e17, e18, e19, e20, e21, e22, e23, e24, e25, e26, e27, e28, e29, e30, e31, e32, e33, e34, e35, e36, e37, e38, e39, e40, e41, e42, e43, e44, e45, e46, e47, e48, e49, e50, e51, e52, trivial⟩).sub ⟨rfl, rfl, rfl, rfl, rfl, trivial⟩
    have M1 := M0.grow hb1
    clear hK K0 e0 K1 e1 K2 e2 K3 e3 K4 e4 K5 e5 K6 e6 K7 e7 K8 e8 K9 e9 K10 e10 K11 e11 K12 e12 K13 e13 K14 e14 K15 e15 K16 e16 K17 e17 K18 e18 K19 e19 K20 e20 K21 e21 K22 e22 K23 e23 K24 e24 K25 e25 K26 e26 K27 e27 K28 e28 K29 e29 K30 e30 K31 e31 K32 e32 K33 e33 K34 e34 K35 e35 K36 e36 K37 e37 K38 e38 K39 e39 K40 e40 K41 e41 K42 e42 K43 e43 K44 e44 K45 e45 K46 e46 K47 e47 K48 e48 K49 e49 K50 e50 K51 e51 K52 e52
    clear F4 M0
    refine nx ?_
    refine wp_ret ?_
    exact ret1 F5 rfl rfl ⟨rfl, M1.below⟩
end Go.Proofs.YtconhhhggckcbaaDoor
