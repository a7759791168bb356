/- Laws and walks that many claims share: EpS, EpW, Epo1, Epo2, Epo3, Epo4. -/
import Derived.Test.YtconhhhggckcbaaDoorKyBB
import Derived.Test.YtconhhhggckcbaaDoorOpsB
import Derived.Test.YtconhhhggckcbaaDoorSealB
import Derived.Test.YtconhhhggckcbaaDoorSesQ
/- An epoch of a ring, cell by cell. -/
namespace Go.Proofs.YtconhhhggckcbaaDoor
open Go.RowKit

structure Ep where
  c : List UInt8
  wr : List UInt8
def epL (e : Ep) : List Value := e.c.map cb ++ [.string ⟨e.wr.toArray⟩]
def epC (e : Ep) : Array Value := (epL e).toArray
theorem epC_size {e : Ep} (h : e.c.length = 32) : (epC e).size = 33 := by simp [epC, epL, h]
theorem epC_one (e : Ep) : ((epC e).all fun u => u.oneCell') = true := by
  have h := cells8_one e.c
  simp only [cells8, List.all_toArray] at h
  simp only [epC, epL, List.all_toArray, List.all_append, List.all_cons, List.all_nil, Bool.and_eq_true, Bool.and_true]
  exact ⟨h, rfl⟩
theorem szEp : (Tryd.prog.info? 76).map (·.size) = some 33 := by kernel_rfl
theorem built_ep (c wr : List UInt8) (h : c.length = 32) : Tryd.prog.built 76 [(0, .agg (cells8 c)), (1, .string ⟨wr.toArray⟩)] = some (epC ⟨c, wr⟩) := by
  obtain ⟨a0, a1, a2, a3, a4, a5, a6, a7, a8, a9, b0, b1, b2, b3, b4, b5, b6, b7, b8, b9, c0, c1, c2, c3, c4, c5, c6, c7, c8, c9, d0, d1, rfl⟩ := list32 h
  kernel_rfl
theorem built_ep1 (c : List UInt8) (h : c.length = 32) : Tryd.prog.built 76 [(0, .agg (cells8 c))] = some (epC ⟨c, []⟩) := by
  obtain ⟨a0, a1, a2, a3, a4, a5, a6, a7, a8, a9, b0, b1, b2, b3, b4, b5, b6, b7, b8, b9, c0, c1, c2, c3, c4, c5, c6, c7, c8, c9, d0, d1, rfl⟩ := list32 h
  kernel_rfl
end Go.Proofs.YtconhhhggckcbaaDoor
/- The Wrap of an epoch's block is stored into. -/
namespace Go.Proofs.YtconhhhggckcbaaDoor
open Go.RowKit
variable {D : List Deferred}
section
variable {a : Act} {o : Oper} {w w0 : World} {n s : Nat} {L : List (Nat × Value)} {v : Value} {ops : Array Oper} {rest : List Oper} {Q : Exit → Act → World → Prop} {M : List (Nat × (Obj → Prop))} {x y z : Operand} {g i : Nat}
theorem epC_wrap {c wr : List UInt8} (h : c.length = 32) : (epC ⟨c, wr⟩)[32]? = some (.string ⟨wr.toArray⟩) := by
  simp [epC, epL, h]
end
end Go.Proofs.YtconhhhggckcbaaDoor
/- The walks of keys.checkOf and keys.wrapKey. Printed by gen_key9.py. -/
namespace Go.Proofs.YtconhhhggckcbaaDoor
open Go.RowKit

set_option maxRecDepth 100000 in
set_option maxHeartbeats 1000000 in
theorem kcheck_any (k : List UInt8) (w : World) (HG : Glob w) (hLk : k.length = 32) : Calls Tryd.prog 39 #[.agg (cells8 k)] w fun e w' => e = .returned (.agg (cells8 (keyedS k [99, 104, 101, 99, 107]))) ∧ Below w.heap.size w w' := by
  refine walk_enter Tryd.func39 rfl rfl rfl fun a0 F0 => ?_
  have M0 := Mem.new w
  refine wsl ?_
  refine sqNew (cs := (cells8 k)) (t := 23) F0 M0 (wantedS rfl) (run_box rfl (F0.ev 0 rfl)) rfl (by decide) fun g0 a1 w1 hgg0 hb1 F1 M1 => ?_
  refine sqNew (cs := (cells8 (List.replicate 32 0))) (t := 73) F1 M1 (wantedS rfl) (run_alloc rfl (by kernel_rfl)) rfl (by decide) fun g1 a2 w2 hgg1 hb2 F2 M2 => ?_
  refine sn ?_
  clear F0 F1 M0 M1
  refine wsl ?_
  refine sr F2 (run_ldB rfl (F2.ev 1 rfl) (M2.at 1 rfl) Tryd.underlying23 rfl sz32k (szOf hLk)) rfl rfl rfl fun a3 F3 => ?_
  refine sqStrs [[99, 104, 101, 99, 107]] F3 M2 (wantedS rfl) (run_strs1 rfl rfl) rfl (by decide) fun v2 a4 w3 hsv2 hb3 F4 M3 => ?_
  refine sqC (v := (.agg (cells8 (keyedS k [99, 104, 101, 99, 107])))) F4 M3 (wantedS rfl) (run_call rfl Tryd.func57 (by kernel_rfl) rfl (mapE2 (F4.ev 3 rfl) (F4.ev 4 rfl))) rfl (by decide) (keyed1 k [99, 104, 101, 99, 107] _ w3 hLk (HG.below M3.below) hsv2 (by first | omega | decide | (simp; done) | (simp; omega))) fun a5 w4 hb4 F5 M4 => ?_
  have hS1 := hsv2.below hb4
  refine sqStore (i := 0) F5 M4 rfl rfl rfl (F5.ev 2 rfl) (F5.ev 5 rfl) rfl sz32d (szOf (keyedS_len _ _)) (szOf List.length_replicate) (cells8_one _) fun a6 w5 F6 M5 => ?_
  refine sn ?_
  clear F2 F3 F4 F5 M2 M3 M4
  refine wp_ret ?_
  exact retB F6 rfl rfl (M5.at 0 rfl) Tryd.underlying73 rfl sz32d (szOf (keyedS_len _ _)) ⟨rfl, M5.below⟩
set_option maxRecDepth 100000 in
set_option maxHeartbeats 1000000 in
theorem kwrap_any (k : List UInt8) (w : World) (HG : Glob w) (hLk : k.length = 32) : Calls Tryd.prog 49 #[.agg (cells8 k)] w fun e w' => e = .returned (.agg (cells8 (keyedS k [119, 114, 97, 112]))) ∧ Below w.heap.size w w' := by
  refine walk_enter Tryd.func49 rfl rfl rfl fun a0 F0 => ?_
  have M0 := Mem.new w
  refine wsl ?_
  refine sqNew (cs := (cells8 k)) (t := 23) F0 M0 (wantedS rfl) (run_box rfl (F0.ev 0 rfl)) rfl (by decide) fun g0 a1 w1 hgg0 hb1 F1 M1 => ?_
  refine sqNew (cs := (cells8 (List.replicate 32 0))) (t := 23) F1 M1 (wantedS rfl) (run_alloc rfl (by kernel_rfl)) rfl (by decide) fun g1 a2 w2 hgg1 hb2 F2 M2 => ?_
  refine sn ?_
  clear F0 F1 M0 M1
  refine wsl ?_
  refine sr F2 (run_ldB rfl (F2.ev 1 rfl) (M2.at 1 rfl) Tryd.underlying23 rfl sz32k (szOf hLk)) rfl rfl rfl fun a3 F3 => ?_
  refine sqStrs [[119, 114, 97, 112]] F3 M2 (wantedS rfl) (run_strs1 rfl rfl) rfl (by decide) fun v2 a4 w3 hsv2 hb3 F4 M3 => ?_
  refine sqC (v := (.agg (cells8 (keyedS k [119, 114, 97, 112])))) F4 M3 (wantedS rfl) (run_call rfl Tryd.func57 (by kernel_rfl) rfl (mapE2 (F4.ev 3 rfl) (F4.ev 4 rfl))) rfl (by decide) (keyed1 k [119, 114, 97, 112] _ w3 hLk (HG.below M3.below) hsv2 (by first | omega | decide | (simp; done) | (simp; omega))) fun a5 w4 hb4 F5 M4 => ?_
  have hS1 := hsv2.below hb4
  refine sqStore (i := 0) F5 M4 rfl rfl rfl (F5.ev 2 rfl) (F5.ev 5 rfl) rfl sz32k (szOf (keyedS_len _ _)) (szOf List.length_replicate) (cells8_one _) fun a6 w5 F6 M5 => ?_
  refine sn ?_
  clear F2 F3 F4 F5 M2 M3 M4
  refine wp_ret ?_
  exact retB F6 rfl rfl (M5.at 0 rfl) Tryd.underlying23 rfl sz32k (szOf (keyedS_len _ _)) ⟨rfl, M5.below⟩
end Go.Proofs.YtconhhhggckcbaaDoor
/- The walk of keys.epochOf. Printed by gen_key10.py. -/
namespace Go.Proofs.YtconhhhggckcbaaDoor
open Go.RowKit

/-- an epoch of a key ahead of which another one stands. -/
def wrapS (k a : List UInt8) : List UInt8 := sealS (keyedS k [119, 114, 97, 112]) (nonceS (keyedS k [110, 111, 110, 99, 101])) [114, 105, 110, 103] a
def epS (k a : List UInt8) : Ep := ⟨keyedS k [99, 104, 101, 99, 107], wrapS k a⟩
attribute [local irreducible] sealS keyedS nonceS
set_option maxRecDepth 100000 in
set_option maxHeartbeats 1000000 in
theorem kepoch_any (k ah : List UInt8) (w : World) (HG : Glob w) (hLk : k.length = 32) (hLah : ah.length = 32) : Calls Tryd.prog 44 #[.agg (cells8 k), .agg (cells8 ah)] w fun e w' => e = .returned (.agg (epC (epS k ah))) ∧ Below w.heap.size w w' := by
  refine walk_enter Tryd.func44 rfl rfl rfl fun a0 F0 => ?_
  have M0 := Mem.new w
  refine wsl ?_
  refine sqNew (cs := (cells8 k)) (t := 23) F0 M0 (wantedS rfl) (run_box rfl (F0.ev 0 rfl)) rfl (by decide) fun g0 a1 w1 hgg0 hb1 F1 M1 => ?_
  refine sqNew (cs := (cells8 ah)) (t := 23) F1 M1 (wantedS rfl) (run_box rfl (F1.ev 1 rfl)) rfl (by decide) fun g1 a2 w2 hgg1 hb2 F2 M2 => ?_
  refine sqNew (cs := (epC ⟨List.replicate 32 0, []⟩)) (t := 76) F2 M2 (wantedS rfl) (run_alloc rfl (by kernel_rfl)) rfl (by decide) fun g2 a3 w3 hgg2 hb3 F3 M3 => ?_
  refine sn ?_
  clear F0 F1 F2 M0 M1 M2
  refine wsl ?_
  refine sr F3 (run_ldB rfl (F3.ev 2 rfl) (M3.at 2 rfl) Tryd.underlying23 rfl sz32k (szOf hLk)) rfl rfl rfl fun a4 F4 => ?_
  refine sqStrs [[110, 111, 110, 99, 101]] F4 M3 (wantedS rfl) (run_strs1 rfl rfl) rfl (by decide) fun v3 a5 w4 hsv3 hb4 F5 M4 => ?_
  refine sqC (v := (.agg (cells8 (keyedS k [110, 111, 110, 99, 101])))) F5 M4 (wantedS rfl) (run_call rfl Tryd.func57 (by kernel_rfl) rfl (mapE2 (F5.ev 6 rfl) (F5.ev 7 rfl))) rfl (by decide) (keyed1 k [110, 111, 110, 99, 101] _ w4 hLk (HG.below M4.below) hsv3 (by first | omega | decide | (simp; done) | (simp; omega))) fun a6 w5 hb5 F6 M5 => ?_
  have hS1 := hsv3.below hb5
  refine sqNew (cs := (cells8 (List.replicate 32 0))) (t := 73) F6 M5 (wantedS rfl) (run_alloc rfl (by kernel_rfl)) rfl (by decide) fun g4 a7 w6 hgg4 hb6 F7 M6 => ?_
  have hS2 := hS1.below hb6
  refine sqStore (i := 0) F7 M6 rfl rfl rfl (F7.ev 5 rfl) (F7.ev 8 rfl) rfl sz32d (szOf (keyedS_len _ _)) (szOf List.length_replicate) (cells8_one _) fun a8 w7 F8 M7 => ?_
  refine sn ?_
  clear F3 F4 F5 F6 F7 M3 M4 M5 M6
  refine wp_seq ?_
  obtain ⟨KL, hKL⟩ : ∃ KL, KL = [kval (.agg (cells8 k)), kval (.agg (cells8 (keyedS k [99, 104, 101, 99, 107]))), kval (.agg (cells8 k)), kval (.agg (cells8 (keyedS k [119, 114, 97, 112]))), kval (.slice (some ⟨g4, 0, none⟩) 32 32), kval (.string ⟨(keyedS k [110, 111, 110, 99, 101]).toArray⟩), kval (.agg (cells8 (nonceS (keyedS k [110, 111, 110, 99, 101])))), kval (.slice (some ⟨g1, 0, none⟩) 32 32), kval (.string ⟨ah.toArray⟩), kval (.string ⟨(sealS (keyedS k [119, 114, 97, 112]) (nonceS (keyedS k [110, 111, 110, 99, 101])) [114, 105, 110, 103] ah).toArray⟩), kval (.agg (epC (⟨keyedS k [99, 104, 101, 99, 107], sealS (keyedS k [119, 114, 97, 112]) (nonceS (keyedS k [110, 111, 110, 99, 101])) [114, 105, 110, 103] ah⟩)))] := ⟨_, rfl⟩
  have K0 := getK hKL 0
  have K1 := getK hKL 1
  have K2 := getK hKL 2
  have K3 := getK hKL 3
  have K4 := getK hKL 4
  have K5 := getK hKL 5
  have K6 := getK hKL 6
  have K7 := getK hKL 7
  have K8 := getK hKL 8
  have K9 := getK hKL 9
  have K10 := getK hKL 10
  have HKL : KL.length ≤ 11 := by rw [hKL]; exact Nat.le_refl _
  clear hKL
  refine wp_region_kdTail2 20 11 (by kernel_rfl) (by kernel_rfl) (by kernel_rfl) (by kernel_rfl) F8.size KL HKL ?_ ?_
  · refine ⟨?_, ?_, ?_, ?_, ?_, ?_, ?_, ?_, ?_, ?_, ?_, trivial⟩
    · exact asksHY rfl fun a W hS hh hd => giv_run (run_ldB rfl (eval_tmp (hh 2 _ rfl (F8.at 2 rfl))) ((M7.grow hS).at 3 rfl) Tryd.underlying23 rfl sz32k (szOf hLk)) K0
    · exact asksHY rfl fun a W hS hh hd => giv_call (run_call rfl Tryd.func39 (by kernel_rfl) rfl (mapE1 (eval_tmp (hd.vl 0 9 (by kernel_rfl) K0)))) (kcheck_any k W (HG.below (M7.grow hS).below) hLk) K1
    · exact asksHY rfl fun a W hS hh hd => giv_run (run_ldB rfl (eval_tmp (hh 2 _ rfl (F8.at 2 rfl))) ((M7.grow hS).at 3 rfl) Tryd.underlying23 rfl sz32k (szOf hLk)) K2
    · exact asksHY rfl fun a W hS hh hd => giv_call (run_call rfl Tryd.func49 (by kernel_rfl) rfl (mapE1 (eval_tmp (hd.vl 2 11 (by kernel_rfl) K2)))) (kwrap_any k W (HG.below (M7.grow hS).below) hLk) K3
    · exact asksHY rfl fun a W hS hh hd => giv_run (run_slA rfl (eval_tmp (hh 5 _ rfl (F8.at 5 rfl))) (run_sliceArr_all (P := Tryd.prog) Tryd.underlying73 so8 g4 0 (by decide) _)) K4
    · exact asksHY rfl fun a W hS hh hd => giv_run (run_cv rfl (eval_tmp (hd.vl 4 13 (by kernel_rfl) K4)) (run_strBlk (l := (keyedS k [110, 111, 110, 99, 101])) (keyedS_len _ _) ((M7.grow hS).at 0 rfl))) K5
    · exact asksHY rfl fun a W hS hh hd => giv_call (run_call rfl Tryd.func71 (by kernel_rfl) rfl (mapE1 (eval_tmp (hd.vl 5 14 (by kernel_rfl) K5)))) (snonce_any (keyedS k [110, 111, 110, 99, 101]) W) K6
    · exact asksHY rfl fun a W hS hh hd => giv_run (run_slA rfl (eval_tmp (hh 3 _ rfl (F8.at 3 rfl))) (run_sliceArr_all (P := Tryd.prog) Tryd.underlying23 so8 g1 0 (by decide) _)) K7
    · exact asksHY rfl fun a W hS hh hd => giv_run (run_cv rfl (eval_tmp (hd.vl 7 16 (by kernel_rfl) K7)) (run_strBlk (l := ah) hLah ((M7.grow hS).at 2 rfl))) K8
    · exact asksHY rfl fun a W hS hh hd => giv_call (run_call rfl Tryd.func70 (by kernel_rfl) rfl (mapE4 (eval_tmp (hd.vl 3 12 (by kernel_rfl) K3)) (eval_tmp (hd.vl 6 15 (by kernel_rfl) K6)) rfl (eval_tmp (hd.vl 8 17 (by kernel_rfl) K8)))) (sseal_any (keyedS k [119, 114, 97, 112]) (nonceS (keyedS k [110, 111, 110, 99, 101])) [114, 105, 110, 103] ah W (HG.below (M7.grow hS).below) (keyedS_len _ _) (nonceS_len _) (by first | omega | decide | (simp; done) | (simp; omega))) K9
    · exact asksHY rfl fun a W hS hh hd => giv_run (run_blt (vs := #[(0, .agg (cells8 (keyedS k [99, 104, 101, 99, 107]))), (1, .string ⟨(sealS (keyedS k [119, 114, 97, 112]) (nonceS (keyedS k [110, 111, 110, 99, 101])) [114, 105, 110, 103] ah).toArray⟩)]) (cs := epC ⟨keyedS k [99, 104, 101, 99, 107], sealS (keyedS k [119, 114, 97, 112]) (nonceS (keyedS k [110, 111, 110, 99, 101])) [114, 105, 110, 103] ah⟩) rfl (bltE2 (eval_tmp (hd.vl 1 10 (by kernel_rfl) K1)) (eval_tmp (hd.vl 9 18 (by kernel_rfl) K9))) (built_ep _ _ (keyedS_len _ _))) K10
  · intro a9 w8 hb8 hK
    have e0 := hK.hvl 0 9 rfl (by kernel_rfl) K0
    have e1 := hK.hvl 1 10 rfl (by kernel_rfl) K1
    have e2 := hK.hvl 2 11 rfl (by kernel_rfl) K2
    have e3 := hK.hvl 3 12 rfl (by kernel_rfl) K3
    have e4 := hK.hvl 4 13 rfl (by kernel_rfl) K4
    have e5 := hK.hvl 5 14 rfl (by kernel_rfl) K5
    have e6 := hK.hvl 6 15 rfl (by kernel_rfl) K6
    have e7 := hK.hvl 7 16 rfl (by kernel_rfl) K7
    have e8 := hK.hvl 8 17 rfl (by kernel_rfl) K8
    have e9 := hK.hvl 9 18 rfl (by kernel_rfl) K9
    have e10 := hK.hvl 10 19 rfl (by kernel_rfl) K10
    have F9 : Fr a9 20 [(0, (.agg (cells8 k))), (1, (.agg (cells8 ah))), (2, (.pointer (some ⟨g0, 0, none⟩))), (4, (.pointer (some ⟨g2, 0, none⟩))), (5, (.pointer (some ⟨g4, 0, none⟩))), (6, (.agg (cells8 k))), (7, v3), (8, (.agg (cells8 (keyedS k [110, 111, 110, 99, 101])))), (19, (.agg (epC (⟨keyedS k [99, 104, 101, 99, 107], sealS (keyedS k [119, 114, 97, 112]) (nonceS (keyedS k [110, 111, 110, 99, 101])) [114, 105, 110, 103] ah⟩))))] := (hK.hfr F8 [_, _, _, _, _, _, _, _, _, _, _] ⟨e0, e1, e2, e3, e4, e5, e6, e7, e8, e9, e10, trivial⟩).sub ⟨rfl, rfl, rfl, rfl, rfl, rfl, rfl, rfl, rfl, trivial⟩
    have M8 := M7.grow hb8
    clear hK K0 e0 K1 e1 K2 e2 K3 e3 K4 e4 K5 e5 K6 e6 K7 e7 K8 e8 K9 e9 K10 e10 HKL
    simp only [List.drop_succ_cons, List.drop_zero]
    refine sqStore (i := 1) F9 M8 rfl rfl rfl (F9.ev 4 rfl) (F9.ev 19 rfl) rfl szEp (epC_size (e := ⟨keyedS k [99, 104, 101, 99, 107], sealS (keyedS k [119, 114, 97, 112]) (nonceS (keyedS k [110, 111, 110, 99, 101])) [114, 105, 110, 103] ah⟩) (keyedS_len _ _)) (epC_size (e := ⟨List.replicate 32 0, []⟩) List.length_replicate) (epC_one (⟨keyedS k [99, 104, 101, 99, 107], sealS (keyedS k [119, 114, 97, 112]) (nonceS (keyedS k [110, 111, 110, 99, 101])) [114, 105, 110, 103] ah⟩)) fun a10 w9 F10 M9 => ?_
    refine sn ?_
    clear F8 F9 M7 M8
    refine wp_ret ?_
    exact retB F10 rfl rfl (M9.at 1 rfl) Tryd.underlying76 rfl szEp (epC_size (e := ⟨keyedS k [99, 104, 101, 99, 107], sealS (keyedS k [119, 114, 97, 112]) (nonceS (keyedS k [110, 111, 110, 99, 101])) [114, 105, 110, 103] ah⟩) (keyedS_len _ _)) ⟨rfl, M9.below⟩
end Go.Proofs.YtconhhhggckcbaaDoor
/- The walk of the reference's raw (layer 38). Printed by gen_key11.py. -/
namespace Go.Proofs.YtconhhhggckcbaaDoor
open Go.RowKit

set_option maxRecDepth 100000 in
set_option maxHeartbeats 1000000 in
theorem rraw_any (k : List UInt8) (w : World) (hLk : k.length = 32) : Calls Tryd.prog 61 #[.agg (cells8 k)] w fun e w' => e = .returned (.string ⟨k.toArray⟩) ∧ Below w.heap.size w w' := by
  refine walk_enter Tryd.func61 rfl rfl rfl fun a0 F0 => ?_
  have M0 := Mem.new w
  refine wsl ?_
  refine sqNew (cs := (cells8 k)) (t := 22) F0 M0 (wantedS rfl) (run_box rfl (F0.ev 0 rfl)) rfl (by decide) fun g0 a1 w1 hgg0 hb1 F1 M1 => ?_
  refine sr (v := (.string ⟨List.toArray []⟩)) F1 (run_as rfl rfl) rfl rfl rfl fun a2 F2 => ?_
  refine sn ?_
  clear F0 F1 M0
  refine wsl ?_
  refine sr (v := (.string ⟨List.toArray []⟩)) F2 (run_as rfl rfl) rfl rfl rfl fun a3 F3 => ?_
  refine sn ?_
  clear F2
  refine wp_seq ?_
  refine wsl ?_
  refine sr (v := (.int .i64 0)) F3 (run_as rfl rfl) rfl rfl rfl fun a4 F4 => ?_
  refine sn ?_
  clear F3
  refine wp_block ?_
  refine wkLoop (fun m a0 w2 => ∃ i : Nat, i ≤ 32 ∧ m = 32 - i ∧ Fr a0 17 [(1, .pointer (some ⟨g0, 0, none⟩)), (3, .string ⟨(k.take i).toArray⟩), (4, .int .i64 (i : Int))] ∧ Mem w [(g0, isB 22 (cells8 k))] w2) 32 ⟨0, Nat.zero_le _, rfl, F4.sub ⟨rfl, rfl, rfl, trivial⟩, M1⟩ ?_
  rintro m a0 w1 ⟨i, hi, rfl, F0, M0⟩
  by_cases h1 : i < 32
  · have hst : k.take (i + 1) = k.take i ++ [bt k i] := by rw [List.take_add_one, List.getElem?_eq_getElem (by omega), bt, List.getD_eq_getElem?_getD, List.getElem?_eq_getElem (by omega)]; rfl
    have htl : (k.take i).length ≤ 32 := by rw [List.length_take]; omega
    refine wp_seq ?_
    refine wsl ?_
    refine mvS F0 rfl rfl rfl rfl rfl fun a1 F1 => ?_
    refine sr (v := (.bool true)) F1 (run_lss rfl (F1.ev 5 rfl) rfl (decide_eq_true (by omega))) rfl rfl rfl fun a2 F2 => ?_
    refine sn ?_
    clear F0 F1
    refine cts (F2.ev 6 rfl) ?_
    refine wp_seq ?_
    refine wp_block ?_
    refine wp_region_lit ?_
    refine mvS F2 rfl rfl rfl rfl rfl fun a3 F3 => ?_
    refine mvS F3 rfl rfl rfl rfl rfl fun a4 F4 => ?_
    refine sr (v := (.pointer (some ⟨g0, i, none⟩))) F4 (run_idxA (i := i) (cnt := 32) rfl (F4.ev 1 rfl) (F4.ev 10 rfl) rfl (by omega) Tryd.underlying22 (by kernel_rfl)) rfl rfl rfl fun a5 F5 => ?_
    refine sr (v := (.int .u8 ((bt k i).toNat : Int))) F5 (run_ldF rfl (F5.ev 11 rfl) (M0.at 0 rfl) (cells8_get k i (by omega)) (by kernel_rfl)) rfl rfl rfl fun a6 F6 => ?_
    refine sqBytes [(bt k i)] F6 M0 (wantedS rfl) (run_bytes1 rfl (F6.ev 12 rfl)) rfl (by decide) fun g1 a7 w2 hgg1 hb2 F7 M1 => ?_
    refine sr (v := (.string ⟨List.toArray [(bt k i)]⟩)) F7 (run_cv rfl (F7.ev 13 rfl) (run_strBlk (l := [(bt k i)]) rfl (M1.at 0 rfl))) rfl rfl rfl fun a8 F8 => ?_
    refine sr (v := (.string ⟨((k.take i) ++ [(bt k i)]).toArray⟩)) F8 (run_cat rfl (F8.ev 9 rfl) (F8.ev 14 rfl) (by first | omega | decide | (simp; done) | (simp; omega))) rfl rfl rfl fun a9 F9 => ?_
    refine asS F9 rfl rfl rfl rfl rfl fun a10 F10 => ?_
    refine sqEnd ?_
    clear F2 F3 F4 F5 F6 F7 F8 F9 M0
    refine bkEnd ?_
    refine nx ?_
    refine wp_region_lit ?_
    refine mvS F10 rfl rfl rfl rfl rfl fun a11 F11 => ?_
    refine sr F11 (run_add (r := ((i + 1 : Nat) : Int)) rfl (F11.ev 7 rfl) rfl (by rw [IntKind.wrap_i64]; omega)) rfl rfl rfl fun a12 F12 => ?_
    refine asS F12 rfl rfl rfl rfl rfl fun a13 F13 => ?_
    refine sn ?_
    clear F10 F11 F12
    exact ⟨_, by omega, i + 1, by omega, rfl, by rw [hst]; exact F13.sub ⟨rfl, rfl, rfl, trivial⟩, M1.sub (List.sublist_cons_self _ _)⟩
  · have hie : i = 32 := by omega
    have hres : k.take i = k := List.take_of_length_le (by omega)
    rw [hres] at F0
    refine wp_seq ?_
    refine wsl ?_
    refine mvS F0 rfl rfl rfl rfl rfl fun a1 F1 => ?_
    refine sr (v := (.bool false)) F1 (run_lss rfl (F1.ev 5 rfl) rfl (decide_eq_false (by omega))) rfl rfl rfl fun a2 F2 => ?_
    refine sn ?_
    clear F0 F1
    refine wp_cond_false (F2.ev 6 rfl) ?_
    refine wp_exit ?_
    refine nxExit ?_
    refine nxExit ?_
    refine bkHere ?_
    refine nx ?_
    refine wsl ?_
    refine mvS F2 rfl rfl rfl rfl rfl fun a3 F3 => ?_
    refine asS F3 rfl rfl rfl rfl rfl fun a4 F4 => ?_
    refine sn ?_
    clear F2 F3
    refine wp_ret ?_
    exact ret1 F4 rfl rfl ⟨rfl, M0.below⟩
end Go.Proofs.YtconhhhggckcbaaDoor
/- The walk of the reference's Epoch (layer 38). Printed by gen_key12.py. -/
namespace Go.Proofs.YtconhhhggckcbaaDoor
open Go.RowKit

attribute [local irreducible] sealS keyedS nonceS
end Go.Proofs.YtconhhhggckcbaaDoor
