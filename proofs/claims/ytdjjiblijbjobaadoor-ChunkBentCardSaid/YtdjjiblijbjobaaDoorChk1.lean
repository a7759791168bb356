/- The walks of chunks' names, epochs and of Seal, and of the reference's. Printed by gen_chk5.py. -/
import Derived.Test.YtdjjiblijbjobaaDoorKyBB
import Derived.Test.YtdjjiblijbjobaaDoorPutB
import Derived.Test.YtdjjiblijbjobaaDoorHexB
import Derived.Test.YtdjjiblijbjobaaDoorLzTB
import Derived.Test.YtdjjiblijbjobaaDoorLzRB
import Derived.Test.YtdjjiblijbjobaaDoorEqBox
namespace Go.Proofs.YtdjjiblijbjobaaDoor
open Go.RowKit

set_option maxRecDepth 100000 in
set_option maxHeartbeats 1000000 in
theorem cdig_any (K : List (List UInt8)) (v : Value) (d : List UInt8) (w : World) (HG : Glob w) (hV : Sl w v 32 K.length (K.flatMap dgC)) (h32 : ∀ k ∈ K, k.length = 32) (_hd : d.length < 2 ^ 45) : Calls Tryd.prog 35 #[.agg #[v], .string ⟨d.toArray⟩] w fun e w' => e = .returned (.agg (cells8 (digC K d))) ∧ Below w.heap.size w w' := by
  refine walk_enter Tryd.func35 rfl rfl rfl fun a0 F0 => ?_
  have M0 := Mem.new w
  refine wsl ?_
  refine sqNew (cs := #[v]) (t := 31) F0 M0 (wantedS rfl) (run_box rfl (F0.ev 0 rfl)) rfl (by decide) fun g0 a1 w1 hgg0 hb1 F1 M1 => ?_
  refine sqNew (cs := (cells8 (List.replicate 32 0))) (t := 53) F1 M1 (wantedS rfl) (run_alloc rfl (by kernel_rfl)) rfl (by decide) fun g1 a2 w2 hgg1 hb2 F2 M2 => ?_
  refine sn ?_
  clear F0 F1 M0 M1
  refine wsl ?_
  refine sr F2 (run_ldB rfl (F2.ev 2 rfl) (M2.at 1 rfl) Tryd.underlying31 rfl szKy rfl) rfl rfl rfl fun a3 F3 => ?_
  refine sqC (v := (.agg (cells8 (idS K)))) F3 M2 (wantedS rfl) (run_call rfl Tryd.func68 (by kernel_rfl) rfl (mapE1 (F3.ev 5 rfl))) rfl (by decide) (kid_any K v w2 (HG.below M2.below) (hV.below M2.below) h32) fun a4 w3 hb3 F4 M3 => ?_
  refine mvS F4 rfl rfl rfl rfl rfl fun a5 F5 => ?_
  refine sqStrs [d] F5 M3 (wantedS rfl) (run_strs1 rfl (F5.ev 7 rfl)) rfl (by decide) fun v2 a6 w4 hsv2 hb4 F6 M4 => ?_
  refine sqC (v := (.agg (cells8 (keyedS (idS K) d)))) F6 M4 (wantedS rfl) (run_call rfl Tryd.func67 (by kernel_rfl) rfl (mapE2 (F6.ev 6 rfl) (F6.ev 8 rfl))) rfl (by decide) (keyed1 (idS K) d _ w4 (idS_len _) (HG.below M4.below) hsv2 (by first | omega | decide | (simp; done) | (simp; omega))) fun a7 w5 hb5 F7 M5 => ?_
  have hS1 := hsv2.below hb5
  refine sqStore (i := 0) F7 M5 rfl rfl rfl (F7.ev 4 rfl) (F7.ev 9 rfl) rfl sz32d (szOf (keyedS_len _ _)) (szOf List.length_replicate) (cells8_one _) fun a8 w6 F8 M6 => ?_
  refine sn ?_
  clear F2 F3 F4 F5 F6 F7 M2 M3 M4 M5
  refine wp_ret ?_
  exact retB F8 rfl rfl (M6.at 0 rfl) Tryd.underlying53 rfl sz32d (szOf (keyedS_len _ _)) ⟨rfl, M6.below⟩
set_option maxRecDepth 100000 in
set_option maxHeartbeats 1000000 in
theorem cname_any (K : List (List UInt8)) (v : Value) (d : List UInt8) (w : World) (HG : Glob w) (hV : Sl w v 32 K.length (K.flatMap dgC)) (h32 : ∀ k ∈ K, k.length = 32) (_hd : d.length < 2 ^ 45) : Calls Tryd.prog 16 #[.agg #[v], .string ⟨d.toArray⟩] w fun e w' => e = .returned (.string ⟨(nameC K d).toArray⟩) ∧ Below w.heap.size w w' := by
  obtain ⟨N, hN⟩ : ∃ N, nameC K d = N := ⟨_, rfl⟩
  rw [hN]
  refine walk_enter Tryd.func16 rfl rfl rfl fun a0 F0 => ?_
  have M0 := Mem.new w
  refine wsl ?_
  refine sqNew (cs := #[v]) (t := 31) F0 M0 (wantedS rfl) (run_box rfl (F0.ev 0 rfl)) rfl (by decide) fun g0 a1 w1 hgg0 hb1 F1 M1 => ?_
  refine sr (v := (.string ⟨List.toArray []⟩)) F1 (run_as rfl rfl) rfl rfl rfl fun a2 F2 => ?_
  refine sn ?_
  clear F0 F1 M0
  refine wsl ?_
  refine sr F2 (run_ldB rfl (F2.ev 2 rfl) (M1.at 0 rfl) Tryd.underlying31 rfl szKy rfl) rfl rfl rfl fun a3 F3 => ?_
  refine mvS F3 rfl rfl rfl rfl rfl fun a4 F4 => ?_
  refine sqC (v := (.agg (cells8 (digC K d)))) F4 M1 (wantedS rfl) (run_call rfl Tryd.func35 (by kernel_rfl) rfl (mapE2 (F4.ev 5 rfl) (F4.ev 6 rfl))) rfl (by decide) (cdig_any K v d w1 (HG.below M1.below) (hV.below M1.below) h32 (by first | omega | decide | (simp; done) | (simp; omega))) fun a5 w2 hb2 F5 M2 => ?_
  refine sqC (v := (.string ⟨N.toArray⟩)) F5 M2 (wantedS rfl) (run_call rfl Tryd.func34 (by kernel_rfl) rfl (mapE1 (F5.ev 7 rfl))) rfl (by decide) ((by rw [← hN]; exact hex_any (digC K d) w2 (digC_len _ _))) fun a6 w3 hb3 F6 M3 => ?_
  refine asS F6 rfl rfl rfl rfl rfl fun a7 F7 => ?_
  refine sn ?_
  clear F2 F3 F4 F5 F6 M1 M2
  refine wp_ret ?_
  exact ret1 F7 rfl rfl ⟨rfl, M3.below⟩
set_option maxRecDepth 100000 in
set_option maxHeartbeats 1000000 in
theorem cepoch_any (nm x : List UInt8) (w : World) : Calls Tryd.prog 21 #[.agg #[.string ⟨nm.toArray⟩, .string ⟨x.toArray⟩]] w fun e w' => e = .returned (.tuple #[.int .i64 ((epochC x).1 : Int), .int .i64 (epochC x).2]) ∧ Below w.heap.size w w' := by
  by_cases h : x.length < 2
  · have he : epochC x = (0, 4) := by unfold epochC; rw [if_pos h]
    rw [he]
    dsimp only
    refine walk_enter Tryd.func21 rfl rfl rfl fun a0 F0 => ?_
    have M0 := Mem.new w
    refine wsl ?_
    refine sqNew (cs := #[.string ⟨nm.toArray⟩, .string ⟨x.toArray⟩]) (t := 36) F0 M0 (wantedS rfl) (run_box rfl (F0.ev 0 rfl)) rfl (by decide) fun g0 a1 w1 hgg0 hb1 F1 M1 => ?_
    refine sr (v := (.int .i64 0)) F1 (run_as rfl rfl) rfl rfl rfl fun a2 F2 => ?_
    refine sr (v := (.int .i64 0)) F2 (run_as rfl rfl) rfl rfl rfl fun a3 F3 => ?_
    refine sn ?_
    clear F0 F1 F2 M0
    refine wp_seq ?_
    refine wsl ?_
    refine sr F3 (run_fldA (m := 1) (s := 1) rfl (F3.ev 1 rfl) Tryd.underlying36 rfl rfl (by kernel_rfl) (by decide)) rfl rfl rfl fun a4 F4 => ?_
    refine sr (v := (.string ⟨x.toArray⟩)) F4 (run_ldF rfl (F4.ev 4 rfl) (M1.at 0 rfl) rfl (by kernel_rfl)) rfl rfl rfl fun a5 F5 => ?_
    refine sr F5 (run_len rfl (F5.ev 5 rfl) rfl Tryd.underlying9) rfl rfl rfl fun a6 F6 => ?_
    refine sr (v := (.bool true)) F6 (run_lss rfl (F6.ev 6 rfl) rfl (decide_eq_true (by omega))) rfl rfl rfl fun a7 F7 => ?_
    refine sn ?_
    clear F3 F4 F5 F6
    refine wp_cond_true (F7.ev 7 rfl) ?_
    refine wsl ?_
    refine sr (v := (.int .i64 0)) F7 (run_as rfl rfl) rfl rfl rfl fun a8 F8 => ?_
    refine sr (v := (.int .i64 4)) F8 (run_as rfl rfl) rfl rfl rfl fun a9 F9 => ?_
    refine sn ?_
    clear F7 F8
    refine wp_ret ?_
    refine nxRet ?_
    exact ret2 F9 rfl rfl rfl ⟨rfl, M1.below⟩
  · have he : epochC x = (get2 x, 0) := by unfold epochC; rw [if_neg h]
    rw [he]
    dsimp only
    have hg := get2_lt x
    refine walk_enter Tryd.func21 rfl rfl rfl fun a0 F0 => ?_
    have M0 := Mem.new w
    refine wsl ?_
    refine sqNew (cs := #[.string ⟨nm.toArray⟩, .string ⟨x.toArray⟩]) (t := 36) F0 M0 (wantedS rfl) (run_box rfl (F0.ev 0 rfl)) rfl (by decide) fun g0 a1 w1 hgg0 hb1 F1 M1 => ?_
    refine sr (v := (.int .i64 0)) F1 (run_as rfl rfl) rfl rfl rfl fun a2 F2 => ?_
    refine sr (v := (.int .i64 0)) F2 (run_as rfl rfl) rfl rfl rfl fun a3 F3 => ?_
    refine sn ?_
    clear F0 F1 F2 M0
    refine wp_seq ?_
    refine wsl ?_
    refine sr F3 (run_fldA (m := 1) (s := 1) rfl (F3.ev 1 rfl) Tryd.underlying36 rfl rfl (by kernel_rfl) (by decide)) rfl rfl rfl fun a4 F4 => ?_
    refine sr (v := (.string ⟨x.toArray⟩)) F4 (run_ldF rfl (F4.ev 4 rfl) (M1.at 0 rfl) rfl (by kernel_rfl)) rfl rfl rfl fun a5 F5 => ?_
    refine sr F5 (run_len rfl (F5.ev 5 rfl) rfl Tryd.underlying9) rfl rfl rfl fun a6 F6 => ?_
    refine sr (v := (.bool false)) F6 (run_lss rfl (F6.ev 6 rfl) rfl (decide_eq_false (by omega))) rfl rfl rfl fun a7 F7 => ?_
    refine sn ?_
    clear F3 F4 F5 F6
    refine cfs (F7.ev 7 rfl) ?_
    refine wsl ?_
    refine sr F7 (run_fldA (m := 1) (s := 1) rfl (F7.ev 1 rfl) Tryd.underlying36 rfl rfl (by kernel_rfl) (by decide)) rfl rfl rfl fun a8 F8 => ?_
    refine sr (v := (.string ⟨x.toArray⟩)) F8 (run_ldF rfl (F8.ev 8 rfl) (M1.at 0 rfl) rfl (by kernel_rfl)) rfl rfl rfl fun a9 F9 => ?_
    refine sr (v := (.string ⟨(x.take 2).toArray⟩)) F9 (run_sTo (n := 2) rfl (F9.ev 9 rfl) rfl Tryd.underlying9 (by omega) (by omega)) rfl rfl rfl fun a10 F10 => ?_
    refine sqC (v := (.int .u64 (get2 x : Int))) F10 M1 (wantedS rfl) (run_call rfl Tryd.func48 (by kernel_rfl) rfl (mapE1 (F10.ev 10 rfl))) rfl (by decide) (nget_any (x.take 2) w1) fun a11 w2 hb2 F11 M2 => ?_
    refine sr F11 (run_cvI (r := (get2 x : Int)) rfl (F11.ev 11 rfl) Tryd.underlying74 Tryd.underlying3 (by rw [IntKind.wrap_i64]; omega)) rfl rfl rfl fun a12 F12 => ?_
    refine asS F12 rfl rfl rfl rfl rfl fun a13 F13 => ?_
    refine sr (v := (.int .i64 0)) F13 (run_as rfl rfl) rfl rfl rfl fun a14 F14 => ?_
    refine sn ?_
    clear F7 F8 F9 F10 F11 F12 F13 M1
    refine wp_ret ?_
    exact ret2 F14 rfl rfl rfl ⟨rfl, M2.below⟩
set_option maxRecDepth 100000 in
set_option maxHeartbeats 1000000 in
theorem csealK_any (K : List (List UInt8)) (v : Value) (d : List UInt8) (w : World) (HG : Glob w) (hV : Sl w v 32 K.length (K.flatMap dgC)) (h32 : ∀ k ∈ K, k.length = 32) (hKl : K.length ≤ 65536) : Calls Tryd.prog 18 #[.agg #[v], .string ⟨d.toArray⟩] w fun e w' => e = .returned (.tuple #[.agg #[.string ⟨(sealC K d).1.toArray⟩, .string ⟨(sealC K d).2.1.toArray⟩], .int .i64 (sealC K d).2.2]) ∧ Below w.heap.size w w' := by
  by_cases h : 65536 < d.length
  · have hs : sealC K d = ([], [], 6) := by unfold sealC; rw [if_pos h]
    rw [hs]
    dsimp only
    refine walk_enter Tryd.func18 rfl rfl rfl fun a0 F0 => ?_
    have M0 := Mem.new w
    refine wsl ?_
    refine sqNew (cs := #[v]) (t := 31) F0 M0 (wantedS rfl) (run_box rfl (F0.ev 0 rfl)) rfl (by decide) fun g0 a1 w1 hgg0 hb1 F1 M1 => ?_
    refine sqNew (cs := #[.string ⟨List.toArray []⟩, .string ⟨List.toArray []⟩]) (t := 36) F1 M1 (wantedS rfl) (run_alloc rfl (by kernel_rfl)) rfl (by decide) fun g1 a2 w2 hgg1 hb2 F2 M2 => ?_
    refine sr (v := (.int .i64 0)) F2 (run_as rfl rfl) rfl rfl rfl fun a3 F3 => ?_
    refine sn ?_
    clear F0 F1 F2 M0 M1
    refine wp_seq ?_
    refine wsl ?_
    refine mvS F3 rfl rfl rfl rfl rfl fun a4 F4 => ?_
    refine sr F4 (run_len rfl (F4.ev 12 rfl) rfl Tryd.underlying9) rfl rfl rfl fun a5 F5 => ?_
    refine sr (v := (.bool true)) F5 (run_gtr rfl (F5.ev 13 rfl) rfl (decide_eq_true (by omega))) rfl rfl rfl fun a6 F6 => ?_
    refine sn ?_
    clear F3 F4 F5
    refine wp_cond_true (F6.ev 14 rfl) ?_
    refine wsl ?_
    refine sr (v := (.agg #[.string ⟨List.toArray []⟩, .string ⟨List.toArray []⟩])) F6 (run_blt (vs := #[]) (cs := #[.string ⟨List.toArray []⟩, .string ⟨List.toArray []⟩]) rfl (by simp) (by kernel_rfl)) rfl rfl rfl fun a7 F7 => ?_
    refine sqStore (i := 0) F7 M2 rfl rfl rfl (F7.ev 4 rfl) (F7.ev 15 rfl) rfl szBox rfl rfl (arr_one rfl) fun a8 w3 F8 M3 => ?_
    refine sr (v := (.int .i64 6)) F8 (run_as rfl rfl) rfl rfl rfl fun a9 F9 => ?_
    refine sn ?_
    clear F6 F7 F8 M2
    refine wp_ret ?_
    refine nxRet ?_
    exact retBT F9 rfl rfl (M3.at 0 rfl) Tryd.underlying36 rfl szBox rfl rfl ⟨rfl, M3.below⟩
  by_cases hK : K = []
  · have hs : sealC K d = ([], [], 1) := by unfold sealC; rw [if_neg h, if_pos hK]
    have hl0 : K.length = 0 := by rw [hK]; rfl
    have hbox : boxK K (-1) = (List.replicate 32 0, 1) := by unfold boxK; rw [if_pos (.inl (by omega))]
    rw [hs]
    dsimp only
    refine walk_enter Tryd.func18 rfl rfl rfl fun a0 F0 => ?_
    have M0 := Mem.new w
    refine wsl ?_
    refine sqNew (cs := #[v]) (t := 31) F0 M0 (wantedS rfl) (run_box rfl (F0.ev 0 rfl)) rfl (by decide) fun g0 a1 w1 hgg0 hb1 F1 M1 => ?_
    refine sqNew (cs := #[.string ⟨List.toArray []⟩, .string ⟨List.toArray []⟩]) (t := 36) F1 M1 (wantedS rfl) (run_alloc rfl (by kernel_rfl)) rfl (by decide) fun g1 a2 w2 hgg1 hb2 F2 M2 => ?_
    refine sr (v := (.int .i64 0)) F2 (run_as rfl rfl) rfl rfl rfl fun a3 F3 => ?_
    refine sn ?_
    clear F0 F1 F2 M0 M1
    refine wp_seq ?_
    refine wsl ?_
    refine mvS F3 rfl rfl rfl rfl rfl fun a4 F4 => ?_
    refine sr F4 (run_len rfl (F4.ev 12 rfl) rfl Tryd.underlying9) rfl rfl rfl fun a5 F5 => ?_
    refine sr (v := (.bool false)) F5 (run_gtr rfl (F5.ev 13 rfl) rfl (decide_eq_false (by omega))) rfl rfl rfl fun a6 F6 => ?_
    refine sn ?_
    clear F3 F4 F5
    refine cfs (F6.ev 14 rfl) ?_
    refine wsl ?_
    refine sr F6 (run_fldA (m := 1) (s := 0) rfl (F6.ev 2 rfl) Tryd.underlying31 rfl rfl (by kernel_rfl) (by decide)) rfl rfl rfl fun a7 F7 => ?_
    refine sr (v := v) F7 (run_ldF rfl (F7.ev 16 rfl) (M2.at 1 rfl) rfl (by kernel_rfl)) rfl rfl rfl fun a8 F8 => ?_
    refine sr F8 (run_lenS rfl (F8.ev 17 rfl) (hV.below M2.below) rfl Tryd.underlying29) rfl rfl rfl fun a9 F9 => ?_
    refine sr F9 (run_sub (r := (-1)) rfl (F9.ev 18 rfl) rfl (by rw [IntKind.wrap_i64]; omega)) rfl rfl rfl fun a10 F10 => ?_
    refine asS F10 rfl rfl rfl rfl rfl fun a11 F11 => ?_
    refine sn ?_
    clear F6 F7 F8 F9 F10
    refine wsl ?_
    refine sr F11 (run_ldB rfl (F11.ev 2 rfl) (M2.at 1 rfl) Tryd.underlying31 rfl szKy rfl) rfl rfl rfl fun a12 F12 => ?_
    refine mvS F12 rfl rfl rfl rfl rfl fun a13 F13 => ?_
    refine sqC (v := (.tuple #[(.agg (cells8 (List.replicate 32 0))), (.int .i64 1)])) F13 M2 (wantedS rfl) (run_call rfl Tryd.func38 (by kernel_rfl) rfl (mapE2 (F13.ev 21 rfl) (F13.ev 22 rfl))) rfl (by decide) ((by have h := kbox_any K v (-1) w2 (HG.below M2.below) (hV.below M2.below) h32; rw [hbox] at h; exact h)) fun a14 w3 hb3 F14 M3 => ?_
    refine mvS F14 rfl rfl rfl rfl rfl fun a15 F15 => ?_
    refine sr (v := (.agg (cells8 (List.replicate 32 0)))) F15 (run_ext rfl (F15.ev 20 rfl) rfl) rfl rfl rfl fun a16 F16 => ?_
    refine sr (v := (.int .i64 1)) F16 (run_ext rfl (F16.ev 20 rfl) rfl) rfl rfl rfl fun a17 F17 => ?_
    refine sqNew (cs := (cells8 (List.replicate 32 0))) (t := 50) F17 M3 (wantedS rfl) (run_alloc rfl (by kernel_rfl)) rfl (by decide) fun g2 a18 w4 hgg2 hb4 F18 M4 => ?_
    refine sqStore (i := 0) F18 M4 rfl rfl rfl (F18.ev 7 rfl) (F18.ev 24 rfl) rfl szKk (szOf List.length_replicate) (szOf List.length_replicate) (cells8_one _) fun a19 w5 F19 M5 => ?_
    refine asS F19 rfl rfl rfl rfl rfl fun a20 F20 => ?_
    refine sn ?_
    clear F11 F12 F13 F14 F15 F16 F17 F18 F19 M2 M3 M4
    refine wp_seq ?_
    refine wsl ?_
    refine mvS F20 rfl rfl rfl rfl rfl fun a21 F21 => ?_
    refine sr (v := (.bool true)) F21 (run_nei rfl (F21.ev 26 rfl) rfl (bne_iff_ne.2 (by omega))) rfl rfl rfl fun a22 F22 => ?_
    refine sn ?_
    clear F20 F21
    refine wp_cond_true (F22.ev 27 rfl) ?_
    refine wsl ?_
    refine sr (v := (.agg #[.string ⟨List.toArray []⟩, .string ⟨List.toArray []⟩])) F22 (run_blt (vs := #[]) (cs := #[.string ⟨List.toArray []⟩, .string ⟨List.toArray []⟩]) rfl (by simp) (by kernel_rfl)) rfl rfl rfl fun a23 F23 => ?_
    refine mvS F23 rfl rfl rfl rfl rfl fun a24 F24 => ?_
    refine sqStore (i := 1) F24 M5 rfl rfl rfl (F24.ev 4 rfl) (F24.ev 28 rfl) rfl szBox rfl rfl (arr_one rfl) fun a25 w6 F25 M6 => ?_
    refine asS F25 rfl rfl rfl rfl rfl fun a26 F26 => ?_
    refine sn ?_
    clear F22 F23 F24 F25 M5
    refine wp_ret ?_
    refine nxRet ?_
    exact retBT F26 rfl rfl (M6.at 1 rfl) Tryd.underlying36 rfl szBox rfl rfl ⟨rfl, M6.below⟩
  have hl0 : 0 < K.length := List.length_pos_iff.2 hK
  have hs : sealC K d = (nameC K d, dataC K d, 0) := by unfold sealC; rw [if_neg h, if_neg hK]
  rw [hs]
  dsimp only
  have hpl := pack_len d
  obtain ⟨D, hD⟩ : ∃ D, digC K d = D := ⟨_, rfl⟩
  have hLD : D.length = 32 := by rw [← hD]; exact digC_len _ _
  obtain ⟨BK, hBK⟩ : ∃ B, bkeyS K (K.length - 1) = B := ⟨_, rfl⟩
  have hLBK : BK.length = 32 := by rw [← hBK]; exact bkeyS_len _ _
  have hbox : boxK K ((K.length - 1 : Nat) : Int) = (BK, 0) := by unfold boxK; rw [if_neg (by omega), Int.toNat_natCast, hBK]
  obtain ⟨Nm, hNm⟩ : ∃ N, hexS D = N := ⟨_, rfl⟩
  have hNl : Nm.length = 64 := by rw [← hNm, hexS_len, hLD]
  obtain ⟨Pk, hPk⟩ : ∃ Q, packS d = Q := ⟨_, rfl⟩
  rw [hPk] at hpl
  obtain ⟨X, hX⟩ : ∃ X, sealS BK (nonceS D) Nm Pk = X := ⟨_, rfl⟩
  have hXl : X.length = Pk.length + 44 := by rw [← hX]; exact sealS_len _ _ _ _ (nonceS_len _)
  have hn : nameC K d = Nm := by unfold nameC; rw [hD, hNm]
  have hdt : dataC K d = put2 (K.length - 1) ++ X := by unfold dataC sealB; rw [hBK, hD, hn, hPk, hX]
  have hp2 := put2_len (K.length - 1)
  rw [hn, hdt]
  refine walk_enter Tryd.func18 rfl rfl rfl fun a0 F0 => ?_
  have M0 := Mem.new w
  refine wsl ?_
  refine sqNew (cs := #[v]) (t := 31) F0 M0 (wantedS rfl) (run_box rfl (F0.ev 0 rfl)) rfl (by decide) fun g0 a1 w1 hgg0 hb1 F1 M1 => ?_
  refine sqNew (cs := #[.string ⟨List.toArray []⟩, .string ⟨List.toArray []⟩]) (t := 36) F1 M1 (wantedS rfl) (run_alloc rfl (by kernel_rfl)) rfl (by decide) fun g1 a2 w2 hgg1 hb2 F2 M2 => ?_
  refine sr (v := (.int .i64 0)) F2 (run_as rfl rfl) rfl rfl rfl fun a3 F3 => ?_
  refine sn ?_
  clear F0 F1 F2 M0 M1
  refine wp_seq ?_
  refine wsl ?_
  refine mvS F3 rfl rfl rfl rfl rfl fun a4 F4 => ?_
  refine sr F4 (run_len rfl (F4.ev 12 rfl) rfl Tryd.underlying9) rfl rfl rfl fun a5 F5 => ?_
  refine sr (v := (.bool false)) F5 (run_gtr rfl (F5.ev 13 rfl) rfl (decide_eq_false (by omega))) rfl rfl rfl fun a6 F6 => ?_
  refine sn ?_
  clear F3 F4 F5
  refine cfs (F6.ev 14 rfl) ?_
  refine wsl ?_
  refine sr F6 (run_fldA (m := 1) (s := 0) rfl (F6.ev 2 rfl) Tryd.underlying31 rfl rfl (by kernel_rfl) (by decide)) rfl rfl rfl fun a7 F7 => ?_
  refine sr (v := v) F7 (run_ldF rfl (F7.ev 16 rfl) (M2.at 1 rfl) rfl (by kernel_rfl)) rfl rfl rfl fun a8 F8 => ?_
  refine sr F8 (run_lenS rfl (F8.ev 17 rfl) (hV.below M2.below) rfl Tryd.underlying29) rfl rfl rfl fun a9 F9 => ?_
  refine sr F9 (run_sub (r := ((K.length - 1 : Nat) : Int)) rfl (F9.ev 18 rfl) rfl (by rw [IntKind.wrap_i64]; omega)) rfl rfl rfl fun a10 F10 => ?_
  refine asS F10 rfl rfl rfl rfl rfl fun a11 F11 => ?_
  refine sn ?_
  clear F6 F7 F8 F9 F10
  refine wsl ?_
  refine sr F11 (run_ldB rfl (F11.ev 2 rfl) (M2.at 1 rfl) Tryd.underlying31 rfl szKy rfl) rfl rfl rfl fun a12 F12 => ?_
  refine mvS F12 rfl rfl rfl rfl rfl fun a13 F13 => ?_
  refine sqC (v := (.tuple #[(.agg (cells8 BK)), (.int .i64 0)])) F13 M2 (wantedS rfl) (run_call rfl Tryd.func38 (by kernel_rfl) rfl (mapE2 (F13.ev 21 rfl) (F13.ev 22 rfl))) rfl (by decide) ((by have h := kbox_any K v ((K.length - 1 : Nat) : Int) w2 (HG.below M2.below) (hV.below M2.below) h32; rw [hbox] at h; exact h)) fun a14 w3 hb3 F14 M3 => ?_
  refine mvS F14 rfl rfl rfl rfl rfl fun a15 F15 => ?_
  refine sr (v := (.agg (cells8 BK))) F15 (run_ext rfl (F15.ev 20 rfl) rfl) rfl rfl rfl fun a16 F16 => ?_
  refine sr (v := (.int .i64 0)) F16 (run_ext rfl (F16.ev 20 rfl) rfl) rfl rfl rfl fun a17 F17 => ?_
  refine sqNew (cs := (cells8 (List.replicate 32 0))) (t := 50) F17 M3 (wantedS rfl) (run_alloc rfl (by kernel_rfl)) rfl (by decide) fun g2 a18 w4 hgg2 hb4 F18 M4 => ?_
  refine sqStore (i := 0) F18 M4 rfl rfl rfl (F18.ev 7 rfl) (F18.ev 24 rfl) rfl szKk (szOf hLBK) (szOf List.length_replicate) (cells8_one _) fun a19 w5 F19 M5 => ?_
  refine asS F19 rfl rfl rfl rfl rfl fun a20 F20 => ?_
  refine sn ?_
  clear F11 F12 F13 F14 F15 F16 F17 F18 F19 M2 M3 M4
  refine wp_seq ?_
  refine wsl ?_
  refine mvS F20 rfl rfl rfl rfl rfl fun a21 F21 => ?_
  refine sr (v := (.bool false)) F21 (run_nei rfl (F21.ev 26 rfl) rfl (bne_eq_false_iff_eq.2 (by omega))) rfl rfl rfl fun a22 F22 => ?_
  refine sn ?_
  clear F20 F21
  refine cfs (F22.ev 27 rfl) ?_
  refine wsl ?_
  refine sr F22 (run_ldB rfl (F22.ev 2 rfl) (M5.at 2 rfl) Tryd.underlying31 rfl szKy rfl) rfl rfl rfl fun a23 F23 => ?_
  refine mvS F23 rfl rfl rfl rfl rfl fun a24 F24 => ?_
  refine sqC (v := (.agg (cells8 D))) F24 M5 (wantedS rfl) (run_call rfl Tryd.func35 (by kernel_rfl) rfl (mapE2 (F24.ev 30 rfl) (F24.ev 31 rfl))) rfl (by decide) ((by rw [← hD]; exact cdig_any K v d w5 (HG.below M5.below) (hV.below M5.below) h32 (by omega))) fun a25 w6 hb6 F25 M6 => ?_
  refine sqNew (cs := (cells8 (List.replicate 32 0))) (t := 53) F25 M6 (wantedS rfl) (run_alloc rfl (by kernel_rfl)) rfl (by decide) fun g3 a26 w7 hgg3 hb7 F26 M7 => ?_
  refine sqStore (i := 0) F26 M7 rfl rfl rfl (F26.ev 9 rfl) (F26.ev 32 rfl) rfl sz32d (szOf hLD) (szOf List.length_replicate) (cells8_one _) fun a27 w8 F27 M8 => ?_
  refine sn ?_
  clear F22 F23 F24 F25 F26 M5 M6 M7
  refine wsl ?_
  refine sr F27 (run_ldB rfl (F27.ev 9 rfl) (M8.at 0 rfl) Tryd.underlying53 rfl sz32d (szOf hLD)) rfl rfl rfl fun a28 F28 => ?_
  refine sqC (v := (.string ⟨Nm.toArray⟩)) F28 M8 (wantedS rfl) (run_call rfl Tryd.func34 (by kernel_rfl) rfl (mapE1 (F28.ev 33 rfl))) rfl (by decide) ((by rw [← hNm]; exact hex_any D w8 hLD)) fun a29 w9 hb9 F29 M9 => ?_
  refine asS F29 rfl rfl rfl rfl rfl fun a30 F30 => ?_
  refine sn ?_
  clear F27 F28 F29 M8
  refine wp_seq ?_
  obtain ⟨KL, hKL⟩ : ∃ KL, KL = [kval (.agg (cells8 BK)), kval (.slice (some ⟨g3, 0, none⟩) 32 32), kval (.string ⟨D.toArray⟩), kval (.agg (cells8 (nonceS D))), kval (.string ⟨Nm.toArray⟩), kval (.string ⟨d.toArray⟩), kval (.string ⟨Pk.toArray⟩), kval (.string ⟨X.toArray⟩), kval (.string ⟨X.toArray⟩)] := ⟨_, rfl⟩
  have K0 := getK hKL 0
  have K1 := getK hKL 1
  have K2 := getK hKL 2
  have K3 := getK hKL 3
  have K4 := getK hKL 4
  have K5 := getK hKL 5
  have K6 := getK hKL 6
  have K7 := getK hKL 7
  have K8 := getK hKL 8
  clear hKL
  refine wp_region_kd 50 (by kernel_rfl) (by kernel_rfl) (by kernel_rfl) F30.size KL ?_ ?_
  · refine ⟨?_, ?_, ?_, ?_, ?_, ?_, ?_, ?_, ?_, trivial⟩
    · exact asksY rfl fun a W hS hh hd => giv_run (run_ldB rfl (eval_tmp (hh 7 _ rfl (F30.at 7 rfl))) ((M9.grow hS).at 1 rfl) Tryd.underlying50 rfl szKk (szOf hLBK)) K0
    · exact asksY rfl fun a W hS hh hd => giv_run (run_slA rfl (eval_tmp (hh 9 _ rfl (F30.at 9 rfl))) (run_sliceArr_all (P := Tryd.prog) Tryd.underlying53 so8 g3 0 (by decide) _)) K1
    · exact asksY rfl fun a W hS hh hd => giv_run (run_cv rfl (eval_tmp (hd.vl 1 36 (by kernel_rfl) K1)) (run_strBlk (l := D) hLD ((M9.grow hS).at 0 rfl))) K2
    · exact asksY rfl fun a W hS hh hd => giv_call (run_call rfl Tryd.func40 (by kernel_rfl) rfl (mapE1 (eval_tmp (hd.vl 2 37 (by kernel_rfl) K2)))) (snonce_any D W) K3
    · exact asksY rfl fun a W hS hh hd => giv_run (run_mv rfl (eval_tmp (hh 10 _ rfl (F30.at 10 rfl)))) K4
    · exact asksY rfl fun a W hS hh hd => giv_run (run_mv rfl (eval_tmp (hh 1 _ rfl (F30.at 1 rfl)))) K5
    · exact asksY rfl fun a W hS hh hd => giv_call (run_call rfl Tryd.func41 (by kernel_rfl) rfl (mapE1 (eval_tmp (hd.vl 5 40 (by kernel_rfl) K5)))) ((by rw [← hPk]; exact zpack_any d W (by omega))) K6
    · exact asksY rfl fun a W hS hh hd => giv_call (run_call rfl Tryd.func39 (by kernel_rfl) rfl (mapE4 (eval_tmp (hd.vl 0 35 (by kernel_rfl) K0)) (eval_tmp (hd.vl 3 38 (by kernel_rfl) K3)) (eval_tmp (hd.vl 4 39 (by kernel_rfl) K4)) (eval_tmp (hd.vl 6 41 (by kernel_rfl) K6)))) ((by rw [← hX]; exact sseal_any BK (nonceS D) Nm Pk W (HG.below (M9.grow hS).below) hLBK (nonceS_len _) (by omega))) K7
    · exact asksY rfl fun a W hS hh hd => giv_run (run_as rfl (eval_tmp (hd.vl 7 42 (by kernel_rfl) K7))) K8
  · intro a31 w10 hb10 hK
    have e0 := hK.vl 0 35 (by kernel_rfl) K0
    have e1 := hK.vl 1 36 (by kernel_rfl) K1
    have e2 := hK.vl 2 37 (by kernel_rfl) K2
    have e3 := hK.vl 3 38 (by kernel_rfl) K3
    have e4 := hK.vl 4 39 (by kernel_rfl) K4
    have e5 := hK.vl 5 40 (by kernel_rfl) K5
    have e6 := hK.vl 6 41 (by kernel_rfl) K6
    have e7 := hK.vl 7 42 (by kernel_rfl) K7
    have e8 := hK.vl 8 11 (by kernel_rfl) K8
    have F31 : Fr a31 50 [(0, (.agg #[v])), (1, (.string ⟨d.toArray⟩)), (2, (.pointer (some ⟨g0, 0, none⟩))), (4, (.pointer (some ⟨g1, 0, none⟩))), (5, (.int .i64 0)), (6, (.int .i64 ((K.length - 1 : Nat) : Int))), (7, (.pointer (some ⟨g2, 0, none⟩))), (8, (.int .i64 0)), (9, (.pointer (some ⟨g3, 0, none⟩))), (10, (.string ⟨Nm.toArray⟩)), (11, (.string ⟨X.toArray⟩)), (12, (.string ⟨d.toArray⟩)), (13, (.int .i64 (d.length : Int))), (14, (.bool false)), (16, (.pointer (some ⟨g0, 0, none⟩))), (17, v), (18, (.int .i64 (K.length : Int))), (19, (.int .i64 ((K.length - 1 : Nat) : Int))), (20, (.tuple #[(.agg (cells8 BK)), (.int .i64 0)])), (21, (.agg #[v])), (22, (.int .i64 ((K.length - 1 : Nat) : Int))), (23, (.tuple #[(.agg (cells8 BK)), (.int .i64 0)])), (24, (.agg (cells8 BK))), (25, (.int .i64 0)), (26, (.int .i64 0)), (27, (.bool false)), (30, (.agg #[v])), (31, (.string ⟨d.toArray⟩)), (32, (.agg (cells8 D))), (33, (.agg (cells8 D))), (34, (.string ⟨Nm.toArray⟩))] := (hK.fr F30 [_, _, _, _, _, _, _, _, _] ⟨e0, e1, e2, e3, e4, e5, e6, e7, e8, trivial⟩).sub ⟨rfl, rfl, rfl, rfl, rfl, rfl, rfl, rfl, rfl, rfl, rfl, rfl, rfl, rfl, rfl, rfl, rfl, rfl, rfl, rfl, rfl, rfl, rfl, rfl, rfl, rfl, rfl, rfl, rfl, rfl, rfl, trivial⟩
    have M10 := M9.grow hb10
    clear hK K0 e0 K1 e1 K2 e2 K3 e3 K4 e4 K5 e5 K6 e6 K7 e7 K8 e8
    clear F30 M9
    refine nx ?_
    refine wsl ?_
    refine mvS F31 rfl rfl rfl rfl rfl fun a32 F32 => ?_
    refine mvS F32 rfl rfl rfl rfl rfl fun a33 F33 => ?_
    refine sr F33 (run_cvI (r := ((K.length - 1 : Nat) : Int)) rfl (F33.ev 44 rfl) Tryd.underlying3 Tryd.underlying74 (by rw [IntKind.wrap_u64]; omega)) rfl rfl rfl fun a34 F34 => ?_
    refine sqC (v := (.string ⟨(put2 (K.length - 1)).toArray⟩)) F34 M10 (wantedS rfl) (run_call rfl Tryd.func42 (by kernel_rfl) rfl (mapE2 (F34.ev 45 rfl) rfl)) rfl (by decide) (nput2_any (K.length - 1) w10) fun a35 w11 hb11 F35 M11 => ?_
    refine mvS F35 rfl rfl rfl rfl rfl fun a36 F36 => ?_
    refine sr (v := (.string ⟨(put2 (K.length - 1) ++ X).toArray⟩)) F36 (run_cat rfl (F36.ev 46 rfl) (F36.ev 47 rfl) (by omega)) rfl rfl rfl fun a37 F37 => ?_
    refine sr (v := (.agg #[.string ⟨Nm.toArray⟩, .string ⟨(put2 (K.length - 1) ++ X).toArray⟩])) F37 (run_blt (vs := #[(0, .string ⟨Nm.toArray⟩), (1, .string ⟨(put2 (K.length - 1) ++ X).toArray⟩)]) (cs := #[.string ⟨Nm.toArray⟩, .string ⟨(put2 (K.length - 1) ++ X).toArray⟩]) rfl (bltE2 (F37.ev 43 rfl) (F37.ev 48 rfl)) (by kernel_rfl)) rfl rfl rfl fun a38 F38 => ?_
    refine sqStore (i := 2) F38 M11 rfl rfl rfl (F38.ev 4 rfl) (F38.ev 49 rfl) rfl szBox rfl rfl (arr_one rfl) fun a39 w12 F39 M12 => ?_
    refine sr (v := (.int .i64 0)) F39 (run_as rfl rfl) rfl rfl rfl fun a40 F40 => ?_
    refine sn ?_
    clear F31 F32 F33 F34 F35 F36 F37 F38 F39 M10 M11
    refine wp_ret ?_
    exact retBT F40 rfl rfl (M12.at 2 rfl) Tryd.underlying36 rfl szBox rfl rfl ⟨rfl, M12.below⟩
end Go.Proofs.YtdjjiblijbjobaaDoor
