/- The walks of the reference's length and Row. Printed by gen_ref01.py. -/
import Derived.Test.YtconhhhggckcbaaDoorNumB
import Derived.Test.YtconhhhggckcbaaDoorBaseB
namespace Go.Proofs.YtconhhhggckcbaaDoor
open Go.RowKit

set_option maxRecDepth 100000 in
set_option maxHeartbeats 1000000 in
theorem rlen_any (n : Nat) : n < 2 ^ 60 → ∀ w : World, Calls Tryd.prog 96 #[.int .i64 (n : Int)] w fun e w' => e = .returned (.string ⟨(lenB n).toArray⟩) ∧ Below w.heap.size w w' := by
  induction n using Nat.strongRecOn with
  | _ n ih =>
  intro hn w
  by_cases h8 : n < 128
  · skip
    refine walk_enter Tryd.func96 rfl rfl rfl fun a0 F0 => ?_
    have M0 := Mem.new w
    refine wsl ?_
    refine sr (v := (.string ⟨List.toArray []⟩)) F0 (run_as rfl rfl) rfl rfl rfl fun a1 F1 => ?_
    refine sn ?_
    clear F0
    refine wp_seq ?_
    refine wsl ?_
    refine mvS F1 rfl rfl rfl rfl rfl fun a2 F2 => ?_
    refine sr (v := (.bool true)) F2 (run_lss rfl (F2.ev 3 rfl) rfl (decide_eq_true (by omega))) rfl rfl rfl fun a3 F3 => ?_
    refine sn ?_
    clear F1 F2
    refine wp_cond_true (F3.ev 4 rfl) ?_
    refine wsl ?_
    refine mvS F3 rfl rfl rfl rfl rfl fun a4 F4 => ?_
    refine sr F4 (run_cvI (r := ((UInt8.ofNat n).toNat : Int)) rfl (F4.ev 5 rfl) Tryd.underlying3 Tryd.underlying5 (by rw [IntKind.wrap_u8, ← low8 n h8]; omega)) rfl rfl rfl fun a5 F5 => ?_
    refine sqBytes [UInt8.ofNat n] F5 M0 (wantedS rfl) (run_bytes1 rfl (F5.ev 6 rfl)) rfl (by decide) fun g0 a6 w1 hgg0 hb1 F6 M1 => ?_
    refine sr (v := (.string ⟨List.toArray [UInt8.ofNat n]⟩)) F6 (run_cv rfl (F6.ev 7 rfl) (run_strBlk (l := [UInt8.ofNat n]) rfl (M1.at 0 rfl))) rfl rfl rfl fun a7 F7 => ?_
    refine asS F7 rfl rfl rfl rfl rfl fun a8 F8 => ?_
    refine sn ?_
    clear F3 F4 F5 F6 F7 M0
    refine wp_ret ?_
    refine nxRet ?_
    exact ret1 F8 rfl rfl ⟨by rw [lenB_lt n h8], M1.below⟩
  · skip
    refine walk_enter Tryd.func96 rfl rfl rfl fun a0 F0 => ?_
    have M0 := Mem.new w
    refine wsl ?_
    refine sr (v := (.string ⟨List.toArray []⟩)) F0 (run_as rfl rfl) rfl rfl rfl fun a1 F1 => ?_
    refine sn ?_
    clear F0
    refine wp_seq ?_
    refine wsl ?_
    refine mvS F1 rfl rfl rfl rfl rfl fun a2 F2 => ?_
    refine sr (v := (.bool false)) F2 (run_lss rfl (F2.ev 3 rfl) rfl (decide_eq_false (by omega))) rfl rfl rfl fun a3 F3 => ?_
    refine sn ?_
    clear F1 F2
    refine cfs (F3.ev 4 rfl) ?_
    refine wp_seq ?_
    have hll := lenB_len (n / 128)
    obtain ⟨KL, hKL⟩ : ∃ KL, KL = [kval (.int .i64 (n : Int)), kval (.int .i64 ((n % 128 : Nat) : Int)), kval (.int .i64 (((n % 128 : Nat) : Int) + 128)), kval (.int .u8 ((UInt8.ofNat (n % 128 + 128)).toNat : Int)), kbytes 5 [UInt8.ofNat (n % 128 + 128)], kval (.string ⟨List.toArray [UInt8.ofNat (n % 128 + 128)]⟩), kval (.int .i64 (n : Int)), kval (.int .i64 ((n / 128 : Nat) : Int)), kval (.string ⟨(lenB (n / 128)).toArray⟩), kval (.string ⟨([UInt8.ofNat (n % 128 + 128)] ++ (lenB (n / 128))).toArray⟩), kval (.string ⟨([UInt8.ofNat (n % 128 + 128)] ++ (lenB (n / 128))).toArray⟩)] := ⟨_, rfl⟩
    have K0 := getK hKL 0
    have K1 := getK hKL 1
    have K2 := getK hKL 2
    have K3 := getK hKL 3
    have K4 := getK hKL 4
    have K5 := getK hKL 5
    have K6 := getK hKL 6
    have K7 := getK hKL 7
    have K8 := getK hKL 8
    have K9 := getK hKL 9
    have K10 := getK hKL 10
    clear hKL
    refine wp_region_kd 19 (by kernel_rfl) (by kernel_rfl) (by kernel_rfl) F3.size KL ?_ ?_
    · refine ⟨?_, ?_, ?_, ?_, ?_, ?_, ?_, ?_, ?_, ?_, ?_, trivial⟩
      · exact asksY rfl fun a W hS hh hd => giv_run (run_mv rfl (eval_tmp (hh 0 _ rfl (F3.at 0 rfl)))) K0
      · exact asksY rfl fun a W hS hh hd => giv_run (run_rem (r := ((n % 128 : Nat) : Int)) rfl (eval_tmp (hd.vl 0 9 (by kernel_rfl) K0)) rfl (by omega) (by rw [Int.tmod_eq_emod_of_nonneg (by omega)]; try omega)) K1
      · exact asksY rfl fun a W hS hh hd => giv_run (run_add (r := ((n % 128 : Nat) : Int) + 128) rfl (eval_tmp (hd.vl 1 10 (by kernel_rfl) K1)) rfl (by rw [IntKind.wrap_i64]; omega)) K2
      · exact asksY rfl fun a W hS hh hd => giv_run (run_cvI (r := ((UInt8.ofNat (n % 128 + 128)).toNat : Int)) rfl (eval_tmp (hd.vl 2 11 (by kernel_rfl) K2)) Tryd.underlying3 Tryd.underlying5 (by rw [IntKind.wrap_u8]; simp; try omega)) K3
      · exact asksY rfl fun a W hS hh hd => giv_bytes [UInt8.ofNat (n % 128 + 128)] 5 (run_bytes1 rfl (eval_tmp (hd.vl 3 12 (by kernel_rfl) K3))) K4
      · refine asks_mk fun a W hS hh hd => ⟨wanted_yes rfl, ?_⟩
        obtain ⟨g4, c4, e4, b4⟩ := Dep.bytes hd (j := 4) (s := 13) (by kernel_rfl) K4
        exact giv_run (run_cv rfl (eval_tmp e4) (run_strBlk (cap := c4) (l := [UInt8.ofNat (n % 128 + 128)]) rfl b4)) K5
      · exact asksY rfl fun a W hS hh hd => giv_run (run_mv rfl (eval_tmp (hh 0 _ rfl (F3.at 0 rfl)))) K6
      · exact asksY rfl fun a W hS hh hd => giv_run (run_quo (r := ((n / 128 : Nat) : Int)) rfl (eval_tmp (hd.vl 6 15 (by kernel_rfl) K6)) rfl (by omega) (by rw [Int.tdiv_eq_ediv_of_nonneg (by omega), IntKind.wrap_i64]; try omega)) K7
      · exact asksY rfl fun a W hS hh hd => giv_call (run_call rfl Tryd.func96 (by kernel_rfl) rfl (mapE1 (eval_tmp (hd.vl 7 16 (by kernel_rfl) K7)))) (ih (n / 128) (by omega) (by omega) W) K8
      · exact asksY rfl fun a W hS hh hd => giv_run (run_cat rfl (eval_tmp (hd.vl 5 14 (by kernel_rfl) K5)) (eval_tmp (hd.vl 8 17 (by kernel_rfl) K8)) (by first | omega | decide | (simp; omega))) K9
      · exact asksY rfl fun a W hS hh hd => giv_run (run_as rfl (eval_tmp (hd.vl 9 18 (by kernel_rfl) K9))) K10
    · intro a4 w1 hb1 hK
      have e0 := hK.vl 0 9 (by kernel_rfl) K0
      have e1 := hK.vl 1 10 (by kernel_rfl) K1
      have e2 := hK.vl 2 11 (by kernel_rfl) K2
      have e3 := hK.vl 3 12 (by kernel_rfl) K3
      obtain ⟨v0, e4, hpv0⟩ := hK.get (i := 4) (s := 13) (by kernel_rfl)
      rw [K4] at hpv0
      have e5 := hK.vl 5 14 (by kernel_rfl) K5
      have e6 := hK.vl 6 15 (by kernel_rfl) K6
      have e7 := hK.vl 7 16 (by kernel_rfl) K7
      have e8 := hK.vl 8 17 (by kernel_rfl) K8
      have e9 := hK.vl 9 18 (by kernel_rfl) K9
      have e10 := hK.vl 10 2 (by kernel_rfl) K10
      have F4 : Fr a4 19 [(0, (.int .i64 (n : Int))), (2, (.string ⟨([UInt8.ofNat (n % 128 + 128)] ++ (lenB (n / 128))).toArray⟩)), (3, (.int .i64 (n : Int))), (4, (.bool false))] := (hK.fr F3 [_, _, _, _, _, _, _, _, _, _, _] ⟨e0, e1, e2, e3, e4, e5, e6, e7, e8, e9, e10, trivial⟩).sub ⟨rfl, rfl, rfl, rfl, trivial⟩
      have M1 := M0.grow hb1
      clear hK K0 e0 K1 e1 K2 e2 K3 e3 K4 e4 K5 e5 K6 e6 K7 e7 K8 e8 K9 e9 K10 e10
      clear F3 M0
      refine nx ?_
      refine wp_ret ?_
      exact ret1 F4 rfl rfl ⟨by rw [lenB_ge n h8]; rfl, M1.below⟩
set_option maxRecDepth 100000 in
set_option maxHeartbeats 1000000 in
theorem rrow_any (l : List (List UInt8)) (v : Value) (w : World) (hS : Strs w v l) (hl : l.flatten.length < 2 ^ 58) (hn : l.length < 2 ^ 44) :
    Calls Tryd.prog 62 #[v] w fun e w' => e = .returned (.string ⟨(rowS l).toArray⟩) ∧ Below w.heap.size w w' := by
  refine walk_enter Tryd.func62 rfl rfl rfl fun a0 F0 => ?_
  have M0 := Mem.new w
  refine wsl ?_
  refine sr (v := (.string ⟨List.toArray []⟩)) F0 (run_as rfl rfl) rfl rfl rfl fun a1 F1 => ?_
  refine sn ?_
  clear F0
  refine wsl ?_
  refine sr (v := (.string ⟨List.toArray []⟩)) F1 (run_as rfl rfl) rfl rfl rfl fun a2 F2 => ?_
  refine sn ?_
  clear F1
  refine wp_seq ?_
  refine wsl ?_
  refine mvS F2 rfl rfl rfl rfl rfl fun a3 F3 => ?_
  refine sr F3 (run_lenStrs rfl (F3.ev 6 rfl) hS rfl Tryd.underlying91) rfl rfl rfl fun a4 F4 => ?_
  refine sr (v := (.int .i64 0)) F4 (run_mv rfl rfl) rfl rfl rfl fun a5 F5 => ?_
  refine sn ?_
  clear F2 F3 F4
  refine wp_block ?_
  refine wkLoop (fun m a w2 => ∃ k : Nat, k ≤ l.length ∧ m = l.length - k ∧ Fr a 21 [(3, .string ⟨(rowS (l.take k)).toArray⟩), (6, v), (7, .int .i64 (l.length : Int)), (8, .int .i64 (k : Int))] ∧ Mem w [] w2) l.length ⟨0, Nat.zero_le _, rfl, F5.sub ⟨rfl, rfl, rfl, rfl, trivial⟩, M0⟩ ?_
  rintro m a0 w1 ⟨k, hk, rfl, F0, M0⟩
  have hSw := hS.below M0.below
  by_cases hlt : k < l.length
  · obtain ⟨s, hs⟩ : ∃ s, l.getD k [] = s := ⟨_, rfl⟩
    have hle := rowS_len (l.take (k + 1))
    have hle2 := joinTo_le l (k + 1)
    unfold joinTo at hle2
    rw [rowS_snoc l k hlt, hs, List.length_append, List.length_append, List.length_take] at hle
    refine wsl ?_
    refine sr (v := (.bool true)) F0 (run_lss rfl (F0.ev 8 rfl) (F0.ev 7 rfl) (decide_eq_true (by omega))) rfl rfl rfl fun a1 F1 => ?_
    refine sn ?_
    clear F0
    refine wp_seq ?_
    refine cts (F1.ev 9 rfl) ?_
    refine wp_seq ?_
    refine wp_block ?_
    refine wp_seq ?_
    obtain ⟨q, hq, hqc⟩ := run_atStrs (P := Tryd.prog) (a := a1) (o := ⟨some 10, .indexAddr 91 (.tmp 6) (.tmp 8), 0, "", #[], none⟩) rfl (F1.ev 6 rfl) (F1.ev 8 rfl) rfl hSw hlt Tryd.underlying91 (by kernel_rfl)
    refine wp_region_lit ?_
    refine sq (v := (.pointer (some q))) F1 (wantedS rfl) hq rfl (by decide) fun a2 F2 => ?_
    refine sr (v := (.string ⟨s.toArray⟩)) F2 (run_ldC rfl (F2.ev 10 rfl) (by rw [← hs]; exact hqc) (by kernel_rfl)) rfl rfl rfl fun a3 F3 => ?_
    refine asS F3 rfl rfl rfl rfl rfl fun a4 F4 => ?_
    refine sn ?_
    clear F1 F2 F3
    refine wp_region_lit ?_
    refine mvS F4 rfl rfl rfl rfl rfl fun a5 F5 => ?_
    refine mvS F5 rfl rfl rfl rfl rfl fun a6 F6 => ?_
    refine sr F6 (run_len rfl (F6.ev 13 rfl) rfl Tryd.underlying9) rfl rfl rfl fun a7 F7 => ?_
    refine sqC (v := (.string ⟨(lenB s.length).toArray⟩)) F7 M0 (wantedS rfl) (run_call rfl Tryd.func96 (by kernel_rfl) rfl (mapE1 (F7.ev 14 rfl))) rfl (by decide) (rlen_any s.length (by omega) w1) fun a8 w2 hb2 F8 M1 => ?_
    refine mvS F8 rfl rfl rfl rfl rfl fun a9 F9 => ?_
    refine sr (v := (.string ⟨(lenB s.length ++ s).toArray⟩)) F9 (run_cat rfl (F9.ev 15 rfl) (F9.ev 16 rfl) (by first | omega | decide | (simp; omega))) rfl rfl rfl fun a10 F10 => ?_
    refine sr (v := (.string ⟨((rowS (l.take k)) ++ (lenB s.length ++ s)).toArray⟩)) F10 (run_cat rfl (F10.ev 12 rfl) (F10.ev 17 rfl) (by first | omega | decide | (simp; omega))) rfl rfl rfl fun a11 F11 => ?_
    refine asS F11 rfl rfl rfl rfl rfl fun a12 F12 => ?_
    refine sqEnd ?_
    clear F4 F5 F6 F7 F8 F9 F10 F11 M0
    refine bkEnd ?_
    refine nx ?_
    refine wp_region_lit ?_
    refine sr F12 (run_add (r := ((k + 1 : Nat) : Int)) rfl (F12.ev 8 rfl) rfl (by rw [IntKind.wrap_i64]; omega)) rfl rfl rfl fun a13 F13 => ?_
    refine mvS F13 rfl rfl rfl rfl rfl fun a14 F14 => ?_
    refine sn ?_
    clear F12 F13
    exact ⟨_, by omega, k + 1, by omega, rfl, F14.sub ⟨by rw [rowS_snoc l k hlt, hs]; rfl, rfl, rfl, rfl, trivial⟩, M1⟩
  · have hke : k = l.length := by omega
    refine wsl ?_
    refine sr (v := (.bool false)) F0 (run_lss rfl (F0.ev 8 rfl) (F0.ev 7 rfl) (decide_eq_false (by omega))) rfl rfl rfl fun a1 F1 => ?_
    refine sn ?_
    clear F0
    refine wp_seq ?_
    refine wp_cond_false (F1.ev 9 rfl) ?_
    refine wp_exit ?_
    refine nxExit ?_
    refine nxExit ?_
    refine bkHere ?_
    refine nx ?_
    refine wsl ?_
    refine mvS F1 rfl rfl rfl rfl rfl fun a2 F2 => ?_
    refine asS F2 rfl rfl rfl rfl rfl fun a3 F3 => ?_
    refine sn ?_
    clear F1 F2
    refine wp_ret ?_
    exact ret1 F3 rfl rfl ⟨by rw [hke, List.take_length], M0.below⟩
end Go.Proofs.YtconhhhggckcbaaDoor
