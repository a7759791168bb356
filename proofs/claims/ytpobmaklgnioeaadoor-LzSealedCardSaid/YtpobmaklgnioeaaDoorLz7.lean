/- The walk of lz.Pack. Printed by gen_lz7.py. -/
import Derived.Test.YtpobmaklgnioeaaDoorLz6
namespace Go.Proofs.YtpobmaklgnioeaaDoor
open Go.RowKit

set_option maxRecDepth 100000 in
set_option maxHeartbeats 1000000 in
theorem zpack_any (s : List UInt8) (w : World) (hs : s.length ≤ 2 ^ 32) : Calls Tryd.prog 32 #[.string ⟨s.toArray⟩] w fun e w' => e = .returned (.string ⟨(packS s).toArray⟩) ∧ Below w.heap.size w w' := by
  refine walk_enter Tryd.func32 rfl rfl rfl fun a0 hF0 => ?_
  have hM0 := Mem.new w
  refine wp_seq ?_
  refine wp_region_lit ?_
  refine sq (v := (.string ⟨List.toArray []⟩)) hF0 (wantedS rfl) (run_as rfl rfl) rfl (by decide) fun a1 hF1 => ?_
  refine sqEnd ?_
  clear hF0
  refine nx ?_
  refine wp_seq ?_
  refine wp_region_lit ?_
  refine sq (v := (.string ⟨s.toArray⟩)) hF1 (wantedS rfl) (run_mv rfl (hF1.ev 0 rfl)) rfl (by decide) fun a2 hF2 => ?_
  refine sqMakeMap4 hF2 hM0 rfl rfl (fun q hq => by cases hq) rfl (by decide) fun g0 a3 w1 hgg0 hb1 hF3 hM1 => ?_
  refine sq (v := (.string ⟨s.toArray⟩)) hF3 (wantedS rfl) (run_mv rfl (hF3.ev 0 rfl)) rfl (by decide) fun a4 hF4 => ?_
  refine sq (v := (.int .i64 (s.length : Int))) hF4 (wantedS rfl) (run_len rfl (hF4.ev 11 rfl) rfl Tryd.underlying9) rfl (by decide) fun a5 hF5 => ?_
  refine sqMakeI (m := s.length) hF5 hM1 rfl rfl (hF5.ev 12 rfl) (hF5.ev 12 rfl) rfl rfl (by omega) rfl (by decide) fun g1 a6 w2 hgg1 hb2 hF6 hM2 => ?_
  refine sq (v := (.agg #[.string ⟨s.toArray⟩, .map (some g0), .slice (some ⟨g1, 0, none⟩) s.length s.length])) hF6 (wantedS rfl) (run_blt (vs := #[(0, .string ⟨s.toArray⟩), (1, .map (some g0)), (2, .slice (some ⟨g1, 0, none⟩) s.length s.length)]) (cs := #[.string ⟨s.toArray⟩, .map (some g0), .slice (some ⟨g1, 0, none⟩) s.length s.length]) rfl (bltE3 (hF6.ev 9 rfl) (hF6.ev 10 rfl) (hF6.ev 13 rfl)) (by kernel_rfl)) rfl (by decide) fun a7 hF7 => ?_
  refine sqNew (cs := #[.string ⟨List.toArray []⟩, .map none, .slice none 0 0]) (t := 80) hF7 hM2 (wantedS rfl) (run_alloc rfl (by kernel_rfl)) rfl (by decide) fun g2 a8 w3 hgg2 hb3 hF8 hM3 => ?_
  refine sqStore (i := 0) hF8 hM3 rfl rfl rfl (hF8.ev 3 rfl) (hF8.ev 14 rfl) rfl szPast rfl rfl (arr_one rfl) fun a9 w4 hF9 hM4 => ?_
  refine sqEnd ?_
  clear hF1 hF2 hF3 hF4 hF5 hF6 hF7 hF8 hM0 hM1 hM2 hM3
  refine nx ?_
  refine wp_seq ?_
  refine wp_region_lit ?_
  refine sq (v := (.slice none 0 0)) hF9 (wantedS rfl) (run_as rfl rfl) rfl (by decide) fun a10 hF10 => ?_
  refine sqEnd ?_
  clear hF9
  refine nx ?_
  refine wp_seq ?_
  refine wp_region_lit ?_
  refine sq (v := (.int .i64 0)) hF10 (wantedS rfl) (run_as rfl rfl) rfl (by decide) fun a11 hF11 => ?_
  refine sqEnd ?_
  clear hF10
  refine nx ?_
  refine wp_seq ?_
  refine wp_seq ?_
  refine wp_region_lit ?_
  refine sq (v := (.int .i64 0)) hF11 (wantedS rfl) (run_as rfl rfl) rfl (by decide) fun a12 hF12 => ?_
  refine sqEnd ?_
  clear hF11
  refine nx ?_
  refine wp_block ?_
  have hN := OwnR.nil w w4 [(g2, isB 80 (#[.string ⟨s.toArray⟩, .map (some g0), .slice (some ⟨g1, 0, none⟩) s.length s.length])), (g1, isB 3 (cellsI (List.replicate s.length 0))), (g0, isMap4 (fun _ => none) 0)] 5 1
  refine wkLoop (fun m a w2 => ∃ (b : List UInt8) (al p : Nat) (f : List UInt8 → Option Nat) (k : Nat) (zs : List Int) (r : Value), al ≤ p ∧ p ≤ s.length ∧ m = s.length - p ∧ b ++ packT s al p = packS s ∧ Passed s f k zs p ∧ OwnR w [(g2, isB 80 #[.string ⟨s.toArray⟩, .map (some g0), .slice (some ⟨g1, 0, none⟩) s.length s.length]), (g1, isB 3 (cellsI zs)), (g0, isMap4 f k)] w2 5 1 r b.length (b.map cb) ∧ Fr a 60 [(0, .string ⟨s.toArray⟩), (3, .pointer (some ⟨g2, 0, none⟩)), (4, r), (5, .int .i64 (al : Int)), (6, .int .i64 (p : Int))] ∧ Mem w [(g2, isB 80 #[.string ⟨s.toArray⟩, .map (some g0), .slice (some ⟨g1, 0, none⟩) s.length s.length]), (g1, isB 3 (cellsI zs)), (g0, isMap4 f k)] w2) s.length ⟨[], 0, 0, fun _ => none, 0, List.replicate s.length 0, .slice none 0 0, Nat.le_refl _, Nat.zero_le _, rfl, rfl, ⟨Nat.le_refl _, List.length_replicate, fun K _ => rfl, fun i hi => by omega⟩, hN, hF12.sub ⟨rfl, rfl, rfl, rfl, rfl, trivial⟩, hM4⟩ ?_
  rintro m a0 w1 ⟨b, al, p, f, k, zs, r, hal, hp, rfl, he, hpd, hO0, hF0, hM0⟩
  have hpk := pack_len s
  have hol : b.length + (packT s al p).length = (packS s).length := by rw [← he, List.length_append]
  have hpl : ((s.drop al).take (p - al)).length = p - al := by rw [List.length_take, List.length_drop]; omega
  by_cases h1 : p < s.length
  · rw [packT_step al h1] at he
    have h4e := best4_eq s p (min p 65535)
    by_cases h4 : (bestS s p).1 < 4
    · rw [if_pos h4] at he
      obtain ⟨n, far, hb4, hn⟩ : ∃ n far : Nat, best4 s p (min p 65535) = (n, far) ∧ n < 4 := ⟨0, 0, by rw [h4e, if_neg (by unfold bestS at h4; omega)], by decide⟩
      refine wp_seq ?_
      refine wp_seq ?_
      refine wp_region_lit ?_
      refine sq (v := (.int .i64 (p : Int))) hF0 (wantedS rfl) (run_mv rfl (hF0.ev 6 rfl)) rfl (by decide) fun a1 hF1 => ?_
      refine sq (v := (.string ⟨s.toArray⟩)) hF1 (wantedS rfl) (run_mv rfl (hF1.ev 0 rfl)) rfl (by decide) fun a2 hF2 => ?_
      refine sq (v := (.int .i64 (s.length : Int))) hF2 (wantedS rfl) (run_len rfl (hF2.ev 16 rfl) rfl Tryd.underlying9) rfl (by decide) fun a3 hF3 => ?_
      refine sq (v := (.bool true)) hF3 (wantedS rfl) (run_lss rfl (hF3.ev 15 rfl) (hF3.ev 17 rfl) (decide_eq_true (by omega))) rfl (by decide) fun a4 hF4 => ?_
      refine sqEnd ?_
      clear hF0 hF1 hF2 hF3
      refine nx ?_
      refine wp_cond_true (hF4.ev 18 rfl) ?_
      refine wp_skip ?_
      refine nx ?_
      refine wp_block ?_
      refine wp_seq ?_
      refine wp_region_lit ?_
      refine sq (v := (.int .i64 (p : Int))) hF4 (wantedS rfl) (run_mv rfl (hF4.ev 6 rfl)) rfl (by decide) fun a5 hF5 => ?_
      refine sqC (v := (.tuple #[(.int .i64 (n : Int)), (.int .i64 (far : Int))])) hF5 hM0 (wantedS rfl) (run_call rfl Tryd.func53 (by kernel_rfl) rfl (mapE2 (hF5.ev 3 rfl) (hF5.ev 20 rfl))) rfl (by decide) ((by have hq := zbest_any s f zs g2 g0 g1 k p w1 (hM0.at 0 rfl) (hM0.ob 2 rfl) (hM0.at 1 rfl) hs (by omega) hpd.2.2.1 hpd.2.2.2; rw [hb4] at hq; exact hq)) fun a6 w2 hb2 hF6 hM1 => ?_
      have hO1 := hO0.grow hb2
      refine sq (v := (.tuple #[(.int .i64 (n : Int)), (.int .i64 (far : Int))])) hF6 (wantedS rfl) (run_mv rfl (hF6.ev 21 rfl)) rfl (by decide) fun a7 hF7 => ?_
      refine sq (v := (.int .i64 (n : Int))) hF7 (wantedS rfl) (run_ext rfl (hF7.ev 19 rfl) rfl) rfl (by decide) fun a8 hF8 => ?_
      refine sq (v := (.int .i64 (far : Int))) hF8 (wantedS rfl) (run_ext rfl (hF8.ev 19 rfl) rfl) rfl (by decide) fun a9 hF9 => ?_
      refine sq (v := (.int .i64 (n : Int))) hF9 (wantedS rfl) (run_as rfl (hF9.ev 22 rfl)) rfl (by decide) fun a10 hF10 => ?_
      refine sq (v := (.int .i64 (far : Int))) hF10 (wantedS rfl) (run_as rfl (hF10.ev 23 rfl)) rfl (by decide) fun a11 hF11 => ?_
      refine sqEnd ?_
      clear hF4 hF5 hF6 hF7 hF8 hF9 hF10 hM0
      refine nx ?_
      refine wp_seq ?_
      refine wp_seq ?_
      refine wp_region_lit ?_
      refine sq (v := (.int .i64 (n : Int))) hF11 (wantedS rfl) (run_mv rfl (hF11.ev 7 rfl)) rfl (by decide) fun a12 hF12 => ?_
      refine sq (v := (.bool true)) hF12 (wantedS rfl) (run_lss rfl (hF12.ev 24 rfl) rfl (decide_eq_true (by omega))) rfl (by decide) fun a13 hF13 => ?_
      refine sqEnd ?_
      clear hF11 hF12
      refine nx ?_
      refine wp_cond_true (hF13.ev 25 rfl) ?_
      refine wp_seq ?_
      refine wp_region_lit ?_
      refine sq (v := (.int .i64 (p : Int))) hF13 (wantedS rfl) (run_mv rfl (hF13.ev 6 rfl)) rfl (by decide) fun a14 hF14 => ?_
      refine sqT (T := fun _ wx => ∃ (f2 : List UInt8 → Option Nat) (k2 : Nat) (zs2 : List Int), Passed s f2 k2 zs2 (p + 1) ∧ OwnR w [(g2, isB 80 #[.string ⟨s.toArray⟩, .map (some g0), .slice (some ⟨g1, 0, none⟩) s.length s.length]), (g1, isB 3 (cellsI zs2)), (g0, isMap4 f2 k2)] wx 5 1 r b.length (b.map cb) ∧ Mem w [(g2, isB 80 #[.string ⟨s.toArray⟩, .map (some g0), .slice (some ⟨g1, 0, none⟩) s.length s.length]), (g1, isB 3 (cellsI zs2)), (g0, isMap4 f2 k2)] wx) hF14 (wantedS rfl) (run_call rfl Tryd.func54 (by kernel_rfl) rfl (mapE3 (hF14.ev 3 rfl) (hF14.ev 26 rfl) rfl)) rfl (by decide) (zpass_any s b f zs g2 g0 g1 k p 1 r w _ [] (hM1.sub (.refl _)) (hO1.sub (.refl _)) hs (by omega) hpd) fun u3 a15 w3 hT3 hF15 => ?_
      obtain ⟨f2, k2, zs2, hpd2, hO2, hM2⟩ := hT3
      refine sqEnd ?_
      clear hF13 hF14 hM1
      refine nx ?_
      refine wp_seq ?_
      refine wp_region_lit ?_
      refine sq (v := (.int .i64 (p : Int))) hF15 (wantedS rfl) (run_mv rfl (hF15.ev 6 rfl)) rfl (by decide) fun a16 hF16 => ?_
      refine sq (v := (.int .i64 ((p + 1 : Nat) : Int))) hF16 (wantedS rfl) (run_add (r := ((p + 1 : Nat) : Int)) rfl (hF16.ev 28 rfl) rfl (by rw [IntKind.wrap_i64]; omega)) rfl (by decide) fun a17 hF17 => ?_
      refine sq (v := (.int .i64 ((p + 1 : Nat) : Int))) hF17 (wantedS rfl) (run_as rfl (hF17.ev 29 rfl)) rfl (by decide) fun a18 hF18 => ?_
      refine sqEnd ?_
      clear hF15 hF16 hF17
      refine nx ?_
      refine wp_exit ?_
      refine nxExit ?_
      refine bkHere ?_
      refine nx ?_
      exact ⟨_, by omega, b, al, p + 1, f2, k2, zs2, r, by omega, by omega, rfl, he, hpd2, hO2, hF18.sub ⟨rfl, rfl, rfl, rfl, rfl, trivial⟩, hM2⟩
    · rw [if_neg h4] at he
      obtain ⟨q1, q2, q3, q4, q5⟩ := bestS_spec (s := s) (at' := p) (by omega)
      have hms : mostS s p = min 131 (s.length - p) := rfl
      obtain ⟨n, hn⟩ : ∃ n, (bestS s p).1 = n := ⟨_, rfl⟩
      obtain ⟨far, hfr⟩ : ∃ far, (bestS s p).2 = far := ⟨_, rfl⟩
      have hb4 : best4 s p (min p 65535) = (n, far) := by rw [h4e, if_pos (by unfold bestS at h4; omega), ← hn, ← hfr]; rfl
      rw [hn, hfr] at he
      rw [hfr] at q1 q2 q3
      rw [hn] at q5 h4
      have k1 : (UInt8.ofNat (n + 124)).toNat = n + 124 := by rw [UInt8.toNat_ofNat']; omega
      have k2' : (UInt8.ofNat (far % 256)).toNat = far % 256 := by rw [UInt8.toNat_ofNat']; omega
      have k3 : (UInt8.ofNat (far / 256)).toNat = far / 256 := by rw [UInt8.toNat_ofNat']; omega
      have hrl := runS_len _ ((s.drop al).take (p - al)) (Nat.le_refl _)
      rw [hpl] at hrl
      refine wp_seq ?_
      refine wp_seq ?_
      refine wp_region_lit ?_
      refine sq (v := (.int .i64 (p : Int))) hF0 (wantedS rfl) (run_mv rfl (hF0.ev 6 rfl)) rfl (by decide) fun a1 hF1 => ?_
      refine sq (v := (.string ⟨s.toArray⟩)) hF1 (wantedS rfl) (run_mv rfl (hF1.ev 0 rfl)) rfl (by decide) fun a2 hF2 => ?_
      refine sq (v := (.int .i64 (s.length : Int))) hF2 (wantedS rfl) (run_len rfl (hF2.ev 16 rfl) rfl Tryd.underlying9) rfl (by decide) fun a3 hF3 => ?_
      refine sq (v := (.bool true)) hF3 (wantedS rfl) (run_lss rfl (hF3.ev 15 rfl) (hF3.ev 17 rfl) (decide_eq_true (by omega))) rfl (by decide) fun a4 hF4 => ?_
      refine sqEnd ?_
      clear hF0 hF1 hF2 hF3
      refine nx ?_
      refine wp_cond_true (hF4.ev 18 rfl) ?_
      refine wp_skip ?_
      refine nx ?_
      refine wp_block ?_
      refine wp_seq ?_
      refine wp_region_lit ?_
      refine sq (v := (.int .i64 (p : Int))) hF4 (wantedS rfl) (run_mv rfl (hF4.ev 6 rfl)) rfl (by decide) fun a5 hF5 => ?_
      refine sqC (v := (.tuple #[(.int .i64 (n : Int)), (.int .i64 (far : Int))])) hF5 hM0 (wantedS rfl) (run_call rfl Tryd.func53 (by kernel_rfl) rfl (mapE2 (hF5.ev 3 rfl) (hF5.ev 20 rfl))) rfl (by decide) ((by have hq := zbest_any s f zs g2 g0 g1 k p w1 (hM0.at 0 rfl) (hM0.ob 2 rfl) (hM0.at 1 rfl) hs (by omega) hpd.2.2.1 hpd.2.2.2; rw [hb4] at hq; exact hq)) fun a6 w2 hb2 hF6 hM1 => ?_
      have hO1 := hO0.grow hb2
      refine sq (v := (.tuple #[(.int .i64 (n : Int)), (.int .i64 (far : Int))])) hF6 (wantedS rfl) (run_mv rfl (hF6.ev 21 rfl)) rfl (by decide) fun a7 hF7 => ?_
      refine sq (v := (.int .i64 (n : Int))) hF7 (wantedS rfl) (run_ext rfl (hF7.ev 19 rfl) rfl) rfl (by decide) fun a8 hF8 => ?_
      refine sq (v := (.int .i64 (far : Int))) hF8 (wantedS rfl) (run_ext rfl (hF8.ev 19 rfl) rfl) rfl (by decide) fun a9 hF9 => ?_
      refine sq (v := (.int .i64 (n : Int))) hF9 (wantedS rfl) (run_as rfl (hF9.ev 22 rfl)) rfl (by decide) fun a10 hF10 => ?_
      refine sq (v := (.int .i64 (far : Int))) hF10 (wantedS rfl) (run_as rfl (hF10.ev 23 rfl)) rfl (by decide) fun a11 hF11 => ?_
      refine sqEnd ?_
      clear hF4 hF5 hF6 hF7 hF8 hF9 hF10 hM0
      refine nx ?_
      refine wp_seq ?_
      refine wp_seq ?_
      refine wp_region_lit ?_
      refine sq (v := (.int .i64 (n : Int))) hF11 (wantedS rfl) (run_mv rfl (hF11.ev 7 rfl)) rfl (by decide) fun a12 hF12 => ?_
      refine sq (v := (.bool false)) hF12 (wantedS rfl) (run_lss rfl (hF12.ev 24 rfl) rfl (decide_eq_false (by omega))) rfl (by decide) fun a13 hF13 => ?_
      refine sqEnd ?_
      clear hF11 hF12
      refine nx ?_
      refine wp_cond_false (hF13.ev 25 rfl) ?_
      refine wp_skip ?_
      refine nx ?_
      refine wp_seq ?_
      refine wp_region_lit ?_
      refine sq (v := r) hF13 (wantedS rfl) (run_mv rfl (hF13.ev 4 rfl)) rfl (by decide) fun a14 hF14 => ?_
      refine sq (v := (.string ⟨s.toArray⟩)) hF14 (wantedS rfl) (run_mv rfl (hF14.ev 0 rfl)) rfl (by decide) fun a15 hF15 => ?_
      refine sq (v := (.int .i64 (al : Int))) hF15 (wantedS rfl) (run_mv rfl (hF15.ev 5 rfl)) rfl (by decide) fun a16 hF16 => ?_
      refine sq (v := (.int .i64 (p : Int))) hF16 (wantedS rfl) (run_mv rfl (hF16.ev 6 rfl)) rfl (by decide) fun a17 hF17 => ?_
      refine sq (v := (.string ⟨((s.drop al).take (p - al)).toArray⟩)) hF17 (wantedS rfl) (run_sMidE (m := al) (m2 := p) rfl rfl (hF17.ev 31 rfl) (hF17.ev 32 rfl) (hF17.ev 33 rfl) Tryd.underlying9 (by omega) (by omega) (by omega) (by omega)) rfl (by decide) fun a18 hF18 => ?_
      refine sqT (T := fun u wx => OwnR w [(g2, isB 80 #[.string ⟨s.toArray⟩, .map (some g0), .slice (some ⟨g1, 0, none⟩) s.length s.length]), (g1, isB 3 (cellsI zs)), (g0, isMap4 f k)] wx 5 1 u (b ++ runS ((s.drop al).take (p - al))).length ((b ++ runS ((s.drop al).take (p - al))).map cb) ∧ Mem w [(g2, isB 80 #[.string ⟨s.toArray⟩, .map (some g0), .slice (some ⟨g1, 0, none⟩) s.length s.length]), (g1, isB 3 (cellsI zs)), (g0, isMap4 f k)] wx) hF18 (wantedS rfl) (run_call rfl Tryd.func55 (by kernel_rfl) rfl (mapE2 (hF18.ev 30 rfl) (hF18.ev 34 rfl))) rfl (by decide) (zrun_any b ((s.drop al).take (p - al)) r w _ _ hM1 hO1 (by omega)) fun u4 a19 w3 hT3 hF19 => ?_
      obtain ⟨hO2, hM2⟩ := hT3
      refine sq (v := u4) hF19 (wantedS rfl) (run_as rfl (hF19.ev 35 rfl)) rfl (by decide) fun a20 hF20 => ?_
      refine sqEnd ?_
      clear hF13 hF14 hF15 hF16 hF17 hF18 hF19 hM1
      refine nx ?_
      refine wp_seq ?_
      refine wp_region_lit ?_
      refine sq (v := u4) hF20 (wantedS rfl) (run_mv rfl (hF20.ev 4 rfl)) rfl (by decide) fun a21 hF21 => ?_
      refine sq (v := (.int .i64 (n : Int))) hF21 (wantedS rfl) (run_mv rfl (hF21.ev 7 rfl)) rfl (by decide) fun a22 hF22 => ?_
      refine sq (v := (.int .i64 ((n + 124 : Nat) : Int))) hF22 (wantedS rfl) (run_add (r := ((n + 124 : Nat) : Int)) rfl (hF22.ev 37 rfl) rfl (by rw [IntKind.wrap_i64]; omega)) rfl (by decide) fun a23 hF23 => ?_
      refine sq (v := (.int .u8 ((UInt8.ofNat (n + 124)).toNat : Int))) hF23 (wantedS rfl) (run_cvI (r := ((UInt8.ofNat (n + 124)).toNat : Int)) rfl (hF23.ev 38 rfl) Tryd.underlying3 Tryd.underlying5 (by rw [k1, IntKind.wrap_u8]; omega)) rfl (by decide) fun a24 hF24 => ?_
      refine sq (v := (.int .i64 (far : Int))) hF24 (wantedS rfl) (run_mv rfl (hF24.ev 8 rfl)) rfl (by decide) fun a25 hF25 => ?_
      refine sq (v := (.int .u8 ((UInt8.ofNat (far % 256)).toNat : Int))) hF25 (wantedS rfl) (run_cvI (r := ((UInt8.ofNat (far % 256)).toNat : Int)) rfl (hF25.ev 40 rfl) Tryd.underlying3 Tryd.underlying5 (by rw [k2', IntKind.wrap_u8]; omega)) rfl (by decide) fun a26 hF26 => ?_
      refine sq (v := (.int .i64 (far : Int))) hF26 (wantedS rfl) (run_mv rfl (hF26.ev 8 rfl)) rfl (by decide) fun a27 hF27 => ?_
      refine sq (v := (.int .i64 ((far / 256 : Nat) : Int))) hF27 (wantedS rfl) (run_shr (r := ((far / 256 : Nat) : Int)) rfl (hF27.ev 42 rfl) rfl (by omega) (by first | decide | (simp [IntKind.bits]; omega)) (by show (far : Int) / 2 ^ 8 = _; omega)) rfl (by decide) fun a28 hF28 => ?_
      refine sq (v := (.int .u8 ((UInt8.ofNat (far / 256)).toNat : Int))) hF28 (wantedS rfl) (run_cvI (r := ((UInt8.ofNat (far / 256)).toNat : Int)) rfl (hF28.ev 43 rfl) Tryd.underlying3 Tryd.underlying5 (by rw [k3, IntKind.wrap_u8]; omega)) rfl (by decide) fun a29 hF29 => ?_
      refine sqBytes [(UInt8.ofNat (n + 124)), (UInt8.ofNat (far % 256)), (UInt8.ofNat (far / 256))] hF29 hM2 (wantedS rfl) (run_bytes3 rfl (hF29.ev 39 rfl) (hF29.ev 41 rfl) (hF29.ev 44 rfl)) rfl (by decide) fun g5 a30 w4 hgg5 hb4 hF30 hM3 => ?_
      have hO3 := hO2.add (S := isB 5 (cells8 [(UInt8.ofNat (n + 124)), (UInt8.ofNat (far % 256)), (UInt8.ofNat (far / 256))])) hb4 hgg5
      refine sqAppendB (l := [(UInt8.ofNat (n + 124)), (UInt8.ofNat (far % 256)), (UInt8.ofNat (far / 256))]) (b := (b ++ runS ((s.drop al).take (p - al)))) hF30 hM3 hO3 rfl rfl (hF30.ev 36 rfl) (hF30.ev 45 rfl) rfl (hM3.at 0 rfl) (by simp; omega) rfl (by decide) fun v6 a31 w5 hO4 hM4 hF31 => ?_
      refine sq (v := v6) hF31 (wantedS rfl) (run_as rfl (hF31.ev 46 rfl)) rfl (by decide) fun a32 hF32 => ?_
      refine sqEnd ?_
      clear hF20 hF21 hF22 hF23 hF24 hF25 hF26 hF27 hF28 hF29 hF30 hF31 hM2 hM3
      refine nx ?_
      refine wp_seq ?_
      refine wp_region_lit ?_
      refine sq (v := (.int .i64 (p : Int))) hF32 (wantedS rfl) (run_mv rfl (hF32.ev 6 rfl)) rfl (by decide) fun a33 hF33 => ?_
      refine sq (v := (.int .i64 (n : Int))) hF33 (wantedS rfl) (run_mv rfl (hF33.ev 7 rfl)) rfl (by decide) fun a34 hF34 => ?_
      refine sqT (T := fun _ wx => ∃ (f2 : List UInt8 → Option Nat) (k2 : Nat) (zs2 : List Int), Passed s f2 k2 zs2 (p + n) ∧ OwnR w [(g2, isB 80 #[.string ⟨s.toArray⟩, .map (some g0), .slice (some ⟨g1, 0, none⟩) s.length s.length]), (g1, isB 3 (cellsI zs2)), (g0, isMap4 f2 k2)] wx 5 1 v6 ((b ++ runS ((s.drop al).take (p - al))) ++ [(UInt8.ofNat (n + 124)), (UInt8.ofNat (far % 256)), (UInt8.ofNat (far / 256))]).length (((b ++ runS ((s.drop al).take (p - al))) ++ [(UInt8.ofNat (n + 124)), (UInt8.ofNat (far % 256)), (UInt8.ofNat (far / 256))]).map cb) ∧ Mem w [(g2, isB 80 #[.string ⟨s.toArray⟩, .map (some g0), .slice (some ⟨g1, 0, none⟩) s.length s.length]), (g1, isB 3 (cellsI zs2)), (g0, isMap4 f2 k2)] wx) hF34 (wantedS rfl) (run_call rfl Tryd.func54 (by kernel_rfl) rfl (mapE3 (hF34.ev 3 rfl) (hF34.ev 47 rfl) (hF34.ev 48 rfl))) rfl (by decide) (zpass_any s ((b ++ runS ((s.drop al).take (p - al))) ++ [(UInt8.ofNat (n + 124)), (UInt8.ofNat (far % 256)), (UInt8.ofNat (far / 256))]) f zs g2 g0 g1 k p n v6 w _ [] (hM4.sub (.cons _ (.refl _))) (hO4.sub (.cons _ (.refl _))) hs (by omega) hpd) fun u7 a35 w6 hT6 hF35 => ?_
      obtain ⟨f2, k2, zs2, hpd2, hO5, hM5⟩ := hT6
      refine sqEnd ?_
      clear hF32 hF33 hF34 hM4
      refine nx ?_
      refine wp_seq ?_
      refine wp_region_lit ?_
      refine sq (v := (.int .i64 (p : Int))) hF35 (wantedS rfl) (run_mv rfl (hF35.ev 6 rfl)) rfl (by decide) fun a36 hF36 => ?_
      refine sq (v := (.int .i64 (n : Int))) hF36 (wantedS rfl) (run_mv rfl (hF36.ev 7 rfl)) rfl (by decide) fun a37 hF37 => ?_
      refine sq (v := (.int .i64 ((p + n : Nat) : Int))) hF37 (wantedS rfl) (run_add (r := ((p + n : Nat) : Int)) rfl (hF37.ev 50 rfl) (hF37.ev 51 rfl) (by rw [IntKind.wrap_i64]; omega)) rfl (by decide) fun a38 hF38 => ?_
      refine sq (v := (.int .i64 ((p + n : Nat) : Int))) hF38 (wantedS rfl) (run_as rfl (hF38.ev 52 rfl)) rfl (by decide) fun a39 hF39 => ?_
      refine sqEnd ?_
      clear hF35 hF36 hF37 hF38
      refine nx ?_
      refine wp_region_lit ?_
      refine sq (v := (.int .i64 ((p + n : Nat) : Int))) hF39 (wantedS rfl) (run_mv rfl (hF39.ev 6 rfl)) rfl (by decide) fun a40 hF40 => ?_
      refine sq (v := (.int .i64 ((p + n : Nat) : Int))) hF40 (wantedS rfl) (run_as rfl (hF40.ev 53 rfl)) rfl (by decide) fun a41 hF41 => ?_
      refine sqEnd ?_
      clear hF39 hF40
      refine bkEnd ?_
      refine nx ?_
      exact ⟨_, by omega, _, p + n, p + n, f2, k2, zs2, v6, Nat.le_refl _, by omega, rfl, by rw [← he]; simp [copyT], hpd2, hO5, hF41.sub ⟨rfl, rfl, rfl, rfl, rfl, trivial⟩, hM5⟩
  · have hpe : p = s.length := by omega
    rw [packT_end al (by omega)] at he
    have hdl : (s.drop al).length = s.length - al := List.length_drop
    refine wp_seq ?_
    refine wp_seq ?_
    refine wp_region_lit ?_
    refine sq (v := (.int .i64 (p : Int))) hF0 (wantedS rfl) (run_mv rfl (hF0.ev 6 rfl)) rfl (by decide) fun a1 hF1 => ?_
    refine sq (v := (.string ⟨s.toArray⟩)) hF1 (wantedS rfl) (run_mv rfl (hF1.ev 0 rfl)) rfl (by decide) fun a2 hF2 => ?_
    refine sq (v := (.int .i64 (s.length : Int))) hF2 (wantedS rfl) (run_len rfl (hF2.ev 16 rfl) rfl Tryd.underlying9) rfl (by decide) fun a3 hF3 => ?_
    refine sq (v := (.bool false)) hF3 (wantedS rfl) (run_lss rfl (hF3.ev 15 rfl) (hF3.ev 17 rfl) (decide_eq_false (by omega))) rfl (by decide) fun a4 hF4 => ?_
    refine sqEnd ?_
    clear hF0 hF1 hF2 hF3
    refine nx ?_
    refine wp_cond_false (hF4.ev 18 rfl) ?_
    refine wp_exit ?_
    refine nxExit ?_
    refine nxExit ?_
    refine bkHere ?_
    refine nx ?_
    refine wp_seq ?_
    refine wp_region_lit ?_
    refine sq (v := r) hF4 (wantedS rfl) (run_mv rfl (hF4.ev 4 rfl)) rfl (by decide) fun a5 hF5 => ?_
    refine sq (v := (.string ⟨s.toArray⟩)) hF5 (wantedS rfl) (run_mv rfl (hF5.ev 0 rfl)) rfl (by decide) fun a6 hF6 => ?_
    refine sq (v := (.int .i64 (al : Int))) hF6 (wantedS rfl) (run_mv rfl (hF6.ev 5 rfl)) rfl (by decide) fun a7 hF7 => ?_
    refine sq (v := (.string ⟨(s.drop al).toArray⟩)) hF7 (wantedS rfl) (run_sFrom (m := al) rfl (hF7.ev 55 rfl) (hF7.ev 56 rfl) Tryd.underlying9 (by omega) (by omega)) rfl (by decide) fun a8 hF8 => ?_
    refine sqT (T := fun u wx => OwnR w [(g2, isB 80 #[.string ⟨s.toArray⟩, .map (some g0), .slice (some ⟨g1, 0, none⟩) s.length s.length]), (g1, isB 3 (cellsI zs)), (g0, isMap4 f k)] wx 5 1 u (b ++ runS (s.drop al)).length ((b ++ runS (s.drop al)).map cb) ∧ Mem w [(g2, isB 80 #[.string ⟨s.toArray⟩, .map (some g0), .slice (some ⟨g1, 0, none⟩) s.length s.length]), (g1, isB 3 (cellsI zs)), (g0, isMap4 f k)] wx) hF8 (wantedS rfl) (run_call rfl Tryd.func55 (by kernel_rfl) rfl (mapE2 (hF8.ev 54 rfl) (hF8.ev 57 rfl))) rfl (by decide) (zrun_any b (s.drop al) r w _ _ hM0 hO0 (by omega)) fun u8 a9 w2 hT2 hF9 => ?_
    obtain ⟨hO1, hM1⟩ := hT2
    refine sq (v := (.string ⟨(b ++ runS (s.drop al)).toArray⟩)) hF9 (wantedS rfl) (run_strO hO1 rfl (hF9.ev 58 rfl)) rfl (by decide) fun a10 hF10 => ?_
    refine sq (v := (.string ⟨(b ++ runS (s.drop al)).toArray⟩)) hF10 (wantedS rfl) (run_as rfl (hF10.ev 59 rfl)) rfl (by decide) fun a11 hF11 => ?_
    refine sqEnd ?_
    clear hF4 hF5 hF6 hF7 hF8 hF9 hF10 hM0
    refine nx ?_
    refine wp_ret ?_
    exact ret1 hF11 rfl rfl ⟨by rw [← he], hM1.below⟩
end Go.Proofs.YtpobmaklgnioeaaDoor
