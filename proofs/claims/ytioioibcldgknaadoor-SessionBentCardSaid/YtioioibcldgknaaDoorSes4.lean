/- The walk of the session laws' 'fixed'. Printed by gen_ses4.py. -/
import Derived.Test.YtioioibcldgknaaDoorSes3a
namespace Go.Proofs.YtioioibcldgknaaDoor
open Go.RowKit

attribute [local simp] xorS_len tagS_len keyedS_len nonceS_len
theorem goS_len (c : Ch) : (goS c).k.length = 32 := by dsimp only [goS]; exact nextS_len _
theorem goS_m (c : Ch) : (goS c).m = c.m := rfl
theorem goS_n (c : Ch) : (goS c).n = c.n + 1 := rfl
theorem goS_k (c : Ch) : (goS c).k = nextS c.k := by dsimp only [goS]
theorem nxS_one (k : List UInt8) : nxS k 1 = nextS k := by rw [nxS, nxS]
theorem send_eq {c c2 : Ch} {d s : List UInt8} {e : Int} (h : sendS c d = (c2, s, e)) (w : World) (HG : Glob w) (hLc : c.k.length = 32) (hcn : c.n < 2 ^ 64) (hm : c.m.length < 2 ^ 27) :
    Calls Tryd.prog 12 #[.agg (chA c), .string ⟨d.toArray⟩] w fun x w' => x = .returned (.tuple #[.agg (chA c2), .string ⟨s.toArray⟩, .int .i64 e]) ∧ Below w.heap.size w w' := by
  have h2 := send_any c d w HG hLc hcn hm
  rw [h] at h2
  exact h2
theorem take_eq {c c2 : Ch} {f s : List UInt8} {e : Int} (h : takeS c f = (c2, s, e)) (w : World) (HG : Glob w) (hLc : c.k.length = 32) (hcn : c.n < 2 ^ 64) (hm : c.m.length < 2 ^ 27) (hf : f.length < 2 ^ 28) :
    Calls Tryd.prog 13 #[.agg (chA c), .string ⟨f.toArray⟩] w fun x w' => x = .returned (.tuple #[.agg (chA c2), .string ⟨s.toArray⟩, .int .i64 e]) ∧ Below w.heap.size w w' := by
  have h2 := stake_any c f w HG hLc hcn hm hf
  rw [h] at h2
  exact h2
def chF : Ch := ⟨[97], 0, List.replicate 32 0⟩
theorem chF_len : chF.k.length = 32 := by unfold chF; exact List.length_replicate
theorem chF_n : chF.n = 0 := rfl
theorem chF_m : chF.m = [97] := rfl
set_option maxRecDepth 100000 in
set_option maxHeartbeats 1000000 in
theorem sfix_any (w : World) (HG : Glob w) : Calls Tryd.prog 11 #[] w fun e w' => e = .returned (.bool true) ∧ Below w.heap.size w w' := by
  have hn0 := chF_n
  have hn1 := goS_n chF
  have hm0 : chF.m.length = 1 := rfl
  have hm1 : (goS chF).m.length = 1 := rfl
  have hS1 : sendS chF [104, 105] = ((goS chF), (frameS chF [104, 105]), 0) := sendS_ok _ _ (by decide) (by unfold mostN; omega)
  have hT1 : takeS chF (frameS chF [104, 105]) = ((goS chF), [104, 105], 0) := take_sent _ _ _ rfl (by omega) (by decide) (by unfold mostN; omega) (Nat.le_refl _) (by omega) (by rw [Nat.sub_self, nxS])
  have hT2 : takeS (goS chF) (frameS chF [104, 105]) = (noCh, [], 19) := take_old _ _ _ rfl (by omega) (by decide) (by unfold mostN; omega) (by omega)
  have hfl := frameS_len chF [104, 105] (by omega) (by decide)
  have hfl2 : ([104, 105] : List UInt8).length = 2 := rfl
  generalize (frameS chF [104, 105]) = fr at hS1 hT1 hT2 hfl
  refine walk_enter Tryd.func11 rfl rfl rfl fun a0 hF0 => ?_
  have hM0 := Mem.new w
  refine wp_seq ?_
  refine wp_region_lit ?_
  refine sq (v := (.bool false)) hF0 (wantedS rfl) (run_as rfl rfl) rfl (by decide) fun a1 hF1 => ?_
  refine sqEnd ?_
  clear hF0
  refine nx ?_
  refine wp_seq ?_
  refine wp_region_lit ?_
  refine sq (v := (.agg (chA chF))) hF1 (wantedS rfl) (run_blt (vs := #[(0, .string ⟨List.toArray [97]⟩)]) (cs := chA chF) rfl (bltE1 rfl) (built_ch1 _)) rfl (by decide) fun a2 hF2 => ?_
  refine sqNew (cs := (chA noCh)) (t := 26) hF2 hM0 (wantedS rfl) (run_alloc rfl (by kernel_rfl)) rfl (by decide) fun g0 a3 w1 hgg0 hb1 hF3 hM1 => ?_
  refine sqStore (i := 0) hF3 hM1 rfl rfl rfl (hF3.ev 1 rfl) (hF3.ev 11 rfl) rfl szCh (chA_size chF_len) (chA_size noCh_len) (chA_one _) fun a4 w2 hF4 hM2 => ?_
  refine sqEnd ?_
  clear hF1 hF2 hF3 hM0 hM1
  refine nx ?_
  refine wp_seq ?_
  refine wp_region_lit ?_
  refine sq (v := (.agg (chA chF))) hF4 (wantedS rfl) (run_ldB rfl (hF4.ev 1 rfl) (hM2.at 0 rfl) Tryd.underlying26 rfl szCh (chA_size chF_len)) rfl (by decide) fun a5 hF5 => ?_
  refine sqC (v := (.tuple #[(.agg (chA (goS chF))), (.string ⟨fr.toArray⟩), (.int .i64 0)])) hF5 hM2 (wantedS rfl) (run_call rfl Tryd.func12 (by kernel_rfl) rfl (mapE2 (hF5.ev 13 rfl) rfl)) rfl (by decide) (send_eq hS1 w2 (HG.below hM2.below) chF_len (by first | omega | decide | (simp; done) | (simp; omega)) (by first | omega | decide | (simp; done) | (simp; omega))) fun a6 w3 hb3 hF6 hM3 => ?_
  refine sq (v := (.tuple #[(.agg (chA (goS chF))), (.string ⟨fr.toArray⟩), (.int .i64 0)])) hF6 (wantedS rfl) (run_mv rfl (hF6.ev 14 rfl)) rfl (by decide) fun a7 hF7 => ?_
  refine sq (v := (.agg (chA (goS chF)))) hF7 (wantedS rfl) (run_ext rfl (hF7.ev 12 rfl) rfl) rfl (by decide) fun a8 hF8 => ?_
  refine sq (v := (.string ⟨fr.toArray⟩)) hF8 (wantedS rfl) (run_ext rfl (hF8.ev 12 rfl) rfl) rfl (by decide) fun a9 hF9 => ?_
  refine sq (v := (.int .i64 0)) hF9 (wantedS rfl) (run_ext rfl (hF9.ev 12 rfl) rfl) rfl (by decide) fun a10 hF10 => ?_
  refine sqNew (cs := (chA noCh)) (t := 26) hF10 hM3 (wantedS rfl) (run_alloc rfl (by kernel_rfl)) rfl (by decide) fun g1 a11 w4 hgg1 hb4 hF11 hM4 => ?_
  refine sqStore (i := 0) hF11 hM4 rfl rfl rfl (hF11.ev 2 rfl) (hF11.ev 15 rfl) rfl szCh (chA_size (goS_len _)) (chA_size noCh_len) (chA_one _) fun a12 w5 hF12 hM5 => ?_
  refine sq (v := (.string ⟨fr.toArray⟩)) hF12 (wantedS rfl) (run_as rfl (hF12.ev 16 rfl)) rfl (by decide) fun a13 hF13 => ?_
  refine sq (v := (.int .i64 0)) hF13 (wantedS rfl) (run_as rfl (hF13.ev 17 rfl)) rfl (by decide) fun a14 hF14 => ?_
  refine sqEnd ?_
  clear hF4 hF5 hF6 hF7 hF8 hF9 hF10 hF11 hF12 hF13 hM2 hM3 hM4
  refine nx ?_
  refine wp_seq ?_
  refine wp_region_lit ?_
  refine sq (v := (.agg (chA chF))) hF14 (wantedS rfl) (run_ldB rfl (hF14.ev 1 rfl) (hM5.at 1 rfl) Tryd.underlying26 rfl szCh (chA_size chF_len)) rfl (by decide) fun a15 hF15 => ?_
  refine sq (v := (.string ⟨fr.toArray⟩)) hF15 (wantedS rfl) (run_mv rfl (hF15.ev 3 rfl)) rfl (by decide) fun a16 hF16 => ?_
  refine sqC (v := (.tuple #[(.agg (chA (goS chF))), (.string ⟨List.toArray [104, 105]⟩), (.int .i64 0)])) hF16 hM5 (wantedS rfl) (run_call rfl Tryd.func13 (by kernel_rfl) rfl (mapE2 (hF16.ev 19 rfl) (hF16.ev 20 rfl))) rfl (by decide) (take_eq hT1 w5 (HG.below hM5.below) chF_len (by first | omega | decide | (simp; done) | (simp; omega)) (by first | omega | decide | (simp; done) | (simp; omega)) (by first | omega | decide | (simp; done) | (simp; omega))) fun a17 w6 hb6 hF17 hM6 => ?_
  refine sq (v := (.tuple #[(.agg (chA (goS chF))), (.string ⟨List.toArray [104, 105]⟩), (.int .i64 0)])) hF17 (wantedS rfl) (run_mv rfl (hF17.ev 21 rfl)) rfl (by decide) fun a18 hF18 => ?_
  refine sq (v := (.agg (chA (goS chF)))) hF18 (wantedS rfl) (run_ext rfl (hF18.ev 18 rfl) rfl) rfl (by decide) fun a19 hF19 => ?_
  refine sq (v := (.string ⟨List.toArray [104, 105]⟩)) hF19 (wantedS rfl) (run_ext rfl (hF19.ev 18 rfl) rfl) rfl (by decide) fun a20 hF20 => ?_
  refine sq (v := (.int .i64 0)) hF20 (wantedS rfl) (run_ext rfl (hF20.ev 18 rfl) rfl) rfl (by decide) fun a21 hF21 => ?_
  refine sqNew (cs := (chA noCh)) (t := 26) hF21 hM6 (wantedS rfl) (run_alloc rfl (by kernel_rfl)) rfl (by decide) fun g2 a22 w7 hgg2 hb7 hF22 hM7 => ?_
  refine sqStore (i := 0) hF22 hM7 rfl rfl rfl (hF22.ev 5 rfl) (hF22.ev 22 rfl) rfl szCh (chA_size (goS_len _)) (chA_size noCh_len) (chA_one _) fun a23 w8 hF23 hM8 => ?_
  refine sq (v := (.string ⟨List.toArray [104, 105]⟩)) hF23 (wantedS rfl) (run_as rfl (hF23.ev 23 rfl)) rfl (by decide) fun a24 hF24 => ?_
  refine sq (v := (.int .i64 0)) hF24 (wantedS rfl) (run_as rfl (hF24.ev 24 rfl)) rfl (by decide) fun a25 hF25 => ?_
  refine sqEnd ?_
  clear hF14 hF15 hF16 hF17 hF18 hF19 hF20 hF21 hF22 hF23 hF24 hM5 hM6 hM7
  refine nx ?_
  refine wp_seq ?_
  refine wp_region_lit ?_
  refine sq (v := (.agg (chA (goS chF)))) hF25 (wantedS rfl) (run_ldB rfl (hF25.ev 5 rfl) (hM8.at 0 rfl) Tryd.underlying26 rfl szCh (chA_size (goS_len _))) rfl (by decide) fun a26 hF26 => ?_
  refine sq (v := (.string ⟨fr.toArray⟩)) hF26 (wantedS rfl) (run_mv rfl (hF26.ev 3 rfl)) rfl (by decide) fun a27 hF27 => ?_
  refine sqC (v := (.tuple #[(.agg (chA noCh)), (.string ⟨List.toArray []⟩), (.int .i64 19)])) hF27 hM8 (wantedS rfl) (run_call rfl Tryd.func13 (by kernel_rfl) rfl (mapE2 (hF27.ev 26 rfl) (hF27.ev 27 rfl))) rfl (by decide) (take_eq hT2 w8 (HG.below hM8.below) (goS_len _) (by first | omega | decide | (simp; done) | (simp; omega)) (by first | omega | decide | (simp; done) | (simp; omega)) (by first | omega | decide | (simp; done) | (simp; omega))) fun a28 w9 hb9 hF28 hM9 => ?_
  refine sq (v := (.tuple #[(.agg (chA noCh)), (.string ⟨List.toArray []⟩), (.int .i64 19)])) hF28 (wantedS rfl) (run_mv rfl (hF28.ev 28 rfl)) rfl (by decide) fun a29 hF29 => ?_
  refine sq (v := (.agg (chA noCh))) hF29 (wantedS rfl) (run_ext rfl (hF29.ev 25 rfl) rfl) rfl (by decide) fun a30 hF30 => ?_
  refine sq (v := (.string ⟨List.toArray []⟩)) hF30 (wantedS rfl) (run_ext rfl (hF30.ev 25 rfl) rfl) rfl (by decide) fun a31 hF31 => ?_
  refine sq (v := (.int .i64 19)) hF31 (wantedS rfl) (run_ext rfl (hF31.ev 25 rfl) rfl) rfl (by decide) fun a32 hF32 => ?_
  refine sqNew (cs := (chA noCh)) (t := 26) hF32 hM9 (wantedS rfl) (run_alloc rfl (by kernel_rfl)) rfl (by decide) fun g3 a33 w10 hgg3 hb10 hF33 hM10 => ?_
  refine sqStore (i := 0) hF33 hM10 rfl rfl rfl (hF33.ev 8 rfl) (hF33.ev 29 rfl) rfl szCh (chA_size noCh_len) (chA_size noCh_len) (chA_one _) fun a34 w11 hF34 hM11 => ?_
  refine sq (v := (.string ⟨List.toArray []⟩)) hF34 (wantedS rfl) (run_as rfl (hF34.ev 30 rfl)) rfl (by decide) fun a35 hF35 => ?_
  refine sq (v := (.int .i64 19)) hF35 (wantedS rfl) (run_as rfl (hF35.ev 31 rfl)) rfl (by decide) fun a36 hF36 => ?_
  refine sqEnd ?_
  clear hF25 hF26 hF27 hF28 hF29 hF30 hF31 hF32 hF33 hF34 hF35 hM8 hM9 hM10
  refine nx ?_
  refine wp_seq ?_
  refine wp_region_lit ?_
  refine sq (v := (.int .i64 0)) hF36 (wantedS rfl) (run_mv rfl (hF36.ev 4 rfl)) rfl (by decide) fun a37 hF37 => ?_
  refine sq (v := (.bool true)) hF37 (wantedS rfl) (run_eqi rfl (hF37.ev 32 rfl) rfl (beq_self_eq_true _)) rfl (by decide) fun a38 hF38 => ?_
  refine sq (v := (.bool true)) hF38 (wantedS rfl) (run_mv rfl (hF38.ev 33 rfl)) rfl (by decide) fun a39 hF39 => ?_
  refine sq (v := (.int .i64 0)) hF39 (wantedG hF39 rfl rfl rfl rfl rfl) (run_mv rfl (hF39.ev 7 rfl)) rfl (by decide) fun a40 hF40 => ?_
  refine sq (v := (.bool true)) hF40 (wantedG hF40 rfl rfl rfl rfl rfl) (run_eqi rfl (hF40.ev 35 rfl) rfl (beq_self_eq_true _)) rfl (by decide) fun a41 hF41 => ?_
  refine sq (v := (.bool true)) hF41 (wantedS rfl) (run_pick rfl (hF41.ev 34 rfl) (hF41.ev 36 rfl) rfl) rfl (by decide) fun a42 hF42 => ?_
  refine sq (v := (.bool true)) hF42 (wantedS rfl) (run_mv rfl (hF42.ev 37 rfl)) rfl (by decide) fun a43 hF43 => ?_
  refine sq (v := (.string ⟨List.toArray [104, 105]⟩)) hF43 (wantedG hF43 rfl rfl rfl rfl rfl) (run_mv rfl (hF43.ev 6 rfl)) rfl (by decide) fun a44 hF44 => ?_
  refine sq (v := (.bool true)) hF44 (wantedG hF44 rfl rfl rfl rfl rfl) (run_eqs rfl (hF44.ev 39 rfl) rfl (beq_self_eq_true _)) rfl (by decide) fun a45 hF45 => ?_
  refine sq (v := (.bool true)) hF45 (wantedS rfl) (run_pick rfl (hF45.ev 38 rfl) (hF45.ev 40 rfl) rfl) rfl (by decide) fun a46 hF46 => ?_
  refine sq (v := (.bool true)) hF46 (wantedS rfl) (run_mv rfl (hF46.ev 41 rfl)) rfl (by decide) fun a47 hF47 => ?_
  refine sq (v := (.agg (chA (goS chF)))) hF47 (wantedG hF47 rfl rfl rfl rfl rfl) (run_ldB rfl (hF47.ev 2 rfl) (hM11.at 2 rfl) Tryd.underlying26 rfl szCh (chA_size (goS_len _))) rfl (by decide) fun a48 hF48 => ?_
  refine sq (v := (.agg (chA (goS chF)))) hF48 (wantedG hF48 rfl rfl rfl rfl rfl) (run_ldB rfl (hF48.ev 5 rfl) (hM11.at 1 rfl) Tryd.underlying26 rfl szCh (chA_size (goS_len _))) rfl (by decide) fun a49 hF49 => ?_
  refine sq (v := (.bool true)) hF49 (wantedG hF49 rfl rfl rfl rfl rfl) (run_eqCh (goS_len _) rfl (hF49.ev 43 rfl) (hF49.ev 44 rfl)) rfl (by decide) fun a50 hF50 => ?_
  refine sq (v := (.bool true)) hF50 (wantedS rfl) (run_pick rfl (hF50.ev 42 rfl) (hF50.ev 45 rfl) rfl) rfl (by decide) fun a51 hF51 => ?_
  refine sq (v := (.bool true)) hF51 (wantedS rfl) (run_mv rfl (hF51.ev 46 rfl)) rfl (by decide) fun a52 hF52 => ?_
  refine sq (v := (.pointer (some ⟨g1, 1, none⟩))) hF52 (wantedG hF52 rfl rfl rfl rfl rfl) (run_fldA (m := 1) (s := 1) rfl (hF52.ev 2 rfl) Tryd.underlying26 rfl rfl (by kernel_rfl) (by decide)) rfl (by decide) fun a53 hF53 => ?_
  refine sq (v := (.int .u64 ((goS chF).n : Int))) hF53 (wantedG hF53 rfl rfl rfl rfl rfl) (run_ldF rfl (hF53.ev 48 rfl) (hM11.at 2 rfl) rfl (by kernel_rfl)) rfl (by decide) fun a54 hF54 => ?_
  refine sq (v := (.bool true)) hF54 (wantedG hF54 rfl rfl rfl rfl rfl) (run_eqi rfl (hF54.ev 49 rfl) rfl (by rw [goS_n, chF_n]; rfl)) rfl (by decide) fun a55 hF55 => ?_
  refine sq (v := (.bool true)) hF55 (wantedS rfl) (run_pick rfl (hF55.ev 47 rfl) (hF55.ev 50 rfl) rfl) rfl (by decide) fun a56 hF56 => ?_
  refine sq (v := (.bool true)) hF56 (wantedS rfl) (run_mv rfl (hF56.ev 51 rfl)) rfl (by decide) fun a57 hF57 => ?_
  refine sq (v := (.int .i64 19)) hF57 (wantedG hF57 rfl rfl rfl rfl rfl) (run_mv rfl (hF57.ev 10 rfl)) rfl (by decide) fun a58 hF58 => ?_
  refine sq (v := (.bool true)) hF58 (wantedG hF58 rfl rfl rfl rfl rfl) (run_eqi rfl (hF58.ev 53 rfl) rfl (beq_self_eq_true _)) rfl (by decide) fun a59 hF59 => ?_
  refine sq (v := (.bool true)) hF59 (wantedS rfl) (run_pick rfl (hF59.ev 52 rfl) (hF59.ev 54 rfl) rfl) rfl (by decide) fun a60 hF60 => ?_
  refine sq (v := (.bool true)) hF60 (wantedS rfl) (run_as rfl (hF60.ev 55 rfl)) rfl (by decide) fun a61 hF61 => ?_
  refine sqEnd ?_
  clear hF36 hF37 hF38 hF39 hF40 hF41 hF42 hF43 hF44 hF45 hF46 hF47 hF48 hF49 hF50 hF51 hF52 hF53 hF54 hF55 hF56 hF57 hF58 hF59 hF60
  refine nx ?_
  refine wp_ret ?_
  exact ret1 hF61 rfl rfl ⟨rfl, hM11.below⟩
end Go.Proofs.YtioioibcldgknaaDoor
