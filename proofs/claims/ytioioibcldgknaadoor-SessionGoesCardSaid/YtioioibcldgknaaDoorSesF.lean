/- The walk of the law SessionAnswers. Printed by gen_ses6.py. -/
import Derived.Test.YtioioibcldgknaaDoorSes4
import Derived.Test.YtioioibcldgknaaDoorNewR
namespace Go.Proofs.YtioioibcldgknaaDoor
open Go.RowKit

attribute [local simp] xorS_len tagS_len keyedS_len nonceS_len
theorem reply_len (k : List UInt8) (n : Nat) (d : List UInt8) : (replyS k n d).length = d.length + 44 := sealS_len _ _ _ _ (nonceS_len _)
theorem answer_reply (k : List UInt8) (n : Nat) (d : List UInt8) : answerS k n (replyS k n d) = (d, 0) := openS_seal _ _ _ _ (nonceS_len _)
theorem openS_five' (k h x : List UInt8) (hx : 44 ≤ x.length) (hn : (openS k h x).2 ≠ 0) : (openS k h x).2 = 5 := by
  unfold openS at hn ⊢
  rw [if_neg (by omega)] at hn ⊢
  split
  · rename_i ht
    rw [if_pos ht] at hn
    exact absurd rfl hn
  · rfl
theorem answer_eq {k x s : List UInt8} {n : Nat} {e : Int} (h : answerS k n x = (s, e)) (w : World) (HG : Glob w) (hLk : k.length = 32) (hx : x.length < 2 ^ 28) :
    Calls Tryd.prog 25 #[.agg (cells8 k), .int .u64 (n : Int), .string ⟨x.toArray⟩] w fun q w' => q = .returned (.tuple #[.string ⟨s.toArray⟩, .int .i64 e]) ∧ Below w.heap.size w w' := by
  have h2 := answer_any k n x w HG hLk hx
  rw [h] at h2
  exact h2
theorem ranswer_eq {k x s : List UInt8} {n : Nat} {e : Int} (h : answerS k n x = (s, e)) (w : World) (hLk : k.length = 32) (hn : n < 2 ^ 64) (hx : x.length < 2 ^ 28) :
    Calls Tryd.prog 26 #[.agg (cells8 k), .int .u64 (n : Int), .string ⟨x.toArray⟩] w fun q w' => q = .returned (.tuple #[.string ⟨s.toArray⟩, .int .i64 e]) ∧ Below w.heap.size w w' := by
  have h2 := ranswer_any k n x w hLk hn hx
  rw [h] at h2
  exact h2
set_option maxRecDepth 100000 in
set_option maxHeartbeats 1000000 in
theorem lawSAnswers_any (a b : Ch) (d : List UInt8) (w : World) (HG : Glob w) (hLa : a.k.length = 32) (_han : a.n < 2 ^ 64) (hLb : b.k.length = 32) (hbn : b.n < 2 ^ 64) (_hd : d.length ≤ maxLen) : Calls Tryd.prog 10 #[.agg (chA a), .agg (chA b), .string ⟨d.toArray⟩] w fun e w' => e = .returned (.bool true) ∧ Below w.heap.size w w' := by
  by_cases h1 : 200 < d.length
  · skip
    refine walk_enter Tryd.func10 rfl rfl rfl fun a0 hF0 => ?_
    have hM0 := Mem.new w
    refine wp_seq ?_
    refine wp_region_lit ?_
    refine sqNew (cs := (chA a)) (t := 26) hF0 hM0 (wantedS rfl) (run_box rfl (hF0.ev 0 rfl)) rfl (by decide) fun g0 a1 w1 hgg0 hb1 hF1 hM1 => ?_
    refine sqNew (cs := (chA b)) (t := 26) hF1 hM1 (wantedS rfl) (run_box rfl (hF1.ev 1 rfl)) rfl (by decide) fun g1 a2 w2 hgg1 hb2 hF2 hM2 => ?_
    refine sq (v := (.bool false)) hF2 (wantedS rfl) (run_as rfl rfl) rfl (by decide) fun a3 hF3 => ?_
    refine sqEnd ?_
    clear hF0 hF1 hF2 hM0 hM1
    refine nx ?_
    refine wp_seq ?_
    refine wp_seq ?_
    refine wp_region_lit ?_
    refine sq (v := (.string ⟨d.toArray⟩)) hF3 (wantedS rfl) (run_mv rfl (hF3.ev 2 rfl)) rfl (by decide) fun a4 hF4 => ?_
    refine sq (v := (.int .i64 (d.length : Int))) hF4 (wantedS rfl) (run_len rfl (hF4.ev 18 rfl) rfl Tryd.underlying9) rfl (by decide) fun a5 hF5 => ?_
    refine sq (v := (.bool true)) hF5 (wantedS rfl) (run_gtr rfl (hF5.ev 19 rfl) rfl (decide_eq_true (by omega))) rfl (by decide) fun a6 hF6 => ?_
    refine sqEnd ?_
    clear hF3 hF4 hF5
    refine nx ?_
    refine wp_cond_true (hF6.ev 20 rfl) ?_
    refine wp_seq ?_
    refine wp_region_lit ?_
    refine sqC (v := (.bool true)) hF6 hM2 (wantedS rfl) (run_call rfl Tryd.func11 (by kernel_rfl) rfl (mapE0 )) rfl (by decide) (sfix_any w2 (HG.below hM2.below)) fun a7 w3 hb3 hF7 hM3 => ?_
    refine sq (v := (.bool true)) hF7 (wantedS rfl) (run_as rfl (hF7.ev 21 rfl)) rfl (by decide) fun a8 hF8 => ?_
    refine sqEnd ?_
    clear hF6 hF7 hM2
    refine nx ?_
    refine wp_ret ?_
    refine nxRet ?_
    exact ret1 hF8 rfl rfl ⟨rfl, hM3.below⟩
  have hrl := reply_len a.k a.n d
  have hA1 := answer_reply a.k a.n d
  have hor := openS_or (keyedS b.k replyT) (putS b.n) (replyS a.k a.n d)
  have h5 := openS_five' (keyedS b.k replyT) (putS b.n) (replyS a.k a.n d) (by omega)
  obtain ⟨⟨ts, te⟩, hA2⟩ : ∃ q, answerS b.k b.n (replyS a.k a.n d) = q := ⟨_, rfl⟩
  have hA2' : openS (keyedS b.k replyT) (putS b.n) (replyS a.k a.n d) = (ts, te) := hA2
  rw [hA2'] at hor h5
  simp only at hor h5
  have hR := reply_any a.k a.n d
  generalize (replyS a.k a.n d) = rp at hrl hA1 hA2 hR
  clear hA2'
  by_cases hz : te = 0
  · subst hz
    refine walk_enter Tryd.func10 rfl rfl rfl fun a0 hF0 => ?_
    have hM0 := Mem.new w
    refine wp_seq ?_
    refine wp_region_lit ?_
    refine sqNew (cs := (chA a)) (t := 26) hF0 hM0 (wantedS rfl) (run_box rfl (hF0.ev 0 rfl)) rfl (by decide) fun g0 a1 w1 hgg0 hb1 hF1 hM1 => ?_
    refine sqNew (cs := (chA b)) (t := 26) hF1 hM1 (wantedS rfl) (run_box rfl (hF1.ev 1 rfl)) rfl (by decide) fun g1 a2 w2 hgg1 hb2 hF2 hM2 => ?_
    refine sq (v := (.bool false)) hF2 (wantedS rfl) (run_as rfl rfl) rfl (by decide) fun a3 hF3 => ?_
    refine sqEnd ?_
    clear hF0 hF1 hF2 hM0 hM1
    refine nx ?_
    refine wp_seq ?_
    refine wp_seq ?_
    refine wp_region_lit ?_
    refine sq (v := (.string ⟨d.toArray⟩)) hF3 (wantedS rfl) (run_mv rfl (hF3.ev 2 rfl)) rfl (by decide) fun a4 hF4 => ?_
    refine sq (v := (.int .i64 (d.length : Int))) hF4 (wantedS rfl) (run_len rfl (hF4.ev 18 rfl) rfl Tryd.underlying9) rfl (by decide) fun a5 hF5 => ?_
    refine sq (v := (.bool false)) hF5 (wantedS rfl) (run_gtr rfl (hF5.ev 19 rfl) rfl (decide_eq_false (by omega))) rfl (by decide) fun a6 hF6 => ?_
    refine sqEnd ?_
    clear hF3 hF4 hF5
    refine nx ?_
    refine wp_cond_false (hF6.ev 20 rfl) ?_
    refine wp_skip ?_
    refine nx ?_
    refine wp_seq ?_
    refine wp_region_new 82 [some (.pointer (some ⟨g0, 2, none⟩)), some (.agg (cells8 a.k)), some (.pointer (some ⟨g1, 2, none⟩)), some (.agg (cells8 b.k)), some (.pointer (some ⟨g0, 1, none⟩)), some (.int .u64 (a.n : Int)), some (.pointer (some ⟨g1, 1, none⟩)), some (.int .u64 (b.n : Int)), none, none, none, none, some (.int .u64 (a.n : Int)), some (.int .u64 (b.n : Int))] [⟨8, 7, 10, 24, (cells8 (List.replicate 32 0)), (cells8 a.k)⟩, ⟨9, 8, 11, 24, (cells8 (List.replicate 32 0)), (cells8 b.k)⟩] (by kernel_rfl) (by kernel_rfl) hF6.size hM2 ?_ ?_ fun a7 w3 gs hI => ?_
    · intro d hd
      simp only [List.mem_cons, List.not_mem_nil, or_false] at hd
      rcases hd with rfl | rfl <;> exact ⟨Nat.le_of_ble_eq_true (by kernel_rfl), _, rfl, rfl⟩
    · refine ⟨?_, ?_, ?_, ?_, ?_, ?_, ?_, ?_, ?_, ?_, ?_, ?_, ?_, ?_, trivial⟩
      · refine .val 22 (.pointer (some ⟨g0, 2, none⟩)) rfl rfl (by simp) fun a W hS hh hd => ⟨wanted_yes rfl, ?_⟩
        exact givn_run (run_fldA (m := 32) (s := 2) rfl (eval_tmp (hh 3 _ rfl (hF6.at 3 rfl))) Tryd.underlying26 rfl rfl (by kernel_rfl) (by decide))
      · refine .val 23 (.agg (cells8 a.k)) rfl rfl (by simp) fun a W hS hh hd => ⟨wanted_yes rfl, ?_⟩
        exact givn_run (run_ldK rfl (eval_tmp (hd 0 22 _ (by kernel_rfl) rfl)) (hS.at 1 rfl) hLa)
      · refine .val 24 (.pointer (some ⟨g1, 2, none⟩)) rfl rfl (by simp) fun a W hS hh hd => ⟨wanted_yes rfl, ?_⟩
        exact givn_run (run_fldA (m := 32) (s := 2) rfl (eval_tmp (hh 4 _ rfl (hF6.at 4 rfl))) Tryd.underlying26 rfl rfl (by kernel_rfl) (by decide))
      · refine .val 25 (.agg (cells8 b.k)) rfl rfl (by simp) fun a W hS hh hd => ⟨wanted_yes rfl, ?_⟩
        exact givn_run (run_ldK rfl (eval_tmp (hd 2 24 _ (by kernel_rfl) rfl)) (hS.at 0 rfl) hLb)
      · refine .val 26 (.pointer (some ⟨g0, 1, none⟩)) rfl rfl (by simp) fun a W hS hh hd => ⟨wanted_yes rfl, ?_⟩
        exact givn_run (run_fldA (m := 1) (s := 1) rfl (eval_tmp (hh 3 _ rfl (hF6.at 3 rfl))) Tryd.underlying26 rfl rfl (by kernel_rfl) (by decide))
      · refine .val 27 (.int .u64 (a.n : Int)) rfl rfl (by simp) fun a W hS hh hd => ⟨wanted_yes rfl, ?_⟩
        exact givn_run (run_ldF rfl (eval_tmp (hd 4 26 _ (by kernel_rfl) rfl)) (hS.at 1 rfl) rfl (by kernel_rfl))
      · refine .val 28 (.pointer (some ⟨g1, 1, none⟩)) rfl rfl (by simp) fun a W hS hh hd => ⟨wanted_yes rfl, ?_⟩
        exact givn_run (run_fldA (m := 1) (s := 1) rfl (eval_tmp (hh 4 _ rfl (hF6.at 4 rfl))) Tryd.underlying26 rfl rfl (by kernel_rfl) (by decide))
      · refine .val 29 (.int .u64 (b.n : Int)) rfl rfl (by simp) fun a W hS hh hd => ⟨wanted_yes rfl, ?_⟩
        exact givn_run (run_ldF rfl (eval_tmp (hd 6 28 _ (by kernel_rfl) rfl)) (hS.at 0 rfl) rfl (by kernel_rfl))
      · exact .new 0 _ rfl rfl rfl rfl (by simp) (fun y e hy he => by rcases y with _ | _ | y <;> simp at hy <;> (try subst hy) <;> simp at he ⊢) fun a W => ⟨wanted_yes rfl, run_alloc rfl (by kernel_rfl)⟩
      · exact .new 1 _ rfl rfl rfl rfl (by simp) (fun y e hy he => by rcases y with _ | _ | y <;> simp at hy <;> (try subst hy) <;> simp at he ⊢) fun a W => ⟨wanted_yes rfl, run_alloc rfl (by kernel_rfl)⟩
      · exact .put 0 _ rfl rfl rfl (by simp) (fun y e hy he => by rcases y with _ | _ | y <;> simp at hy <;> (try subst hy) <;> simp at he ⊢) (by kernel_rfl) 32 24 _ _ rfl rfl (fun a hh hd => (eval_tmp (hd 1 23 _ (by kernel_rfl) rfl))) rfl sz32k (szOf hLa) (szOf List.length_replicate) (cells8_one _)
      · exact .put 1 _ rfl rfl rfl (by simp) (fun y e hy he => by rcases y with _ | _ | y <;> simp at hy <;> (try subst hy) <;> simp at he ⊢) (by kernel_rfl) 32 24 _ _ rfl rfl (fun a hh hd => (eval_tmp (hd 3 25 _ (by kernel_rfl) rfl))) rfl sz32k (szOf hLb) (szOf List.length_replicate) (cells8_one _)
      · refine .val 9 (.int .u64 (a.n : Int)) rfl rfl (by simp) fun a W hS hh hd => ⟨wanted_yes rfl, ?_⟩
        exact givn_run (run_as rfl (eval_tmp (hd 5 27 _ (by kernel_rfl) rfl)))
      · refine .val 10 (.int .u64 (b.n : Int)) rfl rfl (by simp) fun a W hS hh hd => ⟨wanted_yes rfl, ?_⟩
        exact givn_run (run_as rfl (eval_tmp (hd 7 29 _ (by kernel_rfl) rfl)))
    obtain ⟨pg2, qg2, Bg2, fg2⟩ := hI.blk 0 _ rfl rfl
    obtain ⟨pg3, qg3, Bg3, fg3⟩ := hI.blk 1 _ rfl rfl
    have neg3 := hI.apart 0 1 _ _ rfl rfl (by decide) rfl rfl
    generalize gs 0 = g2 at pg2 qg2 Bg2 fg2 neg3
    generalize gs 1 = g3 at pg3 qg3 Bg3 fg3 neg3
    have hM3 := hI.mem.put1 (cs := (cells8 a.k)) qg2 Bg2 fg2
    have hM4 := hM3.put1 (cs := (cells8 b.k)) qg3 Bg3 (far_cons neg3 fg3)
    have hF7 : Fr a7 82 [(0, (.agg (chA a))), (1, (.agg (chA b))), (2, (.string ⟨d.toArray⟩)), (6, (.bool false)), (7, (.pointer (some ⟨g2, 0, none⟩))), (8, (.pointer (some ⟨g3, 0, none⟩))), (9, (.int .u64 (a.n : Int))), (10, (.int .u64 (b.n : Int))), (18, (.string ⟨d.toArray⟩)), (19, (.int .i64 (d.length : Int))), (20, (.bool false)), (23, (.agg (cells8 a.k))), (25, (.agg (cells8 b.k))), (27, (.int .u64 (a.n : Int))), (29, (.int .u64 (b.n : Int)))] := fr_of_holds hI.size (hI.defers.trans hF6.defers) ⟨hI.had 0 _ rfl (hF6.at 0 rfl), hI.had 1 _ rfl (hF6.at 1 rfl), hI.had 2 _ rfl (hF6.at 2 rfl), hI.had 6 _ rfl (hF6.at 6 rfl), pg2, pg3, hI.val 12 _ 9 _ rfl rfl rfl rfl, hI.val 13 _ 10 _ rfl rfl rfl rfl, hI.had 18 _ rfl (hF6.at 18 rfl), hI.had 19 _ rfl (hF6.at 19 rfl), hI.had 20 _ rfl (hF6.at 20 rfl), hI.val 1 _ 23 _ rfl rfl rfl rfl, hI.val 3 _ 25 _ rfl rfl rfl rfl, hI.val 5 _ 27 _ rfl rfl rfl rfl, hI.val 7 _ 29 _ rfl rfl rfl rfl, trivial⟩
    clear hI pg2 Bg2 fg2 pg3 Bg3 fg3 neg3
    clear hF6 hM2 hM3
    refine nx ?_
    refine wp_seq ?_
    refine wp_region_lit ?_
    refine sq (v := (.agg (cells8 a.k))) hF7 (wantedS rfl) (run_ldB rfl (hF7.ev 7 rfl) (hM4.at 1 rfl) Tryd.underlying24 rfl sz32k (szOf hLa)) rfl (by decide) fun a8 hF8 => ?_
    refine sq (v := (.int .u64 (a.n : Int))) hF8 (wantedS rfl) (run_mv rfl (hF8.ev 9 rfl)) rfl (by decide) fun a9 hF9 => ?_
    refine sq (v := (.string ⟨d.toArray⟩)) hF9 (wantedS rfl) (run_mv rfl (hF9.ev 2 rfl)) rfl (by decide) fun a10 hF10 => ?_
    refine sqC (v := (.string ⟨rp.toArray⟩)) hF10 hM4 (wantedS rfl) (run_call rfl Tryd.func23 (by kernel_rfl) rfl (mapE3 (hF10.ev 30 rfl) (hF10.ev 31 rfl) (hF10.ev 32 rfl))) rfl (by decide) (hR w3 (HG.below hM4.below) hLa (by omega)) fun a11 w4 hb4 hF11 hM5 => ?_
    refine sq (v := (.string ⟨rp.toArray⟩)) hF11 (wantedS rfl) (run_as rfl (hF11.ev 33 rfl)) rfl (by decide) fun a12 hF12 => ?_
    refine sqEnd ?_
    clear hF7 hF8 hF9 hF10 hF11 hM4
    refine nx ?_
    refine wp_seq ?_
    refine wp_region_lit ?_
    refine sq (v := (.agg (cells8 a.k))) hF12 (wantedS rfl) (run_ldB rfl (hF12.ev 7 rfl) (hM5.at 1 rfl) Tryd.underlying24 rfl sz32k (szOf hLa)) rfl (by decide) fun a13 hF13 => ?_
    refine sq (v := (.int .u64 (a.n : Int))) hF13 (wantedS rfl) (run_mv rfl (hF13.ev 9 rfl)) rfl (by decide) fun a14 hF14 => ?_
    refine sq (v := (.string ⟨rp.toArray⟩)) hF14 (wantedS rfl) (run_mv rfl (hF14.ev 11 rfl)) rfl (by decide) fun a15 hF15 => ?_
    refine sqC (v := (.tuple #[(.string ⟨d.toArray⟩), (.int .i64 0)])) hF15 hM5 (wantedS rfl) (run_call rfl Tryd.func25 (by kernel_rfl) rfl (mapE3 (hF15.ev 35 rfl) (hF15.ev 36 rfl) (hF15.ev 37 rfl))) rfl (by decide) (answer_eq hA1 w4 (HG.below hM5.below) hLa (by omega)) fun a16 w5 hb5 hF16 hM6 => ?_
    refine sq (v := (.tuple #[(.string ⟨d.toArray⟩), (.int .i64 0)])) hF16 (wantedS rfl) (run_mv rfl (hF16.ev 38 rfl)) rfl (by decide) fun a17 hF17 => ?_
    refine sq (v := (.string ⟨d.toArray⟩)) hF17 (wantedS rfl) (run_ext rfl (hF17.ev 34 rfl) rfl) rfl (by decide) fun a18 hF18 => ?_
    refine sq (v := (.int .i64 0)) hF18 (wantedS rfl) (run_ext rfl (hF18.ev 34 rfl) rfl) rfl (by decide) fun a19 hF19 => ?_
    refine sq (v := (.string ⟨d.toArray⟩)) hF19 (wantedS rfl) (run_as rfl (hF19.ev 39 rfl)) rfl (by decide) fun a20 hF20 => ?_
    refine sq (v := (.int .i64 0)) hF20 (wantedS rfl) (run_as rfl (hF20.ev 40 rfl)) rfl (by decide) fun a21 hF21 => ?_
    refine sqEnd ?_
    clear hF12 hF13 hF14 hF15 hF16 hF17 hF18 hF19 hF20 hM5
    refine nx ?_
    refine wp_seq ?_
    refine wp_region_lit ?_
    refine sq (v := (.agg (cells8 b.k))) hF21 (wantedS rfl) (run_ldB rfl (hF21.ev 8 rfl) (hM6.at 0 rfl) Tryd.underlying24 rfl sz32k (szOf hLb)) rfl (by decide) fun a22 hF22 => ?_
    refine sq (v := (.int .u64 (b.n : Int))) hF22 (wantedS rfl) (run_mv rfl (hF22.ev 10 rfl)) rfl (by decide) fun a23 hF23 => ?_
    refine sq (v := (.string ⟨rp.toArray⟩)) hF23 (wantedS rfl) (run_mv rfl (hF23.ev 11 rfl)) rfl (by decide) fun a24 hF24 => ?_
    refine sqC (v := (.tuple #[(.string ⟨ts.toArray⟩), (.int .i64 0)])) hF24 hM6 (wantedS rfl) (run_call rfl Tryd.func25 (by kernel_rfl) rfl (mapE3 (hF24.ev 42 rfl) (hF24.ev 43 rfl) (hF24.ev 44 rfl))) rfl (by decide) (answer_eq hA2 w5 (HG.below hM6.below) hLb (by omega)) fun a25 w6 hb6 hF25 hM7 => ?_
    refine sq (v := (.tuple #[(.string ⟨ts.toArray⟩), (.int .i64 0)])) hF25 (wantedS rfl) (run_mv rfl (hF25.ev 45 rfl)) rfl (by decide) fun a26 hF26 => ?_
    refine sq (v := (.string ⟨ts.toArray⟩)) hF26 (wantedS rfl) (run_ext rfl (hF26.ev 41 rfl) rfl) rfl (by decide) fun a27 hF27 => ?_
    refine sq (v := (.int .i64 0)) hF27 (wantedS rfl) (run_ext rfl (hF27.ev 41 rfl) rfl) rfl (by decide) fun a28 hF28 => ?_
    refine sq (v := (.string ⟨ts.toArray⟩)) hF28 (wantedS rfl) (run_as rfl (hF28.ev 46 rfl)) rfl (by decide) fun a29 hF29 => ?_
    refine sq (v := (.int .i64 0)) hF29 (wantedS rfl) (run_as rfl (hF29.ev 47 rfl)) rfl (by decide) fun a30 hF30 => ?_
    refine sqEnd ?_
    clear hF21 hF22 hF23 hF24 hF25 hF26 hF27 hF28 hF29 hM6
    refine nx ?_
    refine wp_seq ?_
    refine wp_region_lit ?_
    refine sq (v := (.agg (cells8 b.k))) hF30 (wantedS rfl) (run_ldB rfl (hF30.ev 8 rfl) (hM7.at 0 rfl) Tryd.underlying24 rfl sz32k (szOf hLb)) rfl (by decide) fun a31 hF31 => ?_
    refine sq (v := (.int .u64 (b.n : Int))) hF31 (wantedS rfl) (run_mv rfl (hF31.ev 10 rfl)) rfl (by decide) fun a32 hF32 => ?_
    refine sq (v := (.string ⟨rp.toArray⟩)) hF32 (wantedS rfl) (run_mv rfl (hF32.ev 11 rfl)) rfl (by decide) fun a33 hF33 => ?_
    refine sqC (v := (.tuple #[(.string ⟨ts.toArray⟩), (.int .i64 0)])) hF33 hM7 (wantedS rfl) (run_call rfl Tryd.func26 (by kernel_rfl) rfl (mapE3 (hF33.ev 49 rfl) (hF33.ev 50 rfl) (hF33.ev 51 rfl))) rfl (by decide) (ranswer_eq hA2 w6 hLb (by omega) (by omega)) fun a34 w7 hb7 hF34 hM8 => ?_
    refine sq (v := (.tuple #[(.string ⟨ts.toArray⟩), (.int .i64 0)])) hF34 (wantedS rfl) (run_mv rfl (hF34.ev 52 rfl)) rfl (by decide) fun a35 hF35 => ?_
    refine sq (v := (.string ⟨ts.toArray⟩)) hF35 (wantedS rfl) (run_ext rfl (hF35.ev 48 rfl) rfl) rfl (by decide) fun a36 hF36 => ?_
    refine sq (v := (.int .i64 0)) hF36 (wantedS rfl) (run_ext rfl (hF36.ev 48 rfl) rfl) rfl (by decide) fun a37 hF37 => ?_
    refine sq (v := (.string ⟨ts.toArray⟩)) hF37 (wantedS rfl) (run_as rfl (hF37.ev 53 rfl)) rfl (by decide) fun a38 hF38 => ?_
    refine sq (v := (.int .i64 0)) hF38 (wantedS rfl) (run_as rfl (hF38.ev 54 rfl)) rfl (by decide) fun a39 hF39 => ?_
    refine sqEnd ?_
    clear hF30 hF31 hF32 hF33 hF34 hF35 hF36 hF37 hF38 hM7
    refine nx ?_
    refine wp_seq ?_
    refine wp_region_lit ?_
    refine sqC (v := (.bool true)) hF39 hM8 (wantedS rfl) (run_call rfl Tryd.func11 (by kernel_rfl) rfl (mapE0 )) rfl (by decide) (sfix_any w7 (HG.below hM8.below)) fun a40 w8 hb8 hF40 hM9 => ?_
    refine sq (v := (.bool true)) hF40 (wantedS rfl) (run_mv rfl (hF40.ev 55 rfl)) rfl (by decide) fun a41 hF41 => ?_
    refine sq (v := (.string ⟨d.toArray⟩)) hF41 (wantedG hF41 rfl rfl rfl rfl rfl) (run_mv rfl (hF41.ev 12 rfl)) rfl (by decide) fun a42 hF42 => ?_
    refine sq (v := (.string ⟨d.toArray⟩)) hF42 (wantedG hF42 rfl rfl rfl rfl rfl) (run_mv rfl (hF42.ev 2 rfl)) rfl (by decide) fun a43 hF43 => ?_
    refine sq (v := (.bool true)) hF43 (wantedG hF43 rfl rfl rfl rfl rfl) (run_eqs rfl (hF43.ev 57 rfl) (hF43.ev 58 rfl) (beq_self_eq_true _)) rfl (by decide) fun a44 hF44 => ?_
    refine sq (v := (.bool true)) hF44 (wantedS rfl) (run_pick rfl (hF44.ev 56 rfl) (hF44.ev 59 rfl) rfl) rfl (by decide) fun a45 hF45 => ?_
    refine sq (v := (.bool true)) hF45 (wantedS rfl) (run_mv rfl (hF45.ev 60 rfl)) rfl (by decide) fun a46 hF46 => ?_
    refine sq (v := (.int .i64 0)) hF46 (wantedG hF46 rfl rfl rfl rfl rfl) (run_mv rfl (hF46.ev 13 rfl)) rfl (by decide) fun a47 hF47 => ?_
    refine sq (v := (.bool true)) hF47 (wantedG hF47 rfl rfl rfl rfl rfl) (run_eqi rfl (hF47.ev 62 rfl) rfl (beq_self_eq_true _)) rfl (by decide) fun a48 hF48 => ?_
    refine sq (v := (.bool true)) hF48 (wantedS rfl) (run_pick rfl (hF48.ev 61 rfl) (hF48.ev 63 rfl) rfl) rfl (by decide) fun a49 hF49 => ?_
    refine sq (v := (.bool true)) hF49 (wantedS rfl) (run_mv rfl (hF49.ev 64 rfl)) rfl (by decide) fun a50 hF50 => ?_
    refine sq (v := (.int .i64 0)) hF50 (wantedG hF50 rfl rfl rfl rfl rfl) (run_mv rfl (hF50.ev 15 rfl)) rfl (by decide) fun a51 hF51 => ?_
    refine sq (v := (.int .i64 0)) hF51 (wantedG hF51 rfl rfl rfl rfl rfl) (run_mv rfl (hF51.ev 17 rfl)) rfl (by decide) fun a52 hF52 => ?_
    refine sq (v := (.bool true)) hF52 (wantedG hF52 rfl rfl rfl rfl rfl) (run_eqi rfl (hF52.ev 66 rfl) (hF52.ev 67 rfl) (beq_self_eq_true _)) rfl (by decide) fun a53 hF53 => ?_
    refine sq (v := (.bool true)) hF53 (wantedS rfl) (run_pick rfl (hF53.ev 65 rfl) (hF53.ev 68 rfl) rfl) rfl (by decide) fun a54 hF54 => ?_
    refine sq (v := (.bool true)) hF54 (wantedS rfl) (run_mv rfl (hF54.ev 69 rfl)) rfl (by decide) fun a55 hF55 => ?_
    refine sq (v := (.int .i64 0)) hF55 (wantedG hF55 rfl rfl rfl rfl rfl) (run_mv rfl (hF55.ev 17 rfl)) rfl (by decide) fun a56 hF56 => ?_
    refine sq (v := (.bool true)) hF56 (wantedG hF56 rfl rfl rfl rfl rfl) (run_eqi rfl (hF56.ev 71 rfl) rfl (beq_self_eq_true _)) rfl (by decide) fun a57 hF57 => ?_
    refine sq (v := (.bool true)) hF57 (wantedG hF57 rfl rfl rfl rfl rfl) (run_mv rfl (hF57.ev 72 rfl)) rfl (by decide) fun a58 hF58 => ?_
    refine sqSkip hF58 (unwantedG hF58 rfl rfl rfl rfl rfl) rfl (by decide) fun a59 hF59 => ?_
    refine sqSkip hF59 (unwantedG hF59 rfl rfl rfl rfl rfl) rfl (by decide) fun a60 hF60 => ?_
    refine sqSkip hF60 (unwantedG hF60 rfl rfl rfl rfl rfl) rfl (by decide) fun a61 hF61 => ?_
    refine sqSkip hF61 (unwantedU hF61 rfl rfl rfl rfl) rfl (by decide) fun a62 hF62 => ?_
    refine sqSkip hF62 (unwantedU hF62 rfl rfl rfl rfl) rfl (by decide) fun a63 hF63 => ?_
    refine sqSkip hF63 (unwantedG hF63 rfl rfl rfl rfl rfl) rfl (by decide) fun a64 hF64 => ?_
    refine sq (v := (.bool true)) hF64 (wantedG hF64 rfl rfl rfl rfl rfl) (run_pick rfl (hF64.ev 73 rfl) rfl (hF64.ev 79 rfl)) rfl (by decide) fun a65 hF65 => ?_
    refine sq (v := (.bool true)) hF65 (wantedS rfl) (run_pick rfl (hF65.ev 70 rfl) (hF65.ev 80 rfl) rfl) rfl (by decide) fun a66 hF66 => ?_
    refine sq (v := (.bool true)) hF66 (wantedS rfl) (run_as rfl (hF66.ev 81 rfl)) rfl (by decide) fun a67 hF67 => ?_
    refine sqEnd ?_
    clear hF39 hF40 hF41 hF42 hF43 hF44 hF45 hF46 hF47 hF48 hF49 hF50 hF51 hF52 hF53 hF54 hF55 hF56 hF57 hF58 hF59 hF60 hF61 hF62 hF63 hF64 hF65 hF66 hM8
    refine nx ?_
    refine wp_ret ?_
    exact ret1 hF67 rfl rfl ⟨rfl, hM9.below⟩
  · obtain rfl : te = 5 := h5 hz
    obtain rfl : ts = [] := hor hz
    refine walk_enter Tryd.func10 rfl rfl rfl fun a0 hF0 => ?_
    have hM0 := Mem.new w
    refine wp_seq ?_
    refine wp_region_lit ?_
    refine sqNew (cs := (chA a)) (t := 26) hF0 hM0 (wantedS rfl) (run_box rfl (hF0.ev 0 rfl)) rfl (by decide) fun g0 a1 w1 hgg0 hb1 hF1 hM1 => ?_
    refine sqNew (cs := (chA b)) (t := 26) hF1 hM1 (wantedS rfl) (run_box rfl (hF1.ev 1 rfl)) rfl (by decide) fun g1 a2 w2 hgg1 hb2 hF2 hM2 => ?_
    refine sq (v := (.bool false)) hF2 (wantedS rfl) (run_as rfl rfl) rfl (by decide) fun a3 hF3 => ?_
    refine sqEnd ?_
    clear hF0 hF1 hF2 hM0 hM1
    refine nx ?_
    refine wp_seq ?_
    refine wp_seq ?_
    refine wp_region_lit ?_
    refine sq (v := (.string ⟨d.toArray⟩)) hF3 (wantedS rfl) (run_mv rfl (hF3.ev 2 rfl)) rfl (by decide) fun a4 hF4 => ?_
    refine sq (v := (.int .i64 (d.length : Int))) hF4 (wantedS rfl) (run_len rfl (hF4.ev 18 rfl) rfl Tryd.underlying9) rfl (by decide) fun a5 hF5 => ?_
    refine sq (v := (.bool false)) hF5 (wantedS rfl) (run_gtr rfl (hF5.ev 19 rfl) rfl (decide_eq_false (by omega))) rfl (by decide) fun a6 hF6 => ?_
    refine sqEnd ?_
    clear hF3 hF4 hF5
    refine nx ?_
    refine wp_cond_false (hF6.ev 20 rfl) ?_
    refine wp_skip ?_
    refine nx ?_
    refine wp_seq ?_
    refine wp_region_new 82 [some (.pointer (some ⟨g0, 2, none⟩)), some (.agg (cells8 a.k)), some (.pointer (some ⟨g1, 2, none⟩)), some (.agg (cells8 b.k)), some (.pointer (some ⟨g0, 1, none⟩)), some (.int .u64 (a.n : Int)), some (.pointer (some ⟨g1, 1, none⟩)), some (.int .u64 (b.n : Int)), none, none, none, none, some (.int .u64 (a.n : Int)), some (.int .u64 (b.n : Int))] [⟨8, 7, 10, 24, (cells8 (List.replicate 32 0)), (cells8 a.k)⟩, ⟨9, 8, 11, 24, (cells8 (List.replicate 32 0)), (cells8 b.k)⟩] (by kernel_rfl) (by kernel_rfl) hF6.size hM2 ?_ ?_ fun a7 w3 gs hI => ?_
    · intro d hd
      simp only [List.mem_cons, List.not_mem_nil, or_false] at hd
      rcases hd with rfl | rfl <;> exact ⟨Nat.le_of_ble_eq_true (by kernel_rfl), _, rfl, rfl⟩
    · refine ⟨?_, ?_, ?_, ?_, ?_, ?_, ?_, ?_, ?_, ?_, ?_, ?_, ?_, ?_, trivial⟩
      · refine .val 22 (.pointer (some ⟨g0, 2, none⟩)) rfl rfl (by simp) fun a W hS hh hd => ⟨wanted_yes rfl, ?_⟩
        exact givn_run (run_fldA (m := 32) (s := 2) rfl (eval_tmp (hh 3 _ rfl (hF6.at 3 rfl))) Tryd.underlying26 rfl rfl (by kernel_rfl) (by decide))
      · refine .val 23 (.agg (cells8 a.k)) rfl rfl (by simp) fun a W hS hh hd => ⟨wanted_yes rfl, ?_⟩
        exact givn_run (run_ldK rfl (eval_tmp (hd 0 22 _ (by kernel_rfl) rfl)) (hS.at 1 rfl) hLa)
      · refine .val 24 (.pointer (some ⟨g1, 2, none⟩)) rfl rfl (by simp) fun a W hS hh hd => ⟨wanted_yes rfl, ?_⟩
        exact givn_run (run_fldA (m := 32) (s := 2) rfl (eval_tmp (hh 4 _ rfl (hF6.at 4 rfl))) Tryd.underlying26 rfl rfl (by kernel_rfl) (by decide))
      · refine .val 25 (.agg (cells8 b.k)) rfl rfl (by simp) fun a W hS hh hd => ⟨wanted_yes rfl, ?_⟩
        exact givn_run (run_ldK rfl (eval_tmp (hd 2 24 _ (by kernel_rfl) rfl)) (hS.at 0 rfl) hLb)
      · refine .val 26 (.pointer (some ⟨g0, 1, none⟩)) rfl rfl (by simp) fun a W hS hh hd => ⟨wanted_yes rfl, ?_⟩
        exact givn_run (run_fldA (m := 1) (s := 1) rfl (eval_tmp (hh 3 _ rfl (hF6.at 3 rfl))) Tryd.underlying26 rfl rfl (by kernel_rfl) (by decide))
      · refine .val 27 (.int .u64 (a.n : Int)) rfl rfl (by simp) fun a W hS hh hd => ⟨wanted_yes rfl, ?_⟩
        exact givn_run (run_ldF rfl (eval_tmp (hd 4 26 _ (by kernel_rfl) rfl)) (hS.at 1 rfl) rfl (by kernel_rfl))
      · refine .val 28 (.pointer (some ⟨g1, 1, none⟩)) rfl rfl (by simp) fun a W hS hh hd => ⟨wanted_yes rfl, ?_⟩
        exact givn_run (run_fldA (m := 1) (s := 1) rfl (eval_tmp (hh 4 _ rfl (hF6.at 4 rfl))) Tryd.underlying26 rfl rfl (by kernel_rfl) (by decide))
      · refine .val 29 (.int .u64 (b.n : Int)) rfl rfl (by simp) fun a W hS hh hd => ⟨wanted_yes rfl, ?_⟩
        exact givn_run (run_ldF rfl (eval_tmp (hd 6 28 _ (by kernel_rfl) rfl)) (hS.at 0 rfl) rfl (by kernel_rfl))
      · exact .new 0 _ rfl rfl rfl rfl (by simp) (fun y e hy he => by rcases y with _ | _ | y <;> simp at hy <;> (try subst hy) <;> simp at he ⊢) fun a W => ⟨wanted_yes rfl, run_alloc rfl (by kernel_rfl)⟩
      · exact .new 1 _ rfl rfl rfl rfl (by simp) (fun y e hy he => by rcases y with _ | _ | y <;> simp at hy <;> (try subst hy) <;> simp at he ⊢) fun a W => ⟨wanted_yes rfl, run_alloc rfl (by kernel_rfl)⟩
      · exact .put 0 _ rfl rfl rfl (by simp) (fun y e hy he => by rcases y with _ | _ | y <;> simp at hy <;> (try subst hy) <;> simp at he ⊢) (by kernel_rfl) 32 24 _ _ rfl rfl (fun a hh hd => (eval_tmp (hd 1 23 _ (by kernel_rfl) rfl))) rfl sz32k (szOf hLa) (szOf List.length_replicate) (cells8_one _)
      · exact .put 1 _ rfl rfl rfl (by simp) (fun y e hy he => by rcases y with _ | _ | y <;> simp at hy <;> (try subst hy) <;> simp at he ⊢) (by kernel_rfl) 32 24 _ _ rfl rfl (fun a hh hd => (eval_tmp (hd 3 25 _ (by kernel_rfl) rfl))) rfl sz32k (szOf hLb) (szOf List.length_replicate) (cells8_one _)
      · refine .val 9 (.int .u64 (a.n : Int)) rfl rfl (by simp) fun a W hS hh hd => ⟨wanted_yes rfl, ?_⟩
        exact givn_run (run_as rfl (eval_tmp (hd 5 27 _ (by kernel_rfl) rfl)))
      · refine .val 10 (.int .u64 (b.n : Int)) rfl rfl (by simp) fun a W hS hh hd => ⟨wanted_yes rfl, ?_⟩
        exact givn_run (run_as rfl (eval_tmp (hd 7 29 _ (by kernel_rfl) rfl)))
    obtain ⟨pg2, qg2, Bg2, fg2⟩ := hI.blk 0 _ rfl rfl
    obtain ⟨pg3, qg3, Bg3, fg3⟩ := hI.blk 1 _ rfl rfl
    have neg3 := hI.apart 0 1 _ _ rfl rfl (by decide) rfl rfl
    generalize gs 0 = g2 at pg2 qg2 Bg2 fg2 neg3
    generalize gs 1 = g3 at pg3 qg3 Bg3 fg3 neg3
    have hM3 := hI.mem.put1 (cs := (cells8 a.k)) qg2 Bg2 fg2
    have hM4 := hM3.put1 (cs := (cells8 b.k)) qg3 Bg3 (far_cons neg3 fg3)
    have hF7 : Fr a7 82 [(0, (.agg (chA a))), (1, (.agg (chA b))), (2, (.string ⟨d.toArray⟩)), (6, (.bool false)), (7, (.pointer (some ⟨g2, 0, none⟩))), (8, (.pointer (some ⟨g3, 0, none⟩))), (9, (.int .u64 (a.n : Int))), (10, (.int .u64 (b.n : Int))), (18, (.string ⟨d.toArray⟩)), (19, (.int .i64 (d.length : Int))), (20, (.bool false)), (23, (.agg (cells8 a.k))), (25, (.agg (cells8 b.k))), (27, (.int .u64 (a.n : Int))), (29, (.int .u64 (b.n : Int)))] := fr_of_holds hI.size (hI.defers.trans hF6.defers) ⟨hI.had 0 _ rfl (hF6.at 0 rfl), hI.had 1 _ rfl (hF6.at 1 rfl), hI.had 2 _ rfl (hF6.at 2 rfl), hI.had 6 _ rfl (hF6.at 6 rfl), pg2, pg3, hI.val 12 _ 9 _ rfl rfl rfl rfl, hI.val 13 _ 10 _ rfl rfl rfl rfl, hI.had 18 _ rfl (hF6.at 18 rfl), hI.had 19 _ rfl (hF6.at 19 rfl), hI.had 20 _ rfl (hF6.at 20 rfl), hI.val 1 _ 23 _ rfl rfl rfl rfl, hI.val 3 _ 25 _ rfl rfl rfl rfl, hI.val 5 _ 27 _ rfl rfl rfl rfl, hI.val 7 _ 29 _ rfl rfl rfl rfl, trivial⟩
    clear hI pg2 Bg2 fg2 pg3 Bg3 fg3 neg3
    clear hF6 hM2 hM3
    refine nx ?_
    refine wp_seq ?_
    refine wp_region_lit ?_
    refine sq (v := (.agg (cells8 a.k))) hF7 (wantedS rfl) (run_ldB rfl (hF7.ev 7 rfl) (hM4.at 1 rfl) Tryd.underlying24 rfl sz32k (szOf hLa)) rfl (by decide) fun a8 hF8 => ?_
    refine sq (v := (.int .u64 (a.n : Int))) hF8 (wantedS rfl) (run_mv rfl (hF8.ev 9 rfl)) rfl (by decide) fun a9 hF9 => ?_
    refine sq (v := (.string ⟨d.toArray⟩)) hF9 (wantedS rfl) (run_mv rfl (hF9.ev 2 rfl)) rfl (by decide) fun a10 hF10 => ?_
    refine sqC (v := (.string ⟨rp.toArray⟩)) hF10 hM4 (wantedS rfl) (run_call rfl Tryd.func23 (by kernel_rfl) rfl (mapE3 (hF10.ev 30 rfl) (hF10.ev 31 rfl) (hF10.ev 32 rfl))) rfl (by decide) (hR w3 (HG.below hM4.below) hLa (by omega)) fun a11 w4 hb4 hF11 hM5 => ?_
    refine sq (v := (.string ⟨rp.toArray⟩)) hF11 (wantedS rfl) (run_as rfl (hF11.ev 33 rfl)) rfl (by decide) fun a12 hF12 => ?_
    refine sqEnd ?_
    clear hF7 hF8 hF9 hF10 hF11 hM4
    refine nx ?_
    refine wp_seq ?_
    refine wp_region_lit ?_
    refine sq (v := (.agg (cells8 a.k))) hF12 (wantedS rfl) (run_ldB rfl (hF12.ev 7 rfl) (hM5.at 1 rfl) Tryd.underlying24 rfl sz32k (szOf hLa)) rfl (by decide) fun a13 hF13 => ?_
    refine sq (v := (.int .u64 (a.n : Int))) hF13 (wantedS rfl) (run_mv rfl (hF13.ev 9 rfl)) rfl (by decide) fun a14 hF14 => ?_
    refine sq (v := (.string ⟨rp.toArray⟩)) hF14 (wantedS rfl) (run_mv rfl (hF14.ev 11 rfl)) rfl (by decide) fun a15 hF15 => ?_
    refine sqC (v := (.tuple #[(.string ⟨d.toArray⟩), (.int .i64 0)])) hF15 hM5 (wantedS rfl) (run_call rfl Tryd.func25 (by kernel_rfl) rfl (mapE3 (hF15.ev 35 rfl) (hF15.ev 36 rfl) (hF15.ev 37 rfl))) rfl (by decide) (answer_eq hA1 w4 (HG.below hM5.below) hLa (by omega)) fun a16 w5 hb5 hF16 hM6 => ?_
    refine sq (v := (.tuple #[(.string ⟨d.toArray⟩), (.int .i64 0)])) hF16 (wantedS rfl) (run_mv rfl (hF16.ev 38 rfl)) rfl (by decide) fun a17 hF17 => ?_
    refine sq (v := (.string ⟨d.toArray⟩)) hF17 (wantedS rfl) (run_ext rfl (hF17.ev 34 rfl) rfl) rfl (by decide) fun a18 hF18 => ?_
    refine sq (v := (.int .i64 0)) hF18 (wantedS rfl) (run_ext rfl (hF18.ev 34 rfl) rfl) rfl (by decide) fun a19 hF19 => ?_
    refine sq (v := (.string ⟨d.toArray⟩)) hF19 (wantedS rfl) (run_as rfl (hF19.ev 39 rfl)) rfl (by decide) fun a20 hF20 => ?_
    refine sq (v := (.int .i64 0)) hF20 (wantedS rfl) (run_as rfl (hF20.ev 40 rfl)) rfl (by decide) fun a21 hF21 => ?_
    refine sqEnd ?_
    clear hF12 hF13 hF14 hF15 hF16 hF17 hF18 hF19 hF20 hM5
    refine nx ?_
    refine wp_seq ?_
    refine wp_region_lit ?_
    refine sq (v := (.agg (cells8 b.k))) hF21 (wantedS rfl) (run_ldB rfl (hF21.ev 8 rfl) (hM6.at 0 rfl) Tryd.underlying24 rfl sz32k (szOf hLb)) rfl (by decide) fun a22 hF22 => ?_
    refine sq (v := (.int .u64 (b.n : Int))) hF22 (wantedS rfl) (run_mv rfl (hF22.ev 10 rfl)) rfl (by decide) fun a23 hF23 => ?_
    refine sq (v := (.string ⟨rp.toArray⟩)) hF23 (wantedS rfl) (run_mv rfl (hF23.ev 11 rfl)) rfl (by decide) fun a24 hF24 => ?_
    refine sqC (v := (.tuple #[(.string ⟨List.toArray []⟩), (.int .i64 5)])) hF24 hM6 (wantedS rfl) (run_call rfl Tryd.func25 (by kernel_rfl) rfl (mapE3 (hF24.ev 42 rfl) (hF24.ev 43 rfl) (hF24.ev 44 rfl))) rfl (by decide) (answer_eq hA2 w5 (HG.below hM6.below) hLb (by omega)) fun a25 w6 hb6 hF25 hM7 => ?_
    refine sq (v := (.tuple #[(.string ⟨List.toArray []⟩), (.int .i64 5)])) hF25 (wantedS rfl) (run_mv rfl (hF25.ev 45 rfl)) rfl (by decide) fun a26 hF26 => ?_
    refine sq (v := (.string ⟨List.toArray []⟩)) hF26 (wantedS rfl) (run_ext rfl (hF26.ev 41 rfl) rfl) rfl (by decide) fun a27 hF27 => ?_
    refine sq (v := (.int .i64 5)) hF27 (wantedS rfl) (run_ext rfl (hF27.ev 41 rfl) rfl) rfl (by decide) fun a28 hF28 => ?_
    refine sq (v := (.string ⟨List.toArray []⟩)) hF28 (wantedS rfl) (run_as rfl (hF28.ev 46 rfl)) rfl (by decide) fun a29 hF29 => ?_
    refine sq (v := (.int .i64 5)) hF29 (wantedS rfl) (run_as rfl (hF29.ev 47 rfl)) rfl (by decide) fun a30 hF30 => ?_
    refine sqEnd ?_
    clear hF21 hF22 hF23 hF24 hF25 hF26 hF27 hF28 hF29 hM6
    refine nx ?_
    refine wp_seq ?_
    refine wp_region_lit ?_
    refine sq (v := (.agg (cells8 b.k))) hF30 (wantedS rfl) (run_ldB rfl (hF30.ev 8 rfl) (hM7.at 0 rfl) Tryd.underlying24 rfl sz32k (szOf hLb)) rfl (by decide) fun a31 hF31 => ?_
    refine sq (v := (.int .u64 (b.n : Int))) hF31 (wantedS rfl) (run_mv rfl (hF31.ev 10 rfl)) rfl (by decide) fun a32 hF32 => ?_
    refine sq (v := (.string ⟨rp.toArray⟩)) hF32 (wantedS rfl) (run_mv rfl (hF32.ev 11 rfl)) rfl (by decide) fun a33 hF33 => ?_
    refine sqC (v := (.tuple #[(.string ⟨List.toArray []⟩), (.int .i64 5)])) hF33 hM7 (wantedS rfl) (run_call rfl Tryd.func26 (by kernel_rfl) rfl (mapE3 (hF33.ev 49 rfl) (hF33.ev 50 rfl) (hF33.ev 51 rfl))) rfl (by decide) (ranswer_eq hA2 w6 hLb (by omega) (by omega)) fun a34 w7 hb7 hF34 hM8 => ?_
    refine sq (v := (.tuple #[(.string ⟨List.toArray []⟩), (.int .i64 5)])) hF34 (wantedS rfl) (run_mv rfl (hF34.ev 52 rfl)) rfl (by decide) fun a35 hF35 => ?_
    refine sq (v := (.string ⟨List.toArray []⟩)) hF35 (wantedS rfl) (run_ext rfl (hF35.ev 48 rfl) rfl) rfl (by decide) fun a36 hF36 => ?_
    refine sq (v := (.int .i64 5)) hF36 (wantedS rfl) (run_ext rfl (hF36.ev 48 rfl) rfl) rfl (by decide) fun a37 hF37 => ?_
    refine sq (v := (.string ⟨List.toArray []⟩)) hF37 (wantedS rfl) (run_as rfl (hF37.ev 53 rfl)) rfl (by decide) fun a38 hF38 => ?_
    refine sq (v := (.int .i64 5)) hF38 (wantedS rfl) (run_as rfl (hF38.ev 54 rfl)) rfl (by decide) fun a39 hF39 => ?_
    refine sqEnd ?_
    clear hF30 hF31 hF32 hF33 hF34 hF35 hF36 hF37 hF38 hM7
    refine nx ?_
    refine wp_seq ?_
    refine wp_region_lit ?_
    refine sqC (v := (.bool true)) hF39 hM8 (wantedS rfl) (run_call rfl Tryd.func11 (by kernel_rfl) rfl (mapE0 )) rfl (by decide) (sfix_any w7 (HG.below hM8.below)) fun a40 w8 hb8 hF40 hM9 => ?_
    refine sq (v := (.bool true)) hF40 (wantedS rfl) (run_mv rfl (hF40.ev 55 rfl)) rfl (by decide) fun a41 hF41 => ?_
    refine sq (v := (.string ⟨d.toArray⟩)) hF41 (wantedG hF41 rfl rfl rfl rfl rfl) (run_mv rfl (hF41.ev 12 rfl)) rfl (by decide) fun a42 hF42 => ?_
    refine sq (v := (.string ⟨d.toArray⟩)) hF42 (wantedG hF42 rfl rfl rfl rfl rfl) (run_mv rfl (hF42.ev 2 rfl)) rfl (by decide) fun a43 hF43 => ?_
    refine sq (v := (.bool true)) hF43 (wantedG hF43 rfl rfl rfl rfl rfl) (run_eqs rfl (hF43.ev 57 rfl) (hF43.ev 58 rfl) (beq_self_eq_true _)) rfl (by decide) fun a44 hF44 => ?_
    refine sq (v := (.bool true)) hF44 (wantedS rfl) (run_pick rfl (hF44.ev 56 rfl) (hF44.ev 59 rfl) rfl) rfl (by decide) fun a45 hF45 => ?_
    refine sq (v := (.bool true)) hF45 (wantedS rfl) (run_mv rfl (hF45.ev 60 rfl)) rfl (by decide) fun a46 hF46 => ?_
    refine sq (v := (.int .i64 0)) hF46 (wantedG hF46 rfl rfl rfl rfl rfl) (run_mv rfl (hF46.ev 13 rfl)) rfl (by decide) fun a47 hF47 => ?_
    refine sq (v := (.bool true)) hF47 (wantedG hF47 rfl rfl rfl rfl rfl) (run_eqi rfl (hF47.ev 62 rfl) rfl (beq_self_eq_true _)) rfl (by decide) fun a48 hF48 => ?_
    refine sq (v := (.bool true)) hF48 (wantedS rfl) (run_pick rfl (hF48.ev 61 rfl) (hF48.ev 63 rfl) rfl) rfl (by decide) fun a49 hF49 => ?_
    refine sq (v := (.bool true)) hF49 (wantedS rfl) (run_mv rfl (hF49.ev 64 rfl)) rfl (by decide) fun a50 hF50 => ?_
    refine sq (v := (.int .i64 5)) hF50 (wantedG hF50 rfl rfl rfl rfl rfl) (run_mv rfl (hF50.ev 15 rfl)) rfl (by decide) fun a51 hF51 => ?_
    refine sq (v := (.int .i64 5)) hF51 (wantedG hF51 rfl rfl rfl rfl rfl) (run_mv rfl (hF51.ev 17 rfl)) rfl (by decide) fun a52 hF52 => ?_
    refine sq (v := (.bool true)) hF52 (wantedG hF52 rfl rfl rfl rfl rfl) (run_eqi rfl (hF52.ev 66 rfl) (hF52.ev 67 rfl) (beq_self_eq_true _)) rfl (by decide) fun a53 hF53 => ?_
    refine sq (v := (.bool true)) hF53 (wantedS rfl) (run_pick rfl (hF53.ev 65 rfl) (hF53.ev 68 rfl) rfl) rfl (by decide) fun a54 hF54 => ?_
    refine sq (v := (.bool true)) hF54 (wantedS rfl) (run_mv rfl (hF54.ev 69 rfl)) rfl (by decide) fun a55 hF55 => ?_
    refine sq (v := (.int .i64 5)) hF55 (wantedG hF55 rfl rfl rfl rfl rfl) (run_mv rfl (hF55.ev 17 rfl)) rfl (by decide) fun a56 hF56 => ?_
    refine sq (v := (.bool false)) hF56 (wantedG hF56 rfl rfl rfl rfl rfl) (run_eqi rfl (hF56.ev 71 rfl) rfl rfl) rfl (by decide) fun a57 hF57 => ?_
    refine sq (v := (.bool false)) hF57 (wantedG hF57 rfl rfl rfl rfl rfl) (run_mv rfl (hF57.ev 72 rfl)) rfl (by decide) fun a58 hF58 => ?_
    refine sq (v := (.string ⟨List.toArray []⟩)) hF58 (wantedG hF58 rfl rfl rfl rfl rfl) (run_mv rfl (hF58.ev 14 rfl)) rfl (by decide) fun a59 hF59 => ?_
    refine sq (v := (.bool true)) hF59 (wantedG hF59 rfl rfl rfl rfl rfl) (run_eqs rfl (hF59.ev 74 rfl) rfl (beq_self_eq_true _)) rfl (by decide) fun a60 hF60 => ?_
    refine sq (v := (.bool true)) hF60 (wantedG hF60 rfl rfl rfl rfl rfl) (run_mv rfl (hF60.ev 75 rfl)) rfl (by decide) fun a61 hF61 => ?_
    refine sq (v := (.int .i64 5)) hF61 (wantedG hF61 rfl rfl rfl rfl rfl) (run_mv rfl (hF61.ev 15 rfl)) rfl (by decide) fun a62 hF62 => ?_
    refine sq (v := (.bool true)) hF62 (wantedG hF62 rfl rfl rfl rfl rfl) (run_eqi rfl (hF62.ev 77 rfl) rfl (beq_self_eq_true _)) rfl (by decide) fun a63 hF63 => ?_
    refine sq (v := (.bool true)) hF63 (wantedG hF63 rfl rfl rfl rfl rfl) (run_pick rfl (hF63.ev 76 rfl) (hF63.ev 78 rfl) rfl) rfl (by decide) fun a64 hF64 => ?_
    refine sq (v := (.bool true)) hF64 (wantedG hF64 rfl rfl rfl rfl rfl) (run_pick rfl (hF64.ev 73 rfl) rfl (hF64.ev 79 rfl)) rfl (by decide) fun a65 hF65 => ?_
    refine sq (v := (.bool true)) hF65 (wantedS rfl) (run_pick rfl (hF65.ev 70 rfl) (hF65.ev 80 rfl) rfl) rfl (by decide) fun a66 hF66 => ?_
    refine sq (v := (.bool true)) hF66 (wantedS rfl) (run_as rfl (hF66.ev 81 rfl)) rfl (by decide) fun a67 hF67 => ?_
    refine sqEnd ?_
    clear hF39 hF40 hF41 hF42 hF43 hF44 hF45 hF46 hF47 hF48 hF49 hF50 hF51 hF52 hF53 hF54 hF55 hF56 hF57 hF58 hF59 hF60 hF61 hF62 hF63 hF64 hF65 hF66 hM8
    refine nx ?_
    refine wp_ret ?_
    exact ret1 hF67 rfl rfl ⟨rfl, hM9.below⟩
end Go.Proofs.YtioioibcldgknaaDoor
