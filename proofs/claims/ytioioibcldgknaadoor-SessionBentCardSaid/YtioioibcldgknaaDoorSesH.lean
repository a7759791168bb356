/- The walk of the law SessionBent. Printed by gen_ses9.py. -/
import Derived.Test.YtioioibcldgknaaDoorSes4
import Derived.Test.YtioioibcldgknaaDoorSes8
import Derived.Test.YtioioibcldgknaaDoorSes9
import Derived.Test.YtioioibcldgknaaDoorNewR
import Derived.Test.YtioioibcldgknaaDoorRtexts
namespace Go.Proofs.YtioioibcldgknaaDoor
open Go.RowKit

attribute [local simp] xorS_len tagS_len keyedS_len nonceS_len
theorem sz2h : (Tryd.prog.info? 33).map (·.size) = some 2 := by kernel_rfl
theorem rtexts_ok {b : List UInt8} {X : List (List UInt8)} (h : textsS b = .ok X) (w : World) (hb : b.length < 2 ^ 42) : Calls Tryd.prog 14 #[.string ⟨b.toArray⟩] w fun x w' => ∃ u, x = .returned u ∧ (∃ v, u = .tuple #[v, .int .i64 0] ∧ w'.ownsRow w.heap.size 9 1 v X.length (X.map tx)) ∧ Below w.heap.size w w' :=
  (rtexts_any b w hb).mono fun x w' ⟨u, h1, h2, h3⟩ => by unfold TxR at h2; rw [h] at h2; exact ⟨u, h1, h2, h3⟩
set_option maxRecDepth 100000 in
set_option maxHeartbeats 1000000 in
theorem lawSBent_any (c : Ch) (d : List UInt8) (p0 p1 : Nat) (w : World) (HG : Glob w) (hLc : c.k.length = 32) (hcn : c.n < 2 ^ 64) (_hd : d.length ≤ maxLen) (hp0 : p0 < 65536) (hp1 : p1 < 65536) : Calls Tryd.prog 4 #[.agg (chA c), .string ⟨d.toArray⟩, .agg #[.int .u16 (p0 : Int), .int .u16 (p1 : Int)]] w fun e w' => e = .returned (.bool true) ∧ Below w.heap.size w w' := by
  by_cases h1 : 100 < c.m.length
  · skip
    refine walk_enter Tryd.func4 rfl rfl rfl fun a0 hF0 => ?_
    have hM0 := Mem.new w
    refine wp_seq ?_
    refine wp_region_lit ?_
    refine sqNew (cs := (chA c)) (t := 26) hF0 hM0 (wantedS rfl) (run_box rfl (hF0.ev 0 rfl)) rfl (by decide) fun g0 a1 w1 hgg0 hb1 hF1 hM1 => ?_
    refine sqNew (cs := #[.int .u16 (p0 : Int), .int .u16 (p1 : Int)]) (t := 33) hF1 hM1 (wantedS rfl) (run_box rfl (hF1.ev 2 rfl)) rfl (by decide) fun g1 a2 w2 hgg1 hb2 hF2 hM2 => ?_
    refine sq (v := (.bool false)) hF2 (wantedS rfl) (run_as rfl rfl) rfl (by decide) fun a3 hF3 => ?_
    refine sqEnd ?_
    clear hF0 hF1 hF2 hM0 hM1
    refine nx ?_
    refine wp_seq ?_
    refine wp_seq ?_
    refine wp_region_lit ?_
    refine sq (v := (.pointer (some ⟨g0, 0, none⟩))) hF3 (wantedS rfl) (run_fldA (m := 1) (s := 0) rfl (hF3.ev 3 rfl) Tryd.underlying26 rfl rfl (by kernel_rfl) (by decide)) rfl (by decide) fun a4 hF4 => ?_
    refine sq (v := (.string ⟨c.m.toArray⟩)) hF4 (wantedS rfl) (run_ldF rfl (hF4.ev 20 rfl) (hM2.at 1 rfl) rfl (by kernel_rfl)) rfl (by decide) fun a5 hF5 => ?_
    refine sq (v := (.int .i64 (c.m.length : Int))) hF5 (wantedS rfl) (run_len rfl (hF5.ev 21 rfl) rfl Tryd.underlying9) rfl (by decide) fun a6 hF6 => ?_
    refine sq (v := (.bool true)) hF6 (wantedS rfl) (run_gtr rfl (hF6.ev 22 rfl) rfl (decide_eq_true (by omega))) rfl (by decide) fun a7 hF7 => ?_
    refine sq (v := (.bool true)) hF7 (wantedS rfl) (run_mv rfl (hF7.ev 23 rfl)) rfl (by decide) fun a8 hF8 => ?_
    refine sqSkip hF8 (unwantedG hF8 rfl rfl rfl rfl rfl) rfl (by decide) fun a9 hF9 => ?_
    refine sqSkip hF9 (unwantedG hF9 rfl rfl rfl rfl rfl) rfl (by decide) fun a10 hF10 => ?_
    refine sqSkip hF10 (unwantedG hF10 rfl rfl rfl rfl rfl) rfl (by decide) fun a11 hF11 => ?_
    refine sq (v := (.bool true)) hF11 (wantedS rfl) (run_pick rfl (hF11.ev 24 rfl) rfl (hF11.ev 27 rfl)) rfl (by decide) fun a12 hF12 => ?_
    refine sq (v := (.bool true)) hF12 (wantedS rfl) (run_mv rfl (hF12.ev 28 rfl)) rfl (by decide) fun a13 hF13 => ?_
    refine sqSkip hF13 (unwantedG hF13 rfl rfl rfl rfl rfl) rfl (by decide) fun a14 hF14 => ?_
    refine sqSkip hF14 (unwantedG hF14 rfl rfl rfl rfl rfl) rfl (by decide) fun a15 hF15 => ?_
    refine sqSkip hF15 (unwantedG hF15 rfl rfl rfl rfl rfl) rfl (by decide) fun a16 hF16 => ?_
    refine sq (v := (.bool true)) hF16 (wantedS rfl) (run_pick rfl (hF16.ev 29 rfl) rfl (hF16.ev 32 rfl)) rfl (by decide) fun a17 hF17 => ?_
    refine sqEnd ?_
    clear hF3 hF4 hF5 hF6 hF7 hF8 hF9 hF10 hF11 hF12 hF13 hF14 hF15 hF16
    refine nx ?_
    refine wp_cond_true (hF17.ev 33 rfl) ?_
    refine wp_seq ?_
    refine wp_region_lit ?_
    refine sqC (v := (.bool true)) hF17 hM2 (wantedS rfl) (run_call rfl Tryd.func11 (by kernel_rfl) rfl (mapE0 )) rfl (by decide) (sfix_any w2 (HG.below hM2.below)) fun a18 w3 hb3 hF18 hM3 => ?_
    refine sq (v := (.bool true)) hF18 (wantedS rfl) (run_as rfl (hF18.ev 34 rfl)) rfl (by decide) fun a19 hF19 => ?_
    refine sqEnd ?_
    clear hF17 hF18 hM2
    refine nx ?_
    refine wp_ret ?_
    refine nxRet ?_
    exact ret1 hF19 rfl rfl ⟨rfl, hM3.below⟩
  by_cases h2 : 100 < d.length
  · skip
    refine walk_enter Tryd.func4 rfl rfl rfl fun a0 hF0 => ?_
    have hM0 := Mem.new w
    refine wp_seq ?_
    refine wp_region_lit ?_
    refine sqNew (cs := (chA c)) (t := 26) hF0 hM0 (wantedS rfl) (run_box rfl (hF0.ev 0 rfl)) rfl (by decide) fun g0 a1 w1 hgg0 hb1 hF1 hM1 => ?_
    refine sqNew (cs := #[.int .u16 (p0 : Int), .int .u16 (p1 : Int)]) (t := 33) hF1 hM1 (wantedS rfl) (run_box rfl (hF1.ev 2 rfl)) rfl (by decide) fun g1 a2 w2 hgg1 hb2 hF2 hM2 => ?_
    refine sq (v := (.bool false)) hF2 (wantedS rfl) (run_as rfl rfl) rfl (by decide) fun a3 hF3 => ?_
    refine sqEnd ?_
    clear hF0 hF1 hF2 hM0 hM1
    refine nx ?_
    refine wp_seq ?_
    refine wp_seq ?_
    refine wp_region_lit ?_
    refine sq (v := (.pointer (some ⟨g0, 0, none⟩))) hF3 (wantedS rfl) (run_fldA (m := 1) (s := 0) rfl (hF3.ev 3 rfl) Tryd.underlying26 rfl rfl (by kernel_rfl) (by decide)) rfl (by decide) fun a4 hF4 => ?_
    refine sq (v := (.string ⟨c.m.toArray⟩)) hF4 (wantedS rfl) (run_ldF rfl (hF4.ev 20 rfl) (hM2.at 1 rfl) rfl (by kernel_rfl)) rfl (by decide) fun a5 hF5 => ?_
    refine sq (v := (.int .i64 (c.m.length : Int))) hF5 (wantedS rfl) (run_len rfl (hF5.ev 21 rfl) rfl Tryd.underlying9) rfl (by decide) fun a6 hF6 => ?_
    refine sq (v := (.bool false)) hF6 (wantedS rfl) (run_gtr rfl (hF6.ev 22 rfl) rfl (decide_eq_false (by omega))) rfl (by decide) fun a7 hF7 => ?_
    refine sq (v := (.bool false)) hF7 (wantedS rfl) (run_mv rfl (hF7.ev 23 rfl)) rfl (by decide) fun a8 hF8 => ?_
    refine sq (v := (.string ⟨d.toArray⟩)) hF8 (wantedG hF8 rfl rfl rfl rfl rfl) (run_mv rfl (hF8.ev 1 rfl)) rfl (by decide) fun a9 hF9 => ?_
    refine sq (v := (.int .i64 (d.length : Int))) hF9 (wantedG hF9 rfl rfl rfl rfl rfl) (run_len rfl (hF9.ev 25 rfl) rfl Tryd.underlying9) rfl (by decide) fun a10 hF10 => ?_
    refine sq (v := (.bool true)) hF10 (wantedG hF10 rfl rfl rfl rfl rfl) (run_gtr rfl (hF10.ev 26 rfl) rfl (decide_eq_true (by omega))) rfl (by decide) fun a11 hF11 => ?_
    refine sq (v := (.bool true)) hF11 (wantedS rfl) (run_pick rfl (hF11.ev 24 rfl) rfl (hF11.ev 27 rfl)) rfl (by decide) fun a12 hF12 => ?_
    refine sq (v := (.bool true)) hF12 (wantedS rfl) (run_mv rfl (hF12.ev 28 rfl)) rfl (by decide) fun a13 hF13 => ?_
    refine sqSkip hF13 (unwantedG hF13 rfl rfl rfl rfl rfl) rfl (by decide) fun a14 hF14 => ?_
    refine sqSkip hF14 (unwantedG hF14 rfl rfl rfl rfl rfl) rfl (by decide) fun a15 hF15 => ?_
    refine sqSkip hF15 (unwantedG hF15 rfl rfl rfl rfl rfl) rfl (by decide) fun a16 hF16 => ?_
    refine sq (v := (.bool true)) hF16 (wantedS rfl) (run_pick rfl (hF16.ev 29 rfl) rfl (hF16.ev 32 rfl)) rfl (by decide) fun a17 hF17 => ?_
    refine sqEnd ?_
    clear hF3 hF4 hF5 hF6 hF7 hF8 hF9 hF10 hF11 hF12 hF13 hF14 hF15 hF16
    refine nx ?_
    refine wp_cond_true (hF17.ev 33 rfl) ?_
    refine wp_seq ?_
    refine wp_region_lit ?_
    refine sqC (v := (.bool true)) hF17 hM2 (wantedS rfl) (run_call rfl Tryd.func11 (by kernel_rfl) rfl (mapE0 )) rfl (by decide) (sfix_any w2 (HG.below hM2.below)) fun a18 w3 hb3 hF18 hM3 => ?_
    refine sq (v := (.bool true)) hF18 (wantedS rfl) (run_as rfl (hF18.ev 34 rfl)) rfl (by decide) fun a19 hF19 => ?_
    refine sqEnd ?_
    clear hF17 hF18 hM2
    refine nx ?_
    refine wp_ret ?_
    refine nxRet ?_
    exact ret1 hF19 rfl rfl ⟨rfl, hM3.below⟩
  by_cases h3 : 1152921504606846976 < c.n
  · skip
    refine walk_enter Tryd.func4 rfl rfl rfl fun a0 hF0 => ?_
    have hM0 := Mem.new w
    refine wp_seq ?_
    refine wp_region_lit ?_
    refine sqNew (cs := (chA c)) (t := 26) hF0 hM0 (wantedS rfl) (run_box rfl (hF0.ev 0 rfl)) rfl (by decide) fun g0 a1 w1 hgg0 hb1 hF1 hM1 => ?_
    refine sqNew (cs := #[.int .u16 (p0 : Int), .int .u16 (p1 : Int)]) (t := 33) hF1 hM1 (wantedS rfl) (run_box rfl (hF1.ev 2 rfl)) rfl (by decide) fun g1 a2 w2 hgg1 hb2 hF2 hM2 => ?_
    refine sq (v := (.bool false)) hF2 (wantedS rfl) (run_as rfl rfl) rfl (by decide) fun a3 hF3 => ?_
    refine sqEnd ?_
    clear hF0 hF1 hF2 hM0 hM1
    refine nx ?_
    refine wp_seq ?_
    refine wp_seq ?_
    refine wp_region_lit ?_
    refine sq (v := (.pointer (some ⟨g0, 0, none⟩))) hF3 (wantedS rfl) (run_fldA (m := 1) (s := 0) rfl (hF3.ev 3 rfl) Tryd.underlying26 rfl rfl (by kernel_rfl) (by decide)) rfl (by decide) fun a4 hF4 => ?_
    refine sq (v := (.string ⟨c.m.toArray⟩)) hF4 (wantedS rfl) (run_ldF rfl (hF4.ev 20 rfl) (hM2.at 1 rfl) rfl (by kernel_rfl)) rfl (by decide) fun a5 hF5 => ?_
    refine sq (v := (.int .i64 (c.m.length : Int))) hF5 (wantedS rfl) (run_len rfl (hF5.ev 21 rfl) rfl Tryd.underlying9) rfl (by decide) fun a6 hF6 => ?_
    refine sq (v := (.bool false)) hF6 (wantedS rfl) (run_gtr rfl (hF6.ev 22 rfl) rfl (decide_eq_false (by omega))) rfl (by decide) fun a7 hF7 => ?_
    refine sq (v := (.bool false)) hF7 (wantedS rfl) (run_mv rfl (hF7.ev 23 rfl)) rfl (by decide) fun a8 hF8 => ?_
    refine sq (v := (.string ⟨d.toArray⟩)) hF8 (wantedG hF8 rfl rfl rfl rfl rfl) (run_mv rfl (hF8.ev 1 rfl)) rfl (by decide) fun a9 hF9 => ?_
    refine sq (v := (.int .i64 (d.length : Int))) hF9 (wantedG hF9 rfl rfl rfl rfl rfl) (run_len rfl (hF9.ev 25 rfl) rfl Tryd.underlying9) rfl (by decide) fun a10 hF10 => ?_
    refine sq (v := (.bool false)) hF10 (wantedG hF10 rfl rfl rfl rfl rfl) (run_gtr rfl (hF10.ev 26 rfl) rfl (decide_eq_false (by omega))) rfl (by decide) fun a11 hF11 => ?_
    refine sq (v := (.bool false)) hF11 (wantedS rfl) (run_pick rfl (hF11.ev 24 rfl) rfl (hF11.ev 27 rfl)) rfl (by decide) fun a12 hF12 => ?_
    refine sq (v := (.bool false)) hF12 (wantedS rfl) (run_mv rfl (hF12.ev 28 rfl)) rfl (by decide) fun a13 hF13 => ?_
    refine sq (v := (.pointer (some ⟨g0, 1, none⟩))) hF13 (wantedG hF13 rfl rfl rfl rfl rfl) (run_fldA (m := 1) (s := 1) rfl (hF13.ev 3 rfl) Tryd.underlying26 rfl rfl (by kernel_rfl) (by decide)) rfl (by decide) fun a14 hF14 => ?_
    refine sq (v := (.int .u64 (c.n : Int))) hF14 (wantedG hF14 rfl rfl rfl rfl rfl) (run_ldF rfl (hF14.ev 30 rfl) (hM2.at 1 rfl) rfl (by kernel_rfl)) rfl (by decide) fun a15 hF15 => ?_
    refine sq (v := (.bool true)) hF15 (wantedG hF15 rfl rfl rfl rfl rfl) (run_gtr rfl (hF15.ev 31 rfl) rfl (decide_eq_true (by omega))) rfl (by decide) fun a16 hF16 => ?_
    refine sq (v := (.bool true)) hF16 (wantedS rfl) (run_pick rfl (hF16.ev 29 rfl) rfl (hF16.ev 32 rfl)) rfl (by decide) fun a17 hF17 => ?_
    refine sqEnd ?_
    clear hF3 hF4 hF5 hF6 hF7 hF8 hF9 hF10 hF11 hF12 hF13 hF14 hF15 hF16
    refine nx ?_
    refine wp_cond_true (hF17.ev 33 rfl) ?_
    refine wp_seq ?_
    refine wp_region_lit ?_
    refine sqC (v := (.bool true)) hF17 hM2 (wantedS rfl) (run_call rfl Tryd.func11 (by kernel_rfl) rfl (mapE0 )) rfl (by decide) (sfix_any w2 (HG.below hM2.below)) fun a18 w3 hb3 hF18 hM3 => ?_
    refine sq (v := (.bool true)) hF18 (wantedS rfl) (run_as rfl (hF18.ev 34 rfl)) rfl (by decide) fun a19 hF19 => ?_
    refine sqEnd ?_
    clear hF17 hF18 hM2
    refine nx ?_
    refine wp_ret ?_
    refine nxRet ?_
    exact ret1 hF19 rfl rfl ⟨rfl, hM3.below⟩
  have hlt : c.n < mostN := by unfold mostN; omega
  have hS1 : sendS c d = (goS c, frameS c d, 0) := sendS_ok _ _ (by omega) (by unfold mostN; omega)
  have hfl := frameS_len c d (by omega) (by omega)
  have hTx0 := frameS_texts c d (by omega) (by omega)
  generalize frameS c d = fr at hS1 hfl hTx0
  have hBl := boxS_len c d
  have hbx : boxS c d = sealS (keyedS c.k sendT) (nonceS (putS c.n)) (headS c.m c.n) d := rfl
  have hhl := headS_len c.m c.n (by omega)
  have hHd := rhead_any c.m c.n
  have htb := take_bentBox c
  obtain ⟨K, hK⟩ : ∃ K, keyedS c.k [115, 101, 110, 100] = K := ⟨_, rfl⟩
  have hK' : keyedS c.k sendT = K := hK
  have hLK : K.length = 32 := by rw [← hK]; exact keyedS_len _ _
  rw [hK'] at hbx htb
  clear hK'
  generalize headS c.m c.n = He at hbx hhl hHd htb
  generalize boxS c d = B at hBl hbx hTx0
  obtain ⟨TK, hTK⟩ : ∃ TK, keyedS K [116, 97, 103] = TK := ⟨_, rfl⟩
  have hTK' : keyedS K tagT = TK := hTK
  have hLTK : TK.length = 32 := by rw [← hTK]; exact keyedS_len _ _
  obtain ⟨X, hX⟩ : ∃ X, [c.m, putS c.n, B] = X := ⟨_, rfl⟩
  have hTx : textsS fr = .ok X := by rw [hTx0, hX]
  have hX3 : X.length = 3 := by rw [← hX]; rfl
  have hXa : X[0]? = some c.m := by rw [← hX]; rfl
  have hXb : X[1]? = some (putS c.n) := by rw [← hX]; rfl
  have hXc : X[2]? = some B := by rw [← hX]; rfl
  clear hX hTx0
  obtain ⟨n, hn⟩ : ∃ n, p0 % B.length = n := ⟨_, rfl⟩
  have hnl : n < B.length := by rw [← hn]; exact Nat.mod_lt _ (by omega)
  obtain ⟨y, hy⟩ : ∃ y, UInt8.ofNat (1 + p1 % 255) = y := ⟨_, rfl⟩
  have hyn : y.toNat = 1 + p1 % 255 := by rw [← hy, UInt8.toNat_ofNat']; omega
  have hB2l : (B.set n (bt B n ^^^ y)).length = B.length := List.length_set ..
  have hob := box_bent K (nonceS (putS c.n)) He d (nonceS_len _) n y (by omega) (by omega) (by omega) hbx rfl hnl
  rw [hTK'] at hob
  obtain ⟨Rw, hRw⟩ : ∃ R, rowS [He, B.take (B.length - 32)] = R := ⟨_, rfl⟩
  obtain ⟨Rn, hRn⟩ : ∃ R, rowS [He, (B.set n (bt B n ^^^ y)).take (B.length - 32)] = R := ⟨_, rfl⟩
  have hRwl : Rw.length ≤ 1000 := by
    rw [← hRw, rowS_cons, rowS_cons, rowS_nil]
    have q1 := lenB_small He.length (by omega)
    have q2 := lenB_small (B.take (B.length - 32)).length (by rw [List.length_take]; omega)
    simp only [List.length_append, List.length_take, List.length_nil] at q2 ⊢
    omega
  have hRnl : Rn.length ≤ 1000 := by
    rw [← hRn, rowS_cons, rowS_cons, rowS_nil]
    have q1 := lenB_small He.length (by omega)
    have q2 := lenB_small ((B.set n (bt B n ^^^ y)).take (B.length - 32)).length (by rw [List.length_take]; omega)
    simp only [List.length_append, List.length_take, List.length_nil, List.length_set] at q2 ⊢
    omega
  rw [hRw, hRn] at hob
  obtain ⟨Rf, hRf⟩ : ∃ R, rowS [c.m, putS c.n, (B.set n (bt B n ^^^ y))] = R := ⟨_, rfl⟩
  have hRfl : Rf.length ≤ 1000 := by
    rw [← hRf, rowS_cons, rowS_cons, rowS_cons, rowS_nil]
    have q1 := lenB_small c.m.length (by omega)
    have q2 := lenB_small 8 (by omega)
    have q3 := lenB_small (B.set n (bt B n ^^^ y)).length (by rw [hB2l]; omega)
    simp only [List.length_append, List.length_nil, putS_len, List.length_set] at q3 ⊢
    omega
  by_cases hap : unlikeS [Rw, Rn] ([Rw, Rn].map (keyedS TK)) = true
  · have hT : takeS c Rf = (noCh, [], 5) := by rw [← hRf]; exact htb _ (by omega) (by rw [hB2l]; omega) hlt (hob hap)
    refine walk_enter Tryd.func4 rfl rfl rfl fun a0 hF0 => ?_
    have hM0 := Mem.new w
    refine wp_seq ?_
    refine wp_region_lit ?_
    refine sqNew (cs := (chA c)) (t := 26) hF0 hM0 (wantedS rfl) (run_box rfl (hF0.ev 0 rfl)) rfl (by decide) fun g0 a1 w1 hgg0 hb1 hF1 hM1 => ?_
    refine sqNew (cs := #[.int .u16 (p0 : Int), .int .u16 (p1 : Int)]) (t := 33) hF1 hM1 (wantedS rfl) (run_box rfl (hF1.ev 2 rfl)) rfl (by decide) fun g1 a2 w2 hgg1 hb2 hF2 hM2 => ?_
    refine sq (v := (.bool false)) hF2 (wantedS rfl) (run_as rfl rfl) rfl (by decide) fun a3 hF3 => ?_
    refine sqEnd ?_
    clear hF0 hF1 hF2 hM0 hM1
    refine nx ?_
    refine wp_seq ?_
    refine wp_seq ?_
    refine wp_region_lit ?_
    refine sq (v := (.pointer (some ⟨g0, 0, none⟩))) hF3 (wantedS rfl) (run_fldA (m := 1) (s := 0) rfl (hF3.ev 3 rfl) Tryd.underlying26 rfl rfl (by kernel_rfl) (by decide)) rfl (by decide) fun a4 hF4 => ?_
    refine sq (v := (.string ⟨c.m.toArray⟩)) hF4 (wantedS rfl) (run_ldF rfl (hF4.ev 20 rfl) (hM2.at 1 rfl) rfl (by kernel_rfl)) rfl (by decide) fun a5 hF5 => ?_
    refine sq (v := (.int .i64 (c.m.length : Int))) hF5 (wantedS rfl) (run_len rfl (hF5.ev 21 rfl) rfl Tryd.underlying9) rfl (by decide) fun a6 hF6 => ?_
    refine sq (v := (.bool false)) hF6 (wantedS rfl) (run_gtr rfl (hF6.ev 22 rfl) rfl (decide_eq_false (by omega))) rfl (by decide) fun a7 hF7 => ?_
    refine sq (v := (.bool false)) hF7 (wantedS rfl) (run_mv rfl (hF7.ev 23 rfl)) rfl (by decide) fun a8 hF8 => ?_
    refine sq (v := (.string ⟨d.toArray⟩)) hF8 (wantedG hF8 rfl rfl rfl rfl rfl) (run_mv rfl (hF8.ev 1 rfl)) rfl (by decide) fun a9 hF9 => ?_
    refine sq (v := (.int .i64 (d.length : Int))) hF9 (wantedG hF9 rfl rfl rfl rfl rfl) (run_len rfl (hF9.ev 25 rfl) rfl Tryd.underlying9) rfl (by decide) fun a10 hF10 => ?_
    refine sq (v := (.bool false)) hF10 (wantedG hF10 rfl rfl rfl rfl rfl) (run_gtr rfl (hF10.ev 26 rfl) rfl (decide_eq_false (by omega))) rfl (by decide) fun a11 hF11 => ?_
    refine sq (v := (.bool false)) hF11 (wantedS rfl) (run_pick rfl (hF11.ev 24 rfl) rfl (hF11.ev 27 rfl)) rfl (by decide) fun a12 hF12 => ?_
    refine sq (v := (.bool false)) hF12 (wantedS rfl) (run_mv rfl (hF12.ev 28 rfl)) rfl (by decide) fun a13 hF13 => ?_
    refine sq (v := (.pointer (some ⟨g0, 1, none⟩))) hF13 (wantedG hF13 rfl rfl rfl rfl rfl) (run_fldA (m := 1) (s := 1) rfl (hF13.ev 3 rfl) Tryd.underlying26 rfl rfl (by kernel_rfl) (by decide)) rfl (by decide) fun a14 hF14 => ?_
    refine sq (v := (.int .u64 (c.n : Int))) hF14 (wantedG hF14 rfl rfl rfl rfl rfl) (run_ldF rfl (hF14.ev 30 rfl) (hM2.at 1 rfl) rfl (by kernel_rfl)) rfl (by decide) fun a15 hF15 => ?_
    refine sq (v := (.bool false)) hF15 (wantedG hF15 rfl rfl rfl rfl rfl) (run_gtr rfl (hF15.ev 31 rfl) rfl (decide_eq_false (by omega))) rfl (by decide) fun a16 hF16 => ?_
    refine sq (v := (.bool false)) hF16 (wantedS rfl) (run_pick rfl (hF16.ev 29 rfl) rfl (hF16.ev 32 rfl)) rfl (by decide) fun a17 hF17 => ?_
    refine sqEnd ?_
    clear hF3 hF4 hF5 hF6 hF7 hF8 hF9 hF10 hF11 hF12 hF13 hF14 hF15 hF16
    refine nx ?_
    refine wp_cond_false (hF17.ev 33 rfl) ?_
    refine wp_skip ?_
    refine nx ?_
    refine wp_seq ?_
    refine wp_region_lit ?_
    refine sq (v := (.agg (chA c))) hF17 (wantedS rfl) (run_ldB rfl (hF17.ev 3 rfl) (hM2.at 1 rfl) Tryd.underlying26 rfl szCh (chA_size hLc)) rfl (by decide) fun a18 hF18 => ?_
    refine sq (v := (.string ⟨d.toArray⟩)) hF18 (wantedS rfl) (run_mv rfl (hF18.ev 1 rfl)) rfl (by decide) fun a19 hF19 => ?_
    refine sqC (v := (.tuple #[(.agg (chA (goS c))), (.string ⟨fr.toArray⟩), (.int .i64 0)])) hF19 hM2 (wantedS rfl) (run_call rfl Tryd.func12 (by kernel_rfl) rfl (mapE2 (hF19.ev 36 rfl) (hF19.ev 37 rfl))) rfl (by decide) (send_eq hS1 w2 (HG.below hM2.below) hLc (by first | omega | decide | (simp; done) | (simp; omega)) (by first | omega | decide | (simp; done) | (simp; omega))) fun a20 w3 hb3 hF20 hM3 => ?_
    refine sq (v := (.tuple #[(.agg (chA (goS c))), (.string ⟨fr.toArray⟩), (.int .i64 0)])) hF20 (wantedS rfl) (run_mv rfl (hF20.ev 38 rfl)) rfl (by decide) fun a21 hF21 => ?_
    refine sq (v := (.agg (chA (goS c)))) hF21 (wantedS rfl) (run_ext rfl (hF21.ev 35 rfl) rfl) rfl (by decide) fun a22 hF22 => ?_
    refine sq (v := (.string ⟨fr.toArray⟩)) hF22 (wantedS rfl) (run_ext rfl (hF22.ev 35 rfl) rfl) rfl (by decide) fun a23 hF23 => ?_
    refine sq (v := (.int .i64 0)) hF23 (wantedS rfl) (run_ext rfl (hF23.ev 35 rfl) rfl) rfl (by decide) fun a24 hF24 => ?_
    refine sqNew (cs := (chA noCh)) (t := 26) hF24 hM3 (wantedS rfl) (run_alloc rfl (by kernel_rfl)) rfl (by decide) fun g2 a25 w4 hgg2 hb4 hF25 hM4 => ?_
    refine sqStore (i := 0) hF25 hM4 rfl rfl rfl (hF25.ev 7 rfl) (hF25.ev 39 rfl) rfl szCh (chA_size (goS_len _)) (chA_size noCh_len) (chA_one _) fun a26 w5 hF26 hM5 => ?_
    refine sq (v := (.string ⟨fr.toArray⟩)) hF26 (wantedS rfl) (run_as rfl (hF26.ev 40 rfl)) rfl (by decide) fun a27 hF27 => ?_
    refine sq (v := (.int .i64 0)) hF27 (wantedS rfl) (run_as rfl (hF27.ev 41 rfl)) rfl (by decide) fun a28 hF28 => ?_
    refine sqEnd ?_
    clear hF17 hF18 hF19 hF20 hF21 hF22 hF23 hF24 hF25 hF26 hF27 hM2 hM3 hM4
    refine nx ?_
    refine wp_seq ?_
    refine wp_region_lit ?_
    refine sq (v := (.string ⟨fr.toArray⟩)) hF28 (wantedS rfl) (run_mv rfl (hF28.ev 8 rfl)) rfl (by decide) fun a29 hF29 => ?_
    refine sqT (T := fun u wx => (∃ v, u = .tuple #[v, .int .i64 0] ∧ wx.ownsRow w5.heap.size 9 1 v X.length (X.map tx)) ∧ Below w5.heap.size w5 wx) hF29 (wantedS rfl) (run_call rfl Tryd.func14 (by kernel_rfl) rfl (mapE1 (hF29.ev 43 rfl))) rfl (by decide) (rtexts_ok hTx w5 (by omega)) fun u3 a30 w6 hT6 hF30 => ?_
    obtain ⟨⟨v4, rfl, hr6⟩, hb6⟩ := hT6
    obtain ⟨gr, cr, rfl, hcapgr, hggr, hM6⟩ := OwnR.ofCallMem hM5 hb6 hr6 (by omega)
    refine sq (v := (.tuple #[(.slice (some ⟨gr, 0, none⟩) X.length cr), (.int .i64 0)])) hF30 (wantedS rfl) (run_mv rfl (hF30.ev 44 rfl)) rfl (by decide) fun a31 hF31 => ?_
    refine sq (v := (.slice (some ⟨gr, 0, none⟩) X.length cr)) hF31 (wantedS rfl) (run_ext rfl (hF31.ev 42 rfl) rfl) rfl (by decide) fun a32 hF32 => ?_
    refine sq (v := (.int .i64 0)) hF32 (wantedS rfl) (run_ext rfl (hF32.ev 42 rfl) rfl) rfl (by decide) fun a33 hF33 => ?_
    refine sq (v := (.slice (some ⟨gr, 0, none⟩) X.length cr)) hF33 (wantedS rfl) (run_as rfl (hF33.ev 45 rfl)) rfl (by decide) fun a34 hF34 => ?_
    refine sq (v := (.int .i64 0)) hF34 (wantedS rfl) (run_as rfl (hF34.ev 46 rfl)) rfl (by decide) fun a35 hF35 => ?_
    refine sqEnd ?_
    clear hF28 hF29 hF30 hF31 hF32 hF33 hF34 hM5
    refine nx ?_
    refine wp_seq ?_
    refine wp_seq ?_
    refine wp_region_lit ?_
    refine sq (v := (.int .i64 0)) hF35 (wantedS rfl) (run_mv rfl (hF35.ev 9 rfl)) rfl (by decide) fun a36 hF36 => ?_
    refine sq (v := (.bool false)) hF36 (wantedS rfl) (run_nei rfl (hF36.ev 47 rfl) rfl (bne_self_eq_false _)) rfl (by decide) fun a37 hF37 => ?_
    refine sq (v := (.bool false)) hF37 (wantedS rfl) (run_mv rfl (hF37.ev 48 rfl)) rfl (by decide) fun a38 hF38 => ?_
    refine sq (v := (.int .i64 0)) hF38 (wantedG hF38 rfl rfl rfl rfl rfl) (run_mv rfl (hF38.ev 11 rfl)) rfl (by decide) fun a39 hF39 => ?_
    refine sq (v := (.bool false)) hF39 (wantedG hF39 rfl rfl rfl rfl rfl) (run_nei rfl (hF39.ev 50 rfl) rfl (bne_self_eq_false _)) rfl (by decide) fun a40 hF40 => ?_
    refine sq (v := (.bool false)) hF40 (wantedS rfl) (run_pick rfl (hF40.ev 49 rfl) rfl (hF40.ev 51 rfl)) rfl (by decide) fun a41 hF41 => ?_
    refine sq (v := (.bool false)) hF41 (wantedS rfl) (run_mv rfl (hF41.ev 52 rfl)) rfl (by decide) fun a42 hF42 => ?_
    refine sq (v := (.slice (some ⟨gr, 0, none⟩) X.length cr)) hF42 (wantedG hF42 rfl rfl rfl rfl rfl) (run_mv rfl (hF42.ev 10 rfl)) rfl (by decide) fun a43 hF43 => ?_
    refine sq (v := (.int .i64 (X.length : Int))) hF43 (wantedG hF43 rfl rfl rfl rfl rfl) (run_lenS rfl (hF43.ev 54 rfl) (slOfRow (c := cr) (hM6.ob 0 rfl)) rfl Tryd.underlying34) rfl (by decide) fun a44 hF44 => ?_
    refine sq (v := (.bool false)) hF44 (wantedG hF44 rfl rfl rfl rfl rfl) (run_nei rfl (hF44.ev 55 rfl) rfl (bne_eq_false_iff_eq.2 (by omega))) rfl (by decide) fun a45 hF45 => ?_
    refine sq (v := (.bool false)) hF45 (wantedS rfl) (run_pick rfl (hF45.ev 53 rfl) rfl (hF45.ev 56 rfl)) rfl (by decide) fun a46 hF46 => ?_
    refine sq (v := (.bool false)) hF46 (wantedS rfl) (run_mv rfl (hF46.ev 57 rfl)) rfl (by decide) fun a47 hF47 => ?_
    refine sq (v := (.slice (some ⟨gr, 0, none⟩) X.length cr)) hF47 (wantedG hF47 rfl rfl rfl rfl rfl) (run_mv rfl (hF47.ev 10 rfl)) rfl (by decide) fun a48 hF48 => ?_
    refine sq (v := (slPtr (.slice (some ⟨gr, 0, none⟩) X.length cr) (2 * 1))) hF48 (wantedG hF48 rfl rfl rfl rfl rfl) (run_atP (i := 2) rfl (hF48.ev 59 rfl) rfl rfl (slOfRow (c := cr) (hM6.ob 0 rfl)) (by omega) elStr.un (by kernel_rfl)) rfl (by decide) fun a49 hF49 => ?_
    refine sq (v := (.string ⟨B.toArray⟩)) hF49 (wantedG hF49 rfl rfl rfl rfl rfl) (run_ldP rfl (hF49.ev 60 rfl) (slOfRow (c := cr) (hM6.ob 0 rfl)) (map_at hXc) (by kernel_rfl)) rfl (by decide) fun a50 hF50 => ?_
    refine sq (v := (.int .i64 (B.length : Int))) hF50 (wantedG hF50 rfl rfl rfl rfl rfl) (run_len rfl (hF50.ev 61 rfl) rfl Tryd.underlying9) rfl (by decide) fun a51 hF51 => ?_
    refine sq (v := (.bool false)) hF51 (wantedG hF51 rfl rfl rfl rfl rfl) (run_lss rfl (hF51.ev 62 rfl) rfl (decide_eq_false (by omega))) rfl (by decide) fun a52 hF52 => ?_
    refine sq (v := (.bool false)) hF52 (wantedS rfl) (run_pick rfl (hF52.ev 58 rfl) rfl (hF52.ev 63 rfl)) rfl (by decide) fun a53 hF53 => ?_
    refine sqEnd ?_
    clear hF35 hF36 hF37 hF38 hF39 hF40 hF41 hF42 hF43 hF44 hF45 hF46 hF47 hF48 hF49 hF50 hF51 hF52
    refine nx ?_
    refine wp_cond_false (hF53.ev 64 rfl) ?_
    refine wp_skip ?_
    refine nx ?_
    refine wp_seq ?_
    refine wp_region_lit ?_
    refine sq (v := (.slice (some ⟨gr, 0, none⟩) X.length cr)) hF53 (wantedS rfl) (run_mv rfl (hF53.ev 10 rfl)) rfl (by decide) fun a54 hF54 => ?_
    refine sq (v := (slPtr (.slice (some ⟨gr, 0, none⟩) X.length cr) (2 * 1))) hF54 (wantedS rfl) (run_atP (i := 2) rfl (hF54.ev 65 rfl) rfl rfl (slOfRow (c := cr) (hM6.ob 0 rfl)) (by omega) elStr.un (by kernel_rfl)) rfl (by decide) fun a55 hF55 => ?_
    refine sq (v := (.string ⟨B.toArray⟩)) hF55 (wantedS rfl) (run_ldP rfl (hF55.ev 66 rfl) (slOfRow (c := cr) (hM6.ob 0 rfl)) (map_at hXc) (by kernel_rfl)) rfl (by decide) fun a56 hF56 => ?_
    refine sqBytesOf hF56 hM6 (wantedS rfl) rfl (hF56.ev 67 rfl) Tryd.underlying9 rfl (by decide) fun g5 c5 a57 w7 hgg5 hb7 hcc5 hF57 hM7 => ?_
    refine sq (v := (.slice (some ⟨g5, 0, none⟩) B.length c5)) hF57 (wantedS rfl) (run_as rfl (hF57.ev 68 rfl)) rfl (by decide) fun a58 hF58 => ?_
    refine sqEnd ?_
    clear hF53 hF54 hF55 hF56 hF57 hM6
    refine nx ?_
    refine wp_seq ?_
    obtain ⟨KL, hKL⟩ : ∃ KL, KL = [kval (.slice (some ⟨g5, 0, none⟩) B.length c5), kval (.pointer (some ⟨g1, 0, none⟩)), kval (.int .u16 (p0 : Int)), kval (.int .i64 (p0 : Int)), kval (.slice (some ⟨g5, 0, none⟩) B.length c5), kval (.int .i64 (B.length : Int)), kval (.int .i64 (n : Int)), kval (.pointer (some ⟨g5, n, none⟩)), kval (.int .u8 ((bt B n).toNat : Int)), kval (.pointer (some ⟨g1, 1, none⟩)), kval (.int .u16 (p1 : Int)), kval (.int .u16 ((p1 % 255 : Nat) : Int)), kval (.int .u8 ((p1 % 255 : Nat) : Int)), kval (.int .u8 (y.toNat : Int)), kval (.int .u8 (((bt B n) ^^^ y).toNat : Int)), kval (.pointer (some ⟨g5, n, none⟩))] := ⟨_, rfl⟩
    have K0 : KL.getD 0 kany = kval (.slice (some ⟨g5, 0, none⟩) B.length c5) := by rw [hKL]; rfl
    have K1 : KL.getD 1 kany = kval (.pointer (some ⟨g1, 0, none⟩)) := by rw [hKL]; rfl
    have K2 : KL.getD 2 kany = kval (.int .u16 (p0 : Int)) := by rw [hKL]; rfl
    have K3 : KL.getD 3 kany = kval (.int .i64 (p0 : Int)) := by rw [hKL]; rfl
    have K4 : KL.getD 4 kany = kval (.slice (some ⟨g5, 0, none⟩) B.length c5) := by rw [hKL]; rfl
    have K5 : KL.getD 5 kany = kval (.int .i64 (B.length : Int)) := by rw [hKL]; rfl
    have K6 : KL.getD 6 kany = kval (.int .i64 (n : Int)) := by rw [hKL]; rfl
    have K7 : KL.getD 7 kany = kval (.pointer (some ⟨g5, n, none⟩)) := by rw [hKL]; rfl
    have K8 : KL.getD 8 kany = kval (.int .u8 ((bt B n).toNat : Int)) := by rw [hKL]; rfl
    have K9 : KL.getD 9 kany = kval (.pointer (some ⟨g1, 1, none⟩)) := by rw [hKL]; rfl
    have K10 : KL.getD 10 kany = kval (.int .u16 (p1 : Int)) := by rw [hKL]; rfl
    have K11 : KL.getD 11 kany = kval (.int .u16 ((p1 % 255 : Nat) : Int)) := by rw [hKL]; rfl
    have K12 : KL.getD 12 kany = kval (.int .u8 ((p1 % 255 : Nat) : Int)) := by rw [hKL]; rfl
    have K13 : KL.getD 13 kany = kval (.int .u8 (y.toNat : Int)) := by rw [hKL]; rfl
    have K14 : KL.getD 14 kany = kval (.int .u8 (((bt B n) ^^^ y).toNat : Int)) := by rw [hKL]; rfl
    have K15 : KL.getD 15 kany = kval (.pointer (some ⟨g5, n, none⟩)) := by rw [hKL]; rfl
    have HKL : KL.length ≤ 16 := by rw [hKL]; exact Nat.le_refl _
    clear hKL
    refine wp_region_kdTail2 147 16 (by kernel_rfl) (by kernel_rfl) (by kernel_rfl) (by kernel_rfl) hF58.size KL HKL ?_ ?_
    · refine ⟨?_, ?_, ?_, ?_, ?_, ?_, ?_, ?_, ?_, ?_, ?_, ?_, ?_, ?_, ?_, ?_, trivial⟩
      · refine asksH_mk fun a W hS hh hd => ⟨wanted_yes rfl, ?_⟩
        exact giv_run (run_mv rfl (eval_tmp (hh 12 _ rfl (hF58.at 12 rfl)))) K0
      · refine asksH_mk fun a W hS hh hd => ⟨wanted_yes rfl, ?_⟩
        exact giv_run (run_idxA (i := 0) (cnt := 2) rfl (eval_tmp (hh 5 _ rfl (hF58.at 5 rfl))) rfl rfl (by omega) Tryd.underlying33 (by kernel_rfl)) K1
      · refine asksH_mk fun a W hS hh hd => ⟨wanted_yes rfl, ?_⟩
        exact giv_run (run_ldF rfl (eval_tmp (hd.val (j := 1) (s := 70) (by kernel_rfl) K1)) ((hM7.grow hS).at 3 rfl) rfl (by kernel_rfl)) K2
      · refine asksH_mk fun a W hS hh hd => ⟨wanted_yes rfl, ?_⟩
        exact giv_run (run_cvI (r := (p0 : Int)) rfl (eval_tmp (hd.val (j := 2) (s := 71) (by kernel_rfl) K2)) Tryd.underlying32 Tryd.underlying3 (by rw [IntKind.wrap_i64]; omega)) K3
      · refine asksH_mk fun a W hS hh hd => ⟨wanted_yes rfl, ?_⟩
        exact giv_run (run_mv rfl (eval_tmp (hh 12 _ rfl (hF58.at 12 rfl)))) K4
      · refine asksH_mk fun a W hS hh hd => ⟨wanted_yes rfl, ?_⟩
        exact giv_run (run_lenSl rfl (eval_tmp (hd.val (j := 4) (s := 73) (by kernel_rfl) K4)) rfl Tryd.underlying37) K5
      · refine asksH_mk fun a W hS hh hd => ⟨wanted_yes rfl, ?_⟩
        exact giv_run (run_rem (r := (n : Int)) rfl (eval_tmp (hd.val (j := 3) (s := 72) (by kernel_rfl) K3)) (eval_tmp (hd.val (j := 5) (s := 74) (by kernel_rfl) K5)) (by omega) (by rw [Int.tmod_eq_emod_of_nonneg (by omega), ← hn]; rfl)) K6
      · refine asksH_mk fun a W hS hh hd => ⟨wanted_yes rfl, ?_⟩
        exact giv_run (run_idxY (i := n) rfl (eval_tmp (hd.val (j := 0) (s := 69) (by kernel_rfl) K0)) (eval_tmp (hd.val (j := 6) (s := 75) (by kernel_rfl) K6)) rfl (by omega)) K7
      · refine asksH_mk fun a W hS hh hd => ⟨wanted_yes rfl, ?_⟩
        exact giv_run (run_ldC rfl (eval_tmp (hd.val (j := 7) (s := 76) (by kernel_rfl) K7)) (isY_cell ((hM7.grow hS).ob 0 rfl) (by omega)) (by kernel_rfl)) K8
      · refine asksH_mk fun a W hS hh hd => ⟨wanted_yes rfl, ?_⟩
        exact giv_run (run_idxA (i := 1) (cnt := 2) rfl (eval_tmp (hh 5 _ rfl (hF58.at 5 rfl))) rfl rfl (by omega) Tryd.underlying33 (by kernel_rfl)) K9
      · refine asksH_mk fun a W hS hh hd => ⟨wanted_yes rfl, ?_⟩
        exact giv_run (run_ldF rfl (eval_tmp (hd.val (j := 9) (s := 78) (by kernel_rfl) K9)) ((hM7.grow hS).at 3 rfl) rfl (by kernel_rfl)) K10
      · refine asksH_mk fun a W hS hh hd => ⟨wanted_yes rfl, ?_⟩
        exact giv_run (run_rem (r := ((p1 % 255 : Nat) : Int)) rfl (eval_tmp (hd.val (j := 10) (s := 79) (by kernel_rfl) K10)) rfl (by omega) (by rw [Int.tmod_eq_emod_of_nonneg (by omega)]; try omega)) K11
      · refine asksH_mk fun a W hS hh hd => ⟨wanted_yes rfl, ?_⟩
        exact giv_run (run_cvI (r := ((p1 % 255 : Nat) : Int)) rfl (eval_tmp (hd.val (j := 11) (s := 80) (by kernel_rfl) K11)) Tryd.underlying32 Tryd.underlying5 (by rw [IntKind.wrap_u8]; omega)) K12
      · refine asksH_mk fun a W hS hh hd => ⟨wanted_yes rfl, ?_⟩
        exact giv_run (run_add (r := (y.toNat : Int)) rfl rfl (eval_tmp (hd.val (j := 12) (s := 81) (by kernel_rfl) K12)) (by rw [IntKind.wrap_u8]; omega)) K13
      · refine asksH_mk fun a W hS hh hd => ⟨wanted_yes rfl, ?_⟩
        exact giv_run (run_xor8 rfl (eval_tmp (hd.val (j := 8) (s := 77) (by kernel_rfl) K8)) (eval_tmp (hd.val (j := 13) (s := 82) (by kernel_rfl) K13))) K14
      · refine asksH_mk fun a W hS hh hd => ⟨wanted_yes rfl, ?_⟩
        exact giv_run (run_idxY (i := n) rfl (eval_tmp (hd.val (j := 0) (s := 69) (by kernel_rfl) K0)) (eval_tmp (hd.val (j := 6) (s := 75) (by kernel_rfl) K6)) rfl (by omega)) K15
    · intro a59 w8 hb8 hK
      have e0 := hK.hval (i := 0) (s := 69) rfl (by kernel_rfl) K0
      have e1 := hK.hval (i := 1) (s := 70) rfl (by kernel_rfl) K1
      have e2 := hK.hval (i := 2) (s := 71) rfl (by kernel_rfl) K2
      have e3 := hK.hval (i := 3) (s := 72) rfl (by kernel_rfl) K3
      have e4 := hK.hval (i := 4) (s := 73) rfl (by kernel_rfl) K4
      have e5 := hK.hval (i := 5) (s := 74) rfl (by kernel_rfl) K5
      have e6 := hK.hval (i := 6) (s := 75) rfl (by kernel_rfl) K6
      have e7 := hK.hval (i := 7) (s := 76) rfl (by kernel_rfl) K7
      have e8 := hK.hval (i := 8) (s := 77) rfl (by kernel_rfl) K8
      have e9 := hK.hval (i := 9) (s := 78) rfl (by kernel_rfl) K9
      have e10 := hK.hval (i := 10) (s := 79) rfl (by kernel_rfl) K10
      have e11 := hK.hval (i := 11) (s := 80) rfl (by kernel_rfl) K11
      have e12 := hK.hval (i := 12) (s := 81) rfl (by kernel_rfl) K12
      have e13 := hK.hval (i := 13) (s := 82) rfl (by kernel_rfl) K13
      have e14 := hK.hval (i := 14) (s := 83) rfl (by kernel_rfl) K14
      have e15 := hK.hval (i := 15) (s := 84) rfl (by kernel_rfl) K15
      have hF59 : Fr a59 147 [(0, (.agg (chA c))), (1, (.string ⟨d.toArray⟩)), (2, (.agg #[.int .u16 (p0 : Int), .int .u16 (p1 : Int)])), (3, (.pointer (some ⟨g0, 0, none⟩))), (6, (.bool false)), (7, (.pointer (some ⟨g2, 0, none⟩))), (8, (.string ⟨fr.toArray⟩)), (9, (.int .i64 0)), (10, (.slice (some ⟨gr, 0, none⟩) X.length cr)), (11, (.int .i64 0)), (12, (.slice (some ⟨g5, 0, none⟩) B.length c5)), (20, (.pointer (some ⟨g0, 0, none⟩))), (21, (.string ⟨c.m.toArray⟩)), (22, (.int .i64 (c.m.length : Int))), (23, (.bool false)), (24, (.bool false)), (25, (.string ⟨d.toArray⟩)), (26, (.int .i64 (d.length : Int))), (27, (.bool false)), (28, (.bool false)), (29, (.bool false)), (30, (.pointer (some ⟨g0, 1, none⟩))), (31, (.int .u64 (c.n : Int))), (32, (.bool false)), (33, (.bool false)), (35, (.tuple #[(.agg (chA (goS c))), (.string ⟨fr.toArray⟩), (.int .i64 0)])), (36, (.agg (chA c))), (37, (.string ⟨d.toArray⟩)), (38, (.tuple #[(.agg (chA (goS c))), (.string ⟨fr.toArray⟩), (.int .i64 0)])), (39, (.agg (chA (goS c)))), (40, (.string ⟨fr.toArray⟩)), (41, (.int .i64 0)), (42, (.tuple #[(.slice (some ⟨gr, 0, none⟩) X.length cr), (.int .i64 0)])), (43, (.string ⟨fr.toArray⟩)), (44, (.tuple #[(.slice (some ⟨gr, 0, none⟩) X.length cr), (.int .i64 0)])), (45, (.slice (some ⟨gr, 0, none⟩) X.length cr)), (46, (.int .i64 0)), (47, (.int .i64 0)), (48, (.bool false)), (49, (.bool false)), (50, (.int .i64 0)), (51, (.bool false)), (52, (.bool false)), (53, (.bool false)), (54, (.slice (some ⟨gr, 0, none⟩) X.length cr)), (55, (.int .i64 (X.length : Int))), (56, (.bool false)), (57, (.bool false)), (58, (.bool false)), (59, (.slice (some ⟨gr, 0, none⟩) X.length cr)), (60, (slPtr (.slice (some ⟨gr, 0, none⟩) X.length cr) (2 * 1))), (61, (.string ⟨B.toArray⟩)), (62, (.int .i64 (B.length : Int))), (63, (.bool false)), (64, (.bool false)), (65, (.slice (some ⟨gr, 0, none⟩) X.length cr)), (66, (slPtr (.slice (some ⟨gr, 0, none⟩) X.length cr) (2 * 1))), (67, (.string ⟨B.toArray⟩)), (68, (.slice (some ⟨g5, 0, none⟩) B.length c5)), (83, (.int .u8 (((bt B n) ^^^ y).toNat : Int))), (84, (.pointer (some ⟨g5, n, none⟩)))] := (hK.hfr hF58 [(.slice (some ⟨g5, 0, none⟩) B.length c5), (.pointer (some ⟨g1, 0, none⟩)), (.int .u16 (p0 : Int)), (.int .i64 (p0 : Int)), (.slice (some ⟨g5, 0, none⟩) B.length c5), (.int .i64 (B.length : Int)), (.int .i64 (n : Int)), (.pointer (some ⟨g5, n, none⟩)), (.int .u8 ((bt B n).toNat : Int)), (.pointer (some ⟨g1, 1, none⟩)), (.int .u16 (p1 : Int)), (.int .u16 ((p1 % 255 : Nat) : Int)), (.int .u8 ((p1 % 255 : Nat) : Int)), (.int .u8 (y.toNat : Int)), (.int .u8 (((bt B n) ^^^ y).toNat : Int)), (.pointer (some ⟨g5, n, none⟩))] ⟨e0, e1, e2, e3, e4, e5, e6, e7, e8, e9, e10, e11, e12, e13, e14, e15, trivial⟩).sub ⟨rfl, rfl, rfl, rfl, rfl, rfl, rfl, rfl, rfl, rfl, rfl, rfl, rfl, rfl, rfl, rfl, rfl, rfl, rfl, rfl, rfl, rfl, rfl, rfl, rfl, rfl, rfl, rfl, rfl, rfl, rfl, rfl, rfl, rfl, rfl, rfl, rfl, rfl, rfl, rfl, rfl, rfl, rfl, rfl, rfl, rfl, rfl, rfl, rfl, rfl, rfl, rfl, rfl, rfl, rfl, rfl, rfl, rfl, rfl, rfl, rfl, trivial⟩
      have hM8 := hM7.grow hb8
      clear hK K0 e0 K1 e1 K2 e2 K3 e3 K4 e4 K5 e5 K6 e6 K7 e7 K8 e8 K9 e9 K10 e10 K11 e11 K12 e12 K13 e13 K14 e14 K15 e15 HKL
      simp only [List.drop_succ_cons, List.drop_zero]
      refine sqSetY (j := 0) hF59 hM8 rfl rfl rfl (hF59.ev 84 rfl) (hF59.ev 83 rfl) rfl (by omega) fun a60 w9 hF60 hM9 => ?_
      refine sqEnd ?_
      clear hF58 hF59 hM7 hM8
      refine nx ?_
      refine wp_seq ?_
      refine wp_region_lit ?_
      refine sq (v := (.pointer (some ⟨g0, 0, none⟩))) hF60 (wantedS rfl) (run_fldA (m := 1) (s := 0) rfl (hF60.ev 3 rfl) Tryd.underlying26 rfl rfl (by kernel_rfl) (by decide)) rfl (by decide) fun a61 hF61 => ?_
      refine sq (v := (.string ⟨c.m.toArray⟩)) hF61 (wantedS rfl) (run_ldF rfl (hF61.ev 85 rfl) (hM9.at 4 rfl) rfl (by kernel_rfl)) rfl (by decide) fun a62 hF62 => ?_
      refine sq (v := (.pointer (some ⟨g0, 1, none⟩))) hF62 (wantedS rfl) (run_fldA (m := 1) (s := 1) rfl (hF62.ev 3 rfl) Tryd.underlying26 rfl rfl (by kernel_rfl) (by decide)) rfl (by decide) fun a63 hF63 => ?_
      refine sq (v := (.int .u64 (c.n : Int))) hF63 (wantedS rfl) (run_ldF rfl (hF63.ev 87 rfl) (hM9.at 4 rfl) rfl (by kernel_rfl)) rfl (by decide) fun a64 hF64 => ?_
      refine sqC (v := (.string ⟨He.toArray⟩)) hF64 hM9 (wantedS rfl) (run_call rfl Tryd.func15 (by kernel_rfl) rfl (mapE2 (hF64.ev 86 rfl) (hF64.ev 88 rfl))) rfl (by decide) (hHd w9 (by omega) hcn) fun a65 w10 hb10 hF65 hM10 => ?_
      refine sq (v := (.string ⟨He.toArray⟩)) hF65 (wantedS rfl) (run_as rfl (hF65.ev 89 rfl)) rfl (by decide) fun a66 hF66 => ?_
      refine sqEnd ?_
      clear hF60 hF61 hF62 hF63 hF64 hF65 hM9
      refine nx ?_
      refine wp_seq ?_
      refine wp_region_lit ?_
      refine sq (v := (.pointer (some ⟨g0, 2, none⟩))) hF66 (wantedS rfl) (run_fldA (m := 32) (s := 2) rfl (hF66.ev 3 rfl) Tryd.underlying26 rfl rfl (by kernel_rfl) (by decide)) rfl (by decide) fun a67 hF67 => ?_
      refine sq (v := (.agg (cells8 c.k))) hF67 (wantedS rfl) (run_ldK rfl (hF67.ev 90 rfl) (hM10.at 4 rfl) hLc) rfl (by decide) fun a68 hF68 => ?_
      refine sqC (v := (.agg (cells8 K))) hF68 hM10 (wantedS rfl) (run_call rfl Tryd.func16 (by kernel_rfl) rfl (mapE2 (hF68.ev 91 rfl) rfl)) rfl (by decide) ((by rw [← hK]; exact rof43_any c.k [115, 101, 110, 100] w10 hLc (by decide))) fun a69 w11 hb11 hF69 hM11 => ?_
      refine sqC (v := (.agg (cells8 TK))) hF69 hM11 (wantedS rfl) (run_call rfl Tryd.func16 (by kernel_rfl) rfl (mapE2 (hF69.ev 92 rfl) rfl)) rfl (by decide) ((by rw [← hTK]; exact rof43_any K [116, 97, 103] w11 hLK (by decide))) fun a70 w12 hb12 hF70 hM12 => ?_
      refine sqNew (cs := (cells8 (List.replicate 32 0))) (t := 24) hF70 hM12 (wantedS rfl) (run_alloc rfl (by kernel_rfl)) rfl (by decide) fun g6 a71 w13 hgg6 hb13 hF71 hM13 => ?_
      refine sqStore (i := 0) hF71 hM13 rfl rfl rfl (hF71.ev 14 rfl) (hF71.ev 93 rfl) rfl sz32k (szOf hLTK) (szOf List.length_replicate) (cells8_one _) fun a72 w14 hF72 hM14 => ?_
      refine sqEnd ?_
      clear hF66 hF67 hF68 hF69 hF70 hF71 hM10 hM11 hM12 hM13
      refine nx ?_
      refine wp_seq ?_
      obtain ⟨KL, hKL⟩ : ∃ KL, KL = [kval (.string ⟨He.toArray⟩), kval (.slice (some ⟨gr, 0, none⟩) X.length cr), kval (slPtr (.slice (some ⟨gr, 0, none⟩) X.length cr) (2 * 1)), kval (.string ⟨B.toArray⟩), kval (.slice (some ⟨gr, 0, none⟩) X.length cr), kval (slPtr (.slice (some ⟨gr, 0, none⟩) X.length cr) (2 * 1)), kval (.string ⟨B.toArray⟩), kval (.int .i64 (B.length : Int)), kval (.int .i64 ((B.length - 32 : Nat) : Int)), kval (.string ⟨(B.take (B.length - 32)).toArray⟩), kstrs [He, B.take (B.length - 32)], kval (.string ⟨Rw.toArray⟩), kval (.string ⟨He.toArray⟩), kval (.slice (some ⟨g5, 0, none⟩) B.length c5), kval (.slice (some ⟨g5, 0, none⟩) B.length c5), kval (.int .i64 (B.length : Int)), kval (.int .i64 ((B.length - 32 : Nat) : Int)), kval (.slice (some ⟨g5, 0, none⟩) (B.length - 32 : Nat) c5), kval (.string ⟨((B.set n (((bt B n) ^^^ y))).take (B.length - 32 : Nat)).toArray⟩), kstrs [He, ((B.set n (((bt B n) ^^^ y))).take (B.length - 32 : Nat))], kval (.string ⟨Rn.toArray⟩), kval (.string ⟨Rw.toArray⟩), kval (.string ⟨Rn.toArray⟩)] := ⟨_, rfl⟩
      have K0 : KL.getD 0 kany = kval (.string ⟨He.toArray⟩) := by rw [hKL]; rfl
      have K1 : KL.getD 1 kany = kval (.slice (some ⟨gr, 0, none⟩) X.length cr) := by rw [hKL]; rfl
      have K2 : KL.getD 2 kany = kval (slPtr (.slice (some ⟨gr, 0, none⟩) X.length cr) (2 * 1)) := by rw [hKL]; rfl
      have K3 : KL.getD 3 kany = kval (.string ⟨B.toArray⟩) := by rw [hKL]; rfl
      have K4 : KL.getD 4 kany = kval (.slice (some ⟨gr, 0, none⟩) X.length cr) := by rw [hKL]; rfl
      have K5 : KL.getD 5 kany = kval (slPtr (.slice (some ⟨gr, 0, none⟩) X.length cr) (2 * 1)) := by rw [hKL]; rfl
      have K6 : KL.getD 6 kany = kval (.string ⟨B.toArray⟩) := by rw [hKL]; rfl
      have K7 : KL.getD 7 kany = kval (.int .i64 (B.length : Int)) := by rw [hKL]; rfl
      have K8 : KL.getD 8 kany = kval (.int .i64 ((B.length - 32 : Nat) : Int)) := by rw [hKL]; rfl
      have K9 : KL.getD 9 kany = kval (.string ⟨(B.take (B.length - 32)).toArray⟩) := by rw [hKL]; rfl
      have K10 : KL.getD 10 kany = kstrs [He, B.take (B.length - 32)] := by rw [hKL]; rfl
      have K11 : KL.getD 11 kany = kval (.string ⟨Rw.toArray⟩) := by rw [hKL]; rfl
      have K12 : KL.getD 12 kany = kval (.string ⟨He.toArray⟩) := by rw [hKL]; rfl
      have K13 : KL.getD 13 kany = kval (.slice (some ⟨g5, 0, none⟩) B.length c5) := by rw [hKL]; rfl
      have K14 : KL.getD 14 kany = kval (.slice (some ⟨g5, 0, none⟩) B.length c5) := by rw [hKL]; rfl
      have K15 : KL.getD 15 kany = kval (.int .i64 (B.length : Int)) := by rw [hKL]; rfl
      have K16 : KL.getD 16 kany = kval (.int .i64 ((B.length - 32 : Nat) : Int)) := by rw [hKL]; rfl
      have K17 : KL.getD 17 kany = kval (.slice (some ⟨g5, 0, none⟩) (B.length - 32 : Nat) c5) := by rw [hKL]; rfl
      have K18 : KL.getD 18 kany = kval (.string ⟨((B.set n (((bt B n) ^^^ y))).take (B.length - 32 : Nat)).toArray⟩) := by rw [hKL]; rfl
      have K19 : KL.getD 19 kany = kstrs [He, ((B.set n (((bt B n) ^^^ y))).take (B.length - 32 : Nat))] := by rw [hKL]; rfl
      have K20 : KL.getD 20 kany = kval (.string ⟨Rn.toArray⟩) := by rw [hKL]; rfl
      have K21 : KL.getD 21 kany = kval (.string ⟨Rw.toArray⟩) := by rw [hKL]; rfl
      have K22 : KL.getD 22 kany = kval (.string ⟨Rn.toArray⟩) := by rw [hKL]; rfl
      clear hKL
      refine wp_region_kd 147 (by kernel_rfl) (by kernel_rfl) (by kernel_rfl) hF72.size KL ?_ ?_
      · refine ⟨?_, ?_, ?_, ?_, ?_, ?_, ?_, ?_, ?_, ?_, ?_, ?_, ?_, ?_, ?_, ?_, ?_, ?_, ?_, ?_, ?_, ?_, ?_, trivial⟩
        · refine asks_mk fun a W hS hh hd => ⟨wanted_yes rfl, ?_⟩
          exact giv_run (run_mv rfl (eval_tmp (hh 13 _ rfl (hF72.at 13 rfl)))) K0
        · refine asks_mk fun a W hS hh hd => ⟨wanted_yes rfl, ?_⟩
          exact giv_run (run_mv rfl (eval_tmp (hh 10 _ rfl (hF72.at 10 rfl)))) K1
        · refine asks_mk fun a W hS hh hd => ⟨wanted_yes rfl, ?_⟩
          exact giv_run (run_atP (i := 2) rfl (eval_tmp (hd.val (j := 1) (s := 95) (by kernel_rfl) K1)) rfl rfl (slOfRow (c := cr) ((hM14.grow hS).ob 2 rfl)) (by omega) elStr.un (by kernel_rfl)) K2
        · refine asks_mk fun a W hS hh hd => ⟨wanted_yes rfl, ?_⟩
          exact giv_run (run_ldP rfl (eval_tmp (hd.val (j := 2) (s := 96) (by kernel_rfl) K2)) (slOfRow (c := cr) ((hM14.grow hS).ob 2 rfl)) (map_at hXc) (by kernel_rfl)) K3
        · refine asks_mk fun a W hS hh hd => ⟨wanted_yes rfl, ?_⟩
          exact giv_run (run_mv rfl (eval_tmp (hh 10 _ rfl (hF72.at 10 rfl)))) K4
        · refine asks_mk fun a W hS hh hd => ⟨wanted_yes rfl, ?_⟩
          exact giv_run (run_atP (i := 2) rfl (eval_tmp (hd.val (j := 4) (s := 98) (by kernel_rfl) K4)) rfl rfl (slOfRow (c := cr) ((hM14.grow hS).ob 2 rfl)) (by omega) elStr.un (by kernel_rfl)) K5
        · refine asks_mk fun a W hS hh hd => ⟨wanted_yes rfl, ?_⟩
          exact giv_run (run_ldP rfl (eval_tmp (hd.val (j := 5) (s := 99) (by kernel_rfl) K5)) (slOfRow (c := cr) ((hM14.grow hS).ob 2 rfl)) (map_at hXc) (by kernel_rfl)) K6
        · refine asks_mk fun a W hS hh hd => ⟨wanted_yes rfl, ?_⟩
          exact giv_run (run_len rfl (eval_tmp (hd.val (j := 6) (s := 100) (by kernel_rfl) K6)) rfl Tryd.underlying9) K7
        · refine asks_mk fun a W hS hh hd => ⟨wanted_yes rfl, ?_⟩
          exact giv_run (run_sub (r := ((B.length - 32 : Nat) : Int)) rfl (eval_tmp (hd.val (j := 7) (s := 101) (by kernel_rfl) K7)) rfl (by rw [IntKind.wrap_i64]; omega)) K8
        · refine asks_mk fun a W hS hh hd => ⟨wanted_yes rfl, ?_⟩
          exact giv_run (run_sTo (n := (B.length - 32)) rfl (eval_tmp (hd.val (j := 3) (s := 97) (by kernel_rfl) K3)) (eval_tmp (hd.val (j := 8) (s := 102) (by kernel_rfl) K8)) Tryd.underlying9 (by omega) (by omega)) K9
        · refine asks_mk fun a W hS hh hd => ⟨wanted_yes rfl, ?_⟩
          exact giv_strs [He, B.take (B.length - 32)] 9 (run_strs2 rfl (eval_tmp (hd.val (j := 0) (s := 94) (by kernel_rfl) K0)) (eval_tmp (hd.val (j := 9) (s := 103) (by kernel_rfl) K9))) K10
        · refine asks_mk fun a W hS hh hd => ⟨wanted_yes rfl, ?_⟩
          obtain ⟨v10, e10, s10⟩ := hd.strs (j := 10) (s := 104) (by kernel_rfl) K10
          exact giv_call (run_call rfl Tryd.func17 (by kernel_rfl) rfl (mapE1 (eval_tmp e10))) ((by rw [← hRw]; exact rrow_any [He, B.take (B.length - 32)] _ W s10 (by simp; omega) (by simp))) K11
        · refine asks_mk fun a W hS hh hd => ⟨wanted_yes rfl, ?_⟩
          exact giv_run (run_mv rfl (eval_tmp (hh 13 _ rfl (hF72.at 13 rfl)))) K12
        · refine asks_mk fun a W hS hh hd => ⟨wanted_yes rfl, ?_⟩
          exact giv_run (run_mv rfl (eval_tmp (hh 12 _ rfl (hF72.at 12 rfl)))) K13
        · refine asks_mk fun a W hS hh hd => ⟨wanted_yes rfl, ?_⟩
          exact giv_run (run_mv rfl (eval_tmp (hh 12 _ rfl (hF72.at 12 rfl)))) K14
        · refine asks_mk fun a W hS hh hd => ⟨wanted_yes rfl, ?_⟩
          exact giv_run (run_lenSl rfl (eval_tmp (hd.val (j := 14) (s := 108) (by kernel_rfl) K14)) rfl Tryd.underlying37) K15
        · refine asks_mk fun a W hS hh hd => ⟨wanted_yes rfl, ?_⟩
          exact giv_run (run_sub (r := ((B.length - 32 : Nat) : Int)) rfl (eval_tmp (hd.val (j := 15) (s := 109) (by kernel_rfl) K15)) rfl (by rw [IntKind.wrap_i64]; omega)) K16
        · refine asks_mk fun a W hS hh hd => ⟨wanted_yes rfl, ?_⟩
          exact giv_run (run_toY (j := (B.length - 32 : Nat)) rfl (eval_tmp (hd.val (j := 13) (s := 107) (by kernel_rfl) K13)) (eval_tmp (hd.val (j := 16) (s := 110) (by kernel_rfl) K16)) rfl (by omega)) K17
        · refine asks_mk fun a W hS hh hd => ⟨wanted_yes rfl, ?_⟩
          exact giv_run (run_cv rfl (eval_tmp (hd.val (j := 17) (s := 111) (by kernel_rfl) K17)) (run_strY ((hM14.grow hS).ob 1 rfl) (by omega))) K18
        · refine asks_mk fun a W hS hh hd => ⟨wanted_yes rfl, ?_⟩
          exact giv_strs [He, ((B.set n (((bt B n) ^^^ y))).take (B.length - 32 : Nat))] 9 (run_strs2 rfl (eval_tmp (hd.val (j := 12) (s := 106) (by kernel_rfl) K12)) (eval_tmp (hd.val (j := 18) (s := 112) (by kernel_rfl) K18))) K19
        · refine asks_mk fun a W hS hh hd => ⟨wanted_yes rfl, ?_⟩
          obtain ⟨v19, e19, s19⟩ := hd.strs (j := 19) (s := 113) (by kernel_rfl) K19
          exact giv_call (run_call rfl Tryd.func17 (by kernel_rfl) rfl (mapE1 (eval_tmp e19))) ((by rw [← hRn]; exact rrow_any [He, ((B.set n (((bt B n) ^^^ y))).take (B.length - 32 : Nat))] _ W s19 (by simp; omega) (by simp))) K20
        · refine asks_mk fun a W hS hh hd => ⟨wanted_yes rfl, ?_⟩
          exact giv_run (run_as rfl (eval_tmp (hd.val (j := 11) (s := 105) (by kernel_rfl) K11))) K21
        · refine asks_mk fun a W hS hh hd => ⟨wanted_yes rfl, ?_⟩
          exact giv_run (run_as rfl (eval_tmp (hd.val (j := 20) (s := 114) (by kernel_rfl) K20))) K22
      · intro a73 w15 hb15 hK
        have e0 := hK.val (i := 0) (s := 94) (by kernel_rfl) K0
        have e1 := hK.val (i := 1) (s := 95) (by kernel_rfl) K1
        have e2 := hK.val (i := 2) (s := 96) (by kernel_rfl) K2
        have e3 := hK.val (i := 3) (s := 97) (by kernel_rfl) K3
        have e4 := hK.val (i := 4) (s := 98) (by kernel_rfl) K4
        have e5 := hK.val (i := 5) (s := 99) (by kernel_rfl) K5
        have e6 := hK.val (i := 6) (s := 100) (by kernel_rfl) K6
        have e7 := hK.val (i := 7) (s := 101) (by kernel_rfl) K7
        have e8 := hK.val (i := 8) (s := 102) (by kernel_rfl) K8
        have e9 := hK.val (i := 9) (s := 103) (by kernel_rfl) K9
        obtain ⟨v7, e10, hsv7⟩ := hK.strs (i := 10) (s := 104) (by kernel_rfl) K10
        have e11 := hK.val (i := 11) (s := 105) (by kernel_rfl) K11
        have e12 := hK.val (i := 12) (s := 106) (by kernel_rfl) K12
        have e13 := hK.val (i := 13) (s := 107) (by kernel_rfl) K13
        have e14 := hK.val (i := 14) (s := 108) (by kernel_rfl) K14
        have e15 := hK.val (i := 15) (s := 109) (by kernel_rfl) K15
        have e16 := hK.val (i := 16) (s := 110) (by kernel_rfl) K16
        have e17 := hK.val (i := 17) (s := 111) (by kernel_rfl) K17
        have e18 := hK.val (i := 18) (s := 112) (by kernel_rfl) K18
        obtain ⟨v8, e19, hsv8⟩ := hK.strs (i := 19) (s := 113) (by kernel_rfl) K19
        have e20 := hK.val (i := 20) (s := 114) (by kernel_rfl) K20
        have e21 := hK.val (i := 21) (s := 15) (by kernel_rfl) K21
        have e22 := hK.val (i := 22) (s := 16) (by kernel_rfl) K22
        have hF73 : Fr a73 147 [(0, (.agg (chA c))), (1, (.string ⟨d.toArray⟩)), (2, (.agg #[.int .u16 (p0 : Int), .int .u16 (p1 : Int)])), (3, (.pointer (some ⟨g0, 0, none⟩))), (6, (.bool false)), (7, (.pointer (some ⟨g2, 0, none⟩))), (8, (.string ⟨fr.toArray⟩)), (9, (.int .i64 0)), (10, (.slice (some ⟨gr, 0, none⟩) X.length cr)), (11, (.int .i64 0)), (12, (.slice (some ⟨g5, 0, none⟩) B.length c5)), (14, (.pointer (some ⟨g6, 0, none⟩))), (15, (.string ⟨Rw.toArray⟩)), (16, (.string ⟨Rn.toArray⟩)), (20, (.pointer (some ⟨g0, 0, none⟩))), (21, (.string ⟨c.m.toArray⟩)), (22, (.int .i64 (c.m.length : Int))), (23, (.bool false)), (24, (.bool false)), (25, (.string ⟨d.toArray⟩)), (26, (.int .i64 (d.length : Int))), (27, (.bool false)), (28, (.bool false)), (29, (.bool false)), (30, (.pointer (some ⟨g0, 1, none⟩))), (31, (.int .u64 (c.n : Int))), (32, (.bool false)), (33, (.bool false)), (35, (.tuple #[(.agg (chA (goS c))), (.string ⟨fr.toArray⟩), (.int .i64 0)])), (36, (.agg (chA c))), (37, (.string ⟨d.toArray⟩)), (38, (.tuple #[(.agg (chA (goS c))), (.string ⟨fr.toArray⟩), (.int .i64 0)])), (39, (.agg (chA (goS c)))), (40, (.string ⟨fr.toArray⟩)), (41, (.int .i64 0)), (42, (.tuple #[(.slice (some ⟨gr, 0, none⟩) X.length cr), (.int .i64 0)])), (43, (.string ⟨fr.toArray⟩)), (44, (.tuple #[(.slice (some ⟨gr, 0, none⟩) X.length cr), (.int .i64 0)])), (45, (.slice (some ⟨gr, 0, none⟩) X.length cr)), (46, (.int .i64 0)), (47, (.int .i64 0)), (48, (.bool false)), (49, (.bool false)), (50, (.int .i64 0)), (51, (.bool false)), (52, (.bool false)), (53, (.bool false)), (54, (.slice (some ⟨gr, 0, none⟩) X.length cr)), (55, (.int .i64 (X.length : Int))), (56, (.bool false)), (57, (.bool false)), (58, (.bool false)), (59, (.slice (some ⟨gr, 0, none⟩) X.length cr)), (60, (slPtr (.slice (some ⟨gr, 0, none⟩) X.length cr) (2 * 1))), (61, (.string ⟨B.toArray⟩)), (62, (.int .i64 (B.length : Int))), (63, (.bool false)), (64, (.bool false)), (65, (.slice (some ⟨gr, 0, none⟩) X.length cr)), (66, (slPtr (.slice (some ⟨gr, 0, none⟩) X.length cr) (2 * 1))), (67, (.string ⟨B.toArray⟩)), (68, (.slice (some ⟨g5, 0, none⟩) B.length c5)), (83, (.int .u8 (((bt B n) ^^^ y).toNat : Int))), (84, (.pointer (some ⟨g5, n, none⟩))), (85, (.pointer (some ⟨g0, 0, none⟩))), (86, (.string ⟨c.m.toArray⟩)), (87, (.pointer (some ⟨g0, 1, none⟩))), (88, (.int .u64 (c.n : Int))), (89, (.string ⟨He.toArray⟩)), (90, (.pointer (some ⟨g0, 2, none⟩))), (91, (.agg (cells8 c.k))), (92, (.agg (cells8 K))), (93, (.agg (cells8 TK)))] := (hK.fr hF72 [(.string ⟨He.toArray⟩), (.slice (some ⟨gr, 0, none⟩) X.length cr), (slPtr (.slice (some ⟨gr, 0, none⟩) X.length cr) (2 * 1)), (.string ⟨B.toArray⟩), (.slice (some ⟨gr, 0, none⟩) X.length cr), (slPtr (.slice (some ⟨gr, 0, none⟩) X.length cr) (2 * 1)), (.string ⟨B.toArray⟩), (.int .i64 (B.length : Int)), (.int .i64 ((B.length - 32 : Nat) : Int)), (.string ⟨(B.take (B.length - 32)).toArray⟩), v7, (.string ⟨Rw.toArray⟩), (.string ⟨He.toArray⟩), (.slice (some ⟨g5, 0, none⟩) B.length c5), (.slice (some ⟨g5, 0, none⟩) B.length c5), (.int .i64 (B.length : Int)), (.int .i64 ((B.length - 32 : Nat) : Int)), (.slice (some ⟨g5, 0, none⟩) (B.length - 32 : Nat) c5), (.string ⟨((B.set n (((bt B n) ^^^ y))).take (B.length - 32 : Nat)).toArray⟩), v8, (.string ⟨Rn.toArray⟩), (.string ⟨Rw.toArray⟩), (.string ⟨Rn.toArray⟩)] ⟨e0, e1, e2, e3, e4, e5, e6, e7, e8, e9, e10, e11, e12, e13, e14, e15, e16, e17, e18, e19, e20, e21, e22, trivial⟩).sub ⟨rfl, rfl, rfl, rfl, rfl, rfl, rfl, rfl, rfl, rfl, rfl, rfl, rfl, rfl, rfl, rfl, rfl, rfl, rfl, rfl, rfl, rfl, rfl, rfl, rfl, rfl, rfl, rfl, rfl, rfl, rfl, rfl, rfl, rfl, rfl, rfl, rfl, rfl, rfl, rfl, rfl, rfl, rfl, rfl, rfl, rfl, rfl, rfl, rfl, rfl, rfl, rfl, rfl, rfl, rfl, rfl, rfl, rfl, rfl, rfl, rfl, rfl, rfl, rfl, rfl, rfl, rfl, rfl, rfl, rfl, rfl, rfl, rfl, trivial⟩
        have hM15 := hM14.grow hb15
        clear hK K0 e0 K1 e1 K2 e2 K3 e3 K4 e4 K5 e5 K6 e6 K7 e7 K8 e8 K9 e9 K10 e10 K11 e11 K12 e12 K13 e13 K14 e14 K15 e15 K16 e16 K17 e17 K18 e18 K19 e19 K20 e20 K21 e21 K22 e22
        clear hF72 hM14
        refine nx ?_
        refine wp_seq ?_
        refine wp_seq ?_
        refine wp_region_lit ?_
        refine sq (v := (.agg (cells8 TK))) hF73 (wantedS rfl) (run_ldB rfl (hF73.ev 14 rfl) (hM15.at 0 rfl) Tryd.underlying24 rfl sz32k (szOf hLTK)) rfl (by decide) fun a74 hF74 => ?_
        refine sq (v := (.string ⟨Rw.toArray⟩)) hF74 (wantedS rfl) (run_mv rfl (hF74.ev 15 rfl)) rfl (by decide) fun a75 hF75 => ?_
        refine sq (v := (.string ⟨Rn.toArray⟩)) hF75 (wantedS rfl) (run_mv rfl (hF75.ev 16 rfl)) rfl (by decide) fun a76 hF76 => ?_
        refine sqStrs [Rw, Rn] hF76 hM15 (wantedS rfl) (run_strs2 rfl (hF76.ev 116 rfl) (hF76.ev 117 rfl)) rfl (by decide) fun v9 a77 w16 hsv9 hb16 hF77 hM16 => ?_
        have hS1 := hsv7.below hb16
        have hS2 := hsv8.below hb16
        refine sqC (v := (.bool true)) hF77 hM16 (wantedS rfl) (run_call rfl Tryd.func18 (by kernel_rfl) rfl (mapE2 (hF77.ev 115 rfl) (hF77.ev 118 rfl))) rfl (by decide) ((by have h := apart_any TK [Rw, Rn] _ w16 hLTK (Strs.sl hsv9) (by simp) (by intro x hx; simp only [List.mem_cons, List.not_mem_nil, or_false] at hx; rcases hx with rfl | rfl <;> omega); rw [hap] at h; exact h)) fun a78 w17 hb17 hF78 hM17 => ?_
        have hS3 := hS1.below hb17
        have hS4 := hS2.below hb17
        have hS5 := hsv9.below hb17
        refine sq (v := (.bool false)) hF78 (wantedS rfl) (run_not rfl (hF78.ev 119 rfl)) rfl (by decide) fun a79 hF79 => ?_
        refine sqEnd ?_
        clear hF73 hF74 hF75 hF76 hF77 hF78 hM15 hM16
        refine nx ?_
        refine wp_cond_false (hF79.ev 120 rfl) ?_
        refine wp_skip ?_
        refine nx ?_
        refine wp_seq ?_
        refine wp_region_new 147 [some (.agg (chA c)), some (.slice (some ⟨gr, 0, none⟩) X.length cr), some (slPtr (.slice (some ⟨gr, 0, none⟩) X.length cr) (0 * 1)), some (.string ⟨c.m.toArray⟩), some (.slice (some ⟨gr, 0, none⟩) X.length cr), some (slPtr (.slice (some ⟨gr, 0, none⟩) X.length cr) (1 * 1)), some (.string ⟨(putS c.n).toArray⟩), some (.slice (some ⟨g5, 0, none⟩) B.length c5), some (.string ⟨(B.set n (((bt B n) ^^^ y))).toArray⟩), none, some (.string ⟨Rf.toArray⟩), some (.tuple #[(.agg (chA noCh)), (.string ⟨List.toArray []⟩), (.int .i64 5)]), some (.tuple #[(.agg (chA noCh)), (.string ⟨List.toArray []⟩), (.int .i64 5)]), some (.agg (chA noCh)), some (.string ⟨List.toArray []⟩), some (.int .i64 5), none, none, some (.string ⟨List.toArray []⟩), some (.int .i64 5)] [none, none, none, none, none, none, none, none, none, some [c.m, (putS c.n), (B.set n (((bt B n) ^^^ y)))], none, none, none, none, none, none, none, none, none, none] [⟨16, 17, 17, 26, (chA noCh), (chA noCh)⟩] (by kernel_rfl) (by kernel_rfl) hF79.size hM17 ?_ ?_ fun a80 w18 gs hI => ?_
        · intro d hd
          simp only [List.mem_cons, List.not_mem_nil, or_false] at hd
          rcases hd with rfl <;> exact ⟨Nat.le_of_ble_eq_true (by kernel_rfl), _, rfl, rfl⟩
        · refine ⟨?_, ?_, ?_, ?_, ?_, ?_, ?_, ?_, ?_, ?_, ?_, ?_, ?_, ?_, ?_, ?_, ?_, ?_, ?_, ?_, trivial⟩
          · refine .val 123 (fun v _ => v = (.agg (chA c))) rfl (hT_val rfl rfl) (by simp) fun a W hS hh hd hst => ⟨wanted_yes rfl, ?_⟩
            exact givn_run (run_ldB rfl (eval_tmp (hh 3 _ rfl (hF79.at 3 rfl))) (hS.at 5 rfl) Tryd.underlying26 rfl szCh (chA_size hLc))
          · refine .val 124 (fun v _ => v = (.slice (some ⟨gr, 0, none⟩) X.length cr)) rfl (hT_val rfl rfl) (by simp) fun a W hS hh hd hst => ⟨wanted_yes rfl, ?_⟩
            exact givn_run (run_mv rfl (eval_tmp (hh 10 _ rfl (hF79.at 10 rfl))))
          · refine .val 125 (fun v _ => v = (slPtr (.slice (some ⟨gr, 0, none⟩) X.length cr) (0 * 1))) rfl (hT_val rfl rfl) (by simp) fun a W hS hh hd hst => ⟨wanted_yes rfl, ?_⟩
            exact givn_run (run_atP (i := 0) rfl (eval_tmp (hd 1 124 _ (by kernel_rfl) rfl)) rfl rfl (slOfRow (c := cr) (hS.ob 2 rfl)) (by omega) elStr.un (by kernel_rfl))
          · refine .val 126 (fun v _ => v = (.string ⟨c.m.toArray⟩)) rfl (hT_val rfl rfl) (by simp) fun a W hS hh hd hst => ⟨wanted_yes rfl, ?_⟩
            exact givn_run (run_ldP rfl (eval_tmp (hd 2 125 _ (by kernel_rfl) rfl)) (slOfRow (c := cr) (hS.ob 2 rfl)) (map_at hXa) (by kernel_rfl))
          · refine .val 127 (fun v _ => v = (.slice (some ⟨gr, 0, none⟩) X.length cr)) rfl (hT_val rfl rfl) (by simp) fun a W hS hh hd hst => ⟨wanted_yes rfl, ?_⟩
            exact givn_run (run_mv rfl (eval_tmp (hh 10 _ rfl (hF79.at 10 rfl))))
          · refine .val 128 (fun v _ => v = (slPtr (.slice (some ⟨gr, 0, none⟩) X.length cr) (1 * 1))) rfl (hT_val rfl rfl) (by simp) fun a W hS hh hd hst => ⟨wanted_yes rfl, ?_⟩
            exact givn_run (run_atP (i := 1) rfl (eval_tmp (hd 4 127 _ (by kernel_rfl) rfl)) rfl rfl (slOfRow (c := cr) (hS.ob 2 rfl)) (by omega) elStr.un (by kernel_rfl))
          · refine .val 129 (fun v _ => v = (.string ⟨(putS c.n).toArray⟩)) rfl (hT_val rfl rfl) (by simp) fun a W hS hh hd hst => ⟨wanted_yes rfl, ?_⟩
            exact givn_run (run_ldP rfl (eval_tmp (hd 5 128 _ (by kernel_rfl) rfl)) (slOfRow (c := cr) (hS.ob 2 rfl)) (map_at hXb) (by kernel_rfl))
          · refine .val 130 (fun v _ => v = (.slice (some ⟨g5, 0, none⟩) B.length c5)) rfl (hT_val rfl rfl) (by simp) fun a W hS hh hd hst => ⟨wanted_yes rfl, ?_⟩
            exact givn_run (run_mv rfl (eval_tmp (hh 12 _ rfl (hF79.at 12 rfl))))
          · refine .val 131 (fun v _ => v = (.string ⟨(B.set n (((bt B n) ^^^ y))).toArray⟩)) rfl (hT_val rfl rfl) (by simp) fun a W hS hh hd hst => ⟨wanted_yes rfl, ?_⟩
            exact givn_run (run_cv rfl (eval_tmp (hd 7 130 _ (by kernel_rfl) rfl)) (run_strYall (hS.ob 1 rfl) (by simp)))
          · refine .val 132 (fun v W' => Strs W' v [c.m, (putS c.n), (B.set n (((bt B n) ^^^ y)))]) rfl (hT_str rfl rfl) (by simp) fun a W hS hh hd hst => ⟨wanted_yes rfl, ?_⟩
            exact givn_strs [c.m, (putS c.n), (B.set n (((bt B n) ^^^ y)))] 9 (run_strs3 rfl (eval_tmp (hd 3 126 _ (by kernel_rfl) rfl)) (eval_tmp (hd 6 129 _ (by kernel_rfl) rfl)) (eval_tmp (hd 8 131 _ (by kernel_rfl) rfl)))
          · refine .val 133 (fun v _ => v = (.string ⟨Rf.toArray⟩)) rfl (hT_val rfl rfl) (by simp) fun a W hS hh hd hst => ⟨wanted_yes rfl, ?_⟩
            obtain ⟨v9, e9, s9⟩ := hst (by simp only [List.mem_cons, List.not_mem_nil, or_false, forall_eq]; kernel_rfl) 9 132 _ (by kernel_rfl) rfl
            exact givn_call (run_call rfl Tryd.func17 (by kernel_rfl) rfl (mapE1 (eval_tmp e9))) ((by rw [← hRf]; exact rrow_any [c.m, (putS c.n), (B.set n (((bt B n) ^^^ y)))] _ W s9 (by simp [putS_len]; omega) (by simp)))
          · refine .val 134 (fun v _ => v = (.tuple #[(.agg (chA noCh)), (.string ⟨List.toArray []⟩), (.int .i64 5)])) rfl (hT_val rfl rfl) (by simp) fun a W hS hh hd hst => ⟨wanted_yes rfl, ?_⟩
            exact givn_call (run_call rfl Tryd.func13 (by kernel_rfl) rfl (mapE2 (eval_tmp (hd 0 123 _ (by kernel_rfl) rfl)) (eval_tmp (hd 10 133 _ (by kernel_rfl) rfl)))) (take_eq hT W (HG.below hS.below) hLc (by first | omega | decide | (simp; done) | (simp; omega)) (by first | omega | decide | (simp; done) | (simp; omega)) (by first | omega | decide | (simp; done) | (simp; omega)))
          · refine .val 122 (fun v _ => v = (.tuple #[(.agg (chA noCh)), (.string ⟨List.toArray []⟩), (.int .i64 5)])) rfl (hT_val rfl rfl) (by simp) fun a W hS hh hd hst => ⟨wanted_yes rfl, ?_⟩
            exact givn_run (run_mv rfl (eval_tmp (hd 11 134 _ (by kernel_rfl) rfl)))
          · refine .val 135 (fun v _ => v = (.agg (chA noCh))) rfl (hT_val rfl rfl) (by simp) fun a W hS hh hd hst => ⟨wanted_yes rfl, ?_⟩
            exact givn_run (run_ext rfl (eval_tmp (hd 12 122 _ (by kernel_rfl) rfl)) rfl)
          · refine .val 136 (fun v _ => v = (.string ⟨List.toArray []⟩)) rfl (hT_val rfl rfl) (by simp) fun a W hS hh hd hst => ⟨wanted_yes rfl, ?_⟩
            exact givn_run (run_ext rfl (eval_tmp (hd 12 122 _ (by kernel_rfl) rfl)) rfl)
          · refine .val 137 (fun v _ => v = (.int .i64 5)) rfl (hT_val rfl rfl) (by simp) fun a W hS hh hd hst => ⟨wanted_yes rfl, ?_⟩
            exact givn_run (run_ext rfl (eval_tmp (hd 12 122 _ (by kernel_rfl) rfl)) rfl)
          · exact .new 0 _ rfl rfl rfl rfl rfl (by simp) (fun y e hy he => by rcases y with _ | _ | y <;> simp at hy <;> (try subst hy) <;> simp at he ⊢) fun a W => ⟨wanted_yes rfl, run_alloc rfl (by kernel_rfl)⟩
          · exact .put 0 _ rfl rfl rfl (by simp) (fun y e hy he => by rcases y with _ | _ | y <;> simp at hy <;> (try subst hy) <;> simp at he ⊢) (by kernel_rfl) 34 26 _ _ rfl rfl (fun a hh hd => (eval_tmp (hd 13 135 _ (by kernel_rfl) rfl))) rfl szCh (chA_size noCh_len) (chA_size noCh_len) (chA_one _)
          · refine .val 18 (fun v _ => v = (.string ⟨List.toArray []⟩)) rfl (hT_val rfl rfl) (by simp) fun a W hS hh hd hst => ⟨wanted_yes rfl, ?_⟩
            exact givn_run (run_as rfl (eval_tmp (hd 14 136 _ (by kernel_rfl) rfl)))
          · refine .val 19 (fun v _ => v = (.int .i64 5)) rfl (hT_val rfl rfl) (by simp) fun a W hS hh hd hst => ⟨wanted_yes rfl, ?_⟩
            exact givn_run (run_as rfl (eval_tmp (hd 15 137 _ (by kernel_rfl) rfl)))
        obtain ⟨pg10, qg10, Bg10, fg10⟩ := hI.blk 0 _ rfl rfl
        generalize gs 0 = g10 at pg10 qg10 Bg10 fg10
        have hM18 := hI.mem.put1 (cs := (chA noCh)) qg10 Bg10 fg10
        have hF80 : Fr a80 147 [(0, (.agg (chA c))), (1, (.string ⟨d.toArray⟩)), (2, (.agg #[.int .u16 (p0 : Int), .int .u16 (p1 : Int)])), (3, (.pointer (some ⟨g0, 0, none⟩))), (6, (.bool false)), (7, (.pointer (some ⟨g2, 0, none⟩))), (8, (.string ⟨fr.toArray⟩)), (9, (.int .i64 0)), (10, (.slice (some ⟨gr, 0, none⟩) X.length cr)), (11, (.int .i64 0)), (12, (.slice (some ⟨g5, 0, none⟩) B.length c5)), (14, (.pointer (some ⟨g6, 0, none⟩))), (15, (.string ⟨Rw.toArray⟩)), (16, (.string ⟨Rn.toArray⟩)), (17, (.pointer (some ⟨g10, 0, none⟩))), (18, (.string ⟨List.toArray []⟩)), (19, (.int .i64 5)), (20, (.pointer (some ⟨g0, 0, none⟩))), (21, (.string ⟨c.m.toArray⟩)), (22, (.int .i64 (c.m.length : Int))), (23, (.bool false)), (24, (.bool false)), (25, (.string ⟨d.toArray⟩)), (26, (.int .i64 (d.length : Int))), (27, (.bool false)), (28, (.bool false)), (29, (.bool false)), (30, (.pointer (some ⟨g0, 1, none⟩))), (31, (.int .u64 (c.n : Int))), (32, (.bool false)), (33, (.bool false)), (35, (.tuple #[(.agg (chA (goS c))), (.string ⟨fr.toArray⟩), (.int .i64 0)])), (36, (.agg (chA c))), (37, (.string ⟨d.toArray⟩)), (38, (.tuple #[(.agg (chA (goS c))), (.string ⟨fr.toArray⟩), (.int .i64 0)])), (39, (.agg (chA (goS c)))), (40, (.string ⟨fr.toArray⟩)), (41, (.int .i64 0)), (42, (.tuple #[(.slice (some ⟨gr, 0, none⟩) X.length cr), (.int .i64 0)])), (43, (.string ⟨fr.toArray⟩)), (44, (.tuple #[(.slice (some ⟨gr, 0, none⟩) X.length cr), (.int .i64 0)])), (45, (.slice (some ⟨gr, 0, none⟩) X.length cr)), (46, (.int .i64 0)), (47, (.int .i64 0)), (48, (.bool false)), (49, (.bool false)), (50, (.int .i64 0)), (51, (.bool false)), (52, (.bool false)), (53, (.bool false)), (54, (.slice (some ⟨gr, 0, none⟩) X.length cr)), (55, (.int .i64 (X.length : Int))), (56, (.bool false)), (57, (.bool false)), (58, (.bool false)), (59, (.slice (some ⟨gr, 0, none⟩) X.length cr)), (60, (slPtr (.slice (some ⟨gr, 0, none⟩) X.length cr) (2 * 1))), (61, (.string ⟨B.toArray⟩)), (62, (.int .i64 (B.length : Int))), (63, (.bool false)), (64, (.bool false)), (65, (.slice (some ⟨gr, 0, none⟩) X.length cr)), (66, (slPtr (.slice (some ⟨gr, 0, none⟩) X.length cr) (2 * 1))), (67, (.string ⟨B.toArray⟩)), (68, (.slice (some ⟨g5, 0, none⟩) B.length c5)), (83, (.int .u8 (((bt B n) ^^^ y).toNat : Int))), (84, (.pointer (some ⟨g5, n, none⟩))), (85, (.pointer (some ⟨g0, 0, none⟩))), (86, (.string ⟨c.m.toArray⟩)), (87, (.pointer (some ⟨g0, 1, none⟩))), (88, (.int .u64 (c.n : Int))), (89, (.string ⟨He.toArray⟩)), (90, (.pointer (some ⟨g0, 2, none⟩))), (91, (.agg (cells8 c.k))), (92, (.agg (cells8 K))), (93, (.agg (cells8 TK))), (115, (.agg (cells8 TK))), (116, (.string ⟨Rw.toArray⟩)), (117, (.string ⟨Rn.toArray⟩)), (118, v9), (119, (.bool true)), (120, (.bool false)), (135, (.agg (chA noCh))), (136, (.string ⟨List.toArray []⟩)), (137, (.int .i64 5))] := fr_of_holds hI.size (hI.defers.trans hF79.defers) ⟨hI.had 0 _ rfl (hF79.at 0 rfl), hI.had 1 _ rfl (hF79.at 1 rfl), hI.had 2 _ rfl (hF79.at 2 rfl), hI.had 3 _ rfl (hF79.at 3 rfl), hI.had 6 _ rfl (hF79.at 6 rfl), hI.had 7 _ rfl (hF79.at 7 rfl), hI.had 8 _ rfl (hF79.at 8 rfl), hI.had 9 _ rfl (hF79.at 9 rfl), hI.had 10 _ rfl (hF79.at 10 rfl), hI.had 11 _ rfl (hF79.at 11 rfl), hI.had 12 _ rfl (hF79.at 12 rfl), hI.had 14 _ rfl (hF79.at 14 rfl), hI.had 15 _ rfl (hF79.at 15 rfl), hI.had 16 _ rfl (hF79.at 16 rfl), pg10, hI.val 18 _ 18 _ rfl rfl rfl rfl, hI.val 19 _ 19 _ rfl rfl rfl rfl, hI.had 20 _ rfl (hF79.at 20 rfl), hI.had 21 _ rfl (hF79.at 21 rfl), hI.had 22 _ rfl (hF79.at 22 rfl), hI.had 23 _ rfl (hF79.at 23 rfl), hI.had 24 _ rfl (hF79.at 24 rfl), hI.had 25 _ rfl (hF79.at 25 rfl), hI.had 26 _ rfl (hF79.at 26 rfl), hI.had 27 _ rfl (hF79.at 27 rfl), hI.had 28 _ rfl (hF79.at 28 rfl), hI.had 29 _ rfl (hF79.at 29 rfl), hI.had 30 _ rfl (hF79.at 30 rfl), hI.had 31 _ rfl (hF79.at 31 rfl), hI.had 32 _ rfl (hF79.at 32 rfl), hI.had 33 _ rfl (hF79.at 33 rfl), hI.had 35 _ rfl (hF79.at 35 rfl), hI.had 36 _ rfl (hF79.at 36 rfl), hI.had 37 _ rfl (hF79.at 37 rfl), hI.had 38 _ rfl (hF79.at 38 rfl), hI.had 39 _ rfl (hF79.at 39 rfl), hI.had 40 _ rfl (hF79.at 40 rfl), hI.had 41 _ rfl (hF79.at 41 rfl), hI.had 42 _ rfl (hF79.at 42 rfl), hI.had 43 _ rfl (hF79.at 43 rfl), hI.had 44 _ rfl (hF79.at 44 rfl), hI.had 45 _ rfl (hF79.at 45 rfl), hI.had 46 _ rfl (hF79.at 46 rfl), hI.had 47 _ rfl (hF79.at 47 rfl), hI.had 48 _ rfl (hF79.at 48 rfl), hI.had 49 _ rfl (hF79.at 49 rfl), hI.had 50 _ rfl (hF79.at 50 rfl), hI.had 51 _ rfl (hF79.at 51 rfl), hI.had 52 _ rfl (hF79.at 52 rfl), hI.had 53 _ rfl (hF79.at 53 rfl), hI.had 54 _ rfl (hF79.at 54 rfl), hI.had 55 _ rfl (hF79.at 55 rfl), hI.had 56 _ rfl (hF79.at 56 rfl), hI.had 57 _ rfl (hF79.at 57 rfl), hI.had 58 _ rfl (hF79.at 58 rfl), hI.had 59 _ rfl (hF79.at 59 rfl), hI.had 60 _ rfl (hF79.at 60 rfl), hI.had 61 _ rfl (hF79.at 61 rfl), hI.had 62 _ rfl (hF79.at 62 rfl), hI.had 63 _ rfl (hF79.at 63 rfl), hI.had 64 _ rfl (hF79.at 64 rfl), hI.had 65 _ rfl (hF79.at 65 rfl), hI.had 66 _ rfl (hF79.at 66 rfl), hI.had 67 _ rfl (hF79.at 67 rfl), hI.had 68 _ rfl (hF79.at 68 rfl), hI.had 83 _ rfl (hF79.at 83 rfl), hI.had 84 _ rfl (hF79.at 84 rfl), hI.had 85 _ rfl (hF79.at 85 rfl), hI.had 86 _ rfl (hF79.at 86 rfl), hI.had 87 _ rfl (hF79.at 87 rfl), hI.had 88 _ rfl (hF79.at 88 rfl), hI.had 89 _ rfl (hF79.at 89 rfl), hI.had 90 _ rfl (hF79.at 90 rfl), hI.had 91 _ rfl (hF79.at 91 rfl), hI.had 92 _ rfl (hF79.at 92 rfl), hI.had 93 _ rfl (hF79.at 93 rfl), hI.had 115 _ rfl (hF79.at 115 rfl), hI.had 116 _ rfl (hF79.at 116 rfl), hI.had 117 _ rfl (hF79.at 117 rfl), hI.had 118 _ rfl (hF79.at 118 rfl), hI.had 119 _ rfl (hF79.at 119 rfl), hI.had 120 _ rfl (hF79.at 120 rfl), hI.val 13 _ 135 _ rfl rfl rfl rfl, hI.val 14 _ 136 _ rfl rfl rfl rfl, hI.val 15 _ 137 _ rfl rfl rfl rfl, trivial⟩
        clear hI pg10 Bg10 fg10
        clear hF79 hM17
        refine nx ?_
        refine wp_seq ?_
        refine wp_region_lit ?_
        refine sqC (v := (.bool true)) hF80 hM18 (wantedS rfl) (run_call rfl Tryd.func11 (by kernel_rfl) rfl (mapE0 )) rfl (by decide) (sfix_any w18 (HG.below hM18.below)) fun a81 w19 hb19 hF81 hM19 => ?_
        refine sq (v := (.bool true)) hF81 (wantedS rfl) (run_mv rfl (hF81.ev 138 rfl)) rfl (by decide) fun a82 hF82 => ?_
        refine sq (v := (.string ⟨List.toArray []⟩)) hF82 (wantedG hF82 rfl rfl rfl rfl rfl) (run_mv rfl (hF82.ev 18 rfl)) rfl (by decide) fun a83 hF83 => ?_
        refine sq (v := (.bool true)) hF83 (wantedG hF83 rfl rfl rfl rfl rfl) (run_eqs rfl (hF83.ev 140 rfl) rfl (beq_self_eq_true _)) rfl (by decide) fun a84 hF84 => ?_
        refine sq (v := (.bool true)) hF84 (wantedS rfl) (run_pick rfl (hF84.ev 139 rfl) (hF84.ev 141 rfl) rfl) rfl (by decide) fun a85 hF85 => ?_
        refine sq (v := (.bool true)) hF85 (wantedS rfl) (run_mv rfl (hF85.ev 142 rfl)) rfl (by decide) fun a86 hF86 => ?_
        refine sq (v := (.int .i64 5)) hF86 (wantedG hF86 rfl rfl rfl rfl rfl) (run_mv rfl (hF86.ev 19 rfl)) rfl (by decide) fun a87 hF87 => ?_
        refine sq (v := (.bool true)) hF87 (wantedG hF87 rfl rfl rfl rfl rfl) (run_eqi rfl (hF87.ev 144 rfl) rfl (beq_self_eq_true _)) rfl (by decide) fun a88 hF88 => ?_
        refine sq (v := (.bool true)) hF88 (wantedS rfl) (run_pick rfl (hF88.ev 143 rfl) (hF88.ev 145 rfl) rfl) rfl (by decide) fun a89 hF89 => ?_
        refine sq (v := (.bool true)) hF89 (wantedS rfl) (run_as rfl (hF89.ev 146 rfl)) rfl (by decide) fun a90 hF90 => ?_
        refine sqEnd ?_
        clear hF80 hF81 hF82 hF83 hF84 hF85 hF86 hF87 hF88 hF89 hM18
        refine nx ?_
        refine wp_ret ?_
        exact ret1 hF90 rfl rfl ⟨rfl, hM19.below⟩
  · have hap : unlikeS [Rw, Rn] ([Rw, Rn].map (keyedS TK)) = false := by simpa using hap
    refine walk_enter Tryd.func4 rfl rfl rfl fun a0 hF0 => ?_
    have hM0 := Mem.new w
    refine wp_seq ?_
    refine wp_region_lit ?_
    refine sqNew (cs := (chA c)) (t := 26) hF0 hM0 (wantedS rfl) (run_box rfl (hF0.ev 0 rfl)) rfl (by decide) fun g0 a1 w1 hgg0 hb1 hF1 hM1 => ?_
    refine sqNew (cs := #[.int .u16 (p0 : Int), .int .u16 (p1 : Int)]) (t := 33) hF1 hM1 (wantedS rfl) (run_box rfl (hF1.ev 2 rfl)) rfl (by decide) fun g1 a2 w2 hgg1 hb2 hF2 hM2 => ?_
    refine sq (v := (.bool false)) hF2 (wantedS rfl) (run_as rfl rfl) rfl (by decide) fun a3 hF3 => ?_
    refine sqEnd ?_
    clear hF0 hF1 hF2 hM0 hM1
    refine nx ?_
    refine wp_seq ?_
    refine wp_seq ?_
    refine wp_region_lit ?_
    refine sq (v := (.pointer (some ⟨g0, 0, none⟩))) hF3 (wantedS rfl) (run_fldA (m := 1) (s := 0) rfl (hF3.ev 3 rfl) Tryd.underlying26 rfl rfl (by kernel_rfl) (by decide)) rfl (by decide) fun a4 hF4 => ?_
    refine sq (v := (.string ⟨c.m.toArray⟩)) hF4 (wantedS rfl) (run_ldF rfl (hF4.ev 20 rfl) (hM2.at 1 rfl) rfl (by kernel_rfl)) rfl (by decide) fun a5 hF5 => ?_
    refine sq (v := (.int .i64 (c.m.length : Int))) hF5 (wantedS rfl) (run_len rfl (hF5.ev 21 rfl) rfl Tryd.underlying9) rfl (by decide) fun a6 hF6 => ?_
    refine sq (v := (.bool false)) hF6 (wantedS rfl) (run_gtr rfl (hF6.ev 22 rfl) rfl (decide_eq_false (by omega))) rfl (by decide) fun a7 hF7 => ?_
    refine sq (v := (.bool false)) hF7 (wantedS rfl) (run_mv rfl (hF7.ev 23 rfl)) rfl (by decide) fun a8 hF8 => ?_
    refine sq (v := (.string ⟨d.toArray⟩)) hF8 (wantedG hF8 rfl rfl rfl rfl rfl) (run_mv rfl (hF8.ev 1 rfl)) rfl (by decide) fun a9 hF9 => ?_
    refine sq (v := (.int .i64 (d.length : Int))) hF9 (wantedG hF9 rfl rfl rfl rfl rfl) (run_len rfl (hF9.ev 25 rfl) rfl Tryd.underlying9) rfl (by decide) fun a10 hF10 => ?_
    refine sq (v := (.bool false)) hF10 (wantedG hF10 rfl rfl rfl rfl rfl) (run_gtr rfl (hF10.ev 26 rfl) rfl (decide_eq_false (by omega))) rfl (by decide) fun a11 hF11 => ?_
    refine sq (v := (.bool false)) hF11 (wantedS rfl) (run_pick rfl (hF11.ev 24 rfl) rfl (hF11.ev 27 rfl)) rfl (by decide) fun a12 hF12 => ?_
    refine sq (v := (.bool false)) hF12 (wantedS rfl) (run_mv rfl (hF12.ev 28 rfl)) rfl (by decide) fun a13 hF13 => ?_
    refine sq (v := (.pointer (some ⟨g0, 1, none⟩))) hF13 (wantedG hF13 rfl rfl rfl rfl rfl) (run_fldA (m := 1) (s := 1) rfl (hF13.ev 3 rfl) Tryd.underlying26 rfl rfl (by kernel_rfl) (by decide)) rfl (by decide) fun a14 hF14 => ?_
    refine sq (v := (.int .u64 (c.n : Int))) hF14 (wantedG hF14 rfl rfl rfl rfl rfl) (run_ldF rfl (hF14.ev 30 rfl) (hM2.at 1 rfl) rfl (by kernel_rfl)) rfl (by decide) fun a15 hF15 => ?_
    refine sq (v := (.bool false)) hF15 (wantedG hF15 rfl rfl rfl rfl rfl) (run_gtr rfl (hF15.ev 31 rfl) rfl (decide_eq_false (by omega))) rfl (by decide) fun a16 hF16 => ?_
    refine sq (v := (.bool false)) hF16 (wantedS rfl) (run_pick rfl (hF16.ev 29 rfl) rfl (hF16.ev 32 rfl)) rfl (by decide) fun a17 hF17 => ?_
    refine sqEnd ?_
    clear hF3 hF4 hF5 hF6 hF7 hF8 hF9 hF10 hF11 hF12 hF13 hF14 hF15 hF16
    refine nx ?_
    refine wp_cond_false (hF17.ev 33 rfl) ?_
    refine wp_skip ?_
    refine nx ?_
    refine wp_seq ?_
    refine wp_region_lit ?_
    refine sq (v := (.agg (chA c))) hF17 (wantedS rfl) (run_ldB rfl (hF17.ev 3 rfl) (hM2.at 1 rfl) Tryd.underlying26 rfl szCh (chA_size hLc)) rfl (by decide) fun a18 hF18 => ?_
    refine sq (v := (.string ⟨d.toArray⟩)) hF18 (wantedS rfl) (run_mv rfl (hF18.ev 1 rfl)) rfl (by decide) fun a19 hF19 => ?_
    refine sqC (v := (.tuple #[(.agg (chA (goS c))), (.string ⟨fr.toArray⟩), (.int .i64 0)])) hF19 hM2 (wantedS rfl) (run_call rfl Tryd.func12 (by kernel_rfl) rfl (mapE2 (hF19.ev 36 rfl) (hF19.ev 37 rfl))) rfl (by decide) (send_eq hS1 w2 (HG.below hM2.below) hLc (by first | omega | decide | (simp; done) | (simp; omega)) (by first | omega | decide | (simp; done) | (simp; omega))) fun a20 w3 hb3 hF20 hM3 => ?_
    refine sq (v := (.tuple #[(.agg (chA (goS c))), (.string ⟨fr.toArray⟩), (.int .i64 0)])) hF20 (wantedS rfl) (run_mv rfl (hF20.ev 38 rfl)) rfl (by decide) fun a21 hF21 => ?_
    refine sq (v := (.agg (chA (goS c)))) hF21 (wantedS rfl) (run_ext rfl (hF21.ev 35 rfl) rfl) rfl (by decide) fun a22 hF22 => ?_
    refine sq (v := (.string ⟨fr.toArray⟩)) hF22 (wantedS rfl) (run_ext rfl (hF22.ev 35 rfl) rfl) rfl (by decide) fun a23 hF23 => ?_
    refine sq (v := (.int .i64 0)) hF23 (wantedS rfl) (run_ext rfl (hF23.ev 35 rfl) rfl) rfl (by decide) fun a24 hF24 => ?_
    refine sqNew (cs := (chA noCh)) (t := 26) hF24 hM3 (wantedS rfl) (run_alloc rfl (by kernel_rfl)) rfl (by decide) fun g2 a25 w4 hgg2 hb4 hF25 hM4 => ?_
    refine sqStore (i := 0) hF25 hM4 rfl rfl rfl (hF25.ev 7 rfl) (hF25.ev 39 rfl) rfl szCh (chA_size (goS_len _)) (chA_size noCh_len) (chA_one _) fun a26 w5 hF26 hM5 => ?_
    refine sq (v := (.string ⟨fr.toArray⟩)) hF26 (wantedS rfl) (run_as rfl (hF26.ev 40 rfl)) rfl (by decide) fun a27 hF27 => ?_
    refine sq (v := (.int .i64 0)) hF27 (wantedS rfl) (run_as rfl (hF27.ev 41 rfl)) rfl (by decide) fun a28 hF28 => ?_
    refine sqEnd ?_
    clear hF17 hF18 hF19 hF20 hF21 hF22 hF23 hF24 hF25 hF26 hF27 hM2 hM3 hM4
    refine nx ?_
    refine wp_seq ?_
    refine wp_region_lit ?_
    refine sq (v := (.string ⟨fr.toArray⟩)) hF28 (wantedS rfl) (run_mv rfl (hF28.ev 8 rfl)) rfl (by decide) fun a29 hF29 => ?_
    refine sqT (T := fun u wx => (∃ v, u = .tuple #[v, .int .i64 0] ∧ wx.ownsRow w5.heap.size 9 1 v X.length (X.map tx)) ∧ Below w5.heap.size w5 wx) hF29 (wantedS rfl) (run_call rfl Tryd.func14 (by kernel_rfl) rfl (mapE1 (hF29.ev 43 rfl))) rfl (by decide) (rtexts_ok hTx w5 (by omega)) fun u3 a30 w6 hT6 hF30 => ?_
    obtain ⟨⟨v4, rfl, hr6⟩, hb6⟩ := hT6
    obtain ⟨gr, cr, rfl, hcapgr, hggr, hM6⟩ := OwnR.ofCallMem hM5 hb6 hr6 (by omega)
    refine sq (v := (.tuple #[(.slice (some ⟨gr, 0, none⟩) X.length cr), (.int .i64 0)])) hF30 (wantedS rfl) (run_mv rfl (hF30.ev 44 rfl)) rfl (by decide) fun a31 hF31 => ?_
    refine sq (v := (.slice (some ⟨gr, 0, none⟩) X.length cr)) hF31 (wantedS rfl) (run_ext rfl (hF31.ev 42 rfl) rfl) rfl (by decide) fun a32 hF32 => ?_
    refine sq (v := (.int .i64 0)) hF32 (wantedS rfl) (run_ext rfl (hF32.ev 42 rfl) rfl) rfl (by decide) fun a33 hF33 => ?_
    refine sq (v := (.slice (some ⟨gr, 0, none⟩) X.length cr)) hF33 (wantedS rfl) (run_as rfl (hF33.ev 45 rfl)) rfl (by decide) fun a34 hF34 => ?_
    refine sq (v := (.int .i64 0)) hF34 (wantedS rfl) (run_as rfl (hF34.ev 46 rfl)) rfl (by decide) fun a35 hF35 => ?_
    refine sqEnd ?_
    clear hF28 hF29 hF30 hF31 hF32 hF33 hF34 hM5
    refine nx ?_
    refine wp_seq ?_
    refine wp_seq ?_
    refine wp_region_lit ?_
    refine sq (v := (.int .i64 0)) hF35 (wantedS rfl) (run_mv rfl (hF35.ev 9 rfl)) rfl (by decide) fun a36 hF36 => ?_
    refine sq (v := (.bool false)) hF36 (wantedS rfl) (run_nei rfl (hF36.ev 47 rfl) rfl (bne_self_eq_false _)) rfl (by decide) fun a37 hF37 => ?_
    refine sq (v := (.bool false)) hF37 (wantedS rfl) (run_mv rfl (hF37.ev 48 rfl)) rfl (by decide) fun a38 hF38 => ?_
    refine sq (v := (.int .i64 0)) hF38 (wantedG hF38 rfl rfl rfl rfl rfl) (run_mv rfl (hF38.ev 11 rfl)) rfl (by decide) fun a39 hF39 => ?_
    refine sq (v := (.bool false)) hF39 (wantedG hF39 rfl rfl rfl rfl rfl) (run_nei rfl (hF39.ev 50 rfl) rfl (bne_self_eq_false _)) rfl (by decide) fun a40 hF40 => ?_
    refine sq (v := (.bool false)) hF40 (wantedS rfl) (run_pick rfl (hF40.ev 49 rfl) rfl (hF40.ev 51 rfl)) rfl (by decide) fun a41 hF41 => ?_
    refine sq (v := (.bool false)) hF41 (wantedS rfl) (run_mv rfl (hF41.ev 52 rfl)) rfl (by decide) fun a42 hF42 => ?_
    refine sq (v := (.slice (some ⟨gr, 0, none⟩) X.length cr)) hF42 (wantedG hF42 rfl rfl rfl rfl rfl) (run_mv rfl (hF42.ev 10 rfl)) rfl (by decide) fun a43 hF43 => ?_
    refine sq (v := (.int .i64 (X.length : Int))) hF43 (wantedG hF43 rfl rfl rfl rfl rfl) (run_lenS rfl (hF43.ev 54 rfl) (slOfRow (c := cr) (hM6.ob 0 rfl)) rfl Tryd.underlying34) rfl (by decide) fun a44 hF44 => ?_
    refine sq (v := (.bool false)) hF44 (wantedG hF44 rfl rfl rfl rfl rfl) (run_nei rfl (hF44.ev 55 rfl) rfl (bne_eq_false_iff_eq.2 (by omega))) rfl (by decide) fun a45 hF45 => ?_
    refine sq (v := (.bool false)) hF45 (wantedS rfl) (run_pick rfl (hF45.ev 53 rfl) rfl (hF45.ev 56 rfl)) rfl (by decide) fun a46 hF46 => ?_
    refine sq (v := (.bool false)) hF46 (wantedS rfl) (run_mv rfl (hF46.ev 57 rfl)) rfl (by decide) fun a47 hF47 => ?_
    refine sq (v := (.slice (some ⟨gr, 0, none⟩) X.length cr)) hF47 (wantedG hF47 rfl rfl rfl rfl rfl) (run_mv rfl (hF47.ev 10 rfl)) rfl (by decide) fun a48 hF48 => ?_
    refine sq (v := (slPtr (.slice (some ⟨gr, 0, none⟩) X.length cr) (2 * 1))) hF48 (wantedG hF48 rfl rfl rfl rfl rfl) (run_atP (i := 2) rfl (hF48.ev 59 rfl) rfl rfl (slOfRow (c := cr) (hM6.ob 0 rfl)) (by omega) elStr.un (by kernel_rfl)) rfl (by decide) fun a49 hF49 => ?_
    refine sq (v := (.string ⟨B.toArray⟩)) hF49 (wantedG hF49 rfl rfl rfl rfl rfl) (run_ldP rfl (hF49.ev 60 rfl) (slOfRow (c := cr) (hM6.ob 0 rfl)) (map_at hXc) (by kernel_rfl)) rfl (by decide) fun a50 hF50 => ?_
    refine sq (v := (.int .i64 (B.length : Int))) hF50 (wantedG hF50 rfl rfl rfl rfl rfl) (run_len rfl (hF50.ev 61 rfl) rfl Tryd.underlying9) rfl (by decide) fun a51 hF51 => ?_
    refine sq (v := (.bool false)) hF51 (wantedG hF51 rfl rfl rfl rfl rfl) (run_lss rfl (hF51.ev 62 rfl) rfl (decide_eq_false (by omega))) rfl (by decide) fun a52 hF52 => ?_
    refine sq (v := (.bool false)) hF52 (wantedS rfl) (run_pick rfl (hF52.ev 58 rfl) rfl (hF52.ev 63 rfl)) rfl (by decide) fun a53 hF53 => ?_
    refine sqEnd ?_
    clear hF35 hF36 hF37 hF38 hF39 hF40 hF41 hF42 hF43 hF44 hF45 hF46 hF47 hF48 hF49 hF50 hF51 hF52
    refine nx ?_
    refine wp_cond_false (hF53.ev 64 rfl) ?_
    refine wp_skip ?_
    refine nx ?_
    refine wp_seq ?_
    refine wp_region_lit ?_
    refine sq (v := (.slice (some ⟨gr, 0, none⟩) X.length cr)) hF53 (wantedS rfl) (run_mv rfl (hF53.ev 10 rfl)) rfl (by decide) fun a54 hF54 => ?_
    refine sq (v := (slPtr (.slice (some ⟨gr, 0, none⟩) X.length cr) (2 * 1))) hF54 (wantedS rfl) (run_atP (i := 2) rfl (hF54.ev 65 rfl) rfl rfl (slOfRow (c := cr) (hM6.ob 0 rfl)) (by omega) elStr.un (by kernel_rfl)) rfl (by decide) fun a55 hF55 => ?_
    refine sq (v := (.string ⟨B.toArray⟩)) hF55 (wantedS rfl) (run_ldP rfl (hF55.ev 66 rfl) (slOfRow (c := cr) (hM6.ob 0 rfl)) (map_at hXc) (by kernel_rfl)) rfl (by decide) fun a56 hF56 => ?_
    refine sqBytesOf hF56 hM6 (wantedS rfl) rfl (hF56.ev 67 rfl) Tryd.underlying9 rfl (by decide) fun g5 c5 a57 w7 hgg5 hb7 hcc5 hF57 hM7 => ?_
    refine sq (v := (.slice (some ⟨g5, 0, none⟩) B.length c5)) hF57 (wantedS rfl) (run_as rfl (hF57.ev 68 rfl)) rfl (by decide) fun a58 hF58 => ?_
    refine sqEnd ?_
    clear hF53 hF54 hF55 hF56 hF57 hM6
    refine nx ?_
    refine wp_seq ?_
    obtain ⟨KL, hKL⟩ : ∃ KL, KL = [kval (.slice (some ⟨g5, 0, none⟩) B.length c5), kval (.pointer (some ⟨g1, 0, none⟩)), kval (.int .u16 (p0 : Int)), kval (.int .i64 (p0 : Int)), kval (.slice (some ⟨g5, 0, none⟩) B.length c5), kval (.int .i64 (B.length : Int)), kval (.int .i64 (n : Int)), kval (.pointer (some ⟨g5, n, none⟩)), kval (.int .u8 ((bt B n).toNat : Int)), kval (.pointer (some ⟨g1, 1, none⟩)), kval (.int .u16 (p1 : Int)), kval (.int .u16 ((p1 % 255 : Nat) : Int)), kval (.int .u8 ((p1 % 255 : Nat) : Int)), kval (.int .u8 (y.toNat : Int)), kval (.int .u8 (((bt B n) ^^^ y).toNat : Int)), kval (.pointer (some ⟨g5, n, none⟩))] := ⟨_, rfl⟩
    have K0 : KL.getD 0 kany = kval (.slice (some ⟨g5, 0, none⟩) B.length c5) := by rw [hKL]; rfl
    have K1 : KL.getD 1 kany = kval (.pointer (some ⟨g1, 0, none⟩)) := by rw [hKL]; rfl
    have K2 : KL.getD 2 kany = kval (.int .u16 (p0 : Int)) := by rw [hKL]; rfl
    have K3 : KL.getD 3 kany = kval (.int .i64 (p0 : Int)) := by rw [hKL]; rfl
    have K4 : KL.getD 4 kany = kval (.slice (some ⟨g5, 0, none⟩) B.length c5) := by rw [hKL]; rfl
    have K5 : KL.getD 5 kany = kval (.int .i64 (B.length : Int)) := by rw [hKL]; rfl
    have K6 : KL.getD 6 kany = kval (.int .i64 (n : Int)) := by rw [hKL]; rfl
    have K7 : KL.getD 7 kany = kval (.pointer (some ⟨g5, n, none⟩)) := by rw [hKL]; rfl
    have K8 : KL.getD 8 kany = kval (.int .u8 ((bt B n).toNat : Int)) := by rw [hKL]; rfl
    have K9 : KL.getD 9 kany = kval (.pointer (some ⟨g1, 1, none⟩)) := by rw [hKL]; rfl
    have K10 : KL.getD 10 kany = kval (.int .u16 (p1 : Int)) := by rw [hKL]; rfl
    have K11 : KL.getD 11 kany = kval (.int .u16 ((p1 % 255 : Nat) : Int)) := by rw [hKL]; rfl
    have K12 : KL.getD 12 kany = kval (.int .u8 ((p1 % 255 : Nat) : Int)) := by rw [hKL]; rfl
    have K13 : KL.getD 13 kany = kval (.int .u8 (y.toNat : Int)) := by rw [hKL]; rfl
    have K14 : KL.getD 14 kany = kval (.int .u8 (((bt B n) ^^^ y).toNat : Int)) := by rw [hKL]; rfl
    have K15 : KL.getD 15 kany = kval (.pointer (some ⟨g5, n, none⟩)) := by rw [hKL]; rfl
    have HKL : KL.length ≤ 16 := by rw [hKL]; exact Nat.le_refl _
    clear hKL
    refine wp_region_kdTail2 147 16 (by kernel_rfl) (by kernel_rfl) (by kernel_rfl) (by kernel_rfl) hF58.size KL HKL ?_ ?_
    · refine ⟨?_, ?_, ?_, ?_, ?_, ?_, ?_, ?_, ?_, ?_, ?_, ?_, ?_, ?_, ?_, ?_, trivial⟩
      · refine asksH_mk fun a W hS hh hd => ⟨wanted_yes rfl, ?_⟩
        exact giv_run (run_mv rfl (eval_tmp (hh 12 _ rfl (hF58.at 12 rfl)))) K0
      · refine asksH_mk fun a W hS hh hd => ⟨wanted_yes rfl, ?_⟩
        exact giv_run (run_idxA (i := 0) (cnt := 2) rfl (eval_tmp (hh 5 _ rfl (hF58.at 5 rfl))) rfl rfl (by omega) Tryd.underlying33 (by kernel_rfl)) K1
      · refine asksH_mk fun a W hS hh hd => ⟨wanted_yes rfl, ?_⟩
        exact giv_run (run_ldF rfl (eval_tmp (hd.val (j := 1) (s := 70) (by kernel_rfl) K1)) ((hM7.grow hS).at 3 rfl) rfl (by kernel_rfl)) K2
      · refine asksH_mk fun a W hS hh hd => ⟨wanted_yes rfl, ?_⟩
        exact giv_run (run_cvI (r := (p0 : Int)) rfl (eval_tmp (hd.val (j := 2) (s := 71) (by kernel_rfl) K2)) Tryd.underlying32 Tryd.underlying3 (by rw [IntKind.wrap_i64]; omega)) K3
      · refine asksH_mk fun a W hS hh hd => ⟨wanted_yes rfl, ?_⟩
        exact giv_run (run_mv rfl (eval_tmp (hh 12 _ rfl (hF58.at 12 rfl)))) K4
      · refine asksH_mk fun a W hS hh hd => ⟨wanted_yes rfl, ?_⟩
        exact giv_run (run_lenSl rfl (eval_tmp (hd.val (j := 4) (s := 73) (by kernel_rfl) K4)) rfl Tryd.underlying37) K5
      · refine asksH_mk fun a W hS hh hd => ⟨wanted_yes rfl, ?_⟩
        exact giv_run (run_rem (r := (n : Int)) rfl (eval_tmp (hd.val (j := 3) (s := 72) (by kernel_rfl) K3)) (eval_tmp (hd.val (j := 5) (s := 74) (by kernel_rfl) K5)) (by omega) (by rw [Int.tmod_eq_emod_of_nonneg (by omega), ← hn]; rfl)) K6
      · refine asksH_mk fun a W hS hh hd => ⟨wanted_yes rfl, ?_⟩
        exact giv_run (run_idxY (i := n) rfl (eval_tmp (hd.val (j := 0) (s := 69) (by kernel_rfl) K0)) (eval_tmp (hd.val (j := 6) (s := 75) (by kernel_rfl) K6)) rfl (by omega)) K7
      · refine asksH_mk fun a W hS hh hd => ⟨wanted_yes rfl, ?_⟩
        exact giv_run (run_ldC rfl (eval_tmp (hd.val (j := 7) (s := 76) (by kernel_rfl) K7)) (isY_cell ((hM7.grow hS).ob 0 rfl) (by omega)) (by kernel_rfl)) K8
      · refine asksH_mk fun a W hS hh hd => ⟨wanted_yes rfl, ?_⟩
        exact giv_run (run_idxA (i := 1) (cnt := 2) rfl (eval_tmp (hh 5 _ rfl (hF58.at 5 rfl))) rfl rfl (by omega) Tryd.underlying33 (by kernel_rfl)) K9
      · refine asksH_mk fun a W hS hh hd => ⟨wanted_yes rfl, ?_⟩
        exact giv_run (run_ldF rfl (eval_tmp (hd.val (j := 9) (s := 78) (by kernel_rfl) K9)) ((hM7.grow hS).at 3 rfl) rfl (by kernel_rfl)) K10
      · refine asksH_mk fun a W hS hh hd => ⟨wanted_yes rfl, ?_⟩
        exact giv_run (run_rem (r := ((p1 % 255 : Nat) : Int)) rfl (eval_tmp (hd.val (j := 10) (s := 79) (by kernel_rfl) K10)) rfl (by omega) (by rw [Int.tmod_eq_emod_of_nonneg (by omega)]; try omega)) K11
      · refine asksH_mk fun a W hS hh hd => ⟨wanted_yes rfl, ?_⟩
        exact giv_run (run_cvI (r := ((p1 % 255 : Nat) : Int)) rfl (eval_tmp (hd.val (j := 11) (s := 80) (by kernel_rfl) K11)) Tryd.underlying32 Tryd.underlying5 (by rw [IntKind.wrap_u8]; omega)) K12
      · refine asksH_mk fun a W hS hh hd => ⟨wanted_yes rfl, ?_⟩
        exact giv_run (run_add (r := (y.toNat : Int)) rfl rfl (eval_tmp (hd.val (j := 12) (s := 81) (by kernel_rfl) K12)) (by rw [IntKind.wrap_u8]; omega)) K13
      · refine asksH_mk fun a W hS hh hd => ⟨wanted_yes rfl, ?_⟩
        exact giv_run (run_xor8 rfl (eval_tmp (hd.val (j := 8) (s := 77) (by kernel_rfl) K8)) (eval_tmp (hd.val (j := 13) (s := 82) (by kernel_rfl) K13))) K14
      · refine asksH_mk fun a W hS hh hd => ⟨wanted_yes rfl, ?_⟩
        exact giv_run (run_idxY (i := n) rfl (eval_tmp (hd.val (j := 0) (s := 69) (by kernel_rfl) K0)) (eval_tmp (hd.val (j := 6) (s := 75) (by kernel_rfl) K6)) rfl (by omega)) K15
    · intro a59 w8 hb8 hK
      have e0 := hK.hval (i := 0) (s := 69) rfl (by kernel_rfl) K0
      have e1 := hK.hval (i := 1) (s := 70) rfl (by kernel_rfl) K1
      have e2 := hK.hval (i := 2) (s := 71) rfl (by kernel_rfl) K2
      have e3 := hK.hval (i := 3) (s := 72) rfl (by kernel_rfl) K3
      have e4 := hK.hval (i := 4) (s := 73) rfl (by kernel_rfl) K4
      have e5 := hK.hval (i := 5) (s := 74) rfl (by kernel_rfl) K5
      have e6 := hK.hval (i := 6) (s := 75) rfl (by kernel_rfl) K6
      have e7 := hK.hval (i := 7) (s := 76) rfl (by kernel_rfl) K7
      have e8 := hK.hval (i := 8) (s := 77) rfl (by kernel_rfl) K8
      have e9 := hK.hval (i := 9) (s := 78) rfl (by kernel_rfl) K9
      have e10 := hK.hval (i := 10) (s := 79) rfl (by kernel_rfl) K10
      have e11 := hK.hval (i := 11) (s := 80) rfl (by kernel_rfl) K11
      have e12 := hK.hval (i := 12) (s := 81) rfl (by kernel_rfl) K12
      have e13 := hK.hval (i := 13) (s := 82) rfl (by kernel_rfl) K13
      have e14 := hK.hval (i := 14) (s := 83) rfl (by kernel_rfl) K14
      have e15 := hK.hval (i := 15) (s := 84) rfl (by kernel_rfl) K15
      have hF59 : Fr a59 147 [(0, (.agg (chA c))), (1, (.string ⟨d.toArray⟩)), (2, (.agg #[.int .u16 (p0 : Int), .int .u16 (p1 : Int)])), (3, (.pointer (some ⟨g0, 0, none⟩))), (6, (.bool false)), (7, (.pointer (some ⟨g2, 0, none⟩))), (8, (.string ⟨fr.toArray⟩)), (9, (.int .i64 0)), (10, (.slice (some ⟨gr, 0, none⟩) X.length cr)), (11, (.int .i64 0)), (12, (.slice (some ⟨g5, 0, none⟩) B.length c5)), (20, (.pointer (some ⟨g0, 0, none⟩))), (21, (.string ⟨c.m.toArray⟩)), (22, (.int .i64 (c.m.length : Int))), (23, (.bool false)), (24, (.bool false)), (25, (.string ⟨d.toArray⟩)), (26, (.int .i64 (d.length : Int))), (27, (.bool false)), (28, (.bool false)), (29, (.bool false)), (30, (.pointer (some ⟨g0, 1, none⟩))), (31, (.int .u64 (c.n : Int))), (32, (.bool false)), (33, (.bool false)), (35, (.tuple #[(.agg (chA (goS c))), (.string ⟨fr.toArray⟩), (.int .i64 0)])), (36, (.agg (chA c))), (37, (.string ⟨d.toArray⟩)), (38, (.tuple #[(.agg (chA (goS c))), (.string ⟨fr.toArray⟩), (.int .i64 0)])), (39, (.agg (chA (goS c)))), (40, (.string ⟨fr.toArray⟩)), (41, (.int .i64 0)), (42, (.tuple #[(.slice (some ⟨gr, 0, none⟩) X.length cr), (.int .i64 0)])), (43, (.string ⟨fr.toArray⟩)), (44, (.tuple #[(.slice (some ⟨gr, 0, none⟩) X.length cr), (.int .i64 0)])), (45, (.slice (some ⟨gr, 0, none⟩) X.length cr)), (46, (.int .i64 0)), (47, (.int .i64 0)), (48, (.bool false)), (49, (.bool false)), (50, (.int .i64 0)), (51, (.bool false)), (52, (.bool false)), (53, (.bool false)), (54, (.slice (some ⟨gr, 0, none⟩) X.length cr)), (55, (.int .i64 (X.length : Int))), (56, (.bool false)), (57, (.bool false)), (58, (.bool false)), (59, (.slice (some ⟨gr, 0, none⟩) X.length cr)), (60, (slPtr (.slice (some ⟨gr, 0, none⟩) X.length cr) (2 * 1))), (61, (.string ⟨B.toArray⟩)), (62, (.int .i64 (B.length : Int))), (63, (.bool false)), (64, (.bool false)), (65, (.slice (some ⟨gr, 0, none⟩) X.length cr)), (66, (slPtr (.slice (some ⟨gr, 0, none⟩) X.length cr) (2 * 1))), (67, (.string ⟨B.toArray⟩)), (68, (.slice (some ⟨g5, 0, none⟩) B.length c5)), (83, (.int .u8 (((bt B n) ^^^ y).toNat : Int))), (84, (.pointer (some ⟨g5, n, none⟩)))] := (hK.hfr hF58 [(.slice (some ⟨g5, 0, none⟩) B.length c5), (.pointer (some ⟨g1, 0, none⟩)), (.int .u16 (p0 : Int)), (.int .i64 (p0 : Int)), (.slice (some ⟨g5, 0, none⟩) B.length c5), (.int .i64 (B.length : Int)), (.int .i64 (n : Int)), (.pointer (some ⟨g5, n, none⟩)), (.int .u8 ((bt B n).toNat : Int)), (.pointer (some ⟨g1, 1, none⟩)), (.int .u16 (p1 : Int)), (.int .u16 ((p1 % 255 : Nat) : Int)), (.int .u8 ((p1 % 255 : Nat) : Int)), (.int .u8 (y.toNat : Int)), (.int .u8 (((bt B n) ^^^ y).toNat : Int)), (.pointer (some ⟨g5, n, none⟩))] ⟨e0, e1, e2, e3, e4, e5, e6, e7, e8, e9, e10, e11, e12, e13, e14, e15, trivial⟩).sub ⟨rfl, rfl, rfl, rfl, rfl, rfl, rfl, rfl, rfl, rfl, rfl, rfl, rfl, rfl, rfl, rfl, rfl, rfl, rfl, rfl, rfl, rfl, rfl, rfl, rfl, rfl, rfl, rfl, rfl, rfl, rfl, rfl, rfl, rfl, rfl, rfl, rfl, rfl, rfl, rfl, rfl, rfl, rfl, rfl, rfl, rfl, rfl, rfl, rfl, rfl, rfl, rfl, rfl, rfl, rfl, rfl, rfl, rfl, rfl, rfl, rfl, trivial⟩
      have hM8 := hM7.grow hb8
      clear hK K0 e0 K1 e1 K2 e2 K3 e3 K4 e4 K5 e5 K6 e6 K7 e7 K8 e8 K9 e9 K10 e10 K11 e11 K12 e12 K13 e13 K14 e14 K15 e15 HKL
      simp only [List.drop_succ_cons, List.drop_zero]
      refine sqSetY (j := 0) hF59 hM8 rfl rfl rfl (hF59.ev 84 rfl) (hF59.ev 83 rfl) rfl (by omega) fun a60 w9 hF60 hM9 => ?_
      refine sqEnd ?_
      clear hF58 hF59 hM7 hM8
      refine nx ?_
      refine wp_seq ?_
      refine wp_region_lit ?_
      refine sq (v := (.pointer (some ⟨g0, 0, none⟩))) hF60 (wantedS rfl) (run_fldA (m := 1) (s := 0) rfl (hF60.ev 3 rfl) Tryd.underlying26 rfl rfl (by kernel_rfl) (by decide)) rfl (by decide) fun a61 hF61 => ?_
      refine sq (v := (.string ⟨c.m.toArray⟩)) hF61 (wantedS rfl) (run_ldF rfl (hF61.ev 85 rfl) (hM9.at 4 rfl) rfl (by kernel_rfl)) rfl (by decide) fun a62 hF62 => ?_
      refine sq (v := (.pointer (some ⟨g0, 1, none⟩))) hF62 (wantedS rfl) (run_fldA (m := 1) (s := 1) rfl (hF62.ev 3 rfl) Tryd.underlying26 rfl rfl (by kernel_rfl) (by decide)) rfl (by decide) fun a63 hF63 => ?_
      refine sq (v := (.int .u64 (c.n : Int))) hF63 (wantedS rfl) (run_ldF rfl (hF63.ev 87 rfl) (hM9.at 4 rfl) rfl (by kernel_rfl)) rfl (by decide) fun a64 hF64 => ?_
      refine sqC (v := (.string ⟨He.toArray⟩)) hF64 hM9 (wantedS rfl) (run_call rfl Tryd.func15 (by kernel_rfl) rfl (mapE2 (hF64.ev 86 rfl) (hF64.ev 88 rfl))) rfl (by decide) (hHd w9 (by omega) hcn) fun a65 w10 hb10 hF65 hM10 => ?_
      refine sq (v := (.string ⟨He.toArray⟩)) hF65 (wantedS rfl) (run_as rfl (hF65.ev 89 rfl)) rfl (by decide) fun a66 hF66 => ?_
      refine sqEnd ?_
      clear hF60 hF61 hF62 hF63 hF64 hF65 hM9
      refine nx ?_
      refine wp_seq ?_
      refine wp_region_lit ?_
      refine sq (v := (.pointer (some ⟨g0, 2, none⟩))) hF66 (wantedS rfl) (run_fldA (m := 32) (s := 2) rfl (hF66.ev 3 rfl) Tryd.underlying26 rfl rfl (by kernel_rfl) (by decide)) rfl (by decide) fun a67 hF67 => ?_
      refine sq (v := (.agg (cells8 c.k))) hF67 (wantedS rfl) (run_ldK rfl (hF67.ev 90 rfl) (hM10.at 4 rfl) hLc) rfl (by decide) fun a68 hF68 => ?_
      refine sqC (v := (.agg (cells8 K))) hF68 hM10 (wantedS rfl) (run_call rfl Tryd.func16 (by kernel_rfl) rfl (mapE2 (hF68.ev 91 rfl) rfl)) rfl (by decide) ((by rw [← hK]; exact rof43_any c.k [115, 101, 110, 100] w10 hLc (by decide))) fun a69 w11 hb11 hF69 hM11 => ?_
      refine sqC (v := (.agg (cells8 TK))) hF69 hM11 (wantedS rfl) (run_call rfl Tryd.func16 (by kernel_rfl) rfl (mapE2 (hF69.ev 92 rfl) rfl)) rfl (by decide) ((by rw [← hTK]; exact rof43_any K [116, 97, 103] w11 hLK (by decide))) fun a70 w12 hb12 hF70 hM12 => ?_
      refine sqNew (cs := (cells8 (List.replicate 32 0))) (t := 24) hF70 hM12 (wantedS rfl) (run_alloc rfl (by kernel_rfl)) rfl (by decide) fun g6 a71 w13 hgg6 hb13 hF71 hM13 => ?_
      refine sqStore (i := 0) hF71 hM13 rfl rfl rfl (hF71.ev 14 rfl) (hF71.ev 93 rfl) rfl sz32k (szOf hLTK) (szOf List.length_replicate) (cells8_one _) fun a72 w14 hF72 hM14 => ?_
      refine sqEnd ?_
      clear hF66 hF67 hF68 hF69 hF70 hF71 hM10 hM11 hM12 hM13
      refine nx ?_
      refine wp_seq ?_
      obtain ⟨KL, hKL⟩ : ∃ KL, KL = [kval (.string ⟨He.toArray⟩), kval (.slice (some ⟨gr, 0, none⟩) X.length cr), kval (slPtr (.slice (some ⟨gr, 0, none⟩) X.length cr) (2 * 1)), kval (.string ⟨B.toArray⟩), kval (.slice (some ⟨gr, 0, none⟩) X.length cr), kval (slPtr (.slice (some ⟨gr, 0, none⟩) X.length cr) (2 * 1)), kval (.string ⟨B.toArray⟩), kval (.int .i64 (B.length : Int)), kval (.int .i64 ((B.length - 32 : Nat) : Int)), kval (.string ⟨(B.take (B.length - 32)).toArray⟩), kstrs [He, B.take (B.length - 32)], kval (.string ⟨Rw.toArray⟩), kval (.string ⟨He.toArray⟩), kval (.slice (some ⟨g5, 0, none⟩) B.length c5), kval (.slice (some ⟨g5, 0, none⟩) B.length c5), kval (.int .i64 (B.length : Int)), kval (.int .i64 ((B.length - 32 : Nat) : Int)), kval (.slice (some ⟨g5, 0, none⟩) (B.length - 32 : Nat) c5), kval (.string ⟨((B.set n (((bt B n) ^^^ y))).take (B.length - 32 : Nat)).toArray⟩), kstrs [He, ((B.set n (((bt B n) ^^^ y))).take (B.length - 32 : Nat))], kval (.string ⟨Rn.toArray⟩), kval (.string ⟨Rw.toArray⟩), kval (.string ⟨Rn.toArray⟩)] := ⟨_, rfl⟩
      have K0 : KL.getD 0 kany = kval (.string ⟨He.toArray⟩) := by rw [hKL]; rfl
      have K1 : KL.getD 1 kany = kval (.slice (some ⟨gr, 0, none⟩) X.length cr) := by rw [hKL]; rfl
      have K2 : KL.getD 2 kany = kval (slPtr (.slice (some ⟨gr, 0, none⟩) X.length cr) (2 * 1)) := by rw [hKL]; rfl
      have K3 : KL.getD 3 kany = kval (.string ⟨B.toArray⟩) := by rw [hKL]; rfl
      have K4 : KL.getD 4 kany = kval (.slice (some ⟨gr, 0, none⟩) X.length cr) := by rw [hKL]; rfl
      have K5 : KL.getD 5 kany = kval (slPtr (.slice (some ⟨gr, 0, none⟩) X.length cr) (2 * 1)) := by rw [hKL]; rfl
      have K6 : KL.getD 6 kany = kval (.string ⟨B.toArray⟩) := by rw [hKL]; rfl
      have K7 : KL.getD 7 kany = kval (.int .i64 (B.length : Int)) := by rw [hKL]; rfl
      have K8 : KL.getD 8 kany = kval (.int .i64 ((B.length - 32 : Nat) : Int)) := by rw [hKL]; rfl
      have K9 : KL.getD 9 kany = kval (.string ⟨(B.take (B.length - 32)).toArray⟩) := by rw [hKL]; rfl
      have K10 : KL.getD 10 kany = kstrs [He, B.take (B.length - 32)] := by rw [hKL]; rfl
      have K11 : KL.getD 11 kany = kval (.string ⟨Rw.toArray⟩) := by rw [hKL]; rfl
      have K12 : KL.getD 12 kany = kval (.string ⟨He.toArray⟩) := by rw [hKL]; rfl
      have K13 : KL.getD 13 kany = kval (.slice (some ⟨g5, 0, none⟩) B.length c5) := by rw [hKL]; rfl
      have K14 : KL.getD 14 kany = kval (.slice (some ⟨g5, 0, none⟩) B.length c5) := by rw [hKL]; rfl
      have K15 : KL.getD 15 kany = kval (.int .i64 (B.length : Int)) := by rw [hKL]; rfl
      have K16 : KL.getD 16 kany = kval (.int .i64 ((B.length - 32 : Nat) : Int)) := by rw [hKL]; rfl
      have K17 : KL.getD 17 kany = kval (.slice (some ⟨g5, 0, none⟩) (B.length - 32 : Nat) c5) := by rw [hKL]; rfl
      have K18 : KL.getD 18 kany = kval (.string ⟨((B.set n (((bt B n) ^^^ y))).take (B.length - 32 : Nat)).toArray⟩) := by rw [hKL]; rfl
      have K19 : KL.getD 19 kany = kstrs [He, ((B.set n (((bt B n) ^^^ y))).take (B.length - 32 : Nat))] := by rw [hKL]; rfl
      have K20 : KL.getD 20 kany = kval (.string ⟨Rn.toArray⟩) := by rw [hKL]; rfl
      have K21 : KL.getD 21 kany = kval (.string ⟨Rw.toArray⟩) := by rw [hKL]; rfl
      have K22 : KL.getD 22 kany = kval (.string ⟨Rn.toArray⟩) := by rw [hKL]; rfl
      clear hKL
      refine wp_region_kd 147 (by kernel_rfl) (by kernel_rfl) (by kernel_rfl) hF72.size KL ?_ ?_
      · refine ⟨?_, ?_, ?_, ?_, ?_, ?_, ?_, ?_, ?_, ?_, ?_, ?_, ?_, ?_, ?_, ?_, ?_, ?_, ?_, ?_, ?_, ?_, ?_, trivial⟩
        · refine asks_mk fun a W hS hh hd => ⟨wanted_yes rfl, ?_⟩
          exact giv_run (run_mv rfl (eval_tmp (hh 13 _ rfl (hF72.at 13 rfl)))) K0
        · refine asks_mk fun a W hS hh hd => ⟨wanted_yes rfl, ?_⟩
          exact giv_run (run_mv rfl (eval_tmp (hh 10 _ rfl (hF72.at 10 rfl)))) K1
        · refine asks_mk fun a W hS hh hd => ⟨wanted_yes rfl, ?_⟩
          exact giv_run (run_atP (i := 2) rfl (eval_tmp (hd.val (j := 1) (s := 95) (by kernel_rfl) K1)) rfl rfl (slOfRow (c := cr) ((hM14.grow hS).ob 2 rfl)) (by omega) elStr.un (by kernel_rfl)) K2
        · refine asks_mk fun a W hS hh hd => ⟨wanted_yes rfl, ?_⟩
          exact giv_run (run_ldP rfl (eval_tmp (hd.val (j := 2) (s := 96) (by kernel_rfl) K2)) (slOfRow (c := cr) ((hM14.grow hS).ob 2 rfl)) (map_at hXc) (by kernel_rfl)) K3
        · refine asks_mk fun a W hS hh hd => ⟨wanted_yes rfl, ?_⟩
          exact giv_run (run_mv rfl (eval_tmp (hh 10 _ rfl (hF72.at 10 rfl)))) K4
        · refine asks_mk fun a W hS hh hd => ⟨wanted_yes rfl, ?_⟩
          exact giv_run (run_atP (i := 2) rfl (eval_tmp (hd.val (j := 4) (s := 98) (by kernel_rfl) K4)) rfl rfl (slOfRow (c := cr) ((hM14.grow hS).ob 2 rfl)) (by omega) elStr.un (by kernel_rfl)) K5
        · refine asks_mk fun a W hS hh hd => ⟨wanted_yes rfl, ?_⟩
          exact giv_run (run_ldP rfl (eval_tmp (hd.val (j := 5) (s := 99) (by kernel_rfl) K5)) (slOfRow (c := cr) ((hM14.grow hS).ob 2 rfl)) (map_at hXc) (by kernel_rfl)) K6
        · refine asks_mk fun a W hS hh hd => ⟨wanted_yes rfl, ?_⟩
          exact giv_run (run_len rfl (eval_tmp (hd.val (j := 6) (s := 100) (by kernel_rfl) K6)) rfl Tryd.underlying9) K7
        · refine asks_mk fun a W hS hh hd => ⟨wanted_yes rfl, ?_⟩
          exact giv_run (run_sub (r := ((B.length - 32 : Nat) : Int)) rfl (eval_tmp (hd.val (j := 7) (s := 101) (by kernel_rfl) K7)) rfl (by rw [IntKind.wrap_i64]; omega)) K8
        · refine asks_mk fun a W hS hh hd => ⟨wanted_yes rfl, ?_⟩
          exact giv_run (run_sTo (n := (B.length - 32)) rfl (eval_tmp (hd.val (j := 3) (s := 97) (by kernel_rfl) K3)) (eval_tmp (hd.val (j := 8) (s := 102) (by kernel_rfl) K8)) Tryd.underlying9 (by omega) (by omega)) K9
        · refine asks_mk fun a W hS hh hd => ⟨wanted_yes rfl, ?_⟩
          exact giv_strs [He, B.take (B.length - 32)] 9 (run_strs2 rfl (eval_tmp (hd.val (j := 0) (s := 94) (by kernel_rfl) K0)) (eval_tmp (hd.val (j := 9) (s := 103) (by kernel_rfl) K9))) K10
        · refine asks_mk fun a W hS hh hd => ⟨wanted_yes rfl, ?_⟩
          obtain ⟨v10, e10, s10⟩ := hd.strs (j := 10) (s := 104) (by kernel_rfl) K10
          exact giv_call (run_call rfl Tryd.func17 (by kernel_rfl) rfl (mapE1 (eval_tmp e10))) ((by rw [← hRw]; exact rrow_any [He, B.take (B.length - 32)] _ W s10 (by simp; omega) (by simp))) K11
        · refine asks_mk fun a W hS hh hd => ⟨wanted_yes rfl, ?_⟩
          exact giv_run (run_mv rfl (eval_tmp (hh 13 _ rfl (hF72.at 13 rfl)))) K12
        · refine asks_mk fun a W hS hh hd => ⟨wanted_yes rfl, ?_⟩
          exact giv_run (run_mv rfl (eval_tmp (hh 12 _ rfl (hF72.at 12 rfl)))) K13
        · refine asks_mk fun a W hS hh hd => ⟨wanted_yes rfl, ?_⟩
          exact giv_run (run_mv rfl (eval_tmp (hh 12 _ rfl (hF72.at 12 rfl)))) K14
        · refine asks_mk fun a W hS hh hd => ⟨wanted_yes rfl, ?_⟩
          exact giv_run (run_lenSl rfl (eval_tmp (hd.val (j := 14) (s := 108) (by kernel_rfl) K14)) rfl Tryd.underlying37) K15
        · refine asks_mk fun a W hS hh hd => ⟨wanted_yes rfl, ?_⟩
          exact giv_run (run_sub (r := ((B.length - 32 : Nat) : Int)) rfl (eval_tmp (hd.val (j := 15) (s := 109) (by kernel_rfl) K15)) rfl (by rw [IntKind.wrap_i64]; omega)) K16
        · refine asks_mk fun a W hS hh hd => ⟨wanted_yes rfl, ?_⟩
          exact giv_run (run_toY (j := (B.length - 32 : Nat)) rfl (eval_tmp (hd.val (j := 13) (s := 107) (by kernel_rfl) K13)) (eval_tmp (hd.val (j := 16) (s := 110) (by kernel_rfl) K16)) rfl (by omega)) K17
        · refine asks_mk fun a W hS hh hd => ⟨wanted_yes rfl, ?_⟩
          exact giv_run (run_cv rfl (eval_tmp (hd.val (j := 17) (s := 111) (by kernel_rfl) K17)) (run_strY ((hM14.grow hS).ob 1 rfl) (by omega))) K18
        · refine asks_mk fun a W hS hh hd => ⟨wanted_yes rfl, ?_⟩
          exact giv_strs [He, ((B.set n (((bt B n) ^^^ y))).take (B.length - 32 : Nat))] 9 (run_strs2 rfl (eval_tmp (hd.val (j := 12) (s := 106) (by kernel_rfl) K12)) (eval_tmp (hd.val (j := 18) (s := 112) (by kernel_rfl) K18))) K19
        · refine asks_mk fun a W hS hh hd => ⟨wanted_yes rfl, ?_⟩
          obtain ⟨v19, e19, s19⟩ := hd.strs (j := 19) (s := 113) (by kernel_rfl) K19
          exact giv_call (run_call rfl Tryd.func17 (by kernel_rfl) rfl (mapE1 (eval_tmp e19))) ((by rw [← hRn]; exact rrow_any [He, ((B.set n (((bt B n) ^^^ y))).take (B.length - 32 : Nat))] _ W s19 (by simp; omega) (by simp))) K20
        · refine asks_mk fun a W hS hh hd => ⟨wanted_yes rfl, ?_⟩
          exact giv_run (run_as rfl (eval_tmp (hd.val (j := 11) (s := 105) (by kernel_rfl) K11))) K21
        · refine asks_mk fun a W hS hh hd => ⟨wanted_yes rfl, ?_⟩
          exact giv_run (run_as rfl (eval_tmp (hd.val (j := 20) (s := 114) (by kernel_rfl) K20))) K22
      · intro a73 w15 hb15 hK
        have e0 := hK.val (i := 0) (s := 94) (by kernel_rfl) K0
        have e1 := hK.val (i := 1) (s := 95) (by kernel_rfl) K1
        have e2 := hK.val (i := 2) (s := 96) (by kernel_rfl) K2
        have e3 := hK.val (i := 3) (s := 97) (by kernel_rfl) K3
        have e4 := hK.val (i := 4) (s := 98) (by kernel_rfl) K4
        have e5 := hK.val (i := 5) (s := 99) (by kernel_rfl) K5
        have e6 := hK.val (i := 6) (s := 100) (by kernel_rfl) K6
        have e7 := hK.val (i := 7) (s := 101) (by kernel_rfl) K7
        have e8 := hK.val (i := 8) (s := 102) (by kernel_rfl) K8
        have e9 := hK.val (i := 9) (s := 103) (by kernel_rfl) K9
        obtain ⟨v7, e10, hsv7⟩ := hK.strs (i := 10) (s := 104) (by kernel_rfl) K10
        have e11 := hK.val (i := 11) (s := 105) (by kernel_rfl) K11
        have e12 := hK.val (i := 12) (s := 106) (by kernel_rfl) K12
        have e13 := hK.val (i := 13) (s := 107) (by kernel_rfl) K13
        have e14 := hK.val (i := 14) (s := 108) (by kernel_rfl) K14
        have e15 := hK.val (i := 15) (s := 109) (by kernel_rfl) K15
        have e16 := hK.val (i := 16) (s := 110) (by kernel_rfl) K16
        have e17 := hK.val (i := 17) (s := 111) (by kernel_rfl) K17
        have e18 := hK.val (i := 18) (s := 112) (by kernel_rfl) K18
        obtain ⟨v8, e19, hsv8⟩ := hK.strs (i := 19) (s := 113) (by kernel_rfl) K19
        have e20 := hK.val (i := 20) (s := 114) (by kernel_rfl) K20
        have e21 := hK.val (i := 21) (s := 15) (by kernel_rfl) K21
        have e22 := hK.val (i := 22) (s := 16) (by kernel_rfl) K22
        have hF73 : Fr a73 147 [(0, (.agg (chA c))), (1, (.string ⟨d.toArray⟩)), (2, (.agg #[.int .u16 (p0 : Int), .int .u16 (p1 : Int)])), (3, (.pointer (some ⟨g0, 0, none⟩))), (6, (.bool false)), (7, (.pointer (some ⟨g2, 0, none⟩))), (8, (.string ⟨fr.toArray⟩)), (9, (.int .i64 0)), (10, (.slice (some ⟨gr, 0, none⟩) X.length cr)), (11, (.int .i64 0)), (12, (.slice (some ⟨g5, 0, none⟩) B.length c5)), (14, (.pointer (some ⟨g6, 0, none⟩))), (15, (.string ⟨Rw.toArray⟩)), (16, (.string ⟨Rn.toArray⟩)), (20, (.pointer (some ⟨g0, 0, none⟩))), (21, (.string ⟨c.m.toArray⟩)), (22, (.int .i64 (c.m.length : Int))), (23, (.bool false)), (24, (.bool false)), (25, (.string ⟨d.toArray⟩)), (26, (.int .i64 (d.length : Int))), (27, (.bool false)), (28, (.bool false)), (29, (.bool false)), (30, (.pointer (some ⟨g0, 1, none⟩))), (31, (.int .u64 (c.n : Int))), (32, (.bool false)), (33, (.bool false)), (35, (.tuple #[(.agg (chA (goS c))), (.string ⟨fr.toArray⟩), (.int .i64 0)])), (36, (.agg (chA c))), (37, (.string ⟨d.toArray⟩)), (38, (.tuple #[(.agg (chA (goS c))), (.string ⟨fr.toArray⟩), (.int .i64 0)])), (39, (.agg (chA (goS c)))), (40, (.string ⟨fr.toArray⟩)), (41, (.int .i64 0)), (42, (.tuple #[(.slice (some ⟨gr, 0, none⟩) X.length cr), (.int .i64 0)])), (43, (.string ⟨fr.toArray⟩)), (44, (.tuple #[(.slice (some ⟨gr, 0, none⟩) X.length cr), (.int .i64 0)])), (45, (.slice (some ⟨gr, 0, none⟩) X.length cr)), (46, (.int .i64 0)), (47, (.int .i64 0)), (48, (.bool false)), (49, (.bool false)), (50, (.int .i64 0)), (51, (.bool false)), (52, (.bool false)), (53, (.bool false)), (54, (.slice (some ⟨gr, 0, none⟩) X.length cr)), (55, (.int .i64 (X.length : Int))), (56, (.bool false)), (57, (.bool false)), (58, (.bool false)), (59, (.slice (some ⟨gr, 0, none⟩) X.length cr)), (60, (slPtr (.slice (some ⟨gr, 0, none⟩) X.length cr) (2 * 1))), (61, (.string ⟨B.toArray⟩)), (62, (.int .i64 (B.length : Int))), (63, (.bool false)), (64, (.bool false)), (65, (.slice (some ⟨gr, 0, none⟩) X.length cr)), (66, (slPtr (.slice (some ⟨gr, 0, none⟩) X.length cr) (2 * 1))), (67, (.string ⟨B.toArray⟩)), (68, (.slice (some ⟨g5, 0, none⟩) B.length c5)), (83, (.int .u8 (((bt B n) ^^^ y).toNat : Int))), (84, (.pointer (some ⟨g5, n, none⟩))), (85, (.pointer (some ⟨g0, 0, none⟩))), (86, (.string ⟨c.m.toArray⟩)), (87, (.pointer (some ⟨g0, 1, none⟩))), (88, (.int .u64 (c.n : Int))), (89, (.string ⟨He.toArray⟩)), (90, (.pointer (some ⟨g0, 2, none⟩))), (91, (.agg (cells8 c.k))), (92, (.agg (cells8 K))), (93, (.agg (cells8 TK)))] := (hK.fr hF72 [(.string ⟨He.toArray⟩), (.slice (some ⟨gr, 0, none⟩) X.length cr), (slPtr (.slice (some ⟨gr, 0, none⟩) X.length cr) (2 * 1)), (.string ⟨B.toArray⟩), (.slice (some ⟨gr, 0, none⟩) X.length cr), (slPtr (.slice (some ⟨gr, 0, none⟩) X.length cr) (2 * 1)), (.string ⟨B.toArray⟩), (.int .i64 (B.length : Int)), (.int .i64 ((B.length - 32 : Nat) : Int)), (.string ⟨(B.take (B.length - 32)).toArray⟩), v7, (.string ⟨Rw.toArray⟩), (.string ⟨He.toArray⟩), (.slice (some ⟨g5, 0, none⟩) B.length c5), (.slice (some ⟨g5, 0, none⟩) B.length c5), (.int .i64 (B.length : Int)), (.int .i64 ((B.length - 32 : Nat) : Int)), (.slice (some ⟨g5, 0, none⟩) (B.length - 32 : Nat) c5), (.string ⟨((B.set n (((bt B n) ^^^ y))).take (B.length - 32 : Nat)).toArray⟩), v8, (.string ⟨Rn.toArray⟩), (.string ⟨Rw.toArray⟩), (.string ⟨Rn.toArray⟩)] ⟨e0, e1, e2, e3, e4, e5, e6, e7, e8, e9, e10, e11, e12, e13, e14, e15, e16, e17, e18, e19, e20, e21, e22, trivial⟩).sub ⟨rfl, rfl, rfl, rfl, rfl, rfl, rfl, rfl, rfl, rfl, rfl, rfl, rfl, rfl, rfl, rfl, rfl, rfl, rfl, rfl, rfl, rfl, rfl, rfl, rfl, rfl, rfl, rfl, rfl, rfl, rfl, rfl, rfl, rfl, rfl, rfl, rfl, rfl, rfl, rfl, rfl, rfl, rfl, rfl, rfl, rfl, rfl, rfl, rfl, rfl, rfl, rfl, rfl, rfl, rfl, rfl, rfl, rfl, rfl, rfl, rfl, rfl, rfl, rfl, rfl, rfl, rfl, rfl, rfl, rfl, rfl, rfl, rfl, trivial⟩
        have hM15 := hM14.grow hb15
        clear hK K0 e0 K1 e1 K2 e2 K3 e3 K4 e4 K5 e5 K6 e6 K7 e7 K8 e8 K9 e9 K10 e10 K11 e11 K12 e12 K13 e13 K14 e14 K15 e15 K16 e16 K17 e17 K18 e18 K19 e19 K20 e20 K21 e21 K22 e22
        clear hF72 hM14
        refine nx ?_
        refine wp_seq ?_
        refine wp_seq ?_
        refine wp_region_lit ?_
        refine sq (v := (.agg (cells8 TK))) hF73 (wantedS rfl) (run_ldB rfl (hF73.ev 14 rfl) (hM15.at 0 rfl) Tryd.underlying24 rfl sz32k (szOf hLTK)) rfl (by decide) fun a74 hF74 => ?_
        refine sq (v := (.string ⟨Rw.toArray⟩)) hF74 (wantedS rfl) (run_mv rfl (hF74.ev 15 rfl)) rfl (by decide) fun a75 hF75 => ?_
        refine sq (v := (.string ⟨Rn.toArray⟩)) hF75 (wantedS rfl) (run_mv rfl (hF75.ev 16 rfl)) rfl (by decide) fun a76 hF76 => ?_
        refine sqStrs [Rw, Rn] hF76 hM15 (wantedS rfl) (run_strs2 rfl (hF76.ev 116 rfl) (hF76.ev 117 rfl)) rfl (by decide) fun v9 a77 w16 hsv9 hb16 hF77 hM16 => ?_
        have hS1 := hsv7.below hb16
        have hS2 := hsv8.below hb16
        refine sqC (v := (.bool false)) hF77 hM16 (wantedS rfl) (run_call rfl Tryd.func18 (by kernel_rfl) rfl (mapE2 (hF77.ev 115 rfl) (hF77.ev 118 rfl))) rfl (by decide) ((by have h := apart_any TK [Rw, Rn] _ w16 hLTK (Strs.sl hsv9) (by simp) (by intro x hx; simp only [List.mem_cons, List.not_mem_nil, or_false] at hx; rcases hx with rfl | rfl <;> omega); rw [hap] at h; exact h)) fun a78 w17 hb17 hF78 hM17 => ?_
        have hS3 := hS1.below hb17
        have hS4 := hS2.below hb17
        have hS5 := hsv9.below hb17
        refine sq (v := (.bool true)) hF78 (wantedS rfl) (run_not rfl (hF78.ev 119 rfl)) rfl (by decide) fun a79 hF79 => ?_
        refine sqEnd ?_
        clear hF73 hF74 hF75 hF76 hF77 hF78 hM15 hM16
        refine nx ?_
        refine wp_cond_true (hF79.ev 120 rfl) ?_
        refine wp_seq ?_
        refine wp_region_lit ?_
        refine sqC (v := (.bool true)) hF79 hM17 (wantedS rfl) (run_call rfl Tryd.func11 (by kernel_rfl) rfl (mapE0 )) rfl (by decide) (sfix_any w17 (HG.below hM17.below)) fun a80 w18 hb18 hF80 hM18 => ?_
        have hS6 := hS3.below hb18
        have hS7 := hS4.below hb18
        have hS8 := hS5.below hb18
        refine sq (v := (.bool true)) hF80 (wantedS rfl) (run_as rfl (hF80.ev 121 rfl)) rfl (by decide) fun a81 hF81 => ?_
        refine sqEnd ?_
        clear hF79 hF80 hM17
        refine nx ?_
        refine wp_ret ?_
        refine nxRet ?_
        exact ret1 hF81 rfl rfl ⟨rfl, hM18.below⟩
end Go.Proofs.YtioioibcldgknaaDoor
