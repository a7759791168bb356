/- The law ChunkBent. Printed by gen_chk9.py. -/
import Derived.Test.YtdjjiblijbjobaaDoorChk0
import Derived.Test.YtdjjiblijbjobaaDoorChk2
import Derived.Test.YtdjjiblijbjobaaDoorBentP
import Derived.Test.YtdjjiblijbjobaaDoorSes8
namespace Go.Proofs.YtdjjiblijbjobaaDoor
open Go.RowKit

set_option maxRecDepth 100000 in
set_option maxHeartbeats 1000000 in
theorem lawBent39_any (K : List (List UInt8)) (v : Value) (d : List UInt8) (p0 p1 : Nat) (w : World) (HG : Glob w) (hV : Sl w v 32 K.length (K.flatMap dgC)) (h32 : ∀ k ∈ K, k.length = 32) (_hd : d.length ≤ maxLen) (hp0 : p0 < 65536) (hp1 : p1 < 65536) : Calls Tryd.prog 9 #[.agg #[v], .string ⟨d.toArray⟩, .agg #[.int .u16 (p0 : Int), .int .u16 (p1 : Int)]] w fun e w' => e = .returned (.bool true) ∧ Below w.heap.size w w' := by
  by_cases h1 : K.length = 0
  · skip
    refine walk_enter Tryd.func9 rfl rfl rfl fun a0 F0 => ?_
    have M0 := Mem.new w
    refine wsl ?_
    refine sqNew (cs := #[v]) (t := 31) F0 M0 (wantedS rfl) (run_box rfl (F0.ev 0 rfl)) rfl (by decide) fun g0 a1 w1 hgg0 hb1 F1 M1 => ?_
    refine sqNew (cs := #[.int .u16 (p0 : Int), .int .u16 (p1 : Int)]) (t := 47) F1 M1 (wantedS rfl) (run_box rfl (F1.ev 2 rfl)) rfl (by decide) fun g1 a2 w2 hgg1 hb2 F2 M2 => ?_
    refine sr (v := (.bool false)) F2 (run_as rfl rfl) rfl rfl rfl fun a3 F3 => ?_
    refine sn ?_
    clear F0 F1 F2 M0 M1
    refine wp_seq ?_
    refine wsl ?_
    refine sr F3 (run_fldA (m := 1) (s := 0) rfl (F3.ev 3 rfl) Tryd.underlying31 rfl rfl (by kernel_rfl) (by decide)) rfl rfl rfl fun a4 F4 => ?_
    refine sr (v := v) F4 (run_ldF rfl (F4.ev 19 rfl) (M2.at 1 rfl) rfl (by kernel_rfl)) rfl rfl rfl fun a5 F5 => ?_
    refine sr F5 (run_lenS rfl (F5.ev 20 rfl) (hV.below M2.below) rfl Tryd.underlying29) rfl rfl rfl fun a6 F6 => ?_
    refine sr (v := (.bool true)) F6 (run_eqi rfl (F6.ev 21 rfl) rfl (beq_iff_eq.2 (by omega))) rfl rfl rfl fun a7 F7 => ?_
    refine mvS F7 rfl rfl rfl rfl rfl fun a8 F8 => ?_
    refine sqSkip F8 (unwantedG F8 rfl rfl rfl rfl rfl) rfl (by decide) fun a9 F9 => ?_
    refine sqSkip F9 (unwantedG F9 rfl rfl rfl rfl rfl) rfl (by decide) fun a10 F10 => ?_
    refine sqSkip F10 (unwantedG F10 rfl rfl rfl rfl rfl) rfl (by decide) fun a11 F11 => ?_
    refine sqSkip F11 (unwantedG F11 rfl rfl rfl rfl rfl) rfl (by decide) fun a12 F12 => ?_
    refine sr (v := (.bool true)) F12 (run_pick rfl (F12.ev 23 rfl) rfl (F12.ev 27 rfl)) rfl rfl rfl fun a13 F13 => ?_
    refine mvS F13 rfl rfl rfl rfl rfl fun a14 F14 => ?_
    refine sqSkip F14 (unwantedG F14 rfl rfl rfl rfl rfl) rfl (by decide) fun a15 F15 => ?_
    refine sqSkip F15 (unwantedG F15 rfl rfl rfl rfl rfl) rfl (by decide) fun a16 F16 => ?_
    refine sqSkip F16 (unwantedG F16 rfl rfl rfl rfl rfl) rfl (by decide) fun a17 F17 => ?_
    refine sr (v := (.bool true)) F17 (run_pick rfl (F17.ev 29 rfl) rfl (F17.ev 32 rfl)) rfl rfl rfl fun a18 F18 => ?_
    refine sn ?_
    clear F3 F4 F5 F6 F7 F8 F9 F10 F11 F12 F13 F14 F15 F16 F17
    refine wp_cond_true (F18.ev 33 rfl) ?_
    refine wsl ?_
    refine sqC (v := (.bool true)) F18 M2 (wantedS rfl) (run_call rfl Tryd.func11 (by kernel_rfl) rfl (mapE0 )) rfl (by decide) (fixed39_any w2) fun a19 w3 hb3 F19 M3 => ?_
    refine asS F19 rfl rfl rfl rfl rfl fun a20 F20 => ?_
    refine sn ?_
    clear F18 F19 M2
    refine wp_ret ?_
    refine nxRet ?_
    exact ret1 F20 rfl rfl ⟨rfl, M3.below⟩
  by_cases h2 : 10 < K.length
  · skip
    refine walk_enter Tryd.func9 rfl rfl rfl fun a0 F0 => ?_
    have M0 := Mem.new w
    refine wsl ?_
    refine sqNew (cs := #[v]) (t := 31) F0 M0 (wantedS rfl) (run_box rfl (F0.ev 0 rfl)) rfl (by decide) fun g0 a1 w1 hgg0 hb1 F1 M1 => ?_
    refine sqNew (cs := #[.int .u16 (p0 : Int), .int .u16 (p1 : Int)]) (t := 47) F1 M1 (wantedS rfl) (run_box rfl (F1.ev 2 rfl)) rfl (by decide) fun g1 a2 w2 hgg1 hb2 F2 M2 => ?_
    refine sr (v := (.bool false)) F2 (run_as rfl rfl) rfl rfl rfl fun a3 F3 => ?_
    refine sn ?_
    clear F0 F1 F2 M0 M1
    refine wp_seq ?_
    refine wsl ?_
    refine sr F3 (run_fldA (m := 1) (s := 0) rfl (F3.ev 3 rfl) Tryd.underlying31 rfl rfl (by kernel_rfl) (by decide)) rfl rfl rfl fun a4 F4 => ?_
    refine sr (v := v) F4 (run_ldF rfl (F4.ev 19 rfl) (M2.at 1 rfl) rfl (by kernel_rfl)) rfl rfl rfl fun a5 F5 => ?_
    refine sr F5 (run_lenS rfl (F5.ev 20 rfl) (hV.below M2.below) rfl Tryd.underlying29) rfl rfl rfl fun a6 F6 => ?_
    refine sr (v := (.bool false)) F6 (run_eqi rfl (F6.ev 21 rfl) rfl (beq_eq_false_iff_ne.2 (by omega))) rfl rfl rfl fun a7 F7 => ?_
    refine mvS F7 rfl rfl rfl rfl rfl fun a8 F8 => ?_
    refine sq (v := (.pointer (some ⟨g0, 0, none⟩))) F8 (wantedG F8 rfl rfl rfl rfl rfl) (run_fldA (m := 1) (s := 0) rfl (F8.ev 3 rfl) Tryd.underlying31 rfl rfl (by kernel_rfl) (by decide)) rfl (by decide) fun a9 F9 => ?_
    refine sq (v := v) F9 (wantedG F9 rfl rfl rfl rfl rfl) (run_ldF rfl (F9.ev 24 rfl) (M2.at 1 rfl) rfl (by kernel_rfl)) rfl (by decide) fun a10 F10 => ?_
    refine sq (v := (.int .i64 (K.length : Int))) F10 (wantedG F10 rfl rfl rfl rfl rfl) (run_lenS rfl (F10.ev 25 rfl) (hV.below M2.below) rfl Tryd.underlying29) rfl (by decide) fun a11 F11 => ?_
    refine sq (v := (.bool true)) F11 (wantedG F11 rfl rfl rfl rfl rfl) (run_gtr rfl (F11.ev 26 rfl) rfl (decide_eq_true (by omega))) rfl (by decide) fun a12 F12 => ?_
    refine sr (v := (.bool true)) F12 (run_pick rfl (F12.ev 23 rfl) rfl (F12.ev 27 rfl)) rfl rfl rfl fun a13 F13 => ?_
    refine mvS F13 rfl rfl rfl rfl rfl fun a14 F14 => ?_
    refine sqSkip F14 (unwantedG F14 rfl rfl rfl rfl rfl) rfl (by decide) fun a15 F15 => ?_
    refine sqSkip F15 (unwantedG F15 rfl rfl rfl rfl rfl) rfl (by decide) fun a16 F16 => ?_
    refine sqSkip F16 (unwantedG F16 rfl rfl rfl rfl rfl) rfl (by decide) fun a17 F17 => ?_
    refine sr (v := (.bool true)) F17 (run_pick rfl (F17.ev 29 rfl) rfl (F17.ev 32 rfl)) rfl rfl rfl fun a18 F18 => ?_
    refine sn ?_
    clear F3 F4 F5 F6 F7 F8 F9 F10 F11 F12 F13 F14 F15 F16 F17
    refine wp_cond_true (F18.ev 33 rfl) ?_
    refine wsl ?_
    refine sqC (v := (.bool true)) F18 M2 (wantedS rfl) (run_call rfl Tryd.func11 (by kernel_rfl) rfl (mapE0 )) rfl (by decide) (fixed39_any w2) fun a19 w3 hb3 F19 M3 => ?_
    refine asS F19 rfl rfl rfl rfl rfl fun a20 F20 => ?_
    refine sn ?_
    clear F18 F19 M2
    refine wp_ret ?_
    refine nxRet ?_
    exact ret1 F20 rfl rfl ⟨rfl, M3.below⟩
  by_cases h3 : 400 < d.length
  · skip
    refine walk_enter Tryd.func9 rfl rfl rfl fun a0 F0 => ?_
    have M0 := Mem.new w
    refine wsl ?_
    refine sqNew (cs := #[v]) (t := 31) F0 M0 (wantedS rfl) (run_box rfl (F0.ev 0 rfl)) rfl (by decide) fun g0 a1 w1 hgg0 hb1 F1 M1 => ?_
    refine sqNew (cs := #[.int .u16 (p0 : Int), .int .u16 (p1 : Int)]) (t := 47) F1 M1 (wantedS rfl) (run_box rfl (F1.ev 2 rfl)) rfl (by decide) fun g1 a2 w2 hgg1 hb2 F2 M2 => ?_
    refine sr (v := (.bool false)) F2 (run_as rfl rfl) rfl rfl rfl fun a3 F3 => ?_
    refine sn ?_
    clear F0 F1 F2 M0 M1
    refine wp_seq ?_
    refine wsl ?_
    refine sr F3 (run_fldA (m := 1) (s := 0) rfl (F3.ev 3 rfl) Tryd.underlying31 rfl rfl (by kernel_rfl) (by decide)) rfl rfl rfl fun a4 F4 => ?_
    refine sr (v := v) F4 (run_ldF rfl (F4.ev 19 rfl) (M2.at 1 rfl) rfl (by kernel_rfl)) rfl rfl rfl fun a5 F5 => ?_
    refine sr F5 (run_lenS rfl (F5.ev 20 rfl) (hV.below M2.below) rfl Tryd.underlying29) rfl rfl rfl fun a6 F6 => ?_
    refine sr (v := (.bool false)) F6 (run_eqi rfl (F6.ev 21 rfl) rfl (beq_eq_false_iff_ne.2 (by omega))) rfl rfl rfl fun a7 F7 => ?_
    refine mvS F7 rfl rfl rfl rfl rfl fun a8 F8 => ?_
    refine sq (v := (.pointer (some ⟨g0, 0, none⟩))) F8 (wantedG F8 rfl rfl rfl rfl rfl) (run_fldA (m := 1) (s := 0) rfl (F8.ev 3 rfl) Tryd.underlying31 rfl rfl (by kernel_rfl) (by decide)) rfl (by decide) fun a9 F9 => ?_
    refine sq (v := v) F9 (wantedG F9 rfl rfl rfl rfl rfl) (run_ldF rfl (F9.ev 24 rfl) (M2.at 1 rfl) rfl (by kernel_rfl)) rfl (by decide) fun a10 F10 => ?_
    refine sq (v := (.int .i64 (K.length : Int))) F10 (wantedG F10 rfl rfl rfl rfl rfl) (run_lenS rfl (F10.ev 25 rfl) (hV.below M2.below) rfl Tryd.underlying29) rfl (by decide) fun a11 F11 => ?_
    refine sq (v := (.bool false)) F11 (wantedG F11 rfl rfl rfl rfl rfl) (run_gtr rfl (F11.ev 26 rfl) rfl (decide_eq_false (by omega))) rfl (by decide) fun a12 F12 => ?_
    refine sr (v := (.bool false)) F12 (run_pick rfl (F12.ev 23 rfl) rfl (F12.ev 27 rfl)) rfl rfl rfl fun a13 F13 => ?_
    refine mvS F13 rfl rfl rfl rfl rfl fun a14 F14 => ?_
    refine sq (v := (.string ⟨d.toArray⟩)) F14 (wantedG F14 rfl rfl rfl rfl rfl) (run_mv rfl (F14.ev 1 rfl)) rfl (by decide) fun a15 F15 => ?_
    refine sq (v := (.int .i64 (d.length : Int))) F15 (wantedG F15 rfl rfl rfl rfl rfl) (run_len rfl (F15.ev 30 rfl) rfl Tryd.underlying9) rfl (by decide) fun a16 F16 => ?_
    refine sq (v := (.bool true)) F16 (wantedG F16 rfl rfl rfl rfl rfl) (run_gtr rfl (F16.ev 31 rfl) rfl (decide_eq_true (by omega))) rfl (by decide) fun a17 F17 => ?_
    refine sr (v := (.bool true)) F17 (run_pick rfl (F17.ev 29 rfl) rfl (F17.ev 32 rfl)) rfl rfl rfl fun a18 F18 => ?_
    refine sn ?_
    clear F3 F4 F5 F6 F7 F8 F9 F10 F11 F12 F13 F14 F15 F16 F17
    refine wp_cond_true (F18.ev 33 rfl) ?_
    refine wsl ?_
    refine sqC (v := (.bool true)) F18 M2 (wantedS rfl) (run_call rfl Tryd.func11 (by kernel_rfl) rfl (mapE0 )) rfl (by decide) (fixed39_any w2) fun a19 w3 hb3 F19 M3 => ?_
    refine asS F19 rfl rfl rfl rfl rfl fun a20 F20 => ?_
    refine sn ?_
    clear F18 F19 M2
    refine wp_ret ?_
    refine nxRet ?_
    exact ret1 F20 rfl rfl ⟨rfl, M3.below⟩
  have hK : K ≠ [] := by intro h; rw [h] at h1; exact h1 rfl
  have hpl := pack_len d
  have hdl := dataC_len K d
  have hNl := nameC_len K d
  have hs0 : sealC K d = (nameC K d, dataC K d, 0) := by unfold sealC; rw [if_neg (by omega), if_neg hK]
  have hop0 := openC_seal K d hK (by omega) (by omega)
  have hg0 := dataC_get K d (by omega)
  have hdr := dataC_drop K d
  have hbl := sealB_len K d
  have hbx : sealB K d = sealS (bkeyS K (K.length - 1)) (nonceS (digC K d)) (nameC K d) (packS d) := rfl
  obtain ⟨Nm, hNm⟩ : ∃ N, nameC K d = N := ⟨_, rfl⟩
  obtain ⟨Dt, hDt⟩ : ∃ D, dataC K d = D := ⟨_, rfl⟩
  obtain ⟨B, hB⟩ : ∃ B, sealB K d = B := ⟨_, rfl⟩
  obtain ⟨BK, hBK⟩ : ∃ B, bkeyS K (K.length - 1) = B := ⟨_, rfl⟩
  have hLBK : BK.length = 32 := by rw [← hBK]; exact bkeyS_len _ _
  obtain ⟨No, hNo⟩ : ∃ N, nonceS (digC K d) = N := ⟨_, rfl⟩
  have hNol : No.length = 12 := by rw [← hNo]; exact nonceS_len _
  obtain ⟨Pk, hPk⟩ : ∃ Q, packS d = Q := ⟨_, rfl⟩
  have hbox : boxK K ((K.length - 1 : Nat) : Int) = (BK, 0) := by unfold boxK; rw [if_neg (by omega), Int.toNat_natCast, hBK]
  rw [hNm, hDt] at hs0 hop0
  rw [hDt] at hdl hg0 hdr
  rw [hB] at hbx hbl hdr
  rw [hNm, hBK, hNo, hPk] at hbx
  rw [hPk] at hpl hbl hdl
  rw [hNm] at hNl
  clear hNm hDt hB hNo hPk
  obtain ⟨n, hn⟩ : ∃ n, p0 % (Dt.length - 2) = n := ⟨_, rfl⟩
  have hnl : n < Dt.length - 2 := by rw [← hn]; exact Nat.mod_lt _ (by omega)
  obtain ⟨y, hy⟩ : ∃ y, UInt8.ofNat (1 + p1 % 255) = y := ⟨_, rfl⟩
  have hyn : y.toNat = 1 + p1 % 255 := by rw [← hy, UInt8.toNat_ofNat']; omega
  obtain ⟨TK, hTK⟩ : ∃ TK, keyedS BK [116, 97, 103] = TK := ⟨_, rfl⟩
  have hTK' : keyedS BK tagT = TK := hTK
  have hLTK : TK.length = 32 := by rw [← hTK]; exact keyedS_len _ _
  obtain ⟨A0, hA0⟩ : ∃ A, (Dt.drop 2).take (Dt.length - 32 - 2) = A := ⟨_, rfl⟩
  obtain ⟨A1, hA1⟩ : ∃ A, ((Dt.set (n + 2) (bt Dt (n + 2) ^^^ y)).drop 2).take (Dt.length - 32 - 2) = A := ⟨_, rfl⟩
  have hA0l : A0.length ≤ 600 := by rw [← hA0, List.length_take]; omega
  have hA1l : A1.length ≤ 600 := by rw [← hA1, List.length_take]; omega
  have hBD : Dt.length - 32 - 2 = B.length - 32 := by omega
  have hA0B : B.take (B.length - 32) = A0 := by rw [← hA0, hdr, hBD]
  have hbt : bt Dt (n + 2) = bt B n := by rw [← hdr]; simp [bt, Nat.add_comm]
  have hD2 : (Dt.set (n + 2) (bt Dt (n + 2) ^^^ y)).drop 2 = B.set n (bt B n ^^^ y) := by rw [hbt, List.drop_set, if_neg (by omega), hdr, show n + 2 - 2 = n by omega]
  have hA1B : (B.set n (bt B n ^^^ y)).take (B.length - 32) = A1 := by rw [← hA1, hD2, hBD]
  have hg1 : get2 (Dt.set (n + 2) (bt Dt (n + 2) ^^^ y)) = K.length - 1 := by
    rw [← hg0]
    unfold get2
    rw [List.take_set_of_le (by omega)]
  obtain ⟨Rw, hRw⟩ : ∃ R, rowS [Nm, A0] = R := ⟨_, rfl⟩
  obtain ⟨Rn, hRn⟩ : ∃ R, rowS [Nm, A1] = R := ⟨_, rfl⟩
  obtain ⟨Rz, hRz⟩ : ∃ R, rowS [(Nm.drop 1 ++ [48]), A0] = R := ⟨_, rfl⟩
  have hNnl : (Nm.drop 1 ++ [48]).length = 64 := by rw [List.length_append, List.length_drop, hNl]; rfl
  have hrl : ∀ a b : List UInt8, a.length ≤ 64 → b.length ≤ 600 → (rowS [a, b]).length ≤ 5000 := by
    intro a b ha hb
    have := rowS_len [a, b]
    simp only [List.flatten_cons, List.flatten_nil, List.length_append, List.length_cons, List.length_nil] at this
    omega
  have hRwl : Rw.length ≤ 5000 := by rw [← hRw]; exact hrl _ _ (by omega) hA0l
  have hRnl : Rn.length ≤ 5000 := by rw [← hRn]; exact hrl _ _ (by omega) hA1l
  have hRzl : Rz.length ≤ 5000 := by rw [← hRz]; exact hrl _ _ (by omega) hA0l
  refine walk_enter Tryd.func9 rfl rfl rfl fun a0 F0 => ?_
  have M0 := Mem.new w
  refine wsl ?_
  refine sqNew (cs := #[v]) (t := 31) F0 M0 (wantedS rfl) (run_box rfl (F0.ev 0 rfl)) rfl (by decide) fun g0 a1 w1 hgg0 hb1 F1 M1 => ?_
  refine sqNew (cs := #[.int .u16 (p0 : Int), .int .u16 (p1 : Int)]) (t := 47) F1 M1 (wantedS rfl) (run_box rfl (F1.ev 2 rfl)) rfl (by decide) fun g1 a2 w2 hgg1 hb2 F2 M2 => ?_
  refine sr (v := (.bool false)) F2 (run_as rfl rfl) rfl rfl rfl fun a3 F3 => ?_
  refine sn ?_
  clear F0 F1 F2 M0 M1
  refine wp_seq ?_
  refine wsl ?_
  refine sr F3 (run_fldA (m := 1) (s := 0) rfl (F3.ev 3 rfl) Tryd.underlying31 rfl rfl (by kernel_rfl) (by decide)) rfl rfl rfl fun a4 F4 => ?_
  refine sr (v := v) F4 (run_ldF rfl (F4.ev 19 rfl) (M2.at 1 rfl) rfl (by kernel_rfl)) rfl rfl rfl fun a5 F5 => ?_
  refine sr F5 (run_lenS rfl (F5.ev 20 rfl) (hV.below M2.below) rfl Tryd.underlying29) rfl rfl rfl fun a6 F6 => ?_
  refine sr (v := (.bool false)) F6 (run_eqi rfl (F6.ev 21 rfl) rfl (beq_eq_false_iff_ne.2 (by omega))) rfl rfl rfl fun a7 F7 => ?_
  refine mvS F7 rfl rfl rfl rfl rfl fun a8 F8 => ?_
  refine sq (v := (.pointer (some ⟨g0, 0, none⟩))) F8 (wantedG F8 rfl rfl rfl rfl rfl) (run_fldA (m := 1) (s := 0) rfl (F8.ev 3 rfl) Tryd.underlying31 rfl rfl (by kernel_rfl) (by decide)) rfl (by decide) fun a9 F9 => ?_
  refine sq (v := v) F9 (wantedG F9 rfl rfl rfl rfl rfl) (run_ldF rfl (F9.ev 24 rfl) (M2.at 1 rfl) rfl (by kernel_rfl)) rfl (by decide) fun a10 F10 => ?_
  refine sq (v := (.int .i64 (K.length : Int))) F10 (wantedG F10 rfl rfl rfl rfl rfl) (run_lenS rfl (F10.ev 25 rfl) (hV.below M2.below) rfl Tryd.underlying29) rfl (by decide) fun a11 F11 => ?_
  refine sq (v := (.bool false)) F11 (wantedG F11 rfl rfl rfl rfl rfl) (run_gtr rfl (F11.ev 26 rfl) rfl (decide_eq_false (by omega))) rfl (by decide) fun a12 F12 => ?_
  refine sr (v := (.bool false)) F12 (run_pick rfl (F12.ev 23 rfl) rfl (F12.ev 27 rfl)) rfl rfl rfl fun a13 F13 => ?_
  refine mvS F13 rfl rfl rfl rfl rfl fun a14 F14 => ?_
  refine sq (v := (.string ⟨d.toArray⟩)) F14 (wantedG F14 rfl rfl rfl rfl rfl) (run_mv rfl (F14.ev 1 rfl)) rfl (by decide) fun a15 F15 => ?_
  refine sq (v := (.int .i64 (d.length : Int))) F15 (wantedG F15 rfl rfl rfl rfl rfl) (run_len rfl (F15.ev 30 rfl) rfl Tryd.underlying9) rfl (by decide) fun a16 F16 => ?_
  refine sq (v := (.bool false)) F16 (wantedG F16 rfl rfl rfl rfl rfl) (run_gtr rfl (F16.ev 31 rfl) rfl (decide_eq_false (by omega))) rfl (by decide) fun a17 F17 => ?_
  refine sr (v := (.bool false)) F17 (run_pick rfl (F17.ev 29 rfl) rfl (F17.ev 32 rfl)) rfl rfl rfl fun a18 F18 => ?_
  refine sn ?_
  clear F3 F4 F5 F6 F7 F8 F9 F10 F11 F12 F13 F14 F15 F16 F17
  refine cfs (F18.ev 33 rfl) ?_
  refine wsl ?_
  refine sr F18 (run_ldB rfl (F18.ev 3 rfl) (M2.at 1 rfl) Tryd.underlying31 rfl szKy rfl) rfl rfl rfl fun a19 F19 => ?_
  refine mvS F19 rfl rfl rfl rfl rfl fun a20 F20 => ?_
  refine sqC (v := (.tuple #[(.agg #[.string ⟨Nm.toArray⟩, .string ⟨Dt.toArray⟩]), (.int .i64 0)])) F20 M2 (wantedS rfl) (run_call rfl Tryd.func18 (by kernel_rfl) rfl (mapE2 (F20.ev 36 rfl) (F20.ev 37 rfl))) rfl (by decide) ((by have h := csealK_any K v d w2 (HG.below M2.below) (hV.below M2.below) h32 (by omega); rw [hs0] at h; exact h)) fun a21 w3 hb3 F21 M3 => ?_
  refine mvS F21 rfl rfl rfl rfl rfl fun a22 F22 => ?_
  refine sr (v := (.agg #[.string ⟨Nm.toArray⟩, .string ⟨Dt.toArray⟩])) F22 (run_ext rfl (F22.ev 35 rfl) rfl) rfl rfl rfl fun a23 F23 => ?_
  refine sr (v := (.int .i64 0)) F23 (run_ext rfl (F23.ev 35 rfl) rfl) rfl rfl rfl fun a24 F24 => ?_
  refine sqNew (cs := #[.string ⟨List.toArray []⟩, .string ⟨List.toArray []⟩]) (t := 36) F24 M3 (wantedS rfl) (run_alloc rfl (by kernel_rfl)) rfl (by decide) fun g2 a25 w4 hgg2 hb4 F25 M4 => ?_
  refine sqStore (i := 0) F25 M4 rfl rfl rfl (F25.ev 7 rfl) (F25.ev 39 rfl) rfl szBox rfl rfl (arr_one rfl) fun a26 w5 F26 M5 => ?_
  refine asS F26 rfl rfl rfl rfl rfl fun a27 F27 => ?_
  refine sn ?_
  clear F18 F19 F20 F21 F22 F23 F24 F25 F26 M2 M3 M4
  refine wp_seq ?_
  refine wsl ?_
  refine mvS F27 rfl rfl rfl rfl rfl fun a28 F28 => ?_
  refine sr (v := (.bool false)) F28 (run_nei rfl (F28.ev 41 rfl) rfl (bne_eq_false_iff_eq.2 (by omega))) rfl rfl rfl fun a29 F29 => ?_
  refine mvS F29 rfl rfl rfl rfl rfl fun a30 F30 => ?_
  refine sq (v := (.pointer (some ⟨g2, 1, none⟩))) F30 (wantedG F30 rfl rfl rfl rfl rfl) (run_fldA (m := 1) (s := 1) rfl (F30.ev 7 rfl) Tryd.underlying36 rfl rfl (by kernel_rfl) (by decide)) rfl (by decide) fun a31 F31 => ?_
  refine sq (v := (.string ⟨Dt.toArray⟩)) F31 (wantedG F31 rfl rfl rfl rfl rfl) (run_ldF rfl (F31.ev 44 rfl) (M5.at 0 rfl) rfl (by kernel_rfl)) rfl (by decide) fun a32 F32 => ?_
  refine sq (v := (.int .i64 (Dt.length : Int))) F32 (wantedG F32 rfl rfl rfl rfl rfl) (run_len rfl (F32.ev 45 rfl) rfl Tryd.underlying9) rfl (by decide) fun a33 F33 => ?_
  refine sq (v := (.bool false)) F33 (wantedG F33 rfl rfl rfl rfl rfl) (run_lss rfl (F33.ev 46 rfl) rfl (decide_eq_false (by omega))) rfl (by decide) fun a34 F34 => ?_
  refine sr (v := (.bool false)) F34 (run_pick rfl (F34.ev 43 rfl) rfl (F34.ev 47 rfl)) rfl rfl rfl fun a35 F35 => ?_
  refine mvS F35 rfl rfl rfl rfl rfl fun a36 F36 => ?_
  refine sq (v := (.pointer (some ⟨g2, 0, none⟩))) F36 (wantedG F36 rfl rfl rfl rfl rfl) (run_fldA (m := 1) (s := 0) rfl (F36.ev 7 rfl) Tryd.underlying36 rfl rfl (by kernel_rfl) (by decide)) rfl (by decide) fun a37 F37 => ?_
  refine sq (v := (.string ⟨Nm.toArray⟩)) F37 (wantedG F37 rfl rfl rfl rfl rfl) (run_ldF rfl (F37.ev 50 rfl) (M5.at 0 rfl) rfl (by kernel_rfl)) rfl (by decide) fun a38 F38 => ?_
  refine sq (v := (.int .i64 (Nm.length : Int))) F38 (wantedG F38 rfl rfl rfl rfl rfl) (run_len rfl (F38.ev 51 rfl) rfl Tryd.underlying9) rfl (by decide) fun a39 F39 => ?_
  refine sq (v := (.bool false)) F39 (wantedG F39 rfl rfl rfl rfl rfl) (run_nei rfl (F39.ev 52 rfl) rfl (bne_eq_false_iff_eq.2 (by omega))) rfl (by decide) fun a40 F40 => ?_
  refine sr (v := (.bool false)) F40 (run_pick rfl (F40.ev 49 rfl) rfl (F40.ev 53 rfl)) rfl rfl rfl fun a41 F41 => ?_
  refine sn ?_
  clear F27 F28 F29 F30 F31 F32 F33 F34 F35 F36 F37 F38 F39 F40
  refine cfs (F41.ev 54 rfl) ?_
  refine wsl ?_
  refine sr F41 (run_fldA (m := 1) (s := 1) rfl (F41.ev 7 rfl) Tryd.underlying36 rfl rfl (by kernel_rfl) (by decide)) rfl rfl rfl fun a42 F42 => ?_
  refine sr (v := (.string ⟨Dt.toArray⟩)) F42 (run_ldF rfl (F42.ev 55 rfl) (M5.at 0 rfl) rfl (by kernel_rfl)) rfl rfl rfl fun a43 F43 => ?_
  refine sqBytesOf F43 M5 (wantedS rfl) rfl (F43.ev 56 rfl) Tryd.underlying9 rfl (by decide) fun g3 c3 a44 w6 hgg3 hb6 hcc3 F44 M6 => ?_
  refine asS F44 rfl rfl rfl rfl rfl fun a45 F45 => ?_
  refine sn ?_
  clear F41 F42 F43 F44 M5
  refine wp_seq ?_
  obtain ⟨KL, hKL⟩ : ∃ KL, KL = [kval (.slice (some ⟨g3, 0, none⟩) Dt.length c3), kval (.pointer (some ⟨g1, 0, none⟩)), kval (.int .u16 (p0 : Int)), kval (.int .i64 (p0 : Int)), kval (.slice (some ⟨g3, 0, none⟩) Dt.length c3), kval (.int .i64 (Dt.length : Int)), kval (.int .i64 ((Dt.length - 2 : Nat) : Int)), kval (.int .i64 (n : Int)), kval (.int .i64 ((n + 2 : Nat) : Int)), kval (.pointer (some ⟨g3, (n + 2 : Nat), none⟩)), kval (.int .u8 ((bt Dt (n + 2 : Nat)).toNat : Int)), kval (.pointer (some ⟨g1, 1, none⟩)), kval (.int .u16 (p1 : Int)), kval (.int .u16 ((p1 % 255 : Nat) : Int)), kval (.int .u8 ((p1 % 255 : Nat) : Int)), kval (.int .u8 (y.toNat : Int)), kval (.int .u8 (((bt Dt (n + 2 : Nat)) ^^^ y).toNat : Int)), kval (.pointer (some ⟨g3, (n + 2 : Nat), none⟩))] := ⟨_, rfl⟩
  have K0 := getK hKL 0
  have K1 := getK hKL 1
  have K2 := getK hKL 2
  have K3 := getK hKL 3
  have K4 := getK hKL 4
  have K5 := getK hKL 5
  have K6 := getK hKL 6
  have K7 := getK hKL 7
  have K8 := getK hKL 8
  have K9 := getK hKL 9
  have K10 := getK hKL 10
  have K11 := getK hKL 11
  have K12 := getK hKL 12
  have K13 := getK hKL 13
  have K14 := getK hKL 14
  have K15 := getK hKL 15
  have K16 := getK hKL 16
  have K17 := getK hKL 17
  have HKL : KL.length ≤ 18 := by rw [hKL]; exact Nat.le_refl _
  clear hKL
  refine wp_region_kdTail2 173 18 (by kernel_rfl) (by kernel_rfl) (by kernel_rfl) (by kernel_rfl) F45.size KL HKL ?_ ?_
  · refine ⟨?_, ?_, ?_, ?_, ?_, ?_, ?_, ?_, ?_, ?_, ?_, ?_, ?_, ?_, ?_, ?_, ?_, ?_, trivial⟩
    · exact asksHY rfl fun a W hS hh hd => giv_run (run_mv rfl (eval_tmp (hh 9 _ rfl (F45.at 9 rfl)))) K0
    · exact asksHY rfl fun a W hS hh hd => giv_run (run_idxA (i := 0) (cnt := 2) rfl (eval_tmp (hh 5 _ rfl (F45.at 5 rfl))) rfl rfl (by omega) Tryd.underlying47 (by kernel_rfl)) K1
    · exact asksHY rfl fun a W hS hh hd => giv_run (run_ldF rfl (eval_tmp (hd.vl 1 59 (by kernel_rfl) K1)) ((M6.grow hS).at 2 rfl) rfl (by kernel_rfl)) K2
    · exact asksHY rfl fun a W hS hh hd => giv_run (run_cvI (r := (p0 : Int)) rfl (eval_tmp (hd.vl 2 60 (by kernel_rfl) K2)) Tryd.underlying46 Tryd.underlying3 (by rw [IntKind.wrap_i64]; omega)) K3
    · exact asksHY rfl fun a W hS hh hd => giv_run (run_mv rfl (eval_tmp (hh 9 _ rfl (F45.at 9 rfl)))) K4
    · exact asksHY rfl fun a W hS hh hd => giv_run (run_lenSl rfl (eval_tmp (hd.vl 4 62 (by kernel_rfl) K4)) rfl Tryd.underlying48) K5
    · exact asksHY rfl fun a W hS hh hd => giv_run (run_sub (r := ((Dt.length - 2 : Nat) : Int)) rfl (eval_tmp (hd.vl 5 63 (by kernel_rfl) K5)) rfl (by rw [IntKind.wrap_i64]; omega)) K6
    · exact asksHY rfl fun a W hS hh hd => giv_run (run_rem (r := (n : Int)) rfl (eval_tmp (hd.vl 3 61 (by kernel_rfl) K3)) (eval_tmp (hd.vl 6 64 (by kernel_rfl) K6)) (by omega) (by rw [Int.tmod_eq_emod_of_nonneg (by omega), ← hn]; rfl)) K7
    · exact asksHY rfl fun a W hS hh hd => giv_run (run_add (r := ((n + 2 : Nat) : Int)) rfl rfl (eval_tmp (hd.vl 7 65 (by kernel_rfl) K7)) (by rw [IntKind.wrap_i64]; omega)) K8
    · exact asksHY rfl fun a W hS hh hd => giv_run (run_idxY (i := (n + 2 : Nat)) rfl (eval_tmp (hd.vl 0 58 (by kernel_rfl) K0)) (eval_tmp (hd.vl 8 66 (by kernel_rfl) K8)) rfl (by omega)) K9
    · exact asksHY rfl fun a W hS hh hd => giv_run (run_ldC rfl (eval_tmp (hd.vl 9 67 (by kernel_rfl) K9)) (isY_cell ((M6.grow hS).ob 0 rfl) (by omega)) (by kernel_rfl)) K10
    · exact asksHY rfl fun a W hS hh hd => giv_run (run_idxA (i := 1) (cnt := 2) rfl (eval_tmp (hh 5 _ rfl (F45.at 5 rfl))) rfl rfl (by omega) Tryd.underlying47 (by kernel_rfl)) K11
    · exact asksHY rfl fun a W hS hh hd => giv_run (run_ldF rfl (eval_tmp (hd.vl 11 69 (by kernel_rfl) K11)) ((M6.grow hS).at 2 rfl) rfl (by kernel_rfl)) K12
    · exact asksHY rfl fun a W hS hh hd => giv_run (run_rem (r := ((p1 % 255 : Nat) : Int)) rfl (eval_tmp (hd.vl 12 70 (by kernel_rfl) K12)) rfl (by omega) (by rw [Int.tmod_eq_emod_of_nonneg (by omega)]; try omega)) K13
    · exact asksHY rfl fun a W hS hh hd => giv_run (run_cvI (r := ((p1 % 255 : Nat) : Int)) rfl (eval_tmp (hd.vl 13 71 (by kernel_rfl) K13)) Tryd.underlying46 Tryd.underlying5 (by rw [IntKind.wrap_u8]; omega)) K14
    · exact asksHY rfl fun a W hS hh hd => giv_run (run_add (r := (y.toNat : Int)) rfl rfl (eval_tmp (hd.vl 14 72 (by kernel_rfl) K14)) (by rw [IntKind.wrap_u8]; omega)) K15
    · exact asksHY rfl fun a W hS hh hd => giv_run (run_xor8 rfl (eval_tmp (hd.vl 10 68 (by kernel_rfl) K10)) (eval_tmp (hd.vl 15 73 (by kernel_rfl) K15))) K16
    · exact asksHY rfl fun a W hS hh hd => giv_run (run_idxY (i := (n + 2 : Nat)) rfl (eval_tmp (hd.vl 0 58 (by kernel_rfl) K0)) (eval_tmp (hd.vl 8 66 (by kernel_rfl) K8)) rfl (by omega)) K17
  · intro a46 w7 hb7 hK
    have e0 := hK.hvl 0 58 rfl (by kernel_rfl) K0
    have e1 := hK.hvl 1 59 rfl (by kernel_rfl) K1
    have e2 := hK.hvl 2 60 rfl (by kernel_rfl) K2
    have e3 := hK.hvl 3 61 rfl (by kernel_rfl) K3
    have e4 := hK.hvl 4 62 rfl (by kernel_rfl) K4
    have e5 := hK.hvl 5 63 rfl (by kernel_rfl) K5
    have e6 := hK.hvl 6 64 rfl (by kernel_rfl) K6
    have e7 := hK.hvl 7 65 rfl (by kernel_rfl) K7
    have e8 := hK.hvl 8 66 rfl (by kernel_rfl) K8
    have e9 := hK.hvl 9 67 rfl (by kernel_rfl) K9
    have e10 := hK.hvl 10 68 rfl (by kernel_rfl) K10
    have e11 := hK.hvl 11 69 rfl (by kernel_rfl) K11
    have e12 := hK.hvl 12 70 rfl (by kernel_rfl) K12
    have e13 := hK.hvl 13 71 rfl (by kernel_rfl) K13
    have e14 := hK.hvl 14 72 rfl (by kernel_rfl) K14
    have e15 := hK.hvl 15 73 rfl (by kernel_rfl) K15
    have e16 := hK.hvl 16 74 rfl (by kernel_rfl) K16
    have e17 := hK.hvl 17 75 rfl (by kernel_rfl) K17
    have F46 : Fr a46 173 [(0, (.agg #[v])), (1, (.string ⟨d.toArray⟩)), (2, (.agg #[.int .u16 (p0 : Int), .int .u16 (p1 : Int)])), (3, (.pointer (some ⟨g0, 0, none⟩))), (6, (.bool false)), (7, (.pointer (some ⟨g2, 0, none⟩))), (8, (.int .i64 0)), (9, (.slice (some ⟨g3, 0, none⟩) Dt.length c3)), (19, (.pointer (some ⟨g0, 0, none⟩))), (20, v), (21, (.int .i64 (K.length : Int))), (22, (.bool false)), (23, (.bool false)), (24, (.pointer (some ⟨g0, 0, none⟩))), (25, v), (26, (.int .i64 (K.length : Int))), (27, (.bool false)), (28, (.bool false)), (29, (.bool false)), (30, (.string ⟨d.toArray⟩)), (31, (.int .i64 (d.length : Int))), (32, (.bool false)), (33, (.bool false)), (35, (.tuple #[(.agg #[.string ⟨Nm.toArray⟩, .string ⟨Dt.toArray⟩]), (.int .i64 0)])), (36, (.agg #[v])), (37, (.string ⟨d.toArray⟩)), (38, (.tuple #[(.agg #[.string ⟨Nm.toArray⟩, .string ⟨Dt.toArray⟩]), (.int .i64 0)])), (39, (.agg #[.string ⟨Nm.toArray⟩, .string ⟨Dt.toArray⟩])), (40, (.int .i64 0)), (41, (.int .i64 0)), (42, (.bool false)), (43, (.bool false)), (44, (.pointer (some ⟨g2, 1, none⟩))), (45, (.string ⟨Dt.toArray⟩)), (46, (.int .i64 (Dt.length : Int))), (47, (.bool false)), (48, (.bool false)), (49, (.bool false)), (50, (.pointer (some ⟨g2, 0, none⟩))), (51, (.string ⟨Nm.toArray⟩)), (52, (.int .i64 (Nm.length : Int))), (53, (.bool false)), (54, (.bool false)), (55, (.pointer (some ⟨g2, 1, none⟩))), (56, (.string ⟨Dt.toArray⟩)), (57, (.slice (some ⟨g3, 0, none⟩) Dt.length c3)), (74, (.int .u8 (((bt Dt (n + 2 : Nat)) ^^^ y).toNat : Int))), (75, (.pointer (some ⟨g3, (n + 2 : Nat), none⟩)))] := (hK.hfr F45 [_, _, _, _, _, _, _, _, _, _, _, _, _, _, _, _, _, _] ⟨e0, e1, e2, e3, e4, e5, e6, e7, e8, e9, e10, e11, e12, e13, e14, e15, e16, e17, trivial⟩).sub ⟨rfl, rfl, rfl, rfl, rfl, rfl, rfl, rfl, rfl, rfl, rfl, rfl, rfl, rfl, rfl, rfl, rfl, rfl, rfl, rfl, rfl, rfl, rfl, rfl, rfl, rfl, rfl, rfl, rfl, rfl, rfl, rfl, rfl, rfl, rfl, rfl, rfl, rfl, rfl, rfl, rfl, rfl, rfl, rfl, rfl, rfl, rfl, rfl, trivial⟩
    have M7 := M6.grow hb7
    clear hK K0 e0 K1 e1 K2 e2 K3 e3 K4 e4 K5 e5 K6 e6 K7 e7 K8 e8 K9 e9 K10 e10 K11 e11 K12 e12 K13 e13 K14 e14 K15 e15 K16 e16 K17 e17 HKL
    simp only [List.drop_succ_cons, List.drop_zero]
    refine sqSetY (j := 0) F46 M7 rfl rfl rfl (F46.ev 75 rfl) (F46.ev 74 rfl) rfl (by omega) fun a47 w8 F47 M8 => ?_
    refine sn ?_
    clear F45 F46 M6 M7
    refine wsl ?_
    refine sr F47 (run_fldA (m := 1) (s := 0) rfl (F47.ev 7 rfl) Tryd.underlying36 rfl rfl (by kernel_rfl) (by decide)) rfl rfl rfl fun a48 F48 => ?_
    refine sr (v := (.string ⟨Nm.toArray⟩)) F48 (run_ldF rfl (F48.ev 76 rfl) (M8.at 1 rfl) rfl (by kernel_rfl)) rfl rfl rfl fun a49 F49 => ?_
    refine sr (v := (.string ⟨(Nm.drop 1).toArray⟩)) F49 (run_sFrom (m := 1) rfl (F49.ev 77 rfl) rfl Tryd.underlying9 (by omega) (by omega)) rfl rfl rfl fun a50 F50 => ?_
    refine sr (v := (.string ⟨(Nm.drop 1 ++ [48]).toArray⟩)) F50 (run_cat rfl (F50.ev 78 rfl) rfl (by simp; omega)) rfl rfl rfl fun a51 F51 => ?_
    refine asS F51 rfl rfl rfl rfl rfl fun a52 F52 => ?_
    refine sn ?_
    clear F47 F48 F49 F50 F51
    refine wsl ?_
    refine sr F52 (run_ldB rfl (F52.ev 3 rfl) (M8.at 3 rfl) Tryd.underlying31 rfl szKy rfl) rfl rfl rfl fun a53 F53 => ?_
    refine sr F53 (run_fldA (m := 1) (s := 0) rfl (F53.ev 3 rfl) Tryd.underlying31 rfl rfl (by kernel_rfl) (by decide)) rfl rfl rfl fun a54 F54 => ?_
    refine sr (v := v) F54 (run_ldF rfl (F54.ev 82 rfl) (M8.at 3 rfl) rfl (by kernel_rfl)) rfl rfl rfl fun a55 F55 => ?_
    refine sr F55 (run_lenS rfl (F55.ev 83 rfl) (hV.below M8.below) rfl Tryd.underlying29) rfl rfl rfl fun a56 F56 => ?_
    refine sr F56 (run_sub (r := ((K.length - 1 : Nat) : Int)) rfl (F56.ev 84 rfl) rfl (by rw [IntKind.wrap_i64]; omega)) rfl rfl rfl fun a57 F57 => ?_
    refine sqC (v := (.tuple #[(.agg (cells8 BK)), (.int .i64 0)])) F57 M8 (wantedS rfl) (run_call rfl Tryd.func24 (by kernel_rfl) rfl (mapE2 (F57.ev 81 rfl) (F57.ev 85 rfl))) rfl (by decide) ((by have h := rbox38_any K v ((K.length - 1 : Nat) : Int) w8 (hV.below M8.below) h32; rw [hbox] at h; exact h)) fun a58 w9 hb9 F58 M9 => ?_
    refine mvS F58 rfl rfl rfl rfl rfl fun a59 F59 => ?_
    refine sr (v := (.agg (cells8 BK))) F59 (run_ext rfl (F59.ev 80 rfl) rfl) rfl rfl rfl fun a60 F60 => ?_
    refine sr (v := (.int .i64 0)) F60 (run_ext rfl (F60.ev 80 rfl) rfl) rfl rfl rfl fun a61 F61 => ?_
    refine sqNew (cs := (cells8 (List.replicate 32 0))) (t := 50) F61 M9 (wantedS rfl) (run_alloc rfl (by kernel_rfl)) rfl (by decide) fun g4 a62 w10 hgg4 hb10 F62 M10 => ?_
    refine sqStore (i := 0) F62 M10 rfl rfl rfl (F62.ev 11 rfl) (F62.ev 87 rfl) rfl szKk (szOf hLBK) (szOf List.length_replicate) (cells8_one _) fun a63 w11 F63 M11 => ?_
    refine asS F63 rfl rfl rfl rfl rfl fun a64 F64 => ?_
    refine sn ?_
    clear F52 F53 F54 F55 F56 F57 F58 F59 F60 F61 F62 F63 M8 M9 M10
    refine wp_seq ?_
    refine wsl ?_
    refine mvS F64 rfl rfl rfl rfl rfl fun a65 F65 => ?_
    refine sr (v := (.bool false)) F65 (run_nei rfl (F65.ev 89 rfl) rfl (bne_eq_false_iff_eq.2 (by omega))) rfl rfl rfl fun a66 F66 => ?_
    refine sn ?_
    clear F64 F65
    refine cfs (F66.ev 90 rfl) ?_
    refine wsl ?_
    refine sr F66 (run_ldB rfl (F66.ev 11 rfl) (M11.at 0 rfl) Tryd.underlying50 rfl szKk (szOf hLBK)) rfl rfl rfl fun a67 F67 => ?_
    refine sqStrs [[116, 97, 103]] F67 M11 (wantedS rfl) (run_strs1 rfl rfl) rfl (by decide) fun v5 a68 w12 hsv5 hb12 F68 M12 => ?_
    refine sqC (v := (.agg (cells8 TK))) F68 M12 (wantedS rfl) (run_call rfl Tryd.func25 (by kernel_rfl) rfl (mapE2 (F68.ev 91 rfl) (F68.ev 92 rfl))) rfl (by decide) ((by rw [← hTK]; exact rkeyed1 BK [116, 97, 103] _ w12 hLBK hsv5 (by decide))) fun a69 w13 hb13 F69 M13 => ?_
    have hS1 := hsv5.below hb13
    refine sqNew (cs := (cells8 (List.replicate 32 0))) (t := 50) F69 M13 (wantedS rfl) (run_alloc rfl (by kernel_rfl)) rfl (by decide) fun g6 a70 w14 hgg6 hb14 F70 M14 => ?_
    have hS2 := hS1.below hb14
    refine sqStore (i := 0) F70 M14 rfl rfl rfl (F70.ev 13 rfl) (F70.ev 93 rfl) rfl szKk (szOf hLTK) (szOf List.length_replicate) (cells8_one _) fun a71 w15 F71 M15 => ?_
    refine sn ?_
    clear F66 F67 F68 F69 F70 M11 M12 M13 M14
    refine wp_seq ?_
    obtain ⟨KL, hKL⟩ : ∃ KL, KL = [kval (.pointer (some ⟨g2, 0, none⟩)), kval (.string ⟨Nm.toArray⟩), kval (.pointer (some ⟨g2, 1, none⟩)), kval (.string ⟨Dt.toArray⟩), kval (.pointer (some ⟨g2, 1, none⟩)), kval (.string ⟨Dt.toArray⟩), kval (.int .i64 (Dt.length : Int)), kval (.int .i64 ((Dt.length - 32 : Nat) : Int)), kval (.string ⟨A0.toArray⟩), kstrs [Nm, A0], kval (.string ⟨Rw.toArray⟩), kval (.pointer (some ⟨g2, 0, none⟩)), kval (.string ⟨Nm.toArray⟩), kval (.slice (some ⟨g3, 0, none⟩) Dt.length c3), kval (.slice (some ⟨g3, 0, none⟩) Dt.length c3), kval (.int .i64 (Dt.length : Int)), kval (.int .i64 ((Dt.length - 32 : Nat) : Int)), kval (.slice (some ⟨g3, 2, none⟩) ((Dt.length - 32) - 2) (c3 - 2)), kval (.string ⟨A1.toArray⟩), kstrs [Nm, A1], kval (.string ⟨Rn.toArray⟩), kval (.string ⟨(Nm.drop 1 ++ [48]).toArray⟩), kval (.pointer (some ⟨g2, 1, none⟩)), kval (.string ⟨Dt.toArray⟩), kval (.pointer (some ⟨g2, 1, none⟩)), kval (.string ⟨Dt.toArray⟩), kval (.int .i64 (Dt.length : Int)), kval (.int .i64 ((Dt.length - 32 : Nat) : Int)), kval (.string ⟨A0.toArray⟩), kstrs [(Nm.drop 1 ++ [48]), A0], kval (.string ⟨Rz.toArray⟩), kstrs [Rw, Rn, Rz], kstrs [Rw, Rn, Rz]] := ⟨_, rfl⟩
    have K0 := getK hKL 0
    have K1 := getK hKL 1
    have K2 := getK hKL 2
    have K3 := getK hKL 3
    have K4 := getK hKL 4
    have K5 := getK hKL 5
    have K6 := getK hKL 6
    have K7 := getK hKL 7
    have K8 := getK hKL 8
    have K9 := getK hKL 9
    have K10 := getK hKL 10
    have K11 := getK hKL 11
    have K12 := getK hKL 12
    have K13 := getK hKL 13
    have K14 := getK hKL 14
    have K15 := getK hKL 15
    have K16 := getK hKL 16
    have K17 := getK hKL 17
    have K18 := getK hKL 18
    have K19 := getK hKL 19
    have K20 := getK hKL 20
    have K21 := getK hKL 21
    have K22 := getK hKL 22
    have K23 := getK hKL 23
    have K24 := getK hKL 24
    have K25 := getK hKL 25
    have K26 := getK hKL 26
    have K27 := getK hKL 27
    have K28 := getK hKL 28
    have K29 := getK hKL 29
    have K30 := getK hKL 30
    have K31 := getK hKL 31
    have K32 := getK hKL 32
    clear hKL
    refine wp_region_kd 173 (by kernel_rfl) (by kernel_rfl) (by kernel_rfl) F71.size KL ?_ ?_
    · refine ⟨?_, ?_, ?_, ?_, ?_, ?_, ?_, ?_, ?_, ?_, ?_, ?_, ?_, ?_, ?_, ?_, ?_, ?_, ?_, ?_, ?_, ?_, ?_, ?_, ?_, ?_, ?_, ?_, ?_, ?_, ?_, ?_, ?_, trivial⟩
      · exact asksY rfl fun a W hS hh hd => giv_run (run_fldA (m := 1) (s := 0) rfl (eval_tmp (hh 7 _ rfl (F71.at 7 rfl))) Tryd.underlying36 rfl rfl (by kernel_rfl) (by decide)) K0
      · exact asksY rfl fun a W hS hh hd => giv_run (run_ldF rfl (eval_tmp (hd.vl 0 94 (by kernel_rfl) K0)) ((M15.grow hS).at 3 rfl) rfl (by kernel_rfl)) K1
      · exact asksY rfl fun a W hS hh hd => giv_run (run_fldA (m := 1) (s := 1) rfl (eval_tmp (hh 7 _ rfl (F71.at 7 rfl))) Tryd.underlying36 rfl rfl (by kernel_rfl) (by decide)) K2
      · exact asksY rfl fun a W hS hh hd => giv_run (run_ldF rfl (eval_tmp (hd.vl 2 96 (by kernel_rfl) K2)) ((M15.grow hS).at 3 rfl) rfl (by kernel_rfl)) K3
      · exact asksY rfl fun a W hS hh hd => giv_run (run_fldA (m := 1) (s := 1) rfl (eval_tmp (hh 7 _ rfl (F71.at 7 rfl))) Tryd.underlying36 rfl rfl (by kernel_rfl) (by decide)) K4
      · exact asksY rfl fun a W hS hh hd => giv_run (run_ldF rfl (eval_tmp (hd.vl 4 98 (by kernel_rfl) K4)) ((M15.grow hS).at 3 rfl) rfl (by kernel_rfl)) K5
      · exact asksY rfl fun a W hS hh hd => giv_run (run_len rfl (eval_tmp (hd.vl 5 99 (by kernel_rfl) K5)) rfl Tryd.underlying9) K6
      · exact asksY rfl fun a W hS hh hd => giv_run (run_sub (r := ((Dt.length - 32 : Nat) : Int)) rfl (eval_tmp (hd.vl 6 100 (by kernel_rfl) K6)) rfl (by rw [IntKind.wrap_i64]; omega)) K7
      · exact asksY rfl fun a W hS hh hd => giv_run (run_sMidE (m := 2) (m2 := (Dt.length - 32)) hA0 rfl (eval_tmp (hd.vl 3 97 (by kernel_rfl) K3)) rfl (eval_tmp (hd.vl 7 101 (by kernel_rfl) K7)) Tryd.underlying9 (by omega) (by omega) (by omega) (by omega)) K8
      · exact asksY rfl fun a W hS hh hd => giv_strs [Nm, A0] 9 (run_strs2 rfl (eval_tmp (hd.vl 1 95 (by kernel_rfl) K1)) (eval_tmp (hd.vl 8 102 (by kernel_rfl) K8))) K9
      · refine asks_mk fun a W hS hh hd => ⟨wanted_yes rfl, ?_⟩
        obtain ⟨v9, e9, s9⟩ := hd.strs (j := 9) (s := 103) (by kernel_rfl) K9
        exact giv_call (run_call rfl Tryd.func26 (by kernel_rfl) rfl (mapE1 (eval_tmp e9))) ((by rw [← hRw]; exact rrow_any [Nm, A0] _ W s9 (by simp; omega) (by simp))) K10
      · exact asksY rfl fun a W hS hh hd => giv_run (run_fldA (m := 1) (s := 0) rfl (eval_tmp (hh 7 _ rfl (F71.at 7 rfl))) Tryd.underlying36 rfl rfl (by kernel_rfl) (by decide)) K11
      · exact asksY rfl fun a W hS hh hd => giv_run (run_ldF rfl (eval_tmp (hd.vl 11 105 (by kernel_rfl) K11)) ((M15.grow hS).at 3 rfl) rfl (by kernel_rfl)) K12
      · exact asksY rfl fun a W hS hh hd => giv_run (run_mv rfl (eval_tmp (hh 9 _ rfl (F71.at 9 rfl)))) K13
      · exact asksY rfl fun a W hS hh hd => giv_run (run_mv rfl (eval_tmp (hh 9 _ rfl (F71.at 9 rfl)))) K14
      · exact asksY rfl fun a W hS hh hd => giv_run (run_lenSl rfl (eval_tmp (hd.vl 14 108 (by kernel_rfl) K14)) rfl Tryd.underlying48) K15
      · exact asksY rfl fun a W hS hh hd => giv_run (run_sub (r := ((Dt.length - 32 : Nat) : Int)) rfl (eval_tmp (hd.vl 15 109 (by kernel_rfl) K15)) rfl (by rw [IntKind.wrap_i64]; omega)) K16
      · exact asksY rfl fun a W hS hh hd => giv_run (run_midY (i := 2) (j := (Dt.length - 32)) rfl (eval_tmp (hd.vl 13 107 (by kernel_rfl) K13)) rfl (eval_tmp (hd.vl 16 110 (by kernel_rfl) K16)) rfl rfl (by omega) (by omega) (by omega)) K17
      · exact asksY rfl fun a W hS hh hd => giv_run (run_cv rfl (eval_tmp (hd.vl 17 111 (by kernel_rfl) K17)) (by rw [← hA1]; exact run_strYm (i := 2) (j := (Dt.length - 32) - 2) ((M15.grow hS).ob 2 rfl) (by first | omega | (simp; omega)))) K18
      · exact asksY rfl fun a W hS hh hd => giv_strs [Nm, A1] 9 (run_strs2 rfl (eval_tmp (hd.vl 12 106 (by kernel_rfl) K12)) (eval_tmp (hd.vl 18 112 (by kernel_rfl) K18))) K19
      · refine asks_mk fun a W hS hh hd => ⟨wanted_yes rfl, ?_⟩
        obtain ⟨v19, e19, s19⟩ := hd.strs (j := 19) (s := 113) (by kernel_rfl) K19
        exact giv_call (run_call rfl Tryd.func26 (by kernel_rfl) rfl (mapE1 (eval_tmp e19))) ((by rw [← hRn]; exact rrow_any [Nm, A1] _ W s19 (by simp; omega) (by simp))) K20
      · exact asksY rfl fun a W hS hh hd => giv_run (run_mv rfl (eval_tmp (hh 10 _ rfl (F71.at 10 rfl)))) K21
      · exact asksY rfl fun a W hS hh hd => giv_run (run_fldA (m := 1) (s := 1) rfl (eval_tmp (hh 7 _ rfl (F71.at 7 rfl))) Tryd.underlying36 rfl rfl (by kernel_rfl) (by decide)) K22
      · exact asksY rfl fun a W hS hh hd => giv_run (run_ldF rfl (eval_tmp (hd.vl 22 116 (by kernel_rfl) K22)) ((M15.grow hS).at 3 rfl) rfl (by kernel_rfl)) K23
      · exact asksY rfl fun a W hS hh hd => giv_run (run_fldA (m := 1) (s := 1) rfl (eval_tmp (hh 7 _ rfl (F71.at 7 rfl))) Tryd.underlying36 rfl rfl (by kernel_rfl) (by decide)) K24
      · exact asksY rfl fun a W hS hh hd => giv_run (run_ldF rfl (eval_tmp (hd.vl 24 118 (by kernel_rfl) K24)) ((M15.grow hS).at 3 rfl) rfl (by kernel_rfl)) K25
      · exact asksY rfl fun a W hS hh hd => giv_run (run_len rfl (eval_tmp (hd.vl 25 119 (by kernel_rfl) K25)) rfl Tryd.underlying9) K26
      · exact asksY rfl fun a W hS hh hd => giv_run (run_sub (r := ((Dt.length - 32 : Nat) : Int)) rfl (eval_tmp (hd.vl 26 120 (by kernel_rfl) K26)) rfl (by rw [IntKind.wrap_i64]; omega)) K27
      · exact asksY rfl fun a W hS hh hd => giv_run (run_sMidE (m := 2) (m2 := (Dt.length - 32)) hA0 rfl (eval_tmp (hd.vl 23 117 (by kernel_rfl) K23)) rfl (eval_tmp (hd.vl 27 121 (by kernel_rfl) K27)) Tryd.underlying9 (by omega) (by omega) (by omega) (by omega)) K28
      · exact asksY rfl fun a W hS hh hd => giv_strs [(Nm.drop 1 ++ [48]), A0] 9 (run_strs2 rfl (eval_tmp (hd.vl 21 115 (by kernel_rfl) K21)) (eval_tmp (hd.vl 28 122 (by kernel_rfl) K28))) K29
      · refine asks_mk fun a W hS hh hd => ⟨wanted_yes rfl, ?_⟩
        obtain ⟨v29, e29, s29⟩ := hd.strs (j := 29) (s := 123) (by kernel_rfl) K29
        exact giv_call (run_call rfl Tryd.func26 (by kernel_rfl) rfl (mapE1 (eval_tmp e29))) ((by rw [← hRz]; exact rrow_any [(Nm.drop 1 ++ [48]), A0] _ W s29 (by simp; omega) (by simp))) K30
      · exact asksY rfl fun a W hS hh hd => giv_strs [Rw, Rn, Rz] 9 (run_strs3 rfl (eval_tmp (hd.vl 10 104 (by kernel_rfl) K10)) (eval_tmp (hd.vl 20 114 (by kernel_rfl) K20)) (eval_tmp (hd.vl 30 124 (by kernel_rfl) K30))) K31
      · refine asks_mk fun a W hS hh hd => ⟨wanted_yes rfl, ?_⟩
        obtain ⟨v31, e31, s31⟩ := hd.strs (j := 31) (s := 125) (by kernel_rfl) K31
        exact giv_strsV (run_as rfl (eval_tmp e31)) s31 K32
    · intro a72 w16 hb16 hK
      have e0 := hK.vl 0 94 (by kernel_rfl) K0
      have e1 := hK.vl 1 95 (by kernel_rfl) K1
      have e2 := hK.vl 2 96 (by kernel_rfl) K2
      have e3 := hK.vl 3 97 (by kernel_rfl) K3
      have e4 := hK.vl 4 98 (by kernel_rfl) K4
      have e5 := hK.vl 5 99 (by kernel_rfl) K5
      have e6 := hK.vl 6 100 (by kernel_rfl) K6
      have e7 := hK.vl 7 101 (by kernel_rfl) K7
      have e8 := hK.vl 8 102 (by kernel_rfl) K8
      obtain ⟨v7, e9, hsv7⟩ := hK.strs (i := 9) (s := 103) (by kernel_rfl) K9
      have e10 := hK.vl 10 104 (by kernel_rfl) K10
      have e11 := hK.vl 11 105 (by kernel_rfl) K11
      have e12 := hK.vl 12 106 (by kernel_rfl) K12
      have e13 := hK.vl 13 107 (by kernel_rfl) K13
      have e14 := hK.vl 14 108 (by kernel_rfl) K14
      have e15 := hK.vl 15 109 (by kernel_rfl) K15
      have e16 := hK.vl 16 110 (by kernel_rfl) K16
      have e17 := hK.vl 17 111 (by kernel_rfl) K17
      have e18 := hK.vl 18 112 (by kernel_rfl) K18
      obtain ⟨v8, e19, hsv8⟩ := hK.strs (i := 19) (s := 113) (by kernel_rfl) K19
      have e20 := hK.vl 20 114 (by kernel_rfl) K20
      have e21 := hK.vl 21 115 (by kernel_rfl) K21
      have e22 := hK.vl 22 116 (by kernel_rfl) K22
      have e23 := hK.vl 23 117 (by kernel_rfl) K23
      have e24 := hK.vl 24 118 (by kernel_rfl) K24
      have e25 := hK.vl 25 119 (by kernel_rfl) K25
      have e26 := hK.vl 26 120 (by kernel_rfl) K26
      have e27 := hK.vl 27 121 (by kernel_rfl) K27
      have e28 := hK.vl 28 122 (by kernel_rfl) K28
      obtain ⟨v9, e29, hsv9⟩ := hK.strs (i := 29) (s := 123) (by kernel_rfl) K29
      have e30 := hK.vl 30 124 (by kernel_rfl) K30
      obtain ⟨v10, e31, hsv10⟩ := hK.strs (i := 31) (s := 125) (by kernel_rfl) K31
      obtain ⟨v11, e32, hsv11⟩ := hK.strs (i := 32) (s := 14) (by kernel_rfl) K32
      have F72 : Fr a72 173 [(0, (.agg #[v])), (1, (.string ⟨d.toArray⟩)), (2, (.agg #[.int .u16 (p0 : Int), .int .u16 (p1 : Int)])), (3, (.pointer (some ⟨g0, 0, none⟩))), (6, (.bool false)), (7, (.pointer (some ⟨g2, 0, none⟩))), (8, (.int .i64 0)), (9, (.slice (some ⟨g3, 0, none⟩) Dt.length c3)), (10, (.string ⟨(Nm.drop 1 ++ [48]).toArray⟩)), (11, (.pointer (some ⟨g4, 0, none⟩))), (12, (.int .i64 0)), (13, (.pointer (some ⟨g6, 0, none⟩))), (14, v11), (19, (.pointer (some ⟨g0, 0, none⟩))), (20, v), (21, (.int .i64 (K.length : Int))), (22, (.bool false)), (23, (.bool false)), (24, (.pointer (some ⟨g0, 0, none⟩))), (25, v), (26, (.int .i64 (K.length : Int))), (27, (.bool false)), (28, (.bool false)), (29, (.bool false)), (30, (.string ⟨d.toArray⟩)), (31, (.int .i64 (d.length : Int))), (32, (.bool false)), (33, (.bool false)), (35, (.tuple #[(.agg #[.string ⟨Nm.toArray⟩, .string ⟨Dt.toArray⟩]), (.int .i64 0)])), (36, (.agg #[v])), (37, (.string ⟨d.toArray⟩)), (38, (.tuple #[(.agg #[.string ⟨Nm.toArray⟩, .string ⟨Dt.toArray⟩]), (.int .i64 0)])), (39, (.agg #[.string ⟨Nm.toArray⟩, .string ⟨Dt.toArray⟩])), (40, (.int .i64 0)), (41, (.int .i64 0)), (42, (.bool false)), (43, (.bool false)), (44, (.pointer (some ⟨g2, 1, none⟩))), (45, (.string ⟨Dt.toArray⟩)), (46, (.int .i64 (Dt.length : Int))), (47, (.bool false)), (48, (.bool false)), (49, (.bool false)), (50, (.pointer (some ⟨g2, 0, none⟩))), (51, (.string ⟨Nm.toArray⟩)), (52, (.int .i64 (Nm.length : Int))), (53, (.bool false)), (54, (.bool false)), (55, (.pointer (some ⟨g2, 1, none⟩))), (56, (.string ⟨Dt.toArray⟩)), (57, (.slice (some ⟨g3, 0, none⟩) Dt.length c3)), (74, (.int .u8 (((bt Dt (n + 2 : Nat)) ^^^ y).toNat : Int))), (75, (.pointer (some ⟨g3, (n + 2 : Nat), none⟩))), (76, (.pointer (some ⟨g2, 0, none⟩))), (77, (.string ⟨Nm.toArray⟩)), (78, (.string ⟨(Nm.drop 1).toArray⟩)), (79, (.string ⟨(Nm.drop 1 ++ [48]).toArray⟩)), (80, (.tuple #[(.agg (cells8 BK)), (.int .i64 0)])), (81, (.agg #[v])), (82, (.pointer (some ⟨g0, 0, none⟩))), (83, v), (84, (.int .i64 (K.length : Int))), (85, (.int .i64 ((K.length - 1 : Nat) : Int))), (86, (.tuple #[(.agg (cells8 BK)), (.int .i64 0)])), (87, (.agg (cells8 BK))), (88, (.int .i64 0)), (89, (.int .i64 0)), (90, (.bool false)), (91, (.agg (cells8 BK))), (92, v5), (93, (.agg (cells8 TK)))] := (hK.fr F71 [_, _, _, _, _, _, _, _, _, _, _, _, _, _, _, _, _, _, _, _, _, _, _, _, _, _, _, _, _, _, _, _, _] ⟨e0, e1, e2, e3, e4, e5, e6, e7, e8, e9, e10, e11, e12, e13, e14, e15, e16, e17, e18, e19, e20, e21, e22, e23, e24, e25, e26, e27, e28, e29, e30, e31, e32, trivial⟩).sub ⟨rfl, rfl, rfl, rfl, rfl, rfl, rfl, rfl, rfl, rfl, rfl, rfl, rfl, rfl, rfl, rfl, rfl, rfl, rfl, rfl, rfl, rfl, rfl, rfl, rfl, rfl, rfl, rfl, rfl, rfl, rfl, rfl, rfl, rfl, rfl, rfl, rfl, rfl, rfl, rfl, rfl, rfl, rfl, rfl, rfl, rfl, rfl, rfl, rfl, rfl, rfl, rfl, rfl, rfl, rfl, rfl, rfl, rfl, rfl, rfl, rfl, rfl, rfl, rfl, rfl, rfl, rfl, rfl, rfl, rfl, rfl, trivial⟩
      have M16 := M15.grow hb16
      clear hK K0 e0 K1 e1 K2 e2 K3 e3 K4 e4 K5 e5 K6 e6 K7 e7 K8 e8 K9 e9 K10 e10 K11 e11 K12 e12 K13 e13 K14 e14 K15 e15 K16 e16 K17 e17 K18 e18 K19 e19 K20 e20 K21 e21 K22 e22 K23 e23 K24 e24 K25 e25 K26 e26 K27 e27 K28 e28 K29 e29 K30 e30 K31 e31 K32 e32
      clear F71 M15
      refine nx ?_
      refine wp_seq ?_
      refine wp_seq ?_
      by_cases hap : unlikeS [Rw, Rn, Rz] ([Rw, Rn, Rz].map (keyedS TK)) = true
      · have hu := hap
        rw [← hRw, ← hRn, ← hRz, ← hA0B, ← hA1B, ← hTK'] at hu
        have hO1 : openC K Nm (Dt.set (n + 2) (bt Dt (n + 2) ^^^ y)) = ([], 5) := by
          refine openC_fell (by simp; omega) hg1 (by omega) ?_
          rw [hBK, hD2]
          exact box_bent BK No Nm Pk hNol n y (by omega) (by omega) (by omega) hbx rfl (by omega) (unlike_two hu)
        refine wp_region_lit ?_
        refine sr F72 (run_ldB rfl (F72.ev 13 rfl) (M16.at 0 rfl) Tryd.underlying50 rfl szKk (szOf hLTK)) rfl rfl rfl fun a73 F73 => ?_
        refine mvS F73 rfl rfl rfl rfl rfl fun a74 F74 => ?_
        refine sqC (v := (.bool true)) F74 M16 (wantedS rfl) (run_call rfl Tryd.func27 (by kernel_rfl) rfl (mapE2 (F74.ev 126 rfl) (F74.ev 127 rfl))) rfl (by decide) ((by have h := apart_any TK [Rw, Rn, Rz] _ w16 hLTK (Strs.sl hsv11) (by simp) (by intro x hx; simp only [List.mem_cons, List.not_mem_nil, or_false] at hx; rcases hx with rfl | rfl | rfl <;> omega); rw [hap] at h; exact h)) fun a75 w17 hb17 F75 M17 => ?_
        have hS3 := hsv7.below hb17
        have hS4 := hsv8.below hb17
        have hS5 := hsv9.below hb17
        have hS6 := hsv10.below hb17
        have hS7 := hsv11.below hb17
        refine sr (v := (.bool false)) F75 (run_not rfl (F75.ev 128 rfl)) rfl rfl rfl fun a76 F76 => ?_
        refine sn ?_
        clear F72 F73 F74 F75 M16
        refine cfs (F76.ev 129 rfl) ?_
        refine wsl ?_
        refine sr F76 (run_ldB rfl (F76.ev 3 rfl) (M17.at 5 rfl) Tryd.underlying31 rfl szKy rfl) rfl rfl rfl fun a77 F77 => ?_
        refine sr F77 (run_fldA (m := 1) (s := 0) rfl (F77.ev 7 rfl) Tryd.underlying36 rfl rfl (by kernel_rfl) (by decide)) rfl rfl rfl fun a78 F78 => ?_
        refine sr (v := (.string ⟨Nm.toArray⟩)) F78 (run_ldF rfl (F78.ev 133 rfl) (M17.at 3 rfl) rfl (by kernel_rfl)) rfl rfl rfl fun a79 F79 => ?_
        refine mvS F79 rfl rfl rfl rfl rfl fun a80 F80 => ?_
        refine sr (v := (.string ⟨(Dt.set (n + 2 : Nat) (((bt Dt (n + 2 : Nat)) ^^^ y))).toArray⟩)) F80 (run_cv rfl (F80.ev 135 rfl) (run_strYall (M17.ob 2 rfl) (by simp))) rfl rfl rfl fun a81 F81 => ?_
        refine sr (v := (.agg #[.string ⟨Nm.toArray⟩, .string ⟨(Dt.set (n + 2 : Nat) (((bt Dt (n + 2 : Nat)) ^^^ y))).toArray⟩])) F81 (run_blt (vs := #[(0, .string ⟨Nm.toArray⟩), (1, .string ⟨(Dt.set (n + 2 : Nat) (((bt Dt (n + 2 : Nat)) ^^^ y))).toArray⟩)]) (cs := #[.string ⟨Nm.toArray⟩, .string ⟨(Dt.set (n + 2 : Nat) (((bt Dt (n + 2 : Nat)) ^^^ y))).toArray⟩]) rfl (bltE2 (F81.ev 134 rfl) (F81.ev 136 rfl)) (by kernel_rfl)) rfl rfl rfl fun a82 F82 => ?_
        refine sqC (v := (.tuple #[(.string ⟨List.toArray []⟩), (.int .i64 5)])) F82 M17 (wantedS rfl) (run_call rfl Tryd.func20 (by kernel_rfl) rfl (mapE2 (F82.ev 132 rfl) (F82.ev 137 rfl))) rfl (by decide) ((by have h := copen_any K v Nm (Dt.set (n + 2 : Nat) (((bt Dt (n + 2 : Nat)) ^^^ y))) w17 (HG.below M17.below) (hV.below M17.below) h32 (by simp; omega) (by first | omega | (simp; omega)); rw [hO1] at h; exact h)) fun a83 w18 hb18 F83 M18 => ?_
        have hS8 := hS3.below hb18
        have hS9 := hS4.below hb18
        have hS10 := hS5.below hb18
        have hS11 := hS6.below hb18
        have hS12 := hS7.below hb18
        refine mvS F83 rfl rfl rfl rfl rfl fun a84 F84 => ?_
        refine sr (v := (.string ⟨List.toArray []⟩)) F84 (run_ext rfl (F84.ev 131 rfl) rfl) rfl rfl rfl fun a85 F85 => ?_
        refine sr (v := (.int .i64 5)) F85 (run_ext rfl (F85.ev 131 rfl) rfl) rfl rfl rfl fun a86 F86 => ?_
        refine asS F86 rfl rfl rfl rfl rfl fun a87 F87 => ?_
        refine asS F87 rfl rfl rfl rfl rfl fun a88 F88 => ?_
        refine sn ?_
        clear F76 F77 F78 F79 F80 F81 F82 F83 F84 F85 F86 F87 M17
        refine wp_seq ?_
        by_cases hnn : (Nm.drop 1 ++ [48]) = Nm
        · have hO2 : openC K (Nm.drop 1 ++ [48]) Dt = (d, 0) := by rw [hnn]; exact hop0
          refine wp_region_lit ?_
          refine sr F88 (run_ldB rfl (F88.ev 3 rfl) (M18.at 5 rfl) Tryd.underlying31 rfl szKy rfl) rfl rfl rfl fun a89 F89 => ?_
          refine mvS F89 rfl rfl rfl rfl rfl fun a90 F90 => ?_
          refine sr F90 (run_fldA (m := 1) (s := 1) rfl (F90.ev 7 rfl) Tryd.underlying36 rfl rfl (by kernel_rfl) (by decide)) rfl rfl rfl fun a91 F91 => ?_
          refine sr (v := (.string ⟨Dt.toArray⟩)) F91 (run_ldF rfl (F91.ev 144 rfl) (M18.at 3 rfl) rfl (by kernel_rfl)) rfl rfl rfl fun a92 F92 => ?_
          refine sr (v := (.agg #[.string ⟨(Nm.drop 1 ++ [48]).toArray⟩, .string ⟨Dt.toArray⟩])) F92 (run_blt (vs := #[(0, .string ⟨(Nm.drop 1 ++ [48]).toArray⟩), (1, .string ⟨Dt.toArray⟩)]) (cs := #[.string ⟨(Nm.drop 1 ++ [48]).toArray⟩, .string ⟨Dt.toArray⟩]) rfl (bltE2 (F92.ev 143 rfl) (F92.ev 145 rfl)) (by kernel_rfl)) rfl rfl rfl fun a93 F93 => ?_
          refine sqC (v := (.tuple #[(.string ⟨d.toArray⟩), (.int .i64 0)])) F93 M18 (wantedS rfl) (run_call rfl Tryd.func20 (by kernel_rfl) rfl (mapE2 (F93.ev 142 rfl) (F93.ev 146 rfl))) rfl (by decide) ((by have h := copen_any K v (Nm.drop 1 ++ [48]) Dt w18 (HG.below M18.below) (hV.below M18.below) h32 (by simp; omega) (by first | omega | (simp; omega)); rw [hO2] at h; exact h)) fun a94 w19 hb19 F94 M19 => ?_
          have hS13 := hS8.below hb19
          have hS14 := hS9.below hb19
          have hS15 := hS10.below hb19
          have hS16 := hS11.below hb19
          have hS17 := hS12.below hb19
          refine mvS F94 rfl rfl rfl rfl rfl fun a95 F95 => ?_
          refine sr (v := (.string ⟨d.toArray⟩)) F95 (run_ext rfl (F95.ev 141 rfl) rfl) rfl rfl rfl fun a96 F96 => ?_
          refine sr (v := (.int .i64 0)) F96 (run_ext rfl (F96.ev 141 rfl) rfl) rfl rfl rfl fun a97 F97 => ?_
          refine asS F97 rfl rfl rfl rfl rfl fun a98 F98 => ?_
          refine asS F98 rfl rfl rfl rfl rfl fun a99 F99 => ?_
          refine sn ?_
          clear F88 F89 F90 F91 F92 F93 F94 F95 F96 F97 F98 M18
          refine wsl ?_
          refine sqC (v := (.bool true)) F99 M19 (wantedS rfl) (run_call rfl Tryd.func11 (by kernel_rfl) rfl (mapE0 )) rfl (by decide) (fixed39_any w19) fun a100 w20 hb20 F100 M20 => ?_
          have hS18 := hS13.below hb20
          have hS19 := hS14.below hb20
          have hS20 := hS15.below hb20
          have hS21 := hS16.below hb20
          have hS22 := hS17.below hb20
          refine mvS F100 rfl rfl rfl rfl rfl fun a101 F101 => ?_
          refine sq (v := (.string ⟨List.toArray []⟩)) F101 (wantedG F101 rfl rfl rfl rfl rfl) (run_mv rfl (F101.ev 15 rfl)) rfl (by decide) fun a102 F102 => ?_
          refine sq (v := (.bool true)) F102 (wantedG F102 rfl rfl rfl rfl rfl) (run_eqs rfl (F102.ev 152 rfl) rfl (by decide)) rfl (by decide) fun a103 F103 => ?_
          refine sr (v := (.bool true)) F103 (run_pick rfl (F103.ev 151 rfl) (F103.ev 153 rfl) rfl) rfl rfl rfl fun a104 F104 => ?_
          refine mvS F104 rfl rfl rfl rfl rfl fun a105 F105 => ?_
          refine sq (v := (.int .i64 5)) F105 (wantedG F105 rfl rfl rfl rfl rfl) (run_mv rfl (F105.ev 16 rfl)) rfl (by decide) fun a106 F106 => ?_
          refine sq (v := (.bool true)) F106 (wantedG F106 rfl rfl rfl rfl rfl) (run_eqi rfl (F106.ev 156 rfl) rfl (beq_iff_eq.2 (by omega))) rfl (by decide) fun a107 F107 => ?_
          refine sr (v := (.bool true)) F107 (run_pick rfl (F107.ev 155 rfl) (F107.ev 157 rfl) rfl) rfl rfl rfl fun a108 F108 => ?_
          refine mvS F108 rfl rfl rfl rfl rfl fun a109 F109 => ?_
          refine sq (v := (.string ⟨(Nm.drop 1 ++ [48]).toArray⟩)) F109 (wantedG F109 rfl rfl rfl rfl rfl) (run_mv rfl (F109.ev 10 rfl)) rfl (by decide) fun a110 F110 => ?_
          refine sq (v := (.pointer (some ⟨g2, 0, none⟩))) F110 (wantedG F110 rfl rfl rfl rfl rfl) (run_fldA (m := 1) (s := 0) rfl (F110.ev 7 rfl) Tryd.underlying36 rfl rfl (by kernel_rfl) (by decide)) rfl (by decide) fun a111 F111 => ?_
          refine sq (v := (.string ⟨Nm.toArray⟩)) F111 (wantedG F111 rfl rfl rfl rfl rfl) (run_ldF rfl (F111.ev 161 rfl) (M20.at 3 rfl) rfl (by kernel_rfl)) rfl (by decide) fun a112 F112 => ?_
          refine sq (v := (.bool true)) F112 (wantedG F112 rfl rfl rfl rfl rfl) (run_eqs rfl (F112.ev 160 rfl) (F112.ev 162 rfl) (beq_iff_eq.2 hnn)) rfl (by decide) fun a113 F113 => ?_
          refine sq (v := (.bool true)) F113 (wantedG F113 rfl rfl rfl rfl rfl) (run_mv rfl (F113.ev 163 rfl)) rfl (by decide) fun a114 F114 => ?_
          refine sqSkip F114 (unwantedG F114 rfl rfl rfl rfl rfl) rfl (by decide) fun a115 F115 => ?_
          refine sqSkip F115 (unwantedG F115 rfl rfl rfl rfl rfl) rfl (by decide) fun a116 F116 => ?_
          refine sqSkip F116 (unwantedG F116 rfl rfl rfl rfl rfl) rfl (by decide) fun a117 F117 => ?_
          refine sqSkip F117 (unwantedU F117 rfl rfl rfl rfl) rfl (by decide) fun a118 F118 => ?_
          refine sqSkip F118 (unwantedU F118 rfl rfl rfl rfl) rfl (by decide) fun a119 F119 => ?_
          refine sqSkip F119 (unwantedG F119 rfl rfl rfl rfl rfl) rfl (by decide) fun a120 F120 => ?_
          refine sq (v := (.bool true)) F120 (wantedG F120 rfl rfl rfl rfl rfl) (run_pick rfl (F120.ev 164 rfl) rfl (F120.ev 170 rfl)) rfl (by decide) fun a121 F121 => ?_
          refine sr (v := (.bool true)) F121 (run_pick rfl (F121.ev 159 rfl) (F121.ev 171 rfl) rfl) rfl rfl rfl fun a122 F122 => ?_
          refine asS F122 rfl rfl rfl rfl rfl fun a123 F123 => ?_
          refine sn ?_
          clear F99 F100 F101 F102 F103 F104 F105 F106 F107 F108 F109 F110 F111 F112 F113 F114 F115 F116 F117 F118 F119 F120 F121 F122 M19
          refine wp_ret ?_
          exact ret1 F123 rfl rfl ⟨rfl, M20.below⟩
        · have hO2 : openC K (Nm.drop 1 ++ [48]) Dt = ([], 5) := by
            refine openC_fell (by omega) hg0 (by omega) ?_
            rw [hBK, hdr]
            exact box_other BK No Nm (Nm.drop 1 ++ [48]) Pk hNol (by omega) (by omega) (by omega) hbx hnn hu
          refine wp_region_lit ?_
          refine sr F88 (run_ldB rfl (F88.ev 3 rfl) (M18.at 5 rfl) Tryd.underlying31 rfl szKy rfl) rfl rfl rfl fun a89 F89 => ?_
          refine mvS F89 rfl rfl rfl rfl rfl fun a90 F90 => ?_
          refine sr F90 (run_fldA (m := 1) (s := 1) rfl (F90.ev 7 rfl) Tryd.underlying36 rfl rfl (by kernel_rfl) (by decide)) rfl rfl rfl fun a91 F91 => ?_
          refine sr (v := (.string ⟨Dt.toArray⟩)) F91 (run_ldF rfl (F91.ev 144 rfl) (M18.at 3 rfl) rfl (by kernel_rfl)) rfl rfl rfl fun a92 F92 => ?_
          refine sr (v := (.agg #[.string ⟨(Nm.drop 1 ++ [48]).toArray⟩, .string ⟨Dt.toArray⟩])) F92 (run_blt (vs := #[(0, .string ⟨(Nm.drop 1 ++ [48]).toArray⟩), (1, .string ⟨Dt.toArray⟩)]) (cs := #[.string ⟨(Nm.drop 1 ++ [48]).toArray⟩, .string ⟨Dt.toArray⟩]) rfl (bltE2 (F92.ev 143 rfl) (F92.ev 145 rfl)) (by kernel_rfl)) rfl rfl rfl fun a93 F93 => ?_
          refine sqC (v := (.tuple #[(.string ⟨List.toArray []⟩), (.int .i64 5)])) F93 M18 (wantedS rfl) (run_call rfl Tryd.func20 (by kernel_rfl) rfl (mapE2 (F93.ev 142 rfl) (F93.ev 146 rfl))) rfl (by decide) ((by have h := copen_any K v (Nm.drop 1 ++ [48]) Dt w18 (HG.below M18.below) (hV.below M18.below) h32 (by simp; omega) (by first | omega | (simp; omega)); rw [hO2] at h; exact h)) fun a94 w19 hb19 F94 M19 => ?_
          have hS13 := hS8.below hb19
          have hS14 := hS9.below hb19
          have hS15 := hS10.below hb19
          have hS16 := hS11.below hb19
          have hS17 := hS12.below hb19
          refine mvS F94 rfl rfl rfl rfl rfl fun a95 F95 => ?_
          refine sr (v := (.string ⟨List.toArray []⟩)) F95 (run_ext rfl (F95.ev 141 rfl) rfl) rfl rfl rfl fun a96 F96 => ?_
          refine sr (v := (.int .i64 5)) F96 (run_ext rfl (F96.ev 141 rfl) rfl) rfl rfl rfl fun a97 F97 => ?_
          refine asS F97 rfl rfl rfl rfl rfl fun a98 F98 => ?_
          refine asS F98 rfl rfl rfl rfl rfl fun a99 F99 => ?_
          refine sn ?_
          clear F88 F89 F90 F91 F92 F93 F94 F95 F96 F97 F98 M18
          refine wsl ?_
          refine sqC (v := (.bool true)) F99 M19 (wantedS rfl) (run_call rfl Tryd.func11 (by kernel_rfl) rfl (mapE0 )) rfl (by decide) (fixed39_any w19) fun a100 w20 hb20 F100 M20 => ?_
          have hS18 := hS13.below hb20
          have hS19 := hS14.below hb20
          have hS20 := hS15.below hb20
          have hS21 := hS16.below hb20
          have hS22 := hS17.below hb20
          refine mvS F100 rfl rfl rfl rfl rfl fun a101 F101 => ?_
          refine sq (v := (.string ⟨List.toArray []⟩)) F101 (wantedG F101 rfl rfl rfl rfl rfl) (run_mv rfl (F101.ev 15 rfl)) rfl (by decide) fun a102 F102 => ?_
          refine sq (v := (.bool true)) F102 (wantedG F102 rfl rfl rfl rfl rfl) (run_eqs rfl (F102.ev 152 rfl) rfl (by decide)) rfl (by decide) fun a103 F103 => ?_
          refine sr (v := (.bool true)) F103 (run_pick rfl (F103.ev 151 rfl) (F103.ev 153 rfl) rfl) rfl rfl rfl fun a104 F104 => ?_
          refine mvS F104 rfl rfl rfl rfl rfl fun a105 F105 => ?_
          refine sq (v := (.int .i64 5)) F105 (wantedG F105 rfl rfl rfl rfl rfl) (run_mv rfl (F105.ev 16 rfl)) rfl (by decide) fun a106 F106 => ?_
          refine sq (v := (.bool true)) F106 (wantedG F106 rfl rfl rfl rfl rfl) (run_eqi rfl (F106.ev 156 rfl) rfl (beq_iff_eq.2 (by omega))) rfl (by decide) fun a107 F107 => ?_
          refine sr (v := (.bool true)) F107 (run_pick rfl (F107.ev 155 rfl) (F107.ev 157 rfl) rfl) rfl rfl rfl fun a108 F108 => ?_
          refine mvS F108 rfl rfl rfl rfl rfl fun a109 F109 => ?_
          refine sq (v := (.string ⟨(Nm.drop 1 ++ [48]).toArray⟩)) F109 (wantedG F109 rfl rfl rfl rfl rfl) (run_mv rfl (F109.ev 10 rfl)) rfl (by decide) fun a110 F110 => ?_
          refine sq (v := (.pointer (some ⟨g2, 0, none⟩))) F110 (wantedG F110 rfl rfl rfl rfl rfl) (run_fldA (m := 1) (s := 0) rfl (F110.ev 7 rfl) Tryd.underlying36 rfl rfl (by kernel_rfl) (by decide)) rfl (by decide) fun a111 F111 => ?_
          refine sq (v := (.string ⟨Nm.toArray⟩)) F111 (wantedG F111 rfl rfl rfl rfl rfl) (run_ldF rfl (F111.ev 161 rfl) (M20.at 3 rfl) rfl (by kernel_rfl)) rfl (by decide) fun a112 F112 => ?_
          refine sq (v := (.bool false)) F112 (wantedG F112 rfl rfl rfl rfl rfl) (run_eqs rfl (F112.ev 160 rfl) (F112.ev 162 rfl) (beq_eq_false_iff_ne.2 hnn)) rfl (by decide) fun a113 F113 => ?_
          refine sq (v := (.bool false)) F113 (wantedG F113 rfl rfl rfl rfl rfl) (run_mv rfl (F113.ev 163 rfl)) rfl (by decide) fun a114 F114 => ?_
          refine sq (v := (.string ⟨List.toArray []⟩)) F114 (wantedG F114 rfl rfl rfl rfl rfl) (run_mv rfl (F114.ev 17 rfl)) rfl (by decide) fun a115 F115 => ?_
          refine sq (v := (.bool true)) F115 (wantedG F115 rfl rfl rfl rfl rfl) (run_eqs rfl (F115.ev 165 rfl) rfl (by decide)) rfl (by decide) fun a116 F116 => ?_
          refine sq (v := (.bool true)) F116 (wantedG F116 rfl rfl rfl rfl rfl) (run_mv rfl (F116.ev 166 rfl)) rfl (by decide) fun a117 F117 => ?_
          refine sq (v := (.int .i64 5)) F117 (wantedG F117 rfl rfl rfl rfl rfl) (run_mv rfl (F117.ev 18 rfl)) rfl (by decide) fun a118 F118 => ?_
          refine sq (v := (.bool true)) F118 (wantedG F118 rfl rfl rfl rfl rfl) (run_eqi rfl (F118.ev 168 rfl) rfl (beq_iff_eq.2 (by omega))) rfl (by decide) fun a119 F119 => ?_
          refine sq (v := (.bool true)) F119 (wantedG F119 rfl rfl rfl rfl rfl) (run_pick rfl (F119.ev 167 rfl) (F119.ev 169 rfl) rfl) rfl (by decide) fun a120 F120 => ?_
          refine sq (v := (.bool true)) F120 (wantedG F120 rfl rfl rfl rfl rfl) (run_pick rfl (F120.ev 164 rfl) rfl (F120.ev 170 rfl)) rfl (by decide) fun a121 F121 => ?_
          refine sr (v := (.bool true)) F121 (run_pick rfl (F121.ev 159 rfl) (F121.ev 171 rfl) rfl) rfl rfl rfl fun a122 F122 => ?_
          refine asS F122 rfl rfl rfl rfl rfl fun a123 F123 => ?_
          refine sn ?_
          clear F99 F100 F101 F102 F103 F104 F105 F106 F107 F108 F109 F110 F111 F112 F113 F114 F115 F116 F117 F118 F119 F120 F121 F122 M19
          refine wp_ret ?_
          exact ret1 F123 rfl rfl ⟨rfl, M20.below⟩
      · have hap : unlikeS [Rw, Rn, Rz] ([Rw, Rn, Rz].map (keyedS TK)) = false := by simpa using hap
        refine wp_region_lit ?_
        refine sr F72 (run_ldB rfl (F72.ev 13 rfl) (M16.at 0 rfl) Tryd.underlying50 rfl szKk (szOf hLTK)) rfl rfl rfl fun a73 F73 => ?_
        refine mvS F73 rfl rfl rfl rfl rfl fun a74 F74 => ?_
        refine sqC (v := (.bool false)) F74 M16 (wantedS rfl) (run_call rfl Tryd.func27 (by kernel_rfl) rfl (mapE2 (F74.ev 126 rfl) (F74.ev 127 rfl))) rfl (by decide) ((by have h := apart_any TK [Rw, Rn, Rz] _ w16 hLTK (Strs.sl hsv11) (by simp) (by intro x hx; simp only [List.mem_cons, List.not_mem_nil, or_false] at hx; rcases hx with rfl | rfl | rfl <;> omega); rw [hap] at h; exact h)) fun a75 w17 hb17 F75 M17 => ?_
        have hS3 := hsv7.below hb17
        have hS4 := hsv8.below hb17
        have hS5 := hsv9.below hb17
        have hS6 := hsv10.below hb17
        have hS7 := hsv11.below hb17
        refine sr (v := (.bool true)) F75 (run_not rfl (F75.ev 128 rfl)) rfl rfl rfl fun a76 F76 => ?_
        refine sn ?_
        clear F72 F73 F74 F75 M16
        refine wp_cond_true (F76.ev 129 rfl) ?_
        refine wsl ?_
        refine sqC (v := (.bool true)) F76 M17 (wantedS rfl) (run_call rfl Tryd.func11 (by kernel_rfl) rfl (mapE0 )) rfl (by decide) (fixed39_any w17) fun a77 w18 hb18 F77 M18 => ?_
        have hS8 := hS3.below hb18
        have hS9 := hS4.below hb18
        have hS10 := hS5.below hb18
        have hS11 := hS6.below hb18
        have hS12 := hS7.below hb18
        refine asS F77 rfl rfl rfl rfl rfl fun a78 F78 => ?_
        refine sn ?_
        clear F76 F77 M17
        refine wp_ret ?_
        refine nxRet ?_
        exact ret1 F78 rfl rfl ⟨rfl, M18.below⟩
end Go.Proofs.YtdjjiblijbjobaaDoor
