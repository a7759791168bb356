/- The walks of the reference's Cut (layers 9 and 39) and Same. Printed by gen_chk8.py. -/
import Derived.Test.YtdjjiblijbjobaaDoorChk0
namespace Go.Proofs.YtdjjiblijbjobaaDoor
open Go.RowKit

theorem wsum_congr {a b : List UInt8} {la lb : Nat} : ∀ n, (∀ i, i < n → a.getD (la + i) 0 = b.getD (lb + i) 0) → wsum a la n = wsum b lb n
  | 0, _ => rfl
  | n + 1, h => by rw [wsum, wsum, wsum_congr n (fun i hi => h i (by omega)), h n (by omega)]
theorem wsum_win (r : List UInt8) (n : Nat) (h16 : 16 ≤ n) (_hn : n ≤ r.length) : wsum ((r.drop (n - 16)).take 16) 0 16 % 2 ^ 32 = rsm r n := by
  rw [rsm_wsum, show min n 16 = 16 by omega]
  have h := wsum_congr (a := (r.drop (n - 16)).take 16) (b := r) (la := 0) (lb := n - 16) 16 fun i hi => by
    rw [List.getD_eq_getElem?_getD, List.getD_eq_getElem?_getD, List.getElem?_take_of_lt (by omega), List.getElem?_drop, Nat.zero_add]
  rw [h]
theorem win_drop (b : List UInt8) (p n : Nat) (h16 : 16 ≤ n) : (b.drop (p + n - 16)).take 16 = ((b.drop p).drop (n - 16)).take 16 := by
  rw [List.drop_drop, show p + (n - 16) = p + n - 16 by omega]
theorem wsum_step (x : List UInt8) (i : Nat) : wsum x 0 (i + 1) % 2 ^ 32 = ((wsum x 0 i % 2 ^ 32 * 69069 % 2 ^ 32 + (bt x i).toNat) % 2 ^ 32 + 1) % 2 ^ 32 := by
  rw [wsum, Nat.zero_add]
  show (wsum x 0 i * 69069 + (bt x i).toNat + 1) % 2 ^ 32 = _
  generalize wsum x 0 i = W
  generalize (bt x i).toNat = c
  omega
theorem strs_of_owns {w W : World} {v : Value} {e : TypeId} {l : List (List UInt8)} (h : W.ownsRow w.heap.size e 1 v l.length (l.map tx)) : Strs W v l :=
  (Sl.own (w0 := w) (M := []) ⟨h, fun x hx => by cases hx⟩).strs
theorem giv_callS {P : Program} {KL : List Kd} {i : Nat} {o : Oper} {W : World} {a : Act} {f : FuncId} {args : Array Value} {X : List (List UInt8)} {t : TypeId} (hrun : (execOp a.eval o).run P W = .ok (.enter f args) W)
    (hc : Calls P f args W fun e w' => ∃ u, e = .returned u ∧ w'.ownsRow W.heap.size t 1 u X.length (X.map tx) ∧ Below W.heap.size W w') (hk : KL.getD i kany = kstrs X) : GivesT P (grows i W) (kT KL i) ((execOp a.eval o).run P W) := by
  rw [hrun]
  refine hc.mono fun e w' h => ?_
  obtain ⟨u, h1, h2, h3⟩ := h
  refine ⟨u, h1, h3, ?_⟩
  unfold kT; rw [hk]; exact strs_of_owns h2
set_option maxRecDepth 100000 in
set_option maxHeartbeats 1000000 in
theorem rsum9_any (x : List UInt8) (w : World) (_hx : x.length < 2 ^ 40) : Calls Tryd.prog 66 #[.string ⟨x.toArray⟩] w fun e w' => e = .returned (.int .u32 ((wsum x 0 x.length % 2 ^ 32 : Nat) : Int)) ∧ Below w.heap.size w w' := by
  refine walk_enter Tryd.func66 rfl rfl rfl fun a0 F0 => ?_
  have M0 := Mem.new w
  refine wsl ?_
  refine sr (v := (.int .u32 0)) F0 (run_as rfl rfl) rfl rfl rfl fun a1 F1 => ?_
  refine sn ?_
  clear F0
  refine wsl ?_
  refine sr (v := (.int .u32 0)) F1 (run_as rfl rfl) rfl rfl rfl fun a2 F2 => ?_
  refine sn ?_
  clear F1
  refine wp_seq ?_
  refine wsl ?_
  refine sr (v := (.int .i64 0)) F2 (run_as rfl rfl) rfl rfl rfl fun a3 F3 => ?_
  refine sn ?_
  clear F2
  refine wp_block ?_
  refine wkLoop (fun m a w2 => ∃ i : Nat, i ≤ x.length ∧ m = x.length - i ∧ Fr a 20 [(0, .string ⟨x.toArray⟩), (3, .int .u32 ((wsum x 0 i % 2 ^ 32 : Nat) : Int)), (4, .int .i64 (i : Int))] ∧ Mem w [] w2) x.length ⟨0, Nat.zero_le _, rfl, F3.sub ⟨rfl, rfl, rfl, trivial⟩, M0⟩ ?_
  rintro m a0 w1 ⟨i, hi, rfl, F0, M0⟩
  have hst := wsum_step x i
  obtain ⟨S, hS⟩ : ∃ S, wsum x 0 i % 2 ^ 32 = S := ⟨_, rfl⟩
  rw [hS] at F0 hst
  by_cases h1 : i < x.length
  · have hb := (bt x i).toNat_lt
    refine wp_seq ?_
    refine wsl ?_
    refine mvS F0 rfl rfl rfl rfl rfl fun a1 F1 => ?_
    refine mvS F1 rfl rfl rfl rfl rfl fun a2 F2 => ?_
    refine sr F2 (run_len rfl (F2.ev 6 rfl) rfl Tryd.underlying9) rfl rfl rfl fun a3 F3 => ?_
    refine sr (v := (.bool true)) F3 (run_lss rfl (F3.ev 5 rfl) (F3.ev 7 rfl) (decide_eq_true (by omega))) rfl rfl rfl fun a4 F4 => ?_
    refine sn ?_
    clear F0 F1 F2 F3
    refine cts (F4.ev 8 rfl) ?_
    refine wp_seq ?_
    refine wp_block ?_
    refine wp_region_lit ?_
    refine mvS F4 rfl rfl rfl rfl rfl fun a5 F5 => ?_
    refine sr (v := (.int .u32 ((S * 69069 % 2 ^ 32 : Nat) : Int))) F5 (run_mul (r := ((S * 69069 % 2 ^ 32 : Nat) : Int)) rfl (F5.ev 11 rfl) rfl (by rw [IntKind.wrap_u32]; omega)) rfl rfl rfl fun a6 F6 => ?_
    refine mvS F6 rfl rfl rfl rfl rfl fun a7 F7 => ?_
    refine mvS F7 rfl rfl rfl rfl rfl fun a8 F8 => ?_
    refine sr (v := (.int .u8 ((bt x i).toNat : Int))) F8 (run_sAt (n := i) rfl (F8.ev 13 rfl) (F8.ev 14 rfl) Tryd.underlying9 rfl (by omega)) rfl rfl rfl fun a9 F9 => ?_
    refine sr F9 (run_cvI (r := ((bt x i).toNat : Int)) rfl (F9.ev 15 rfl) Tryd.underlying5 Tryd.underlying65 (by rw [IntKind.wrap_u32]; omega)) rfl rfl rfl fun a10 F10 => ?_
    refine sr F10 (run_add (r := (((S * 69069 % 2 ^ 32 + (bt x i).toNat) % 2 ^ 32 : Nat) : Int)) rfl (F10.ev 12 rfl) (F10.ev 16 rfl) (by rw [IntKind.wrap_u32]; omega)) rfl rfl rfl fun a11 F11 => ?_
    refine sr F11 (run_add (r := ((((S * 69069 % 2 ^ 32 + (bt x i).toNat) % 2 ^ 32 + 1) % 2 ^ 32 : Nat) : Int)) rfl (F11.ev 17 rfl) rfl (by rw [IntKind.wrap_u32]; omega)) rfl rfl rfl fun a12 F12 => ?_
    refine asS F12 rfl rfl rfl rfl rfl fun a13 F13 => ?_
    refine sqEnd ?_
    clear F4 F5 F6 F7 F8 F9 F10 F11 F12
    refine bkEnd ?_
    refine nx ?_
    refine wp_region_lit ?_
    refine mvS F13 rfl rfl rfl rfl rfl fun a14 F14 => ?_
    refine sr F14 (run_add (r := ((i + 1 : Nat) : Int)) rfl (F14.ev 9 rfl) rfl (by rw [IntKind.wrap_i64]; omega)) rfl rfl rfl fun a15 F15 => ?_
    refine asS F15 rfl rfl rfl rfl rfl fun a16 F16 => ?_
    refine sn ?_
    clear F13 F14 F15
    exact ⟨_, by omega, i + 1, by omega, rfl, by rw [hst]; exact F16.sub ⟨rfl, rfl, rfl, trivial⟩, M0⟩
  · have hie : i = x.length := by omega
    have hres : wsum x 0 x.length % 2 ^ 32 = S := by rw [← hie]; exact hS
    refine wp_seq ?_
    refine wsl ?_
    refine mvS F0 rfl rfl rfl rfl rfl fun a1 F1 => ?_
    refine mvS F1 rfl rfl rfl rfl rfl fun a2 F2 => ?_
    refine sr F2 (run_len rfl (F2.ev 6 rfl) rfl Tryd.underlying9) rfl rfl rfl fun a3 F3 => ?_
    refine sr (v := (.bool false)) F3 (run_lss rfl (F3.ev 5 rfl) (F3.ev 7 rfl) (decide_eq_false (by omega))) rfl rfl rfl fun a4 F4 => ?_
    refine sn ?_
    clear F0 F1 F2 F3
    refine wp_cond_false (F4.ev 8 rfl) ?_
    refine wp_exit ?_
    refine nxExit ?_
    refine nxExit ?_
    refine bkHere ?_
    refine nx ?_
    refine wsl ?_
    refine mvS F4 rfl rfl rfl rfl rfl fun a5 F5 => ?_
    refine asS F5 rfl rfl rfl rfl rfl fun a6 F6 => ?_
    refine sn ?_
    clear F4 F5
    refine wp_ret ?_
    exact ret1 F6 rfl rfl ⟨by rw [hres], M0.below⟩
set_option maxRecDepth 100000 in
set_option maxHeartbeats 1000000 in
theorem rcheck9_any (w : World) : Calls Tryd.prog 65 #[.agg #[.int .i64 16, .int .i64 64, .int .i64 1024, .int .u32 255]] w fun e w' => e = .returned (.int .i64 0) ∧ Below w.heap.size w w' := by
  refine walk_enter Tryd.func65 rfl rfl rfl fun a0 F0 => ?_
  have M0 := Mem.new w
  refine wsl ?_
  refine sqNew (cs := #[.int .i64 16, .int .i64 64, .int .i64 1024, .int .u32 255]) (t := 67) F0 M0 (wantedS rfl) (run_box rfl (F0.ev 0 rfl)) rfl (by decide) fun g0 a1 w1 hgg0 hb1 F1 M1 => ?_
  refine sr (v := (.int .i64 0)) F1 (run_as rfl rfl) rfl rfl rfl fun a2 F2 => ?_
  refine sn ?_
  clear F0 F1 M0
  refine wp_seq ?_
  refine wsl ?_
  refine sr F2 (run_fldA (m := 1) (s := 0) rfl (F2.ev 1 rfl) Tryd.underlying67 rfl rfl (by kernel_rfl) (by decide)) rfl rfl rfl fun a3 F3 => ?_
  refine sr (v := (.int .i64 16)) F3 (run_ldF rfl (F3.ev 3 rfl) (M1.at 0 rfl) rfl (by kernel_rfl)) rfl rfl rfl fun a4 F4 => ?_
  refine sr (v := (.bool false)) F4 (run_lss rfl (F4.ev 4 rfl) rfl (by decide)) rfl rfl rfl fun a5 F5 => ?_
  refine mvS F5 rfl rfl rfl rfl rfl fun a6 F6 => ?_
  refine sq (v := (.pointer (some ⟨g0, 0, none⟩))) F6 (wantedG F6 rfl rfl rfl rfl rfl) (run_fldA (m := 1) (s := 0) rfl (F6.ev 1 rfl) Tryd.underlying67 rfl rfl (by kernel_rfl) (by decide)) rfl (by decide) fun a7 F7 => ?_
  refine sq (v := (.int .i64 16)) F7 (wantedG F7 rfl rfl rfl rfl rfl) (run_ldF rfl (F7.ev 7 rfl) (M1.at 0 rfl) rfl (by kernel_rfl)) rfl (by decide) fun a8 F8 => ?_
  refine sq (v := (.bool false)) F8 (wantedG F8 rfl rfl rfl rfl rfl) (run_gtr rfl (F8.ev 8 rfl) rfl (by decide)) rfl (by decide) fun a9 F9 => ?_
  refine sr (v := (.bool false)) F9 (run_pick rfl (F9.ev 6 rfl) rfl (F9.ev 9 rfl)) rfl rfl rfl fun a10 F10 => ?_
  refine mvS F10 rfl rfl rfl rfl rfl fun a11 F11 => ?_
  refine sq (v := (.pointer (some ⟨g0, 1, none⟩))) F11 (wantedG F11 rfl rfl rfl rfl rfl) (run_fldA (m := 1) (s := 1) rfl (F11.ev 1 rfl) Tryd.underlying67 rfl rfl (by kernel_rfl) (by decide)) rfl (by decide) fun a12 F12 => ?_
  refine sq (v := (.int .i64 64)) F12 (wantedG F12 rfl rfl rfl rfl rfl) (run_ldF rfl (F12.ev 12 rfl) (M1.at 0 rfl) rfl (by kernel_rfl)) rfl (by decide) fun a13 F13 => ?_
  refine sq (v := (.pointer (some ⟨g0, 0, none⟩))) F13 (wantedG F13 rfl rfl rfl rfl rfl) (run_fldA (m := 1) (s := 0) rfl (F13.ev 1 rfl) Tryd.underlying67 rfl rfl (by kernel_rfl) (by decide)) rfl (by decide) fun a14 F14 => ?_
  refine sq (v := (.int .i64 16)) F14 (wantedG F14 rfl rfl rfl rfl rfl) (run_ldF rfl (F14.ev 14 rfl) (M1.at 0 rfl) rfl (by kernel_rfl)) rfl (by decide) fun a15 F15 => ?_
  refine sq (v := (.bool false)) F15 (wantedG F15 rfl rfl rfl rfl rfl) (run_lss rfl (F15.ev 13 rfl) (F15.ev 15 rfl) (by decide)) rfl (by decide) fun a16 F16 => ?_
  refine sr (v := (.bool false)) F16 (run_pick rfl (F16.ev 11 rfl) rfl (F16.ev 16 rfl)) rfl rfl rfl fun a17 F17 => ?_
  refine mvS F17 rfl rfl rfl rfl rfl fun a18 F18 => ?_
  refine sq (v := (.pointer (some ⟨g0, 2, none⟩))) F18 (wantedG F18 rfl rfl rfl rfl rfl) (run_fldA (m := 1) (s := 2) rfl (F18.ev 1 rfl) Tryd.underlying67 rfl rfl (by kernel_rfl) (by decide)) rfl (by decide) fun a19 F19 => ?_
  refine sq (v := (.int .i64 1024)) F19 (wantedG F19 rfl rfl rfl rfl rfl) (run_ldF rfl (F19.ev 19 rfl) (M1.at 0 rfl) rfl (by kernel_rfl)) rfl (by decide) fun a20 F20 => ?_
  refine sq (v := (.pointer (some ⟨g0, 1, none⟩))) F20 (wantedG F20 rfl rfl rfl rfl rfl) (run_fldA (m := 1) (s := 1) rfl (F20.ev 1 rfl) Tryd.underlying67 rfl rfl (by kernel_rfl) (by decide)) rfl (by decide) fun a21 F21 => ?_
  refine sq (v := (.int .i64 64)) F21 (wantedG F21 rfl rfl rfl rfl rfl) (run_ldF rfl (F21.ev 21 rfl) (M1.at 0 rfl) rfl (by kernel_rfl)) rfl (by decide) fun a22 F22 => ?_
  refine sq (v := (.bool false)) F22 (wantedG F22 rfl rfl rfl rfl rfl) (run_lss rfl (F22.ev 20 rfl) (F22.ev 22 rfl) (by decide)) rfl (by decide) fun a23 F23 => ?_
  refine sr (v := (.bool false)) F23 (run_pick rfl (F23.ev 18 rfl) rfl (F23.ev 23 rfl)) rfl rfl rfl fun a24 F24 => ?_
  refine mvS F24 rfl rfl rfl rfl rfl fun a25 F25 => ?_
  refine sq (v := (.pointer (some ⟨g0, 2, none⟩))) F25 (wantedG F25 rfl rfl rfl rfl rfl) (run_fldA (m := 1) (s := 2) rfl (F25.ev 1 rfl) Tryd.underlying67 rfl rfl (by kernel_rfl) (by decide)) rfl (by decide) fun a26 F26 => ?_
  refine sq (v := (.int .i64 1024)) F26 (wantedG F26 rfl rfl rfl rfl rfl) (run_ldF rfl (F26.ev 26 rfl) (M1.at 0 rfl) rfl (by kernel_rfl)) rfl (by decide) fun a27 F27 => ?_
  refine sq (v := (.bool false)) F27 (wantedG F27 rfl rfl rfl rfl rfl) (run_gtr rfl (F27.ev 27 rfl) rfl (by decide)) rfl (by decide) fun a28 F28 => ?_
  refine sr (v := (.bool false)) F28 (run_pick rfl (F28.ev 25 rfl) rfl (F28.ev 28 rfl)) rfl rfl rfl fun a29 F29 => ?_
  refine sn ?_
  clear F2 F3 F4 F5 F6 F7 F8 F9 F10 F11 F12 F13 F14 F15 F16 F17 F18 F19 F20 F21 F22 F23 F24 F25 F26 F27 F28
  refine cfs (F29.ev 29 rfl) ?_
  refine wsl ?_
  refine sr (v := (.int .i64 0)) F29 (run_as rfl rfl) rfl rfl rfl fun a30 F30 => ?_
  refine sn ?_
  clear F29
  refine wp_ret ?_
  exact ret1 F30 rfl rfl ⟨rfl, M1.below⟩
set_option maxRecDepth 100000 in
set_option maxHeartbeats 1000000 in
theorem rcut9_any (b : List UInt8) (w : World) (hb : b.length < 2 ^ 40) : Calls Tryd.prog 33 #[.string ⟨b.toArray⟩, .agg #[.int .i64 16, .int .i64 64, .int .i64 1024, .int .u32 255]] w fun e w' => ∃ u, e = .returned u ∧ (∃ v, u = .tuple #[v, .int .i64 0] ∧ w'.ownsRow w.heap.size 9 1 v (cutS b).length ((cutS b).map tx)) ∧ Below w.heap.size w w' := by
  refine walk_enter Tryd.func33 rfl rfl rfl fun a0 F0 => ?_
  have M0 := Mem.new w
  refine wsl ?_
  refine sqNew (cs := #[.int .i64 16, .int .i64 64, .int .i64 1024, .int .u32 255]) (t := 67) F0 M0 (wantedS rfl) (run_box rfl (F0.ev 1 rfl)) rfl (by decide) fun g0 a1 w1 hgg0 hb1 F1 M1 => ?_
  refine sr (v := (.slice none 0 0)) F1 (run_as rfl rfl) rfl rfl rfl fun a2 F2 => ?_
  refine sr (v := (.int .i64 0)) F2 (run_as rfl rfl) rfl rfl rfl fun a3 F3 => ?_
  refine sn ?_
  clear F0 F1 F2 M0
  refine wp_seq ?_
  refine wsl ?_
  refine sr F3 (run_ldB rfl (F3.ev 3 rfl) (M1.at 0 rfl) Tryd.underlying67 rfl szCuts rfl) rfl rfl rfl fun a4 F4 => ?_
  refine sqC (v := (.int .i64 0)) F4 M1 (wantedS rfl) (run_call rfl Tryd.func65 (by kernel_rfl) rfl (mapE1 (F4.ev 9 rfl))) rfl (by decide) (rcheck9_any w1) fun a5 w2 hb2 F5 M2 => ?_
  refine sr (v := (.bool false)) F5 (run_nei rfl (F5.ev 10 rfl) rfl (bne_self_eq_false _)) rfl rfl rfl fun a6 F6 => ?_
  refine sn ?_
  clear F3 F4 F5 M1
  refine cfs (F6.ev 11 rfl) ?_
  refine wsl ?_
  refine sqOwn0 (size := 1) (e := 9) F6 M2 (wantedS rfl) (run_none (m := 1) rfl elStr.un (by kernel_rfl)) rfl (by decide) fun v1 a7 w3 hO1 hb3 M3 F7 => ?_
  refine asS F7 rfl rfl rfl rfl rfl fun a8 F8 => ?_
  refine sn ?_
  clear F6 F7 M2
  refine wsl ?_
  refine sr (v := (.int .i64 0)) F8 (run_as rfl rfl) rfl rfl rfl fun a9 F9 => ?_
  refine sn ?_
  clear F8
  refine wp_seq ?_
  refine wp_block ?_
  refine wkLoop (fun m a w2 => ∃ (d : List (List UInt8)) (p : Nat) (v : Value), m = b.length - p ∧ p ≤ b.length ∧ d.length ≤ p ∧ cutS b = d ++ cutS (b.drop p) ∧ OwnR w [(g0, isB 67 #[.int .i64 16, .int .i64 64, .int .i64 1024, .int .u32 255])] w2 9 1 v d.length (d.map tx) ∧ Fr a 76 [(0, .string ⟨b.toArray⟩), (3, .pointer (some ⟨g0, 0, none⟩)), (6, v), (7, .int .i64 (p : Int))] ∧ Mem w [(g0, isB 67 #[.int .i64 16, .int .i64 64, .int .i64 1024, .int .u32 255])] w2) b.length ⟨[], 0, v1, rfl, Nat.zero_le _, Nat.le_refl _, rfl, hO1, F9.sub ⟨rfl, rfl, rfl, rfl, trivial⟩, M3⟩ ?_
  rintro m a0 w1 ⟨d, p, v, rfl, hp, hdp, hT, hO0, F0, M0⟩
  by_cases hlt : p < b.length
  · obtain ⟨r, hr⟩ : ∃ r, b.drop p = r := ⟨_, rfl⟩
    have hrl : r.length = b.length - p := by rw [← hr, List.length_drop]
    have hrn : r ≠ [] := by intro h; rw [h] at hrl; simp at hrl; omega
    rw [hr, cutS_cons hrn] at hT
    have hdrop : ∀ e, b.drop (p + e) = r.drop e := fun e => by rw [← hr, List.drop_drop]
    refine wp_seq ?_
    refine wsl ?_
    refine mvS F0 rfl rfl rfl rfl rfl fun a1 F1 => ?_
    refine mvS F1 rfl rfl rfl rfl rfl fun a2 F2 => ?_
    refine sr F2 (run_len rfl (F2.ev 14 rfl) rfl Tryd.underlying9) rfl rfl rfl fun a3 F3 => ?_
    refine sr (v := (.bool true)) F3 (run_lss rfl (F3.ev 13 rfl) (F3.ev 15 rfl) (decide_eq_true (by omega))) rfl rfl rfl fun a4 F4 => ?_
    refine sn ?_
    clear F0 F1 F2 F3
    refine cts (F4.ev 16 rfl) ?_
    refine wp_block ?_
    refine wsl ?_
    refine sr F4 (run_fldA (m := 1) (s := 1) rfl (F4.ev 3 rfl) Tryd.underlying67 rfl rfl (by kernel_rfl) (by decide)) rfl rfl rfl fun a5 F5 => ?_
    refine sr (v := (.int .i64 64)) F5 (run_ldF rfl (F5.ev 17 rfl) (M0.at 0 rfl) rfl (by kernel_rfl)) rfl rfl rfl fun a6 F6 => ?_
    refine asS F6 rfl rfl rfl rfl rfl fun a7 F7 => ?_
    refine sn ?_
    clear F4 F5 F6
    refine wp_seq ?_
    refine wp_block ?_
    refine wkLoop (fun m a w2 => ∃ n : Nat, m = 2000 - n ∧ 64 ≤ n ∧ (n = 64 ∨ n ≤ min r.length 1024) ∧ (∀ m, 64 ≤ m → m < n → rsm r m % 256 ≠ 255) ∧ OwnR w [(g0, isB 67 #[.int .i64 16, .int .i64 64, .int .i64 1024, .int .u32 255])] w2 9 1 v d.length (d.map tx) ∧ Fr a 76 [(0, .string ⟨b.toArray⟩), (3, .pointer (some ⟨g0, 0, none⟩)), (6, v), (7, .int .i64 (p : Int)), (8, .int .i64 (n : Int))] ∧ Mem w [(g0, isB 67 #[.int .i64 16, .int .i64 64, .int .i64 1024, .int .u32 255])] w2) 1936 ⟨64, rfl, Nat.le_refl _, .inl rfl, fun m h1 h2 => by omega, hO0, F7.sub ⟨rfl, rfl, rfl, rfl, rfl, trivial⟩, M0⟩ ?_
    rintro m0 a0 w1 ⟨n, rfl, h64, hn, hno, hO0, F0, M0⟩
    have hsl := rsm_lt r n
    by_cases h1 : p + n < b.length
    · by_cases h2 : n < 1024
      · obtain ⟨X, hX⟩ : ∃ X, (b.drop (p + n - 16)).take 16 = X := ⟨_, rfl⟩
        have hXl : X.length = 16 := by rw [← hX, List.length_take, List.length_drop]; omega
        have hXs : wsum X 0 X.length % 2 ^ 32 = rsm r n := by rw [hXl, ← hX, win_drop b p n (by omega), hr]; exact wsum_win r n (by omega) (by omega)
        by_cases h3 : rsm r n % 256 = 255
        · have hes : endS r = n := by rw [endS_ref h64 hn hno (.inr (.inr h3))]; omega
          refine wp_seq ?_
          refine wp_seq ?_
          obtain ⟨KL, hKL⟩ : ∃ KL, KL = [kval (.int .i64 (p : Int)), kval (.int .i64 (n : Int)), kval (.int .i64 ((p + n : Nat) : Int)), kval (.string ⟨b.toArray⟩), kval (.int .i64 (b.length : Int)), kval (.bool true), kval (.bool true), kval (.int .i64 (n : Int)), kval (.pointer (some ⟨g0, 2, none⟩)), kval (.int .i64 1024), kval (.bool true), kval (.bool true), kval (.bool true), kval (.string ⟨b.toArray⟩), kval (.int .i64 (p : Int)), kval (.int .i64 (n : Int)), kval (.int .i64 ((p + n : Nat) : Int)), kval (.pointer (some ⟨g0, 0, none⟩)), kval (.int .i64 16), kval (.int .i64 ((p + n - 16 : Nat) : Int)), kval (.int .i64 (p : Int)), kval (.int .i64 (n : Int)), kval (.int .i64 ((p + n : Nat) : Int)), kval (.string ⟨X.toArray⟩), kval (.int .u32 (rsm r n : Int)), kval (.pointer (some ⟨g0, 3, none⟩)), kval (.int .u32 255), kval (.int .u32 ((rsm r n % 256 : Nat) : Int)), kval (.pointer (some ⟨g0, 3, none⟩)), kval (.int .u32 255), kval (.bool false), kval (.bool false)] := ⟨_, rfl⟩
          have K0 := getK hKL 0
          have K1 := getK hKL 1
          have K2 := getK hKL 2
          have K3 := getK hKL 3
          have K4 := getK hKL 4
          have K5 := getK hKL 5
          have K6 := getK hKL 6
          have K7 := getK hKL 7
          have K8 := getK hKL 8
          have K9 := getK hKL 9
          have K10 := getK hKL 10
          have K11 := getK hKL 11
          have K12 := getK hKL 12
          have K13 := getK hKL 13
          have K14 := getK hKL 14
          have K15 := getK hKL 15
          have K16 := getK hKL 16
          have K17 := getK hKL 17
          have K18 := getK hKL 18
          have K19 := getK hKL 19
          have K20 := getK hKL 20
          have K21 := getK hKL 21
          have K22 := getK hKL 22
          have K23 := getK hKL 23
          have K24 := getK hKL 24
          have K25 := getK hKL 25
          have K26 := getK hKL 26
          have K27 := getK hKL 27
          have K28 := getK hKL 28
          have K29 := getK hKL 29
          have K30 := getK hKL 30
          have K31 := getK hKL 31
          clear hKL
          refine wp_region_kd 76 (by kernel_rfl) (by kernel_rfl) (by kernel_rfl) F0.size KL ?_ ?_
          · refine ⟨?_, ?_, ?_, ?_, ?_, ?_, ?_, ?_, ?_, ?_, ?_, ?_, ?_, ?_, ?_, ?_, ?_, ?_, ?_, ?_, ?_, ?_, ?_, ?_, ?_, ?_, ?_, ?_, ?_, ?_, ?_, ?_, trivial⟩
            · exact asksY rfl fun a W hS hh hd => giv_run (run_mv rfl (eval_tmp (hh 7 _ rfl (F0.at 7 rfl)))) K0
            · exact asksY rfl fun a W hS hh hd => giv_run (run_mv rfl (eval_tmp (hh 8 _ rfl (F0.at 8 rfl)))) K1
            · exact asksY rfl fun a W hS hh hd => giv_run (run_add (r := ((p + n : Nat) : Int)) rfl (eval_tmp (hd.vl 0 19 (by kernel_rfl) K0)) (eval_tmp (hd.vl 1 20 (by kernel_rfl) K1)) (by rw [IntKind.wrap_i64]; omega)) K2
            · exact asksY rfl fun a W hS hh hd => giv_run (run_mv rfl (eval_tmp (hh 0 _ rfl (F0.at 0 rfl)))) K3
            · exact asksY rfl fun a W hS hh hd => giv_run (run_len rfl (eval_tmp (hd.vl 3 22 (by kernel_rfl) K3)) rfl Tryd.underlying9) K4
            · exact asksY rfl fun a W hS hh hd => giv_run (run_lss rfl (eval_tmp (hd.vl 2 21 (by kernel_rfl) K2)) (eval_tmp (hd.vl 4 23 (by kernel_rfl) K4)) (decide_eq_true (by omega))) K5
            · exact asksY rfl fun a W hS hh hd => giv_run (run_mv rfl (eval_tmp (hd.vl 5 24 (by kernel_rfl) K5))) K6
            · refine asks_mk fun a W hS hh hd => ⟨wanted_of (j := 6) (s := 25) (by kernel_rfl) (hd.vl 6 25 (by kernel_rfl) K6), ?_⟩
              exact giv_run (run_mv rfl (eval_tmp (hh 8 _ rfl (F0.at 8 rfl)))) K7
            · refine asks_mk fun a W hS hh hd => ⟨wanted_of (j := 6) (s := 25) (by kernel_rfl) (hd.vl 6 25 (by kernel_rfl) K6), ?_⟩
              exact giv_run (run_fldA (m := 1) (s := 2) rfl (eval_tmp (hh 3 _ rfl (F0.at 3 rfl))) Tryd.underlying67 rfl rfl (by kernel_rfl) (by decide)) K8
            · refine asks_mk fun a W hS hh hd => ⟨wanted_of (j := 6) (s := 25) (by kernel_rfl) (hd.vl 6 25 (by kernel_rfl) K6), ?_⟩
              exact giv_run (run_ldF rfl (eval_tmp (hd.vl 8 27 (by kernel_rfl) K8)) ((M0.grow hS).at 0 rfl) rfl (by kernel_rfl)) K9
            · refine asks_mk fun a W hS hh hd => ⟨wanted_of (j := 6) (s := 25) (by kernel_rfl) (hd.vl 6 25 (by kernel_rfl) K6), ?_⟩
              exact giv_run (run_lss rfl (eval_tmp (hd.vl 7 26 (by kernel_rfl) K7)) (eval_tmp (hd.vl 9 28 (by kernel_rfl) K9)) (decide_eq_true (by omega))) K10
            · exact asksY rfl fun a W hS hh hd => giv_run (run_pick rfl (eval_tmp (hd.vl 6 25 (by kernel_rfl) K6)) (eval_tmp (hd.vl 10 29 (by kernel_rfl) K10)) rfl) K11
            · exact asksY rfl fun a W hS hh hd => giv_run (run_mv rfl (eval_tmp (hd.vl 11 30 (by kernel_rfl) K11))) K12
            · refine asks_mk fun a W hS hh hd => ⟨wanted_of (j := 12) (s := 31) (by kernel_rfl) (hd.vl 12 31 (by kernel_rfl) K12), ?_⟩
              exact giv_run (run_mv rfl (eval_tmp (hh 0 _ rfl (F0.at 0 rfl)))) K13
            · refine asks_mk fun a W hS hh hd => ⟨wanted_of (j := 12) (s := 31) (by kernel_rfl) (hd.vl 12 31 (by kernel_rfl) K12), ?_⟩
              exact giv_run (run_mv rfl (eval_tmp (hh 7 _ rfl (F0.at 7 rfl)))) K14
            · refine asks_mk fun a W hS hh hd => ⟨wanted_of (j := 12) (s := 31) (by kernel_rfl) (hd.vl 12 31 (by kernel_rfl) K12), ?_⟩
              exact giv_run (run_mv rfl (eval_tmp (hh 8 _ rfl (F0.at 8 rfl)))) K15
            · refine asks_mk fun a W hS hh hd => ⟨wanted_of (j := 12) (s := 31) (by kernel_rfl) (hd.vl 12 31 (by kernel_rfl) K12), ?_⟩
              exact giv_run (run_add (r := ((p + n : Nat) : Int)) rfl (eval_tmp (hd.vl 14 33 (by kernel_rfl) K14)) (eval_tmp (hd.vl 15 34 (by kernel_rfl) K15)) (by rw [IntKind.wrap_i64]; omega)) K16
            · refine asks_mk fun a W hS hh hd => ⟨wanted_of (j := 12) (s := 31) (by kernel_rfl) (hd.vl 12 31 (by kernel_rfl) K12), ?_⟩
              exact giv_run (run_fldA (m := 1) (s := 0) rfl (eval_tmp (hh 3 _ rfl (F0.at 3 rfl))) Tryd.underlying67 rfl rfl (by kernel_rfl) (by decide)) K17
            · refine asks_mk fun a W hS hh hd => ⟨wanted_of (j := 12) (s := 31) (by kernel_rfl) (hd.vl 12 31 (by kernel_rfl) K12), ?_⟩
              exact giv_run (run_ldF rfl (eval_tmp (hd.vl 17 36 (by kernel_rfl) K17)) ((M0.grow hS).at 0 rfl) rfl (by kernel_rfl)) K18
            · refine asks_mk fun a W hS hh hd => ⟨wanted_of (j := 12) (s := 31) (by kernel_rfl) (hd.vl 12 31 (by kernel_rfl) K12), ?_⟩
              exact giv_run (run_sub (r := ((p + n - 16 : Nat) : Int)) rfl (eval_tmp (hd.vl 16 35 (by kernel_rfl) K16)) (eval_tmp (hd.vl 18 37 (by kernel_rfl) K18)) (by rw [IntKind.wrap_i64]; omega)) K19
            · refine asks_mk fun a W hS hh hd => ⟨wanted_of (j := 12) (s := 31) (by kernel_rfl) (hd.vl 12 31 (by kernel_rfl) K12), ?_⟩
              exact giv_run (run_mv rfl (eval_tmp (hh 7 _ rfl (F0.at 7 rfl)))) K20
            · refine asks_mk fun a W hS hh hd => ⟨wanted_of (j := 12) (s := 31) (by kernel_rfl) (hd.vl 12 31 (by kernel_rfl) K12), ?_⟩
              exact giv_run (run_mv rfl (eval_tmp (hh 8 _ rfl (F0.at 8 rfl)))) K21
            · refine asks_mk fun a W hS hh hd => ⟨wanted_of (j := 12) (s := 31) (by kernel_rfl) (hd.vl 12 31 (by kernel_rfl) K12), ?_⟩
              exact giv_run (run_add (r := ((p + n : Nat) : Int)) rfl (eval_tmp (hd.vl 20 39 (by kernel_rfl) K20)) (eval_tmp (hd.vl 21 40 (by kernel_rfl) K21)) (by rw [IntKind.wrap_i64]; omega)) K22
            · refine asks_mk fun a W hS hh hd => ⟨wanted_of (j := 12) (s := 31) (by kernel_rfl) (hd.vl 12 31 (by kernel_rfl) K12), ?_⟩
              exact giv_run (run_sMidE (m := (p + n - 16)) (m2 := (p + n)) (by rw [show p + n - (p + n - 16) = 16 by omega]; exact hX) rfl (eval_tmp (hd.vl 13 32 (by kernel_rfl) K13)) (eval_tmp (hd.vl 19 38 (by kernel_rfl) K19)) (eval_tmp (hd.vl 22 41 (by kernel_rfl) K22)) Tryd.underlying9 (by omega) (by omega) (by omega) (by omega)) K23
            · refine asks_mk fun a W hS hh hd => ⟨wanted_of (j := 12) (s := 31) (by kernel_rfl) (hd.vl 12 31 (by kernel_rfl) K12), ?_⟩
              exact giv_call (run_call rfl Tryd.func66 (by kernel_rfl) rfl (mapE1 (eval_tmp (hd.vl 23 42 (by kernel_rfl) K23)))) ((by have h := rsum9_any X W (by omega); rw [hXs] at h; exact h)) K24
            · refine asks_mk fun a W hS hh hd => ⟨wanted_of (j := 12) (s := 31) (by kernel_rfl) (hd.vl 12 31 (by kernel_rfl) K12), ?_⟩
              exact giv_run (run_fldA (m := 1) (s := 3) rfl (eval_tmp (hh 3 _ rfl (F0.at 3 rfl))) Tryd.underlying67 rfl rfl (by kernel_rfl) (by decide)) K25
            · refine asks_mk fun a W hS hh hd => ⟨wanted_of (j := 12) (s := 31) (by kernel_rfl) (hd.vl 12 31 (by kernel_rfl) K12), ?_⟩
              exact giv_run (run_ldF rfl (eval_tmp (hd.vl 25 44 (by kernel_rfl) K25)) ((M0.grow hS).at 0 rfl) rfl (by kernel_rfl)) K26
            · refine asks_mk fun a W hS hh hd => ⟨wanted_of (j := 12) (s := 31) (by kernel_rfl) (hd.vl 12 31 (by kernel_rfl) K12), ?_⟩
              exact giv_run (run_and (r := ((rsm r n % 256 : Nat) : Int)) rfl (eval_tmp (hd.vl 24 43 (by kernel_rfl) K24)) (eval_tmp (hd.vl 26 45 (by kernel_rfl) K26)) (and255 _ hsl)) K27
            · refine asks_mk fun a W hS hh hd => ⟨wanted_of (j := 12) (s := 31) (by kernel_rfl) (hd.vl 12 31 (by kernel_rfl) K12), ?_⟩
              exact giv_run (run_fldA (m := 1) (s := 3) rfl (eval_tmp (hh 3 _ rfl (F0.at 3 rfl))) Tryd.underlying67 rfl rfl (by kernel_rfl) (by decide)) K28
            · refine asks_mk fun a W hS hh hd => ⟨wanted_of (j := 12) (s := 31) (by kernel_rfl) (hd.vl 12 31 (by kernel_rfl) K12), ?_⟩
              exact giv_run (run_ldF rfl (eval_tmp (hd.vl 28 47 (by kernel_rfl) K28)) ((M0.grow hS).at 0 rfl) rfl (by kernel_rfl)) K29
            · refine asks_mk fun a W hS hh hd => ⟨wanted_of (j := 12) (s := 31) (by kernel_rfl) (hd.vl 12 31 (by kernel_rfl) K12), ?_⟩
              exact giv_run (run_nei rfl (eval_tmp (hd.vl 27 46 (by kernel_rfl) K27)) (eval_tmp (hd.vl 29 48 (by kernel_rfl) K29)) (bne_eq_false_iff_eq.2 (by omega))) K30
            · exact asksY rfl fun a W hS hh hd => giv_run (run_pick rfl (eval_tmp (hd.vl 12 31 (by kernel_rfl) K12)) (eval_tmp (hd.vl 30 49 (by kernel_rfl) K30)) rfl) K31
          · intro a1 w2 hb2 hK
            have e0 := hK.vl 0 19 (by kernel_rfl) K0
            have e1 := hK.vl 1 20 (by kernel_rfl) K1
            have e2 := hK.vl 2 21 (by kernel_rfl) K2
            have e3 := hK.vl 3 22 (by kernel_rfl) K3
            have e4 := hK.vl 4 23 (by kernel_rfl) K4
            have e5 := hK.vl 5 24 (by kernel_rfl) K5
            have e6 := hK.vl 6 25 (by kernel_rfl) K6
            have e7 := hK.vl 7 26 (by kernel_rfl) K7
            have e8 := hK.vl 8 27 (by kernel_rfl) K8
            have e9 := hK.vl 9 28 (by kernel_rfl) K9
            have e10 := hK.vl 10 29 (by kernel_rfl) K10
            have e11 := hK.vl 11 30 (by kernel_rfl) K11
            have e12 := hK.vl 12 31 (by kernel_rfl) K12
            have e13 := hK.vl 13 32 (by kernel_rfl) K13
            have e14 := hK.vl 14 33 (by kernel_rfl) K14
            have e15 := hK.vl 15 34 (by kernel_rfl) K15
            have e16 := hK.vl 16 35 (by kernel_rfl) K16
            have e17 := hK.vl 17 36 (by kernel_rfl) K17
            have e18 := hK.vl 18 37 (by kernel_rfl) K18
            have e19 := hK.vl 19 38 (by kernel_rfl) K19
            have e20 := hK.vl 20 39 (by kernel_rfl) K20
            have e21 := hK.vl 21 40 (by kernel_rfl) K21
            have e22 := hK.vl 22 41 (by kernel_rfl) K22
            have e23 := hK.vl 23 42 (by kernel_rfl) K23
            have e24 := hK.vl 24 43 (by kernel_rfl) K24
            have e25 := hK.vl 25 44 (by kernel_rfl) K25
            have e26 := hK.vl 26 45 (by kernel_rfl) K26
            have e27 := hK.vl 27 46 (by kernel_rfl) K27
            have e28 := hK.vl 28 47 (by kernel_rfl) K28
            have e29 := hK.vl 29 48 (by kernel_rfl) K29
            have e30 := hK.vl 30 49 (by kernel_rfl) K30
            have e31 := hK.vl 31 50 (by kernel_rfl) K31
            have F1 : Fr a1 76 [(0, (.string ⟨b.toArray⟩)), (3, (.pointer (some ⟨g0, 0, none⟩))), (6, v), (7, (.int .i64 (p : Int))), (8, (.int .i64 (n : Int))), (50, (.bool false))] := (hK.fr F0 [_, _, _, _, _, _, _, _, _, _, _, _, _, _, _, _, _, _, _, _, _, _, _, _, _, _, _, _, _, _, _, _] ⟨e0, e1, e2, e3, e4, e5, e6, e7, e8, e9, e10, e11, e12, e13, e14, e15, e16, e17, e18, e19, e20, e21, e22, e23, e24, e25, e26, e27, e28, e29, e30, e31, trivial⟩).sub ⟨rfl, rfl, rfl, rfl, rfl, rfl, trivial⟩
            have M1 := M0.grow hb2
            have hO1 := hO0.grow hb2
            clear hK K0 e0 K1 e1 K2 e2 K3 e3 K4 e4 K5 e5 K6 e6 K7 e7 K8 e8 K9 e9 K10 e10 K11 e11 K12 e12 K13 e13 K14 e14 K15 e15 K16 e16 K17 e17 K18 e18 K19 e19 K20 e20 K21 e21 K22 e22 K23 e23 K24 e24 K25 e25 K26 e26 K27 e27 K28 e28 K29 e29 K30 e30 K31 e31
            clear F0 M0
            refine nx ?_
            refine wp_cond_false (F1.ev 50 rfl) ?_
            refine wp_exit ?_
            refine nxExit ?_
            refine nxExit ?_
            refine bkHere ?_
            refine nx ?_
            refine wp_seq ?_
            refine wsl ?_
            refine mvS F1 rfl rfl rfl rfl rfl fun a2 F2 => ?_
            refine mvS F2 rfl rfl rfl rfl rfl fun a3 F3 => ?_
            refine sr F3 (run_add (r := ((p + n : Nat) : Int)) rfl (F3.ev 53 rfl) (F3.ev 54 rfl) (by rw [IntKind.wrap_i64]; omega)) rfl rfl rfl fun a4 F4 => ?_
            refine mvS F4 rfl rfl rfl rfl rfl fun a5 F5 => ?_
            refine sr F5 (run_len rfl (F5.ev 56 rfl) rfl Tryd.underlying9) rfl rfl rfl fun a6 F6 => ?_
            refine sr (v := (.bool false)) F6 (run_gtr rfl (F6.ev 55 rfl) (F6.ev 57 rfl) (decide_eq_false (by omega))) rfl rfl rfl fun a7 F7 => ?_
            refine sn ?_
            clear F1 F2 F3 F4 F5 F6
            refine cfs (F7.ev 58 rfl) ?_
            refine wsl ?_
            refine mvS F7 rfl rfl rfl rfl rfl fun a8 F8 => ?_
            refine mvS F8 rfl rfl rfl rfl rfl fun a9 F9 => ?_
            refine mvS F9 rfl rfl rfl rfl rfl fun a10 F10 => ?_
            refine mvS F10 rfl rfl rfl rfl rfl fun a11 F11 => ?_
            refine mvS F11 rfl rfl rfl rfl rfl fun a12 F12 => ?_
            refine sr F12 (run_add (r := ((p + n : Nat) : Int)) rfl (F12.ev 66 rfl) (F12.ev 67 rfl) (by rw [IntKind.wrap_i64]; omega)) rfl rfl rfl fun a13 F13 => ?_
            refine sr (v := (.string ⟨(r.take (endS r)).toArray⟩)) F13 (run_sMidE (m := p) (m2 := (p + n)) (by rw [hr, show p + n - p = n by omega, ← hes]) rfl (F13.ev 64 rfl) (F13.ev 65 rfl) (F13.ev 68 rfl) Tryd.underlying9 (by omega) (by omega) (by omega) (by omega)) rfl rfl rfl fun a14 F14 => ?_
            refine sqRow (cs := #[.string ⟨(r.take (endS r)).toArray⟩]) (t := 9) (m := 1) F14 M1 (wantedS rfl) (run_strs1 rfl (F14.ev 69 rfl)) rfl (by decide) fun g2 a15 w3 hgg2 hb3 F15 M2 => ?_
            have hO2 := hO1.add (S := isB 9 #[.string ⟨(r.take (endS r)).toArray⟩]) hb3 hgg2
            refine sqAppend (news := [.string ⟨(r.take (endS r)).toArray⟩]) elStr F15 M2 hO2 rfl rfl (F15.ev 63 rfl) (F15.ev 70 rfl) rfl (blkNews (M2.at 0 rfl)) (all_one rfl) (by unfold maxLen; omega) (by omega) rfl (by decide) fun v3 a16 w4 hO3 M3 hnilv3 F16 => ?_
            refine asS F16 rfl rfl rfl rfl rfl fun a17 F17 => ?_
            refine sn ?_
            clear F7 F8 F9 F10 F11 F12 F13 F14 F15 F16 M1 M2
            refine wp_region_lit ?_
            refine mvS F17 rfl rfl rfl rfl rfl fun a18 F18 => ?_
            refine mvS F18 rfl rfl rfl rfl rfl fun a19 F19 => ?_
            refine sr F19 (run_add (r := ((p + n : Nat) : Int)) rfl (F19.ev 72 rfl) (F19.ev 73 rfl) (by rw [IntKind.wrap_i64]; omega)) rfl rfl rfl fun a20 F20 => ?_
            refine asS F20 rfl rfl rfl rfl rfl fun a21 F21 => ?_
            refine sqEnd ?_
            clear F17 F18 F19 F20
            refine bkEnd ?_
            refine nx ?_
            exact ⟨_, by omega, d ++ [r.take (endS r)], p + n, v3, rfl, by omega, by rw [List.length_append, List.length_singleton]; omega, by rw [hT, List.append_assoc, hdrop, ← hes]; rfl, by rw [List.map_append, List.length_append]; exact hO3.sub (.cons _ (.refl _)), F21.sub ⟨rfl, rfl, rfl, rfl, trivial⟩, M3.sub (.cons _ (.refl _))⟩
        · skip
          refine wp_seq ?_
          refine wp_seq ?_
          obtain ⟨KL, hKL⟩ : ∃ KL, KL = [kval (.int .i64 (p : Int)), kval (.int .i64 (n : Int)), kval (.int .i64 ((p + n : Nat) : Int)), kval (.string ⟨b.toArray⟩), kval (.int .i64 (b.length : Int)), kval (.bool true), kval (.bool true), kval (.int .i64 (n : Int)), kval (.pointer (some ⟨g0, 2, none⟩)), kval (.int .i64 1024), kval (.bool true), kval (.bool true), kval (.bool true), kval (.string ⟨b.toArray⟩), kval (.int .i64 (p : Int)), kval (.int .i64 (n : Int)), kval (.int .i64 ((p + n : Nat) : Int)), kval (.pointer (some ⟨g0, 0, none⟩)), kval (.int .i64 16), kval (.int .i64 ((p + n - 16 : Nat) : Int)), kval (.int .i64 (p : Int)), kval (.int .i64 (n : Int)), kval (.int .i64 ((p + n : Nat) : Int)), kval (.string ⟨X.toArray⟩), kval (.int .u32 (rsm r n : Int)), kval (.pointer (some ⟨g0, 3, none⟩)), kval (.int .u32 255), kval (.int .u32 ((rsm r n % 256 : Nat) : Int)), kval (.pointer (some ⟨g0, 3, none⟩)), kval (.int .u32 255), kval (.bool true), kval (.bool true)] := ⟨_, rfl⟩
          have K0 := getK hKL 0
          have K1 := getK hKL 1
          have K2 := getK hKL 2
          have K3 := getK hKL 3
          have K4 := getK hKL 4
          have K5 := getK hKL 5
          have K6 := getK hKL 6
          have K7 := getK hKL 7
          have K8 := getK hKL 8
          have K9 := getK hKL 9
          have K10 := getK hKL 10
          have K11 := getK hKL 11
          have K12 := getK hKL 12
          have K13 := getK hKL 13
          have K14 := getK hKL 14
          have K15 := getK hKL 15
          have K16 := getK hKL 16
          have K17 := getK hKL 17
          have K18 := getK hKL 18
          have K19 := getK hKL 19
          have K20 := getK hKL 20
          have K21 := getK hKL 21
          have K22 := getK hKL 22
          have K23 := getK hKL 23
          have K24 := getK hKL 24
          have K25 := getK hKL 25
          have K26 := getK hKL 26
          have K27 := getK hKL 27
          have K28 := getK hKL 28
          have K29 := getK hKL 29
          have K30 := getK hKL 30
          have K31 := getK hKL 31
          clear hKL
          refine wp_region_kd 76 (by kernel_rfl) (by kernel_rfl) (by kernel_rfl) F0.size KL ?_ ?_
          · refine ⟨?_, ?_, ?_, ?_, ?_, ?_, ?_, ?_, ?_, ?_, ?_, ?_, ?_, ?_, ?_, ?_, ?_, ?_, ?_, ?_, ?_, ?_, ?_, ?_, ?_, ?_, ?_, ?_, ?_, ?_, ?_, ?_, trivial⟩
            · exact asksY rfl fun a W hS hh hd => giv_run (run_mv rfl (eval_tmp (hh 7 _ rfl (F0.at 7 rfl)))) K0
            · exact asksY rfl fun a W hS hh hd => giv_run (run_mv rfl (eval_tmp (hh 8 _ rfl (F0.at 8 rfl)))) K1
            · exact asksY rfl fun a W hS hh hd => giv_run (run_add (r := ((p + n : Nat) : Int)) rfl (eval_tmp (hd.vl 0 19 (by kernel_rfl) K0)) (eval_tmp (hd.vl 1 20 (by kernel_rfl) K1)) (by rw [IntKind.wrap_i64]; omega)) K2
            · exact asksY rfl fun a W hS hh hd => giv_run (run_mv rfl (eval_tmp (hh 0 _ rfl (F0.at 0 rfl)))) K3
            · exact asksY rfl fun a W hS hh hd => giv_run (run_len rfl (eval_tmp (hd.vl 3 22 (by kernel_rfl) K3)) rfl Tryd.underlying9) K4
            · exact asksY rfl fun a W hS hh hd => giv_run (run_lss rfl (eval_tmp (hd.vl 2 21 (by kernel_rfl) K2)) (eval_tmp (hd.vl 4 23 (by kernel_rfl) K4)) (decide_eq_true (by omega))) K5
            · exact asksY rfl fun a W hS hh hd => giv_run (run_mv rfl (eval_tmp (hd.vl 5 24 (by kernel_rfl) K5))) K6
            · refine asks_mk fun a W hS hh hd => ⟨wanted_of (j := 6) (s := 25) (by kernel_rfl) (hd.vl 6 25 (by kernel_rfl) K6), ?_⟩
              exact giv_run (run_mv rfl (eval_tmp (hh 8 _ rfl (F0.at 8 rfl)))) K7
            · refine asks_mk fun a W hS hh hd => ⟨wanted_of (j := 6) (s := 25) (by kernel_rfl) (hd.vl 6 25 (by kernel_rfl) K6), ?_⟩
              exact giv_run (run_fldA (m := 1) (s := 2) rfl (eval_tmp (hh 3 _ rfl (F0.at 3 rfl))) Tryd.underlying67 rfl rfl (by kernel_rfl) (by decide)) K8
            · refine asks_mk fun a W hS hh hd => ⟨wanted_of (j := 6) (s := 25) (by kernel_rfl) (hd.vl 6 25 (by kernel_rfl) K6), ?_⟩
              exact giv_run (run_ldF rfl (eval_tmp (hd.vl 8 27 (by kernel_rfl) K8)) ((M0.grow hS).at 0 rfl) rfl (by kernel_rfl)) K9
            · refine asks_mk fun a W hS hh hd => ⟨wanted_of (j := 6) (s := 25) (by kernel_rfl) (hd.vl 6 25 (by kernel_rfl) K6), ?_⟩
              exact giv_run (run_lss rfl (eval_tmp (hd.vl 7 26 (by kernel_rfl) K7)) (eval_tmp (hd.vl 9 28 (by kernel_rfl) K9)) (decide_eq_true (by omega))) K10
            · exact asksY rfl fun a W hS hh hd => giv_run (run_pick rfl (eval_tmp (hd.vl 6 25 (by kernel_rfl) K6)) (eval_tmp (hd.vl 10 29 (by kernel_rfl) K10)) rfl) K11
            · exact asksY rfl fun a W hS hh hd => giv_run (run_mv rfl (eval_tmp (hd.vl 11 30 (by kernel_rfl) K11))) K12
            · refine asks_mk fun a W hS hh hd => ⟨wanted_of (j := 12) (s := 31) (by kernel_rfl) (hd.vl 12 31 (by kernel_rfl) K12), ?_⟩
              exact giv_run (run_mv rfl (eval_tmp (hh 0 _ rfl (F0.at 0 rfl)))) K13
            · refine asks_mk fun a W hS hh hd => ⟨wanted_of (j := 12) (s := 31) (by kernel_rfl) (hd.vl 12 31 (by kernel_rfl) K12), ?_⟩
              exact giv_run (run_mv rfl (eval_tmp (hh 7 _ rfl (F0.at 7 rfl)))) K14
            · refine asks_mk fun a W hS hh hd => ⟨wanted_of (j := 12) (s := 31) (by kernel_rfl) (hd.vl 12 31 (by kernel_rfl) K12), ?_⟩
              exact giv_run (run_mv rfl (eval_tmp (hh 8 _ rfl (F0.at 8 rfl)))) K15
            · refine asks_mk fun a W hS hh hd => ⟨wanted_of (j := 12) (s := 31) (by kernel_rfl) (hd.vl 12 31 (by kernel_rfl) K12), ?_⟩
              exact giv_run (run_add (r := ((p + n : Nat) : Int)) rfl (eval_tmp (hd.vl 14 33 (by kernel_rfl) K14)) (eval_tmp (hd.vl 15 34 (by kernel_rfl) K15)) (by rw [IntKind.wrap_i64]; omega)) K16
            · refine asks_mk fun a W hS hh hd => ⟨wanted_of (j := 12) (s := 31) (by kernel_rfl) (hd.vl 12 31 (by kernel_rfl) K12), ?_⟩
              exact giv_run (run_fldA (m := 1) (s := 0) rfl (eval_tmp (hh 3 _ rfl (F0.at 3 rfl))) Tryd.underlying67 rfl rfl (by kernel_rfl) (by decide)) K17
            · refine asks_mk fun a W hS hh hd => ⟨wanted_of (j := 12) (s := 31) (by kernel_rfl) (hd.vl 12 31 (by kernel_rfl) K12), ?_⟩
              exact giv_run (run_ldF rfl (eval_tmp (hd.vl 17 36 (by kernel_rfl) K17)) ((M0.grow hS).at 0 rfl) rfl (by kernel_rfl)) K18
            · refine asks_mk fun a W hS hh hd => ⟨wanted_of (j := 12) (s := 31) (by kernel_rfl) (hd.vl 12 31 (by kernel_rfl) K12), ?_⟩
              exact giv_run (run_sub (r := ((p + n - 16 : Nat) : Int)) rfl (eval_tmp (hd.vl 16 35 (by kernel_rfl) K16)) (eval_tmp (hd.vl 18 37 (by kernel_rfl) K18)) (by rw [IntKind.wrap_i64]; omega)) K19
            · refine asks_mk fun a W hS hh hd => ⟨wanted_of (j := 12) (s := 31) (by kernel_rfl) (hd.vl 12 31 (by kernel_rfl) K12), ?_⟩
              exact giv_run (run_mv rfl (eval_tmp (hh 7 _ rfl (F0.at 7 rfl)))) K20
            · refine asks_mk fun a W hS hh hd => ⟨wanted_of (j := 12) (s := 31) (by kernel_rfl) (hd.vl 12 31 (by kernel_rfl) K12), ?_⟩
              exact giv_run (run_mv rfl (eval_tmp (hh 8 _ rfl (F0.at 8 rfl)))) K21
            · refine asks_mk fun a W hS hh hd => ⟨wanted_of (j := 12) (s := 31) (by kernel_rfl) (hd.vl 12 31 (by kernel_rfl) K12), ?_⟩
              exact giv_run (run_add (r := ((p + n : Nat) : Int)) rfl (eval_tmp (hd.vl 20 39 (by kernel_rfl) K20)) (eval_tmp (hd.vl 21 40 (by kernel_rfl) K21)) (by rw [IntKind.wrap_i64]; omega)) K22
            · refine asks_mk fun a W hS hh hd => ⟨wanted_of (j := 12) (s := 31) (by kernel_rfl) (hd.vl 12 31 (by kernel_rfl) K12), ?_⟩
              exact giv_run (run_sMidE (m := (p + n - 16)) (m2 := (p + n)) (by rw [show p + n - (p + n - 16) = 16 by omega]; exact hX) rfl (eval_tmp (hd.vl 13 32 (by kernel_rfl) K13)) (eval_tmp (hd.vl 19 38 (by kernel_rfl) K19)) (eval_tmp (hd.vl 22 41 (by kernel_rfl) K22)) Tryd.underlying9 (by omega) (by omega) (by omega) (by omega)) K23
            · refine asks_mk fun a W hS hh hd => ⟨wanted_of (j := 12) (s := 31) (by kernel_rfl) (hd.vl 12 31 (by kernel_rfl) K12), ?_⟩
              exact giv_call (run_call rfl Tryd.func66 (by kernel_rfl) rfl (mapE1 (eval_tmp (hd.vl 23 42 (by kernel_rfl) K23)))) ((by have h := rsum9_any X W (by omega); rw [hXs] at h; exact h)) K24
            · refine asks_mk fun a W hS hh hd => ⟨wanted_of (j := 12) (s := 31) (by kernel_rfl) (hd.vl 12 31 (by kernel_rfl) K12), ?_⟩
              exact giv_run (run_fldA (m := 1) (s := 3) rfl (eval_tmp (hh 3 _ rfl (F0.at 3 rfl))) Tryd.underlying67 rfl rfl (by kernel_rfl) (by decide)) K25
            · refine asks_mk fun a W hS hh hd => ⟨wanted_of (j := 12) (s := 31) (by kernel_rfl) (hd.vl 12 31 (by kernel_rfl) K12), ?_⟩
              exact giv_run (run_ldF rfl (eval_tmp (hd.vl 25 44 (by kernel_rfl) K25)) ((M0.grow hS).at 0 rfl) rfl (by kernel_rfl)) K26
            · refine asks_mk fun a W hS hh hd => ⟨wanted_of (j := 12) (s := 31) (by kernel_rfl) (hd.vl 12 31 (by kernel_rfl) K12), ?_⟩
              exact giv_run (run_and (r := ((rsm r n % 256 : Nat) : Int)) rfl (eval_tmp (hd.vl 24 43 (by kernel_rfl) K24)) (eval_tmp (hd.vl 26 45 (by kernel_rfl) K26)) (and255 _ hsl)) K27
            · refine asks_mk fun a W hS hh hd => ⟨wanted_of (j := 12) (s := 31) (by kernel_rfl) (hd.vl 12 31 (by kernel_rfl) K12), ?_⟩
              exact giv_run (run_fldA (m := 1) (s := 3) rfl (eval_tmp (hh 3 _ rfl (F0.at 3 rfl))) Tryd.underlying67 rfl rfl (by kernel_rfl) (by decide)) K28
            · refine asks_mk fun a W hS hh hd => ⟨wanted_of (j := 12) (s := 31) (by kernel_rfl) (hd.vl 12 31 (by kernel_rfl) K12), ?_⟩
              exact giv_run (run_ldF rfl (eval_tmp (hd.vl 28 47 (by kernel_rfl) K28)) ((M0.grow hS).at 0 rfl) rfl (by kernel_rfl)) K29
            · refine asks_mk fun a W hS hh hd => ⟨wanted_of (j := 12) (s := 31) (by kernel_rfl) (hd.vl 12 31 (by kernel_rfl) K12), ?_⟩
              exact giv_run (run_nei rfl (eval_tmp (hd.vl 27 46 (by kernel_rfl) K27)) (eval_tmp (hd.vl 29 48 (by kernel_rfl) K29)) (bne_iff_ne.2 (by omega))) K30
            · exact asksY rfl fun a W hS hh hd => giv_run (run_pick rfl (eval_tmp (hd.vl 12 31 (by kernel_rfl) K12)) (eval_tmp (hd.vl 30 49 (by kernel_rfl) K30)) rfl) K31
          · intro a1 w2 hb2 hK
            have e0 := hK.vl 0 19 (by kernel_rfl) K0
            have e1 := hK.vl 1 20 (by kernel_rfl) K1
            have e2 := hK.vl 2 21 (by kernel_rfl) K2
            have e3 := hK.vl 3 22 (by kernel_rfl) K3
            have e4 := hK.vl 4 23 (by kernel_rfl) K4
            have e5 := hK.vl 5 24 (by kernel_rfl) K5
            have e6 := hK.vl 6 25 (by kernel_rfl) K6
            have e7 := hK.vl 7 26 (by kernel_rfl) K7
            have e8 := hK.vl 8 27 (by kernel_rfl) K8
            have e9 := hK.vl 9 28 (by kernel_rfl) K9
            have e10 := hK.vl 10 29 (by kernel_rfl) K10
            have e11 := hK.vl 11 30 (by kernel_rfl) K11
            have e12 := hK.vl 12 31 (by kernel_rfl) K12
            have e13 := hK.vl 13 32 (by kernel_rfl) K13
            have e14 := hK.vl 14 33 (by kernel_rfl) K14
            have e15 := hK.vl 15 34 (by kernel_rfl) K15
            have e16 := hK.vl 16 35 (by kernel_rfl) K16
            have e17 := hK.vl 17 36 (by kernel_rfl) K17
            have e18 := hK.vl 18 37 (by kernel_rfl) K18
            have e19 := hK.vl 19 38 (by kernel_rfl) K19
            have e20 := hK.vl 20 39 (by kernel_rfl) K20
            have e21 := hK.vl 21 40 (by kernel_rfl) K21
            have e22 := hK.vl 22 41 (by kernel_rfl) K22
            have e23 := hK.vl 23 42 (by kernel_rfl) K23
            have e24 := hK.vl 24 43 (by kernel_rfl) K24
            have e25 := hK.vl 25 44 (by kernel_rfl) K25
            have e26 := hK.vl 26 45 (by kernel_rfl) K26
            have e27 := hK.vl 27 46 (by kernel_rfl) K27
            have e28 := hK.vl 28 47 (by kernel_rfl) K28
            have e29 := hK.vl 29 48 (by kernel_rfl) K29
            have e30 := hK.vl 30 49 (by kernel_rfl) K30
            have e31 := hK.vl 31 50 (by kernel_rfl) K31
            have F1 : Fr a1 76 [(0, (.string ⟨b.toArray⟩)), (3, (.pointer (some ⟨g0, 0, none⟩))), (6, v), (7, (.int .i64 (p : Int))), (8, (.int .i64 (n : Int))), (50, (.bool true))] := (hK.fr F0 [_, _, _, _, _, _, _, _, _, _, _, _, _, _, _, _, _, _, _, _, _, _, _, _, _, _, _, _, _, _, _, _] ⟨e0, e1, e2, e3, e4, e5, e6, e7, e8, e9, e10, e11, e12, e13, e14, e15, e16, e17, e18, e19, e20, e21, e22, e23, e24, e25, e26, e27, e28, e29, e30, e31, trivial⟩).sub ⟨rfl, rfl, rfl, rfl, rfl, rfl, trivial⟩
            have M1 := M0.grow hb2
            have hO1 := hO0.grow hb2
            clear hK K0 e0 K1 e1 K2 e2 K3 e3 K4 e4 K5 e5 K6 e6 K7 e7 K8 e8 K9 e9 K10 e10 K11 e11 K12 e12 K13 e13 K14 e14 K15 e15 K16 e16 K17 e17 K18 e18 K19 e19 K20 e20 K21 e21 K22 e22 K23 e23 K24 e24 K25 e25 K26 e26 K27 e27 K28 e28 K29 e29 K30 e30 K31 e31
            clear F0 M0
            refine nx ?_
            refine cts (F1.ev 50 rfl) ?_
            refine wp_block ?_
            refine wp_region_lit ?_
            refine mvS F1 rfl rfl rfl rfl rfl fun a2 F2 => ?_
            refine sr F2 (run_add (r := ((n + 1 : Nat) : Int)) rfl (F2.ev 51 rfl) rfl (by rw [IntKind.wrap_i64]; omega)) rfl rfl rfl fun a3 F3 => ?_
            refine asS F3 rfl rfl rfl rfl rfl fun a4 F4 => ?_
            refine sqEnd ?_
            clear F1 F2 F3
            refine bkEnd ?_
            refine nx ?_
            exact ⟨_, by omega, n + 1, rfl, by omega, .inr (by omega), fun m q1 q2 => (by by_cases hq : m = n; exact hq ▸ h3; exact hno m q1 (by omega)), hO1, F4.sub ⟨rfl, rfl, rfl, rfl, rfl, trivial⟩, M1⟩
      · have hes : endS r = n := by rw [endS_ref h64 hn hno (.inr (.inl (by omega)))]; omega
        refine wp_seq ?_
        refine wp_seq ?_
        obtain ⟨KL, hKL⟩ : ∃ KL, KL = [kval (.int .i64 (p : Int)), kval (.int .i64 (n : Int)), kval (.int .i64 ((p + n : Nat) : Int)), kval (.string ⟨b.toArray⟩), kval (.int .i64 (b.length : Int)), kval (.bool true), kval (.bool true), kval (.int .i64 (n : Int)), kval (.pointer (some ⟨g0, 2, none⟩)), kval (.int .i64 1024), kval (.bool false), kval (.bool false), kval (.bool false), kval undef, kval undef, kval undef, kval undef, kval undef, kval undef, kval undef, kval undef, kval undef, kval undef, kval undef, kval undef, kval undef, kval undef, kval undef, kval undef, kval undef, kval undef, kval (.bool false)] := ⟨_, rfl⟩
        have K0 := getK hKL 0
        have K1 := getK hKL 1
        have K2 := getK hKL 2
        have K3 := getK hKL 3
        have K4 := getK hKL 4
        have K5 := getK hKL 5
        have K6 := getK hKL 6
        have K7 := getK hKL 7
        have K8 := getK hKL 8
        have K9 := getK hKL 9
        have K10 := getK hKL 10
        have K11 := getK hKL 11
        have K12 := getK hKL 12
        have K13 := getK hKL 13
        have K14 := getK hKL 14
        have K15 := getK hKL 15
        have K16 := getK hKL 16
        have K17 := getK hKL 17
        have K18 := getK hKL 18
        have K19 := getK hKL 19
        have K20 := getK hKL 20
        have K21 := getK hKL 21
        have K22 := getK hKL 22
        have K23 := getK hKL 23
        have K24 := getK hKL 24
        have K25 := getK hKL 25
        have K26 := getK hKL 26
        have K27 := getK hKL 27
        have K28 := getK hKL 28
        have K29 := getK hKL 29
        have K30 := getK hKL 30
        have K31 := getK hKL 31
        clear hKL
        refine wp_region_kd 76 (by kernel_rfl) (by kernel_rfl) (by kernel_rfl) F0.size KL ?_ ?_
        · refine ⟨?_, ?_, ?_, ?_, ?_, ?_, ?_, ?_, ?_, ?_, ?_, ?_, ?_, ?_, ?_, ?_, ?_, ?_, ?_, ?_, ?_, ?_, ?_, ?_, ?_, ?_, ?_, ?_, ?_, ?_, ?_, ?_, trivial⟩
          · exact asksY rfl fun a W hS hh hd => giv_run (run_mv rfl (eval_tmp (hh 7 _ rfl (F0.at 7 rfl)))) K0
          · exact asksY rfl fun a W hS hh hd => giv_run (run_mv rfl (eval_tmp (hh 8 _ rfl (F0.at 8 rfl)))) K1
          · exact asksY rfl fun a W hS hh hd => giv_run (run_add (r := ((p + n : Nat) : Int)) rfl (eval_tmp (hd.vl 0 19 (by kernel_rfl) K0)) (eval_tmp (hd.vl 1 20 (by kernel_rfl) K1)) (by rw [IntKind.wrap_i64]; omega)) K2
          · exact asksY rfl fun a W hS hh hd => giv_run (run_mv rfl (eval_tmp (hh 0 _ rfl (F0.at 0 rfl)))) K3
          · exact asksY rfl fun a W hS hh hd => giv_run (run_len rfl (eval_tmp (hd.vl 3 22 (by kernel_rfl) K3)) rfl Tryd.underlying9) K4
          · exact asksY rfl fun a W hS hh hd => giv_run (run_lss rfl (eval_tmp (hd.vl 2 21 (by kernel_rfl) K2)) (eval_tmp (hd.vl 4 23 (by kernel_rfl) K4)) (decide_eq_true (by omega))) K5
          · exact asksY rfl fun a W hS hh hd => giv_run (run_mv rfl (eval_tmp (hd.vl 5 24 (by kernel_rfl) K5))) K6
          · refine asks_mk fun a W hS hh hd => ⟨wanted_of (j := 6) (s := 25) (by kernel_rfl) (hd.vl 6 25 (by kernel_rfl) K6), ?_⟩
            exact giv_run (run_mv rfl (eval_tmp (hh 8 _ rfl (F0.at 8 rfl)))) K7
          · refine asks_mk fun a W hS hh hd => ⟨wanted_of (j := 6) (s := 25) (by kernel_rfl) (hd.vl 6 25 (by kernel_rfl) K6), ?_⟩
            exact giv_run (run_fldA (m := 1) (s := 2) rfl (eval_tmp (hh 3 _ rfl (F0.at 3 rfl))) Tryd.underlying67 rfl rfl (by kernel_rfl) (by decide)) K8
          · refine asks_mk fun a W hS hh hd => ⟨wanted_of (j := 6) (s := 25) (by kernel_rfl) (hd.vl 6 25 (by kernel_rfl) K6), ?_⟩
            exact giv_run (run_ldF rfl (eval_tmp (hd.vl 8 27 (by kernel_rfl) K8)) ((M0.grow hS).at 0 rfl) rfl (by kernel_rfl)) K9
          · refine asks_mk fun a W hS hh hd => ⟨wanted_of (j := 6) (s := 25) (by kernel_rfl) (hd.vl 6 25 (by kernel_rfl) K6), ?_⟩
            exact giv_run (run_lss rfl (eval_tmp (hd.vl 7 26 (by kernel_rfl) K7)) (eval_tmp (hd.vl 9 28 (by kernel_rfl) K9)) (decide_eq_false (by omega))) K10
          · exact asksY rfl fun a W hS hh hd => giv_run (run_pick rfl (eval_tmp (hd.vl 6 25 (by kernel_rfl) K6)) (eval_tmp (hd.vl 10 29 (by kernel_rfl) K10)) rfl) K11
          · exact asksY rfl fun a W hS hh hd => giv_run (run_mv rfl (eval_tmp (hd.vl 11 30 (by kernel_rfl) K11))) K12
          · exact asks_skip fun a W hS hh hd => ⟨unwanted_of (j := 12) (s := 31) (want := true) (by kernel_rfl) (hd.vl 12 31 (by kernel_rfl) K12), show kT KL 13 undef W by unfold kT; rw [K13]; rfl⟩
          · exact asks_skip fun a W hS hh hd => ⟨unwanted_of (j := 12) (s := 31) (want := true) (by kernel_rfl) (hd.vl 12 31 (by kernel_rfl) K12), show kT KL 14 undef W by unfold kT; rw [K14]; rfl⟩
          · exact asks_skip fun a W hS hh hd => ⟨unwanted_of (j := 12) (s := 31) (want := true) (by kernel_rfl) (hd.vl 12 31 (by kernel_rfl) K12), show kT KL 15 undef W by unfold kT; rw [K15]; rfl⟩
          · exact asks_skip fun a W hS hh hd => ⟨unwanted_of (j := 12) (s := 31) (want := true) (by kernel_rfl) (hd.vl 12 31 (by kernel_rfl) K12), show kT KL 16 undef W by unfold kT; rw [K16]; rfl⟩
          · exact asks_skip fun a W hS hh hd => ⟨unwanted_of (j := 12) (s := 31) (want := true) (by kernel_rfl) (hd.vl 12 31 (by kernel_rfl) K12), show kT KL 17 undef W by unfold kT; rw [K17]; rfl⟩
          · exact asks_skip fun a W hS hh hd => ⟨unwanted_of (j := 12) (s := 31) (want := true) (by kernel_rfl) (hd.vl 12 31 (by kernel_rfl) K12), show kT KL 18 undef W by unfold kT; rw [K18]; rfl⟩
          · exact asks_skip fun a W hS hh hd => ⟨unwanted_of (j := 12) (s := 31) (want := true) (by kernel_rfl) (hd.vl 12 31 (by kernel_rfl) K12), show kT KL 19 undef W by unfold kT; rw [K19]; rfl⟩
          · exact asks_skip fun a W hS hh hd => ⟨unwanted_of (j := 12) (s := 31) (want := true) (by kernel_rfl) (hd.vl 12 31 (by kernel_rfl) K12), show kT KL 20 undef W by unfold kT; rw [K20]; rfl⟩
          · exact asks_skip fun a W hS hh hd => ⟨unwanted_of (j := 12) (s := 31) (want := true) (by kernel_rfl) (hd.vl 12 31 (by kernel_rfl) K12), show kT KL 21 undef W by unfold kT; rw [K21]; rfl⟩
          · exact asks_skip fun a W hS hh hd => ⟨unwanted_of (j := 12) (s := 31) (want := true) (by kernel_rfl) (hd.vl 12 31 (by kernel_rfl) K12), show kT KL 22 undef W by unfold kT; rw [K22]; rfl⟩
          · exact asks_skip fun a W hS hh hd => ⟨unwanted_of (j := 12) (s := 31) (want := true) (by kernel_rfl) (hd.vl 12 31 (by kernel_rfl) K12), show kT KL 23 undef W by unfold kT; rw [K23]; rfl⟩
          · exact asks_skip fun a W hS hh hd => ⟨unwanted_of (j := 12) (s := 31) (want := true) (by kernel_rfl) (hd.vl 12 31 (by kernel_rfl) K12), show kT KL 24 undef W by unfold kT; rw [K24]; rfl⟩
          · exact asks_skip fun a W hS hh hd => ⟨unwanted_of (j := 12) (s := 31) (want := true) (by kernel_rfl) (hd.vl 12 31 (by kernel_rfl) K12), show kT KL 25 undef W by unfold kT; rw [K25]; rfl⟩
          · exact asks_skip fun a W hS hh hd => ⟨unwanted_of (j := 12) (s := 31) (want := true) (by kernel_rfl) (hd.vl 12 31 (by kernel_rfl) K12), show kT KL 26 undef W by unfold kT; rw [K26]; rfl⟩
          · exact asks_skip fun a W hS hh hd => ⟨unwanted_of (j := 12) (s := 31) (want := true) (by kernel_rfl) (hd.vl 12 31 (by kernel_rfl) K12), show kT KL 27 undef W by unfold kT; rw [K27]; rfl⟩
          · exact asks_skip fun a W hS hh hd => ⟨unwanted_of (j := 12) (s := 31) (want := true) (by kernel_rfl) (hd.vl 12 31 (by kernel_rfl) K12), show kT KL 28 undef W by unfold kT; rw [K28]; rfl⟩
          · exact asks_skip fun a W hS hh hd => ⟨unwanted_of (j := 12) (s := 31) (want := true) (by kernel_rfl) (hd.vl 12 31 (by kernel_rfl) K12), show kT KL 29 undef W by unfold kT; rw [K29]; rfl⟩
          · exact asks_skip fun a W hS hh hd => ⟨unwanted_of (j := 12) (s := 31) (want := true) (by kernel_rfl) (hd.vl 12 31 (by kernel_rfl) K12), show kT KL 30 undef W by unfold kT; rw [K30]; rfl⟩
          · exact asksY rfl fun a W hS hh hd => giv_run (run_pick rfl (eval_tmp (hd.vl 12 31 (by kernel_rfl) K12)) (eval_tmp (hd.vl 30 49 (by kernel_rfl) K30)) rfl) K31
        · intro a1 w2 hb2 hK
          have e0 := hK.vl 0 19 (by kernel_rfl) K0
          have e1 := hK.vl 1 20 (by kernel_rfl) K1
          have e2 := hK.vl 2 21 (by kernel_rfl) K2
          have e3 := hK.vl 3 22 (by kernel_rfl) K3
          have e4 := hK.vl 4 23 (by kernel_rfl) K4
          have e5 := hK.vl 5 24 (by kernel_rfl) K5
          have e6 := hK.vl 6 25 (by kernel_rfl) K6
          have e7 := hK.vl 7 26 (by kernel_rfl) K7
          have e8 := hK.vl 8 27 (by kernel_rfl) K8
          have e9 := hK.vl 9 28 (by kernel_rfl) K9
          have e10 := hK.vl 10 29 (by kernel_rfl) K10
          have e11 := hK.vl 11 30 (by kernel_rfl) K11
          have e12 := hK.vl 12 31 (by kernel_rfl) K12
          have e13 := hK.vl 13 32 (by kernel_rfl) K13
          have e14 := hK.vl 14 33 (by kernel_rfl) K14
          have e15 := hK.vl 15 34 (by kernel_rfl) K15
          have e16 := hK.vl 16 35 (by kernel_rfl) K16
          have e17 := hK.vl 17 36 (by kernel_rfl) K17
          have e18 := hK.vl 18 37 (by kernel_rfl) K18
          have e19 := hK.vl 19 38 (by kernel_rfl) K19
          have e20 := hK.vl 20 39 (by kernel_rfl) K20
          have e21 := hK.vl 21 40 (by kernel_rfl) K21
          have e22 := hK.vl 22 41 (by kernel_rfl) K22
          have e23 := hK.vl 23 42 (by kernel_rfl) K23
          have e24 := hK.vl 24 43 (by kernel_rfl) K24
          have e25 := hK.vl 25 44 (by kernel_rfl) K25
          have e26 := hK.vl 26 45 (by kernel_rfl) K26
          have e27 := hK.vl 27 46 (by kernel_rfl) K27
          have e28 := hK.vl 28 47 (by kernel_rfl) K28
          have e29 := hK.vl 29 48 (by kernel_rfl) K29
          have e30 := hK.vl 30 49 (by kernel_rfl) K30
          have e31 := hK.vl 31 50 (by kernel_rfl) K31
          have F1 : Fr a1 76 [(0, (.string ⟨b.toArray⟩)), (3, (.pointer (some ⟨g0, 0, none⟩))), (6, v), (7, (.int .i64 (p : Int))), (8, (.int .i64 (n : Int))), (50, (.bool false))] := (hK.fr F0 [_, _, _, _, _, _, _, _, _, _, _, _, _, _, _, _, _, _, _, _, _, _, _, _, _, _, _, _, _, _, _, _] ⟨e0, e1, e2, e3, e4, e5, e6, e7, e8, e9, e10, e11, e12, e13, e14, e15, e16, e17, e18, e19, e20, e21, e22, e23, e24, e25, e26, e27, e28, e29, e30, e31, trivial⟩).sub ⟨rfl, rfl, rfl, rfl, rfl, rfl, trivial⟩
          have M1 := M0.grow hb2
          have hO1 := hO0.grow hb2
          clear hK K0 e0 K1 e1 K2 e2 K3 e3 K4 e4 K5 e5 K6 e6 K7 e7 K8 e8 K9 e9 K10 e10 K11 e11 K12 e12 K13 e13 K14 e14 K15 e15 K16 e16 K17 e17 K18 e18 K19 e19 K20 e20 K21 e21 K22 e22 K23 e23 K24 e24 K25 e25 K26 e26 K27 e27 K28 e28 K29 e29 K30 e30 K31 e31
          clear F0 M0
          refine nx ?_
          refine wp_cond_false (F1.ev 50 rfl) ?_
          refine wp_exit ?_
          refine nxExit ?_
          refine nxExit ?_
          refine bkHere ?_
          refine nx ?_
          refine wp_seq ?_
          refine wsl ?_
          refine mvS F1 rfl rfl rfl rfl rfl fun a2 F2 => ?_
          refine mvS F2 rfl rfl rfl rfl rfl fun a3 F3 => ?_
          refine sr F3 (run_add (r := ((p + n : Nat) : Int)) rfl (F3.ev 53 rfl) (F3.ev 54 rfl) (by rw [IntKind.wrap_i64]; omega)) rfl rfl rfl fun a4 F4 => ?_
          refine mvS F4 rfl rfl rfl rfl rfl fun a5 F5 => ?_
          refine sr F5 (run_len rfl (F5.ev 56 rfl) rfl Tryd.underlying9) rfl rfl rfl fun a6 F6 => ?_
          refine sr (v := (.bool false)) F6 (run_gtr rfl (F6.ev 55 rfl) (F6.ev 57 rfl) (decide_eq_false (by omega))) rfl rfl rfl fun a7 F7 => ?_
          refine sn ?_
          clear F1 F2 F3 F4 F5 F6
          refine cfs (F7.ev 58 rfl) ?_
          refine wsl ?_
          refine mvS F7 rfl rfl rfl rfl rfl fun a8 F8 => ?_
          refine mvS F8 rfl rfl rfl rfl rfl fun a9 F9 => ?_
          refine mvS F9 rfl rfl rfl rfl rfl fun a10 F10 => ?_
          refine mvS F10 rfl rfl rfl rfl rfl fun a11 F11 => ?_
          refine mvS F11 rfl rfl rfl rfl rfl fun a12 F12 => ?_
          refine sr F12 (run_add (r := ((p + n : Nat) : Int)) rfl (F12.ev 66 rfl) (F12.ev 67 rfl) (by rw [IntKind.wrap_i64]; omega)) rfl rfl rfl fun a13 F13 => ?_
          refine sr (v := (.string ⟨(r.take (endS r)).toArray⟩)) F13 (run_sMidE (m := p) (m2 := (p + n)) (by rw [hr, show p + n - p = n by omega, ← hes]) rfl (F13.ev 64 rfl) (F13.ev 65 rfl) (F13.ev 68 rfl) Tryd.underlying9 (by omega) (by omega) (by omega) (by omega)) rfl rfl rfl fun a14 F14 => ?_
          refine sqRow (cs := #[.string ⟨(r.take (endS r)).toArray⟩]) (t := 9) (m := 1) F14 M1 (wantedS rfl) (run_strs1 rfl (F14.ev 69 rfl)) rfl (by decide) fun g4 a15 w3 hgg4 hb3 F15 M2 => ?_
          have hO2 := hO1.add (S := isB 9 #[.string ⟨(r.take (endS r)).toArray⟩]) hb3 hgg4
          refine sqAppend (news := [.string ⟨(r.take (endS r)).toArray⟩]) elStr F15 M2 hO2 rfl rfl (F15.ev 63 rfl) (F15.ev 70 rfl) rfl (blkNews (M2.at 0 rfl)) (all_one rfl) (by unfold maxLen; omega) (by omega) rfl (by decide) fun v5 a16 w4 hO3 M3 hnilv5 F16 => ?_
          refine asS F16 rfl rfl rfl rfl rfl fun a17 F17 => ?_
          refine sn ?_
          clear F7 F8 F9 F10 F11 F12 F13 F14 F15 F16 M1 M2
          refine wp_region_lit ?_
          refine mvS F17 rfl rfl rfl rfl rfl fun a18 F18 => ?_
          refine mvS F18 rfl rfl rfl rfl rfl fun a19 F19 => ?_
          refine sr F19 (run_add (r := ((p + n : Nat) : Int)) rfl (F19.ev 72 rfl) (F19.ev 73 rfl) (by rw [IntKind.wrap_i64]; omega)) rfl rfl rfl fun a20 F20 => ?_
          refine asS F20 rfl rfl rfl rfl rfl fun a21 F21 => ?_
          refine sqEnd ?_
          clear F17 F18 F19 F20
          refine bkEnd ?_
          refine nx ?_
          exact ⟨_, by omega, d ++ [r.take (endS r)], p + n, v5, rfl, by omega, by rw [List.length_append, List.length_singleton]; omega, by rw [hT, List.append_assoc, hdrop, ← hes]; rfl, by rw [List.map_append, List.length_append]; exact hO3.sub (.cons _ (.refl _)), F21.sub ⟨rfl, rfl, rfl, rfl, trivial⟩, M3.sub (.cons _ (.refl _))⟩
    · have hes0 := endS_ref h64 hn hno (.inl (by omega))
      by_cases h2 : b.length < p + n
      · have hes : endS r = b.length - p := by omega
        refine wp_seq ?_
        refine wp_seq ?_
        obtain ⟨KL, hKL⟩ : ∃ KL, KL = [kval (.int .i64 (p : Int)), kval (.int .i64 (n : Int)), kval (.int .i64 ((p + n : Nat) : Int)), kval (.string ⟨b.toArray⟩), kval (.int .i64 (b.length : Int)), kval (.bool false), kval (.bool false), kval undef, kval undef, kval undef, kval undef, kval (.bool false), kval (.bool false), kval undef, kval undef, kval undef, kval undef, kval undef, kval undef, kval undef, kval undef, kval undef, kval undef, kval undef, kval undef, kval undef, kval undef, kval undef, kval undef, kval undef, kval undef, kval (.bool false)] := ⟨_, rfl⟩
        have K0 := getK hKL 0
        have K1 := getK hKL 1
        have K2 := getK hKL 2
        have K3 := getK hKL 3
        have K4 := getK hKL 4
        have K5 := getK hKL 5
        have K6 := getK hKL 6
        have K7 := getK hKL 7
        have K8 := getK hKL 8
        have K9 := getK hKL 9
        have K10 := getK hKL 10
        have K11 := getK hKL 11
        have K12 := getK hKL 12
        have K13 := getK hKL 13
        have K14 := getK hKL 14
        have K15 := getK hKL 15
        have K16 := getK hKL 16
        have K17 := getK hKL 17
        have K18 := getK hKL 18
        have K19 := getK hKL 19
        have K20 := getK hKL 20
        have K21 := getK hKL 21
        have K22 := getK hKL 22
        have K23 := getK hKL 23
        have K24 := getK hKL 24
        have K25 := getK hKL 25
        have K26 := getK hKL 26
        have K27 := getK hKL 27
        have K28 := getK hKL 28
        have K29 := getK hKL 29
        have K30 := getK hKL 30
        have K31 := getK hKL 31
        clear hKL
        refine wp_region_kd 76 (by kernel_rfl) (by kernel_rfl) (by kernel_rfl) F0.size KL ?_ ?_
        · refine ⟨?_, ?_, ?_, ?_, ?_, ?_, ?_, ?_, ?_, ?_, ?_, ?_, ?_, ?_, ?_, ?_, ?_, ?_, ?_, ?_, ?_, ?_, ?_, ?_, ?_, ?_, ?_, ?_, ?_, ?_, ?_, ?_, trivial⟩
          · exact asksY rfl fun a W hS hh hd => giv_run (run_mv rfl (eval_tmp (hh 7 _ rfl (F0.at 7 rfl)))) K0
          · exact asksY rfl fun a W hS hh hd => giv_run (run_mv rfl (eval_tmp (hh 8 _ rfl (F0.at 8 rfl)))) K1
          · exact asksY rfl fun a W hS hh hd => giv_run (run_add (r := ((p + n : Nat) : Int)) rfl (eval_tmp (hd.vl 0 19 (by kernel_rfl) K0)) (eval_tmp (hd.vl 1 20 (by kernel_rfl) K1)) (by rw [IntKind.wrap_i64]; omega)) K2
          · exact asksY rfl fun a W hS hh hd => giv_run (run_mv rfl (eval_tmp (hh 0 _ rfl (F0.at 0 rfl)))) K3
          · exact asksY rfl fun a W hS hh hd => giv_run (run_len rfl (eval_tmp (hd.vl 3 22 (by kernel_rfl) K3)) rfl Tryd.underlying9) K4
          · exact asksY rfl fun a W hS hh hd => giv_run (run_lss rfl (eval_tmp (hd.vl 2 21 (by kernel_rfl) K2)) (eval_tmp (hd.vl 4 23 (by kernel_rfl) K4)) (decide_eq_false (by omega))) K5
          · exact asksY rfl fun a W hS hh hd => giv_run (run_mv rfl (eval_tmp (hd.vl 5 24 (by kernel_rfl) K5))) K6
          · exact asks_skip fun a W hS hh hd => ⟨unwanted_of (j := 6) (s := 25) (want := true) (by kernel_rfl) (hd.vl 6 25 (by kernel_rfl) K6), show kT KL 7 undef W by unfold kT; rw [K7]; rfl⟩
          · exact asks_skip fun a W hS hh hd => ⟨unwanted_of (j := 6) (s := 25) (want := true) (by kernel_rfl) (hd.vl 6 25 (by kernel_rfl) K6), show kT KL 8 undef W by unfold kT; rw [K8]; rfl⟩
          · exact asks_skip fun a W hS hh hd => ⟨unwanted_of (j := 6) (s := 25) (want := true) (by kernel_rfl) (hd.vl 6 25 (by kernel_rfl) K6), show kT KL 9 undef W by unfold kT; rw [K9]; rfl⟩
          · exact asks_skip fun a W hS hh hd => ⟨unwanted_of (j := 6) (s := 25) (want := true) (by kernel_rfl) (hd.vl 6 25 (by kernel_rfl) K6), show kT KL 10 undef W by unfold kT; rw [K10]; rfl⟩
          · exact asksY rfl fun a W hS hh hd => giv_run (run_pick rfl (eval_tmp (hd.vl 6 25 (by kernel_rfl) K6)) (eval_tmp (hd.vl 10 29 (by kernel_rfl) K10)) rfl) K11
          · exact asksY rfl fun a W hS hh hd => giv_run (run_mv rfl (eval_tmp (hd.vl 11 30 (by kernel_rfl) K11))) K12
          · exact asks_skip fun a W hS hh hd => ⟨unwanted_of (j := 12) (s := 31) (want := true) (by kernel_rfl) (hd.vl 12 31 (by kernel_rfl) K12), show kT KL 13 undef W by unfold kT; rw [K13]; rfl⟩
          · exact asks_skip fun a W hS hh hd => ⟨unwanted_of (j := 12) (s := 31) (want := true) (by kernel_rfl) (hd.vl 12 31 (by kernel_rfl) K12), show kT KL 14 undef W by unfold kT; rw [K14]; rfl⟩
          · exact asks_skip fun a W hS hh hd => ⟨unwanted_of (j := 12) (s := 31) (want := true) (by kernel_rfl) (hd.vl 12 31 (by kernel_rfl) K12), show kT KL 15 undef W by unfold kT; rw [K15]; rfl⟩
          · exact asks_skip fun a W hS hh hd => ⟨unwanted_of (j := 12) (s := 31) (want := true) (by kernel_rfl) (hd.vl 12 31 (by kernel_rfl) K12), show kT KL 16 undef W by unfold kT; rw [K16]; rfl⟩
          · exact asks_skip fun a W hS hh hd => ⟨unwanted_of (j := 12) (s := 31) (want := true) (by kernel_rfl) (hd.vl 12 31 (by kernel_rfl) K12), show kT KL 17 undef W by unfold kT; rw [K17]; rfl⟩
          · exact asks_skip fun a W hS hh hd => ⟨unwanted_of (j := 12) (s := 31) (want := true) (by kernel_rfl) (hd.vl 12 31 (by kernel_rfl) K12), show kT KL 18 undef W by unfold kT; rw [K18]; rfl⟩
          · exact asks_skip fun a W hS hh hd => ⟨unwanted_of (j := 12) (s := 31) (want := true) (by kernel_rfl) (hd.vl 12 31 (by kernel_rfl) K12), show kT KL 19 undef W by unfold kT; rw [K19]; rfl⟩
          · exact asks_skip fun a W hS hh hd => ⟨unwanted_of (j := 12) (s := 31) (want := true) (by kernel_rfl) (hd.vl 12 31 (by kernel_rfl) K12), show kT KL 20 undef W by unfold kT; rw [K20]; rfl⟩
          · exact asks_skip fun a W hS hh hd => ⟨unwanted_of (j := 12) (s := 31) (want := true) (by kernel_rfl) (hd.vl 12 31 (by kernel_rfl) K12), show kT KL 21 undef W by unfold kT; rw [K21]; rfl⟩
          · exact asks_skip fun a W hS hh hd => ⟨unwanted_of (j := 12) (s := 31) (want := true) (by kernel_rfl) (hd.vl 12 31 (by kernel_rfl) K12), show kT KL 22 undef W by unfold kT; rw [K22]; rfl⟩
          · exact asks_skip fun a W hS hh hd => ⟨unwanted_of (j := 12) (s := 31) (want := true) (by kernel_rfl) (hd.vl 12 31 (by kernel_rfl) K12), show kT KL 23 undef W by unfold kT; rw [K23]; rfl⟩
          · exact asks_skip fun a W hS hh hd => ⟨unwanted_of (j := 12) (s := 31) (want := true) (by kernel_rfl) (hd.vl 12 31 (by kernel_rfl) K12), show kT KL 24 undef W by unfold kT; rw [K24]; rfl⟩
          · exact asks_skip fun a W hS hh hd => ⟨unwanted_of (j := 12) (s := 31) (want := true) (by kernel_rfl) (hd.vl 12 31 (by kernel_rfl) K12), show kT KL 25 undef W by unfold kT; rw [K25]; rfl⟩
          · exact asks_skip fun a W hS hh hd => ⟨unwanted_of (j := 12) (s := 31) (want := true) (by kernel_rfl) (hd.vl 12 31 (by kernel_rfl) K12), show kT KL 26 undef W by unfold kT; rw [K26]; rfl⟩
          · exact asks_skip fun a W hS hh hd => ⟨unwanted_of (j := 12) (s := 31) (want := true) (by kernel_rfl) (hd.vl 12 31 (by kernel_rfl) K12), show kT KL 27 undef W by unfold kT; rw [K27]; rfl⟩
          · exact asks_skip fun a W hS hh hd => ⟨unwanted_of (j := 12) (s := 31) (want := true) (by kernel_rfl) (hd.vl 12 31 (by kernel_rfl) K12), show kT KL 28 undef W by unfold kT; rw [K28]; rfl⟩
          · exact asks_skip fun a W hS hh hd => ⟨unwanted_of (j := 12) (s := 31) (want := true) (by kernel_rfl) (hd.vl 12 31 (by kernel_rfl) K12), show kT KL 29 undef W by unfold kT; rw [K29]; rfl⟩
          · exact asks_skip fun a W hS hh hd => ⟨unwanted_of (j := 12) (s := 31) (want := true) (by kernel_rfl) (hd.vl 12 31 (by kernel_rfl) K12), show kT KL 30 undef W by unfold kT; rw [K30]; rfl⟩
          · exact asksY rfl fun a W hS hh hd => giv_run (run_pick rfl (eval_tmp (hd.vl 12 31 (by kernel_rfl) K12)) (eval_tmp (hd.vl 30 49 (by kernel_rfl) K30)) rfl) K31
        · intro a1 w2 hb2 hK
          have e0 := hK.vl 0 19 (by kernel_rfl) K0
          have e1 := hK.vl 1 20 (by kernel_rfl) K1
          have e2 := hK.vl 2 21 (by kernel_rfl) K2
          have e3 := hK.vl 3 22 (by kernel_rfl) K3
          have e4 := hK.vl 4 23 (by kernel_rfl) K4
          have e5 := hK.vl 5 24 (by kernel_rfl) K5
          have e6 := hK.vl 6 25 (by kernel_rfl) K6
          have e7 := hK.vl 7 26 (by kernel_rfl) K7
          have e8 := hK.vl 8 27 (by kernel_rfl) K8
          have e9 := hK.vl 9 28 (by kernel_rfl) K9
          have e10 := hK.vl 10 29 (by kernel_rfl) K10
          have e11 := hK.vl 11 30 (by kernel_rfl) K11
          have e12 := hK.vl 12 31 (by kernel_rfl) K12
          have e13 := hK.vl 13 32 (by kernel_rfl) K13
          have e14 := hK.vl 14 33 (by kernel_rfl) K14
          have e15 := hK.vl 15 34 (by kernel_rfl) K15
          have e16 := hK.vl 16 35 (by kernel_rfl) K16
          have e17 := hK.vl 17 36 (by kernel_rfl) K17
          have e18 := hK.vl 18 37 (by kernel_rfl) K18
          have e19 := hK.vl 19 38 (by kernel_rfl) K19
          have e20 := hK.vl 20 39 (by kernel_rfl) K20
          have e21 := hK.vl 21 40 (by kernel_rfl) K21
          have e22 := hK.vl 22 41 (by kernel_rfl) K22
          have e23 := hK.vl 23 42 (by kernel_rfl) K23
          have e24 := hK.vl 24 43 (by kernel_rfl) K24
          have e25 := hK.vl 25 44 (by kernel_rfl) K25
          have e26 := hK.vl 26 45 (by kernel_rfl) K26
          have e27 := hK.vl 27 46 (by kernel_rfl) K27
          have e28 := hK.vl 28 47 (by kernel_rfl) K28
          have e29 := hK.vl 29 48 (by kernel_rfl) K29
          have e30 := hK.vl 30 49 (by kernel_rfl) K30
          have e31 := hK.vl 31 50 (by kernel_rfl) K31
          have F1 : Fr a1 76 [(0, (.string ⟨b.toArray⟩)), (3, (.pointer (some ⟨g0, 0, none⟩))), (6, v), (7, (.int .i64 (p : Int))), (8, (.int .i64 (n : Int))), (50, (.bool false))] := (hK.fr F0 [_, _, _, _, _, _, _, _, _, _, _, _, _, _, _, _, _, _, _, _, _, _, _, _, _, _, _, _, _, _, _, _] ⟨e0, e1, e2, e3, e4, e5, e6, e7, e8, e9, e10, e11, e12, e13, e14, e15, e16, e17, e18, e19, e20, e21, e22, e23, e24, e25, e26, e27, e28, e29, e30, e31, trivial⟩).sub ⟨rfl, rfl, rfl, rfl, rfl, rfl, trivial⟩
          have M1 := M0.grow hb2
          have hO1 := hO0.grow hb2
          clear hK K0 e0 K1 e1 K2 e2 K3 e3 K4 e4 K5 e5 K6 e6 K7 e7 K8 e8 K9 e9 K10 e10 K11 e11 K12 e12 K13 e13 K14 e14 K15 e15 K16 e16 K17 e17 K18 e18 K19 e19 K20 e20 K21 e21 K22 e22 K23 e23 K24 e24 K25 e25 K26 e26 K27 e27 K28 e28 K29 e29 K30 e30 K31 e31
          clear F0 M0
          refine nx ?_
          refine wp_cond_false (F1.ev 50 rfl) ?_
          refine wp_exit ?_
          refine nxExit ?_
          refine nxExit ?_
          refine bkHere ?_
          refine nx ?_
          refine wp_seq ?_
          refine wsl ?_
          refine mvS F1 rfl rfl rfl rfl rfl fun a2 F2 => ?_
          refine mvS F2 rfl rfl rfl rfl rfl fun a3 F3 => ?_
          refine sr F3 (run_add (r := ((p + n : Nat) : Int)) rfl (F3.ev 53 rfl) (F3.ev 54 rfl) (by rw [IntKind.wrap_i64]; omega)) rfl rfl rfl fun a4 F4 => ?_
          refine mvS F4 rfl rfl rfl rfl rfl fun a5 F5 => ?_
          refine sr F5 (run_len rfl (F5.ev 56 rfl) rfl Tryd.underlying9) rfl rfl rfl fun a6 F6 => ?_
          refine sr (v := (.bool true)) F6 (run_gtr rfl (F6.ev 55 rfl) (F6.ev 57 rfl) (decide_eq_true (by omega))) rfl rfl rfl fun a7 F7 => ?_
          refine sn ?_
          clear F1 F2 F3 F4 F5 F6
          refine wp_cond_true (F7.ev 58 rfl) ?_
          refine wp_region_lit ?_
          refine mvS F7 rfl rfl rfl rfl rfl fun a8 F8 => ?_
          refine sr F8 (run_len rfl (F8.ev 59 rfl) rfl Tryd.underlying9) rfl rfl rfl fun a9 F9 => ?_
          refine mvS F9 rfl rfl rfl rfl rfl fun a10 F10 => ?_
          refine sr F10 (run_sub (r := ((b.length - p : Nat) : Int)) rfl (F10.ev 60 rfl) (F10.ev 61 rfl) (by rw [IntKind.wrap_i64]; omega)) rfl rfl rfl fun a11 F11 => ?_
          refine asS F11 rfl rfl rfl rfl rfl fun a12 F12 => ?_
          refine sn ?_
          clear F7 F8 F9 F10 F11
          refine wsl ?_
          refine mvS F12 rfl rfl rfl rfl rfl fun a13 F13 => ?_
          refine mvS F13 rfl rfl rfl rfl rfl fun a14 F14 => ?_
          refine mvS F14 rfl rfl rfl rfl rfl fun a15 F15 => ?_
          refine mvS F15 rfl rfl rfl rfl rfl fun a16 F16 => ?_
          refine mvS F16 rfl rfl rfl rfl rfl fun a17 F17 => ?_
          refine sr F17 (run_add (r := ((p + (b.length - p) : Nat) : Int)) rfl (F17.ev 66 rfl) (F17.ev 67 rfl) (by rw [IntKind.wrap_i64]; omega)) rfl rfl rfl fun a18 F18 => ?_
          refine sr (v := (.string ⟨(r.take (endS r)).toArray⟩)) F18 (run_sMidE (m := p) (m2 := (p + (b.length - p))) (by rw [hr, show p + (b.length - p) - p = (b.length - p) by omega, ← hes]) rfl (F18.ev 64 rfl) (F18.ev 65 rfl) (F18.ev 68 rfl) Tryd.underlying9 (by omega) (by omega) (by omega) (by omega)) rfl rfl rfl fun a19 F19 => ?_
          refine sqRow (cs := #[.string ⟨(r.take (endS r)).toArray⟩]) (t := 9) (m := 1) F19 M1 (wantedS rfl) (run_strs1 rfl (F19.ev 69 rfl)) rfl (by decide) fun g6 a20 w3 hgg6 hb3 F20 M2 => ?_
          have hO2 := hO1.add (S := isB 9 #[.string ⟨(r.take (endS r)).toArray⟩]) hb3 hgg6
          refine sqAppend (news := [.string ⟨(r.take (endS r)).toArray⟩]) elStr F20 M2 hO2 rfl rfl (F20.ev 63 rfl) (F20.ev 70 rfl) rfl (blkNews (M2.at 0 rfl)) (all_one rfl) (by unfold maxLen; omega) (by omega) rfl (by decide) fun v7 a21 w4 hO3 M3 hnilv7 F21 => ?_
          refine asS F21 rfl rfl rfl rfl rfl fun a22 F22 => ?_
          refine sn ?_
          clear F12 F13 F14 F15 F16 F17 F18 F19 F20 F21 M1 M2
          refine wp_region_lit ?_
          refine mvS F22 rfl rfl rfl rfl rfl fun a23 F23 => ?_
          refine mvS F23 rfl rfl rfl rfl rfl fun a24 F24 => ?_
          refine sr F24 (run_add (r := ((p + (b.length - p) : Nat) : Int)) rfl (F24.ev 72 rfl) (F24.ev 73 rfl) (by rw [IntKind.wrap_i64]; omega)) rfl rfl rfl fun a25 F25 => ?_
          refine asS F25 rfl rfl rfl rfl rfl fun a26 F26 => ?_
          refine sqEnd ?_
          clear F22 F23 F24 F25
          refine bkEnd ?_
          refine nx ?_
          exact ⟨_, by omega, d ++ [r.take (endS r)], p + (b.length - p), v7, rfl, by omega, by rw [List.length_append, List.length_singleton]; omega, by rw [hT, List.append_assoc, hdrop, ← hes]; rfl, by rw [List.map_append, List.length_append]; exact hO3.sub (.cons _ (.refl _)), F26.sub ⟨rfl, rfl, rfl, rfl, trivial⟩, M3.sub (.cons _ (.refl _))⟩
      · have hes : endS r = n := by omega
        refine wp_seq ?_
        refine wp_seq ?_
        obtain ⟨KL, hKL⟩ : ∃ KL, KL = [kval (.int .i64 (p : Int)), kval (.int .i64 (n : Int)), kval (.int .i64 ((p + n : Nat) : Int)), kval (.string ⟨b.toArray⟩), kval (.int .i64 (b.length : Int)), kval (.bool false), kval (.bool false), kval undef, kval undef, kval undef, kval undef, kval (.bool false), kval (.bool false), kval undef, kval undef, kval undef, kval undef, kval undef, kval undef, kval undef, kval undef, kval undef, kval undef, kval undef, kval undef, kval undef, kval undef, kval undef, kval undef, kval undef, kval undef, kval (.bool false)] := ⟨_, rfl⟩
        have K0 := getK hKL 0
        have K1 := getK hKL 1
        have K2 := getK hKL 2
        have K3 := getK hKL 3
        have K4 := getK hKL 4
        have K5 := getK hKL 5
        have K6 := getK hKL 6
        have K7 := getK hKL 7
        have K8 := getK hKL 8
        have K9 := getK hKL 9
        have K10 := getK hKL 10
        have K11 := getK hKL 11
        have K12 := getK hKL 12
        have K13 := getK hKL 13
        have K14 := getK hKL 14
        have K15 := getK hKL 15
        have K16 := getK hKL 16
        have K17 := getK hKL 17
        have K18 := getK hKL 18
        have K19 := getK hKL 19
        have K20 := getK hKL 20
        have K21 := getK hKL 21
        have K22 := getK hKL 22
        have K23 := getK hKL 23
        have K24 := getK hKL 24
        have K25 := getK hKL 25
        have K26 := getK hKL 26
        have K27 := getK hKL 27
        have K28 := getK hKL 28
        have K29 := getK hKL 29
        have K30 := getK hKL 30
        have K31 := getK hKL 31
        clear hKL
        refine wp_region_kd 76 (by kernel_rfl) (by kernel_rfl) (by kernel_rfl) F0.size KL ?_ ?_
        · refine ⟨?_, ?_, ?_, ?_, ?_, ?_, ?_, ?_, ?_, ?_, ?_, ?_, ?_, ?_, ?_, ?_, ?_, ?_, ?_, ?_, ?_, ?_, ?_, ?_, ?_, ?_, ?_, ?_, ?_, ?_, ?_, ?_, trivial⟩
          · exact asksY rfl fun a W hS hh hd => giv_run (run_mv rfl (eval_tmp (hh 7 _ rfl (F0.at 7 rfl)))) K0
          · exact asksY rfl fun a W hS hh hd => giv_run (run_mv rfl (eval_tmp (hh 8 _ rfl (F0.at 8 rfl)))) K1
          · exact asksY rfl fun a W hS hh hd => giv_run (run_add (r := ((p + n : Nat) : Int)) rfl (eval_tmp (hd.vl 0 19 (by kernel_rfl) K0)) (eval_tmp (hd.vl 1 20 (by kernel_rfl) K1)) (by rw [IntKind.wrap_i64]; omega)) K2
          · exact asksY rfl fun a W hS hh hd => giv_run (run_mv rfl (eval_tmp (hh 0 _ rfl (F0.at 0 rfl)))) K3
          · exact asksY rfl fun a W hS hh hd => giv_run (run_len rfl (eval_tmp (hd.vl 3 22 (by kernel_rfl) K3)) rfl Tryd.underlying9) K4
          · exact asksY rfl fun a W hS hh hd => giv_run (run_lss rfl (eval_tmp (hd.vl 2 21 (by kernel_rfl) K2)) (eval_tmp (hd.vl 4 23 (by kernel_rfl) K4)) (decide_eq_false (by omega))) K5
          · exact asksY rfl fun a W hS hh hd => giv_run (run_mv rfl (eval_tmp (hd.vl 5 24 (by kernel_rfl) K5))) K6
          · exact asks_skip fun a W hS hh hd => ⟨unwanted_of (j := 6) (s := 25) (want := true) (by kernel_rfl) (hd.vl 6 25 (by kernel_rfl) K6), show kT KL 7 undef W by unfold kT; rw [K7]; rfl⟩
          · exact asks_skip fun a W hS hh hd => ⟨unwanted_of (j := 6) (s := 25) (want := true) (by kernel_rfl) (hd.vl 6 25 (by kernel_rfl) K6), show kT KL 8 undef W by unfold kT; rw [K8]; rfl⟩
          · exact asks_skip fun a W hS hh hd => ⟨unwanted_of (j := 6) (s := 25) (want := true) (by kernel_rfl) (hd.vl 6 25 (by kernel_rfl) K6), show kT KL 9 undef W by unfold kT; rw [K9]; rfl⟩
          · exact asks_skip fun a W hS hh hd => ⟨unwanted_of (j := 6) (s := 25) (want := true) (by kernel_rfl) (hd.vl 6 25 (by kernel_rfl) K6), show kT KL 10 undef W by unfold kT; rw [K10]; rfl⟩
          · exact asksY rfl fun a W hS hh hd => giv_run (run_pick rfl (eval_tmp (hd.vl 6 25 (by kernel_rfl) K6)) (eval_tmp (hd.vl 10 29 (by kernel_rfl) K10)) rfl) K11
          · exact asksY rfl fun a W hS hh hd => giv_run (run_mv rfl (eval_tmp (hd.vl 11 30 (by kernel_rfl) K11))) K12
          · exact asks_skip fun a W hS hh hd => ⟨unwanted_of (j := 12) (s := 31) (want := true) (by kernel_rfl) (hd.vl 12 31 (by kernel_rfl) K12), show kT KL 13 undef W by unfold kT; rw [K13]; rfl⟩
          · exact asks_skip fun a W hS hh hd => ⟨unwanted_of (j := 12) (s := 31) (want := true) (by kernel_rfl) (hd.vl 12 31 (by kernel_rfl) K12), show kT KL 14 undef W by unfold kT; rw [K14]; rfl⟩
          · exact asks_skip fun a W hS hh hd => ⟨unwanted_of (j := 12) (s := 31) (want := true) (by kernel_rfl) (hd.vl 12 31 (by kernel_rfl) K12), show kT KL 15 undef W by unfold kT; rw [K15]; rfl⟩
          · exact asks_skip fun a W hS hh hd => ⟨unwanted_of (j := 12) (s := 31) (want := true) (by kernel_rfl) (hd.vl 12 31 (by kernel_rfl) K12), show kT KL 16 undef W by unfold kT; rw [K16]; rfl⟩
          · exact asks_skip fun a W hS hh hd => ⟨unwanted_of (j := 12) (s := 31) (want := true) (by kernel_rfl) (hd.vl 12 31 (by kernel_rfl) K12), show kT KL 17 undef W by unfold kT; rw [K17]; rfl⟩
          · exact asks_skip fun a W hS hh hd => ⟨unwanted_of (j := 12) (s := 31) (want := true) (by kernel_rfl) (hd.vl 12 31 (by kernel_rfl) K12), show kT KL 18 undef W by unfold kT; rw [K18]; rfl⟩
          · exact asks_skip fun a W hS hh hd => ⟨unwanted_of (j := 12) (s := 31) (want := true) (by kernel_rfl) (hd.vl 12 31 (by kernel_rfl) K12), show kT KL 19 undef W by unfold kT; rw [K19]; rfl⟩
          · exact asks_skip fun a W hS hh hd => ⟨unwanted_of (j := 12) (s := 31) (want := true) (by kernel_rfl) (hd.vl 12 31 (by kernel_rfl) K12), show kT KL 20 undef W by unfold kT; rw [K20]; rfl⟩
          · exact asks_skip fun a W hS hh hd => ⟨unwanted_of (j := 12) (s := 31) (want := true) (by kernel_rfl) (hd.vl 12 31 (by kernel_rfl) K12), show kT KL 21 undef W by unfold kT; rw [K21]; rfl⟩
          · exact asks_skip fun a W hS hh hd => ⟨unwanted_of (j := 12) (s := 31) (want := true) (by kernel_rfl) (hd.vl 12 31 (by kernel_rfl) K12), show kT KL 22 undef W by unfold kT; rw [K22]; rfl⟩
          · exact asks_skip fun a W hS hh hd => ⟨unwanted_of (j := 12) (s := 31) (want := true) (by kernel_rfl) (hd.vl 12 31 (by kernel_rfl) K12), show kT KL 23 undef W by unfold kT; rw [K23]; rfl⟩
          · exact asks_skip fun a W hS hh hd => ⟨unwanted_of (j := 12) (s := 31) (want := true) (by kernel_rfl) (hd.vl 12 31 (by kernel_rfl) K12), show kT KL 24 undef W by unfold kT; rw [K24]; rfl⟩
          · exact asks_skip fun a W hS hh hd => ⟨unwanted_of (j := 12) (s := 31) (want := true) (by kernel_rfl) (hd.vl 12 31 (by kernel_rfl) K12), show kT KL 25 undef W by unfold kT; rw [K25]; rfl⟩
          · exact asks_skip fun a W hS hh hd => ⟨unwanted_of (j := 12) (s := 31) (want := true) (by kernel_rfl) (hd.vl 12 31 (by kernel_rfl) K12), show kT KL 26 undef W by unfold kT; rw [K26]; rfl⟩
          · exact asks_skip fun a W hS hh hd => ⟨unwanted_of (j := 12) (s := 31) (want := true) (by kernel_rfl) (hd.vl 12 31 (by kernel_rfl) K12), show kT KL 27 undef W by unfold kT; rw [K27]; rfl⟩
          · exact asks_skip fun a W hS hh hd => ⟨unwanted_of (j := 12) (s := 31) (want := true) (by kernel_rfl) (hd.vl 12 31 (by kernel_rfl) K12), show kT KL 28 undef W by unfold kT; rw [K28]; rfl⟩
          · exact asks_skip fun a W hS hh hd => ⟨unwanted_of (j := 12) (s := 31) (want := true) (by kernel_rfl) (hd.vl 12 31 (by kernel_rfl) K12), show kT KL 29 undef W by unfold kT; rw [K29]; rfl⟩
          · exact asks_skip fun a W hS hh hd => ⟨unwanted_of (j := 12) (s := 31) (want := true) (by kernel_rfl) (hd.vl 12 31 (by kernel_rfl) K12), show kT KL 30 undef W by unfold kT; rw [K30]; rfl⟩
          · exact asksY rfl fun a W hS hh hd => giv_run (run_pick rfl (eval_tmp (hd.vl 12 31 (by kernel_rfl) K12)) (eval_tmp (hd.vl 30 49 (by kernel_rfl) K30)) rfl) K31
        · intro a1 w2 hb2 hK
          have e0 := hK.vl 0 19 (by kernel_rfl) K0
          have e1 := hK.vl 1 20 (by kernel_rfl) K1
          have e2 := hK.vl 2 21 (by kernel_rfl) K2
          have e3 := hK.vl 3 22 (by kernel_rfl) K3
          have e4 := hK.vl 4 23 (by kernel_rfl) K4
          have e5 := hK.vl 5 24 (by kernel_rfl) K5
          have e6 := hK.vl 6 25 (by kernel_rfl) K6
          have e7 := hK.vl 7 26 (by kernel_rfl) K7
          have e8 := hK.vl 8 27 (by kernel_rfl) K8
          have e9 := hK.vl 9 28 (by kernel_rfl) K9
          have e10 := hK.vl 10 29 (by kernel_rfl) K10
          have e11 := hK.vl 11 30 (by kernel_rfl) K11
          have e12 := hK.vl 12 31 (by kernel_rfl) K12
          have e13 := hK.vl 13 32 (by kernel_rfl) K13
          have e14 := hK.vl 14 33 (by kernel_rfl) K14
          have e15 := hK.vl 15 34 (by kernel_rfl) K15
          have e16 := hK.vl 16 35 (by kernel_rfl) K16
          have e17 := hK.vl 17 36 (by kernel_rfl) K17
          have e18 := hK.vl 18 37 (by kernel_rfl) K18
          have e19 := hK.vl 19 38 (by kernel_rfl) K19
          have e20 := hK.vl 20 39 (by kernel_rfl) K20
          have e21 := hK.vl 21 40 (by kernel_rfl) K21
          have e22 := hK.vl 22 41 (by kernel_rfl) K22
          have e23 := hK.vl 23 42 (by kernel_rfl) K23
          have e24 := hK.vl 24 43 (by kernel_rfl) K24
          have e25 := hK.vl 25 44 (by kernel_rfl) K25
          have e26 := hK.vl 26 45 (by kernel_rfl) K26
          have e27 := hK.vl 27 46 (by kernel_rfl) K27
          have e28 := hK.vl 28 47 (by kernel_rfl) K28
          have e29 := hK.vl 29 48 (by kernel_rfl) K29
          have e30 := hK.vl 30 49 (by kernel_rfl) K30
          have e31 := hK.vl 31 50 (by kernel_rfl) K31
          have F1 : Fr a1 76 [(0, (.string ⟨b.toArray⟩)), (3, (.pointer (some ⟨g0, 0, none⟩))), (6, v), (7, (.int .i64 (p : Int))), (8, (.int .i64 (n : Int))), (50, (.bool false))] := (hK.fr F0 [_, _, _, _, _, _, _, _, _, _, _, _, _, _, _, _, _, _, _, _, _, _, _, _, _, _, _, _, _, _, _, _] ⟨e0, e1, e2, e3, e4, e5, e6, e7, e8, e9, e10, e11, e12, e13, e14, e15, e16, e17, e18, e19, e20, e21, e22, e23, e24, e25, e26, e27, e28, e29, e30, e31, trivial⟩).sub ⟨rfl, rfl, rfl, rfl, rfl, rfl, trivial⟩
          have M1 := M0.grow hb2
          have hO1 := hO0.grow hb2
          clear hK K0 e0 K1 e1 K2 e2 K3 e3 K4 e4 K5 e5 K6 e6 K7 e7 K8 e8 K9 e9 K10 e10 K11 e11 K12 e12 K13 e13 K14 e14 K15 e15 K16 e16 K17 e17 K18 e18 K19 e19 K20 e20 K21 e21 K22 e22 K23 e23 K24 e24 K25 e25 K26 e26 K27 e27 K28 e28 K29 e29 K30 e30 K31 e31
          clear F0 M0
          refine nx ?_
          refine wp_cond_false (F1.ev 50 rfl) ?_
          refine wp_exit ?_
          refine nxExit ?_
          refine nxExit ?_
          refine bkHere ?_
          refine nx ?_
          refine wp_seq ?_
          refine wsl ?_
          refine mvS F1 rfl rfl rfl rfl rfl fun a2 F2 => ?_
          refine mvS F2 rfl rfl rfl rfl rfl fun a3 F3 => ?_
          refine sr F3 (run_add (r := ((p + n : Nat) : Int)) rfl (F3.ev 53 rfl) (F3.ev 54 rfl) (by rw [IntKind.wrap_i64]; omega)) rfl rfl rfl fun a4 F4 => ?_
          refine mvS F4 rfl rfl rfl rfl rfl fun a5 F5 => ?_
          refine sr F5 (run_len rfl (F5.ev 56 rfl) rfl Tryd.underlying9) rfl rfl rfl fun a6 F6 => ?_
          refine sr (v := (.bool false)) F6 (run_gtr rfl (F6.ev 55 rfl) (F6.ev 57 rfl) (decide_eq_false (by omega))) rfl rfl rfl fun a7 F7 => ?_
          refine sn ?_
          clear F1 F2 F3 F4 F5 F6
          refine cfs (F7.ev 58 rfl) ?_
          refine wsl ?_
          refine mvS F7 rfl rfl rfl rfl rfl fun a8 F8 => ?_
          refine mvS F8 rfl rfl rfl rfl rfl fun a9 F9 => ?_
          refine mvS F9 rfl rfl rfl rfl rfl fun a10 F10 => ?_
          refine mvS F10 rfl rfl rfl rfl rfl fun a11 F11 => ?_
          refine mvS F11 rfl rfl rfl rfl rfl fun a12 F12 => ?_
          refine sr F12 (run_add (r := ((p + n : Nat) : Int)) rfl (F12.ev 66 rfl) (F12.ev 67 rfl) (by rw [IntKind.wrap_i64]; omega)) rfl rfl rfl fun a13 F13 => ?_
          refine sr (v := (.string ⟨(r.take (endS r)).toArray⟩)) F13 (run_sMidE (m := p) (m2 := (p + n)) (by rw [hr, show p + n - p = n by omega, ← hes]) rfl (F13.ev 64 rfl) (F13.ev 65 rfl) (F13.ev 68 rfl) Tryd.underlying9 (by omega) (by omega) (by omega) (by omega)) rfl rfl rfl fun a14 F14 => ?_
          refine sqRow (cs := #[.string ⟨(r.take (endS r)).toArray⟩]) (t := 9) (m := 1) F14 M1 (wantedS rfl) (run_strs1 rfl (F14.ev 69 rfl)) rfl (by decide) fun g8 a15 w3 hgg8 hb3 F15 M2 => ?_
          have hO2 := hO1.add (S := isB 9 #[.string ⟨(r.take (endS r)).toArray⟩]) hb3 hgg8
          refine sqAppend (news := [.string ⟨(r.take (endS r)).toArray⟩]) elStr F15 M2 hO2 rfl rfl (F15.ev 63 rfl) (F15.ev 70 rfl) rfl (blkNews (M2.at 0 rfl)) (all_one rfl) (by unfold maxLen; omega) (by omega) rfl (by decide) fun v9 a16 w4 hO3 M3 hnilv9 F16 => ?_
          refine asS F16 rfl rfl rfl rfl rfl fun a17 F17 => ?_
          refine sn ?_
          clear F7 F8 F9 F10 F11 F12 F13 F14 F15 F16 M1 M2
          refine wp_region_lit ?_
          refine mvS F17 rfl rfl rfl rfl rfl fun a18 F18 => ?_
          refine mvS F18 rfl rfl rfl rfl rfl fun a19 F19 => ?_
          refine sr F19 (run_add (r := ((p + n : Nat) : Int)) rfl (F19.ev 72 rfl) (F19.ev 73 rfl) (by rw [IntKind.wrap_i64]; omega)) rfl rfl rfl fun a20 F20 => ?_
          refine asS F20 rfl rfl rfl rfl rfl fun a21 F21 => ?_
          refine sqEnd ?_
          clear F17 F18 F19 F20
          refine bkEnd ?_
          refine nx ?_
          exact ⟨_, by omega, d ++ [r.take (endS r)], p + n, v9, rfl, by omega, by rw [List.length_append, List.length_singleton]; omega, by rw [hT, List.append_assoc, hdrop, ← hes]; rfl, by rw [List.map_append, List.length_append]; exact hO3.sub (.cons _ (.refl _)), F21.sub ⟨rfl, rfl, rfl, rfl, trivial⟩, M3.sub (.cons _ (.refl _))⟩
  · have hie : p = b.length := by omega
    have hres : cutS b = d := by rw [hT, hie, List.drop_length, cutS_nil, List.append_nil]
    refine wp_seq ?_
    refine wsl ?_
    refine mvS F0 rfl rfl rfl rfl rfl fun a1 F1 => ?_
    refine mvS F1 rfl rfl rfl rfl rfl fun a2 F2 => ?_
    refine sr F2 (run_len rfl (F2.ev 14 rfl) rfl Tryd.underlying9) rfl rfl rfl fun a3 F3 => ?_
    refine sr (v := (.bool false)) F3 (run_lss rfl (F3.ev 13 rfl) (F3.ev 15 rfl) (decide_eq_false (by omega))) rfl rfl rfl fun a4 F4 => ?_
    refine sn ?_
    clear F0 F1 F2 F3
    refine wp_cond_false (F4.ev 16 rfl) ?_
    refine wp_exit ?_
    refine nxExit ?_
    refine nxExit ?_
    refine bkHere ?_
    refine nx ?_
    refine wsl ?_
    refine mvS F4 rfl rfl rfl rfl rfl fun a5 F5 => ?_
    refine asS F5 rfl rfl rfl rfl rfl fun a6 F6 => ?_
    refine sr (v := (.int .i64 0)) F6 (run_as rfl rfl) rfl rfl rfl fun a7 F7 => ?_
    refine sn ?_
    clear F4 F5 F6
    refine wp_ret ?_
    exact ret2 F7 rfl rfl rfl ⟨_, rfl, ⟨v, rfl, by rw [hres]; exact hO0.owns⟩, M0.below⟩
set_option maxRecDepth 100000 in
set_option maxHeartbeats 1000000 in
theorem rcut39_any (b : List UInt8) (w : World) (hb : b.length < 2 ^ 40) : Calls Tryd.prog 15 #[.string ⟨b.toArray⟩] w fun e w' => ∃ u, e = .returned u ∧ w'.ownsRow w.heap.size 9 1 u (cutS b).length ((cutS b).map tx) ∧ Below w.heap.size w w' := by
  refine walk_enter Tryd.func15 rfl rfl rfl fun a0 F0 => ?_
  have M0 := Mem.new w
  refine wsl ?_
  refine sr (v := (.slice none 0 0)) F0 (run_as rfl rfl) rfl rfl rfl fun a1 F1 => ?_
  refine sn ?_
  clear F0
  refine wsl ?_
  refine mvS F1 rfl rfl rfl rfl rfl fun a2 F2 => ?_
  refine sr (v := (.agg #[.int .i64 16, .int .i64 64, .int .i64 1024, .int .u32 255])) F2 (run_blt (vs := #[(0, .int .i64 16), (1, .int .i64 64), (2, .int .i64 1024), (3, .int .u32 255)]) (cs := #[.int .i64 16, .int .i64 64, .int .i64 1024, .int .u32 255]) rfl (bltE4 rfl rfl rfl rfl) (by kernel_rfl)) rfl rfl rfl fun a3 F3 => ?_
  refine sqT (T := fun u wx => (∃ v, u = .tuple #[v, .int .i64 0] ∧ wx.ownsRow w.heap.size 9 1 v (cutS b).length ((cutS b).map tx)) ∧ Below w.heap.size w wx) F3 (wantedS rfl) (run_call rfl Tryd.func33 (by kernel_rfl) rfl (mapE2 (F3.ev 6 rfl) (F3.ev 7 rfl))) rfl (by decide) (rcut9_any b w hb) fun u0 a4 w1 hT1 F4 => ?_
  obtain ⟨⟨v1, rfl, hr1⟩, hb1⟩ := hT1
  have hO1 := OwnR.ofCall M0 hr1
  have M1 := M0.grow hb1
  refine mvS F4 rfl rfl rfl rfl rfl fun a5 F5 => ?_
  refine sr (v := v1) F5 (run_ext rfl (F5.ev 5 rfl) rfl) rfl rfl rfl fun a6 F6 => ?_
  refine sr (v := (.int .i64 0)) F6 (run_ext rfl (F6.ev 5 rfl) rfl) rfl rfl rfl fun a7 F7 => ?_
  refine asS F7 rfl rfl rfl rfl rfl fun a8 F8 => ?_
  refine asS F8 rfl rfl rfl rfl rfl fun a9 F9 => ?_
  refine sn ?_
  clear F1 F2 F3 F4 F5 F6 F7 F8 M0
  refine wsl ?_
  refine mvS F9 rfl rfl rfl rfl rfl fun a10 F10 => ?_
  refine asS F10 rfl rfl rfl rfl rfl fun a11 F11 => ?_
  refine sn ?_
  clear F9 F10
  refine wp_ret ?_
  exact ret1 F11 rfl rfl ⟨_, rfl, hO1.owns, M1.below⟩
set_option maxRecDepth 100000 in
set_option maxHeartbeats 1000000 in
theorem rsame39_any (l : List (List UInt8)) (v u : Value) (w : World) (hS1 : Strs w v l) (hS2 : Strs w u l) (_hl : l.length < 2 ^ 40) : Calls Tryd.prog 14 #[v, u] w fun e w' => e = .returned (.bool true) ∧ Below w.heap.size w w' := by
  have hV := Strs.sl hS1
  have hU := Strs.sl hS2
  refine walk_enter Tryd.func14 rfl rfl rfl fun a0 F0 => ?_
  have M0 := Mem.new w
  refine wsl ?_
  refine sr (v := (.bool false)) F0 (run_as rfl rfl) rfl rfl rfl fun a1 F1 => ?_
  refine sn ?_
  clear F0
  refine wp_seq ?_
  refine wsl ?_
  refine mvS F1 rfl rfl rfl rfl rfl fun a2 F2 => ?_
  refine sr F2 (run_lenS rfl (F2.ev 6 rfl) (hV.below M0.below) rfl Tryd.underlying23) rfl rfl rfl fun a3 F3 => ?_
  refine mvS F3 rfl rfl rfl rfl rfl fun a4 F4 => ?_
  refine sr F4 (run_lenS rfl (F4.ev 8 rfl) (hU.below M0.below) rfl Tryd.underlying23) rfl rfl rfl fun a5 F5 => ?_
  refine sr (v := (.bool false)) F5 (run_nei rfl (F5.ev 7 rfl) (F5.ev 9 rfl) (bne_eq_false_iff_eq.2 (by omega))) rfl rfl rfl fun a6 F6 => ?_
  refine sn ?_
  clear F1 F2 F3 F4 F5
  refine cfs (F6.ev 10 rfl) ?_
  refine wp_seq ?_
  refine wsl ?_
  refine sr (v := (.int .i64 0)) F6 (run_as rfl rfl) rfl rfl rfl fun a7 F7 => ?_
  refine sn ?_
  clear F6
  refine wp_block ?_
  refine wkLoop (fun m a w2 => ∃ i : Nat, i ≤ l.length ∧ m = l.length - i ∧ Fr a 26 [(0, v), (1, u), (5, .int .i64 (i : Int))] ∧ Mem w [] w2) l.length ⟨0, Nat.zero_le _, rfl, F7.sub ⟨rfl, rfl, rfl, trivial⟩, M0⟩ ?_
  rintro m a0 w1 ⟨i, hi, rfl, F0, M0⟩
  by_cases h1 : i < l.length
  · obtain ⟨x, hx⟩ : ∃ x, l[i]? = some x := ⟨l[i], by simp [h1]⟩
    refine wp_seq ?_
    refine wsl ?_
    refine mvS F0 rfl rfl rfl rfl rfl fun a1 F1 => ?_
    refine mvS F1 rfl rfl rfl rfl rfl fun a2 F2 => ?_
    refine sr F2 (run_lenS rfl (F2.ev 12 rfl) (hV.below M0.below) rfl Tryd.underlying23) rfl rfl rfl fun a3 F3 => ?_
    refine sr (v := (.bool true)) F3 (run_lss rfl (F3.ev 11 rfl) (F3.ev 13 rfl) (decide_eq_true (by omega))) rfl rfl rfl fun a4 F4 => ?_
    refine sn ?_
    clear F0 F1 F2 F3
    refine cts (F4.ev 14 rfl) ?_
    refine wp_seq ?_
    refine wp_block ?_
    refine wp_seq ?_
    obtain ⟨KL, hKL⟩ : ∃ KL, KL = [kval v, kval (.int .i64 (i : Int)), kval (slPtr v (i * 1)), kval (.string ⟨x.toArray⟩), kval u, kval (.int .i64 (i : Int)), kval (slPtr u (i * 1)), kval (.string ⟨x.toArray⟩), kval (.bool false)] := ⟨_, rfl⟩
    have K0 := getK hKL 0
    have K1 := getK hKL 1
    have K2 := getK hKL 2
    have K3 := getK hKL 3
    have K4 := getK hKL 4
    have K5 := getK hKL 5
    have K6 := getK hKL 6
    have K7 := getK hKL 7
    have K8 := getK hKL 8
    clear hKL
    refine wp_region_kd 26 (by kernel_rfl) (by kernel_rfl) (by kernel_rfl) F4.size KL ?_ ?_
    · refine ⟨?_, ?_, ?_, ?_, ?_, ?_, ?_, ?_, ?_, trivial⟩
      · exact asksY rfl fun a W hS hh hd => giv_run (run_mv rfl (eval_tmp (hh 0 _ rfl (F4.at 0 rfl)))) K0
      · exact asksY rfl fun a W hS hh hd => giv_run (run_mv rfl (eval_tmp (hh 5 _ rfl (F4.at 5 rfl)))) K1
      · exact asksY rfl fun a W hS hh hd => giv_run (run_atP (i := i) rfl (eval_tmp (hd.vl 0 17 (by kernel_rfl) K0)) (eval_tmp (hd.vl 1 18 (by kernel_rfl) K1)) rfl (hV.below (M0.grow hS).below) (by omega) elStr.un (by kernel_rfl)) K2
      · exact asksY rfl fun a W hS hh hd => giv_run (run_ldP rfl (eval_tmp (hd.vl 2 19 (by kernel_rfl) K2)) (hV.below (M0.grow hS).below) (map_at hx) (by kernel_rfl)) K3
      · exact asksY rfl fun a W hS hh hd => giv_run (run_mv rfl (eval_tmp (hh 1 _ rfl (F4.at 1 rfl)))) K4
      · exact asksY rfl fun a W hS hh hd => giv_run (run_mv rfl (eval_tmp (hh 5 _ rfl (F4.at 5 rfl)))) K5
      · exact asksY rfl fun a W hS hh hd => giv_run (run_atP (i := i) rfl (eval_tmp (hd.vl 4 21 (by kernel_rfl) K4)) (eval_tmp (hd.vl 5 22 (by kernel_rfl) K5)) rfl (hU.below (M0.grow hS).below) (by omega) elStr.un (by kernel_rfl)) K6
      · exact asksY rfl fun a W hS hh hd => giv_run (run_ldP rfl (eval_tmp (hd.vl 6 23 (by kernel_rfl) K6)) (hU.below (M0.grow hS).below) (map_at hx) (by kernel_rfl)) K7
      · exact asksY rfl fun a W hS hh hd => giv_run (run_nes rfl (eval_tmp (hd.vl 3 20 (by kernel_rfl) K3)) (eval_tmp (hd.vl 7 24 (by kernel_rfl) K7)) (by simp)) K8
    · intro a5 w2 hb2 hK
      have e0 := hK.vl 0 17 (by kernel_rfl) K0
      have e1 := hK.vl 1 18 (by kernel_rfl) K1
      have e2 := hK.vl 2 19 (by kernel_rfl) K2
      have e3 := hK.vl 3 20 (by kernel_rfl) K3
      have e4 := hK.vl 4 21 (by kernel_rfl) K4
      have e5 := hK.vl 5 22 (by kernel_rfl) K5
      have e6 := hK.vl 6 23 (by kernel_rfl) K6
      have e7 := hK.vl 7 24 (by kernel_rfl) K7
      have e8 := hK.vl 8 25 (by kernel_rfl) K8
      have F5 : Fr a5 26 [(0, v), (1, u), (5, (.int .i64 (i : Int))), (11, (.int .i64 (i : Int))), (12, v), (13, (.int .i64 (l.length : Int))), (14, (.bool true)), (25, (.bool false))] := (hK.fr F4 [_, _, _, _, _, _, _, _, _] ⟨e0, e1, e2, e3, e4, e5, e6, e7, e8, trivial⟩).sub ⟨rfl, rfl, rfl, rfl, rfl, rfl, rfl, rfl, trivial⟩
      have M1 := M0.grow hb2
      clear hK K0 e0 K1 e1 K2 e2 K3 e3 K4 e4 K5 e5 K6 e6 K7 e7 K8 e8
      clear F4 M0
      refine nx ?_
      refine wp_cond_false (F5.ev 25 rfl) ?_
      refine wp_skip ?_
      refine bkEnd ?_
      refine nx ?_
      refine wp_region_lit ?_
      refine mvS F5 rfl rfl rfl rfl rfl fun a6 F6 => ?_
      refine sr F6 (run_add (r := ((i + 1 : Nat) : Int)) rfl (F6.ev 15 rfl) rfl (by rw [IntKind.wrap_i64]; omega)) rfl rfl rfl fun a7 F7 => ?_
      refine asS F7 rfl rfl rfl rfl rfl fun a8 F8 => ?_
      refine sn ?_
      clear F5 F6 F7
      exact ⟨_, by omega, i + 1, by omega, rfl, F8.sub ⟨rfl, rfl, rfl, trivial⟩, M1⟩
  · skip
    refine wp_seq ?_
    refine wsl ?_
    refine mvS F0 rfl rfl rfl rfl rfl fun a1 F1 => ?_
    refine mvS F1 rfl rfl rfl rfl rfl fun a2 F2 => ?_
    refine sr F2 (run_lenS rfl (F2.ev 12 rfl) (hV.below M0.below) rfl Tryd.underlying23) rfl rfl rfl fun a3 F3 => ?_
    refine sr (v := (.bool false)) F3 (run_lss rfl (F3.ev 11 rfl) (F3.ev 13 rfl) (decide_eq_false (by omega))) rfl rfl rfl fun a4 F4 => ?_
    refine sn ?_
    clear F0 F1 F2 F3
    refine wp_cond_false (F4.ev 14 rfl) ?_
    refine wp_exit ?_
    refine nxExit ?_
    refine nxExit ?_
    refine bkHere ?_
    refine nx ?_
    refine wsl ?_
    refine sr (v := (.bool true)) F4 (run_as rfl rfl) rfl rfl rfl fun a5 F5 => ?_
    refine sn ?_
    clear F4
    refine wp_ret ?_
    exact ret1 F5 rfl rfl ⟨rfl, M0.below⟩
end Go.Proofs.YtdjjiblijbjobaaDoor
