/- The walk of the law KeysStay. Printed by gen_key22.py. -/
import Derived.Test.YtconhhhggckcbaaDoorRng8
namespace Go.Proofs.YtconhhhggckcbaaDoor
open Go.RowKit

attribute [local irreducible] sealS keyedS nonceS openS idS boxK bkeyS
set_option maxRecDepth 100000 in
set_option maxHeartbeats 1000000 in
theorem lawStay_any (l : List (List UInt8)) (v : Value) (nz : List UInt8) (w : World) (HG : Glob w) (hV : Sl w v 32 l.length (l.flatMap dgC)) (h32 : ∀ k ∈ l, k.length = 32) (hcap : capOk v) (hLnz : nz.length = 64) : Calls Tryd.prog 10 #[v, .agg (cells8 nz)] w fun e w' => e = .returned (.bool true) ∧ Below w.heap.size w w' := by
  by_cases hl0 : l.length = 0
  · skip
    refine walk_enter Tryd.func10 rfl rfl rfl fun a0 F0 => ?_
    have M0 := Mem.new w
    refine wsl ?_
    refine sqNew (cs := (cells8 nz)) (t := 46) F0 M0 (wantedS rfl) (run_box rfl (F0.ev 1 rfl)) rfl (by decide) fun g0 a1 w1 hgg0 hb1 F1 M1 => ?_
    refine sr (v := (.bool false)) F1 (run_as rfl rfl) rfl rfl rfl fun a2 F2 => ?_
    refine sn ?_
    clear F0 F1 M0
    refine wp_seq ?_
    refine wsl ?_
    refine sqC (v := (.bool true)) F2 M1 (wantedS rfl) (run_call rfl Tryd.func12 (by kernel_rfl) rfl (mapE0 )) rfl (by decide) (alive38_any w1 (HG.below M1.below)) fun a3 w2 hb2 F3 M2 => ?_
    refine sr (v := (.bool false)) F3 (run_not rfl (F3.ev 18 rfl)) rfl rfl rfl fun a4 F4 => ?_
    refine sn ?_
    clear F2 F3 M1
    refine cfs (F4.ev 19 rfl) ?_
    refine wp_seq ?_
    refine wsl ?_
    refine mvS F4 rfl rfl rfl rfl rfl fun a5 F5 => ?_
    refine sr F5 (run_lenS rfl (F5.ev 20 rfl) (hV.below M2.below) rfl Tryd.underlying28) rfl rfl rfl fun a6 F6 => ?_
    refine sr (v := (.bool true)) F6 (run_eqi rfl (F6.ev 21 rfl) rfl (beq_iff_eq.2 (by omega))) rfl rfl rfl fun a7 F7 => ?_
    refine mvS F7 rfl rfl rfl rfl rfl fun a8 F8 => ?_
    refine sqSkip F8 (unwantedG F8 rfl rfl rfl rfl rfl) rfl (by decide) fun a9 F9 => ?_
    refine sqSkip F9 (unwantedG F9 rfl rfl rfl rfl rfl) rfl (by decide) fun a10 F10 => ?_
    refine sqSkip F10 (unwantedG F10 rfl rfl rfl rfl rfl) rfl (by decide) fun a11 F11 => ?_
    refine sr (v := (.bool true)) F11 (run_pick rfl (F11.ev 23 rfl) rfl (F11.ev 26 rfl)) rfl rfl rfl fun a12 F12 => ?_
    refine mvS F12 rfl rfl rfl rfl rfl fun a13 F13 => ?_
    refine sqSkip F13 (unwantedG F13 rfl rfl rfl rfl rfl) rfl (by decide) fun a14 F14 => ?_
    refine sqSkip F14 (unwantedG F14 rfl rfl rfl rfl rfl) rfl (by decide) fun a15 F15 => ?_
    refine sqSkip F15 (unwantedG F15 rfl rfl rfl rfl rfl) rfl (by decide) fun a16 F16 => ?_
    refine sr (v := (.bool true)) F16 (run_pick rfl (F16.ev 28 rfl) rfl (F16.ev 31 rfl)) rfl rfl rfl fun a17 F17 => ?_
    refine sn ?_
    clear F4 F5 F6 F7 F8 F9 F10 F11 F12 F13 F14 F15 F16
    refine wp_cond_true (F17.ev 32 rfl) ?_
    refine wsl ?_
    refine sr (v := (.bool true)) F17 (run_as rfl rfl) rfl rfl rfl fun a18 F18 => ?_
    refine sn ?_
    clear F17
    refine wp_ret ?_
    refine nxRet ?_
    exact ret1 F18 rfl rfl ⟨rfl, M2.below⟩
  by_cases hl6 : 6 < l.length
  · skip
    refine walk_enter Tryd.func10 rfl rfl rfl fun a0 F0 => ?_
    have M0 := Mem.new w
    refine wsl ?_
    refine sqNew (cs := (cells8 nz)) (t := 46) F0 M0 (wantedS rfl) (run_box rfl (F0.ev 1 rfl)) rfl (by decide) fun g0 a1 w1 hgg0 hb1 F1 M1 => ?_
    refine sr (v := (.bool false)) F1 (run_as rfl rfl) rfl rfl rfl fun a2 F2 => ?_
    refine sn ?_
    clear F0 F1 M0
    refine wp_seq ?_
    refine wsl ?_
    refine sqC (v := (.bool true)) F2 M1 (wantedS rfl) (run_call rfl Tryd.func12 (by kernel_rfl) rfl (mapE0 )) rfl (by decide) (alive38_any w1 (HG.below M1.below)) fun a3 w2 hb2 F3 M2 => ?_
    refine sr (v := (.bool false)) F3 (run_not rfl (F3.ev 18 rfl)) rfl rfl rfl fun a4 F4 => ?_
    refine sn ?_
    clear F2 F3 M1
    refine cfs (F4.ev 19 rfl) ?_
    refine wp_seq ?_
    refine wsl ?_
    refine mvS F4 rfl rfl rfl rfl rfl fun a5 F5 => ?_
    refine sr F5 (run_lenS rfl (F5.ev 20 rfl) (hV.below M2.below) rfl Tryd.underlying28) rfl rfl rfl fun a6 F6 => ?_
    refine sr (v := (.bool false)) F6 (run_eqi rfl (F6.ev 21 rfl) rfl (beq_eq_false_iff_ne.2 (by omega))) rfl rfl rfl fun a7 F7 => ?_
    refine mvS F7 rfl rfl rfl rfl rfl fun a8 F8 => ?_
    refine sq (v := v) F8 (wantedG F8 rfl rfl rfl rfl rfl) (run_mv rfl (F8.ev 0 rfl)) rfl (by decide) fun a9 F9 => ?_
    refine sq (v := (.int .i64 (l.length : Int))) F9 (wantedG F9 rfl rfl rfl rfl rfl) (run_lenS rfl (F9.ev 24 rfl) (hV.below M2.below) rfl Tryd.underlying28) rfl (by decide) fun a10 F10 => ?_
    refine sq (v := (.bool true)) F10 (wantedG F10 rfl rfl rfl rfl rfl) (run_gtr rfl (F10.ev 25 rfl) rfl (decide_eq_true (by omega))) rfl (by decide) fun a11 F11 => ?_
    refine sr (v := (.bool true)) F11 (run_pick rfl (F11.ev 23 rfl) rfl (F11.ev 26 rfl)) rfl rfl rfl fun a12 F12 => ?_
    refine mvS F12 rfl rfl rfl rfl rfl fun a13 F13 => ?_
    refine sqSkip F13 (unwantedG F13 rfl rfl rfl rfl rfl) rfl (by decide) fun a14 F14 => ?_
    refine sqSkip F14 (unwantedG F14 rfl rfl rfl rfl rfl) rfl (by decide) fun a15 F15 => ?_
    refine sqSkip F15 (unwantedG F15 rfl rfl rfl rfl rfl) rfl (by decide) fun a16 F16 => ?_
    refine sr (v := (.bool true)) F16 (run_pick rfl (F16.ev 28 rfl) rfl (F16.ev 31 rfl)) rfl rfl rfl fun a17 F17 => ?_
    refine sn ?_
    clear F4 F5 F6 F7 F8 F9 F10 F11 F12 F13 F14 F15 F16
    refine wp_cond_true (F17.ev 32 rfl) ?_
    refine wsl ?_
    refine sr (v := (.bool true)) F17 (run_as rfl rfl) rfl rfl rfl fun a18 F18 => ?_
    refine sn ?_
    clear F17
    refine wp_ret ?_
    refine nxRet ?_
    exact ret1 F18 rfl rfl ⟨rfl, M2.below⟩
  · skip
    refine walk_enter Tryd.func10 rfl rfl rfl fun a0 F0 => ?_
    have M0 := Mem.new w
    refine wsl ?_
    refine sqNew (cs := (cells8 nz)) (t := 46) F0 M0 (wantedS rfl) (run_box rfl (F0.ev 1 rfl)) rfl (by decide) fun g0 a1 w1 hgg0 hb1 F1 M1 => ?_
    refine sr (v := (.bool false)) F1 (run_as rfl rfl) rfl rfl rfl fun a2 F2 => ?_
    refine sn ?_
    clear F0 F1 M0
    refine wp_seq ?_
    refine wsl ?_
    refine sqC (v := (.bool true)) F2 M1 (wantedS rfl) (run_call rfl Tryd.func12 (by kernel_rfl) rfl (mapE0 )) rfl (by decide) (alive38_any w1 (HG.below M1.below)) fun a3 w2 hb2 F3 M2 => ?_
    refine sr (v := (.bool false)) F3 (run_not rfl (F3.ev 18 rfl)) rfl rfl rfl fun a4 F4 => ?_
    refine sn ?_
    clear F2 F3 M1
    refine cfs (F4.ev 19 rfl) ?_
    refine wp_seq ?_
    refine wsl ?_
    refine mvS F4 rfl rfl rfl rfl rfl fun a5 F5 => ?_
    refine sr F5 (run_lenS rfl (F5.ev 20 rfl) (hV.below M2.below) rfl Tryd.underlying28) rfl rfl rfl fun a6 F6 => ?_
    refine sr (v := (.bool false)) F6 (run_eqi rfl (F6.ev 21 rfl) rfl (beq_eq_false_iff_ne.2 (by omega))) rfl rfl rfl fun a7 F7 => ?_
    refine mvS F7 rfl rfl rfl rfl rfl fun a8 F8 => ?_
    refine sq (v := v) F8 (wantedG F8 rfl rfl rfl rfl rfl) (run_mv rfl (F8.ev 0 rfl)) rfl (by decide) fun a9 F9 => ?_
    refine sq (v := (.int .i64 (l.length : Int))) F9 (wantedG F9 rfl rfl rfl rfl rfl) (run_lenS rfl (F9.ev 24 rfl) (hV.below M2.below) rfl Tryd.underlying28) rfl (by decide) fun a10 F10 => ?_
    refine sq (v := (.bool false)) F10 (wantedG F10 rfl rfl rfl rfl rfl) (run_gtr rfl (F10.ev 25 rfl) rfl (decide_eq_false (by omega))) rfl (by decide) fun a11 F11 => ?_
    refine sr (v := (.bool false)) F11 (run_pick rfl (F11.ev 23 rfl) rfl (F11.ev 26 rfl)) rfl rfl rfl fun a12 F12 => ?_
    refine mvS F12 rfl rfl rfl rfl rfl fun a13 F13 => ?_
    refine sq (v := v) F13 (wantedG F13 rfl rfl rfl rfl rfl) (run_mv rfl (F13.ev 0 rfl)) rfl (by decide) fun a14 F14 => ?_
    refine sqT (T := fun u wx => (∃ b : Bool, u = .bool b ∧ (b = true → ∀ (p q : Nat) (x y : List UInt8), l[p]? = some x → l[q]? = some y → q < p → x ≠ y ∧ keyedS x checkT ≠ keyedS y checkT)) ∧ Below w2.heap.size w2 wx) F14 (wantedG F14 rfl rfl rfl rfl rfl) (run_call rfl Tryd.func25 (by kernel_rfl) rfl (mapE1 (F14.ev 29 rfl))) rfl (by decide) ((apart38_any l v w2 (hV.below M2.below) h32 (by omega)).mono fun e w2 ⟨⟨b, h1, h2⟩, h3⟩ => ⟨_, h1, ⟨b, rfl, h2⟩, h3⟩) fun u1 a15 w3 hT3 F15 => ?_
    obtain ⟨⟨bap, rfl, hbap⟩, hb3⟩ := hT3
    have M3 := M2.grow hb3
    rcases bap with _ | _
    · skip
      refine sq (v := (.bool true)) F15 (wantedG F15 rfl rfl rfl rfl rfl) (run_not rfl (F15.ev 30 rfl)) rfl (by decide) fun a16 F16 => ?_
      refine sr (v := (.bool true)) F16 (run_pick rfl (F16.ev 28 rfl) rfl (F16.ev 31 rfl)) rfl rfl rfl fun a17 F17 => ?_
      refine sn ?_
      refine wp_cond_true (F17.ev 32 rfl) ?_
      refine wsl ?_
      refine sr (v := (.bool true)) F17 (run_as rfl rfl) rfl rfl rfl fun a18 F18 => ?_
      refine sn ?_
      clear F17
      refine wp_ret ?_
      refine nxRet ?_
      exact ret1 F18 rfl rfl ⟨rfl, M3.below⟩
    · skip
      have hap := hbap rfl
      have hn := nodup_of_ap hap
      refine sq (v := (.bool false)) F15 (wantedG F15 rfl rfl rfl rfl rfl) (run_not rfl (F15.ev 30 rfl)) rfl (by decide) fun a16 F16 => ?_
      refine sr (v := (.bool false)) F16 (run_pick rfl (F16.ev 28 rfl) rfl (F16.ev 31 rfl)) rfl rfl rfl fun a17 F17 => ?_
      refine sn ?_
      refine cfs (F17.ev 32 rfl) ?_
      refine wsl ?_
      refine mvS F17 rfl rfl rfl rfl rfl fun a18 F18 => ?_
      refine sr (v := (.slice (some ⟨g0, 0, none⟩) 64 64)) F18 (run_slA rfl (F18.ev 3 rfl) (run_sliceArr_all (P := Tryd.prog) Tryd.underlying46 so8 g0 0 (by decide) _)) rfl rfl rfl fun a19 F19 => ?_
      refine sr (v := (.string ⟨nz.toArray⟩)) F19 (run_cv rfl (F19.ev 35 rfl) (run_strBlk (l := nz) hLnz (M3.at 0 rfl))) rfl rfl rfl fun a20 F20 => ?_
      refine sqT (T := fun u wx => Kp.sat w3.heap.size (.tup4 (.st (.row 76 33 ((ringS l).length) ((ringS l).flatMap epF))) (.st (.row 23 32 l.length (l.flatMap dgC))) (.rows2 31 54 33 (l.map fun k => (5, (shS k nz).flatMap shareC))) (.val (.bool true))) u wx ∧ Below w3.heap.size w3 wx) F20 (wantedS rfl) (run_call rfl Tryd.func26 (by kernel_rfl) rfl (mapE2 (F20.ev 34 rfl) (F20.ev 36 rfl))) rfl (by decide) (made_any l v nz w3 (HG.below M3.below) (hV.below M3.below) h32 hn (by omega) (by omega) hLnz) fun u2 a21 w4 hT4 F21 => ?_
      obtain ⟨⟨_, _, vz3c, _, rfl, ⟨vz3a, rfl, hz3a⟩, ⟨vz3b, rfl, hz3b⟩, ⟨US3c, hz3c, hzl3c, hze3c⟩, rfl⟩, hb4⟩ := hT4
      have hO1 := OwnR.ofCall M3 (show World.ownsRow w4 _ 76 33 vz3a ((ringS l).length) ((ringS l).flatMap epF) from hz3a)
      have hO2 := OwnR.ofCall M3 (show World.ownsRow w4 _ 23 32 vz3b l.length (l.flatMap dgC) from hz3b)
      have hO3 := OwnR.ofCall M3 (show World.ownsRow w4 _ 31 1 vz3c US3c.length US3c from hz3c)
      have M4 := M3.grow hb4
      refine mvS F21 rfl rfl rfl rfl rfl fun a22 F22 => ?_
      refine sr (v := (.agg #[vz3a])) F22 (run_ext rfl (F22.ev 33 rfl) rfl) rfl rfl rfl fun a23 F23 => ?_
      refine sr (v := (.agg #[vz3b])) F23 (run_ext rfl (F23.ev 33 rfl) rfl) rfl rfl rfl fun a24 F24 => ?_
      refine sr (v := vz3c) F24 (run_ext rfl (F24.ev 33 rfl) rfl) rfl rfl rfl fun a25 F25 => ?_
      refine sr (v := (.bool true)) F25 (run_ext rfl (F25.ev 33 rfl) rfl) rfl rfl rfl fun a26 F26 => ?_
      refine sqNew (cs := #[.slice none 0 0]) (t := 27) F26 M4 (wantedS rfl) (run_alloc rfl (by kernel_rfl)) rfl (by decide) fun g4 a27 w5 hgg4 hb5 F27 M5 => ?_
      have hO4 := hO1.add (S := isB 27 (#[.slice none 0 0])) hb5 hgg4
      have hO5 := hO2.add (S := isB 27 (#[.slice none 0 0])) hb5 hgg4
      have hO6 := hO3.add (S := isB 27 (#[.slice none 0 0])) hb5 hgg4
      refine sqNew (cs := #[.slice none 0 0]) (t := 30) F27 M5 (wantedS rfl) (run_alloc rfl (by kernel_rfl)) rfl (by decide) fun g5 a28 w6 hgg5 hb6 F28 M6 => ?_
      have hO7 := hO4.add (S := isB 30 (#[.slice none 0 0])) hb6 hgg5
      have hO8 := hO5.add (S := isB 30 (#[.slice none 0 0])) hb6 hgg5
      have hO9 := hO6.add (S := isB 30 (#[.slice none 0 0])) hb6 hgg5
      refine sqStoreG (i := 1) F28 M6 rfl rfl rfl (F28.ev 5 rfl) (F28.ev 38 rfl) rfl szRg rfl rfl (one_own hO7.owns) fun a29 w7 hgr7 F29 M7 => ?_
      have hO10 := hO7.upd 1 (S2 := isB 27 #[vz3a]) rfl hgr7
      have hO11 := hO8.upd 1 (S2 := isB 27 #[vz3a]) rfl hgr7
      have hO12 := hO9.upd 1 (S2 := isB 27 #[vz3a]) rfl hgr7
      refine sqStoreG (i := 0) F29 M7 rfl rfl rfl (F29.ev 6 rfl) (F29.ev 39 rfl) rfl szKy rfl rfl (one_own hO11.owns) fun a30 w8 hgr8 F30 M8 => ?_
      have hO13 := hO10.upd 0 (S2 := isB 30 #[vz3b]) rfl hgr8
      have hO14 := hO11.upd 0 (S2 := isB 30 #[vz3b]) rfl hgr8
      have hO15 := hO12.upd 0 (S2 := isB 30 #[vz3b]) rfl hgr8
      refine asS F30 rfl rfl rfl rfl rfl fun a31 F31 => ?_
      refine asS F31 rfl rfl rfl rfl rfl fun a32 F32 => ?_
      refine sn ?_
      clear F17 F18 F19 F20 F21 F22 F23 F24 F25 F26 F27 F28 F29 F30 F31 M3 M4 M5 M6 M7
      refine wp_seq ?_
      refine wsl ?_
      refine mvS F32 rfl rfl rfl rfl rfl fun a33 F33 => ?_
      refine sr (v := (.bool false)) F33 (run_not rfl (F33.ev 42 rfl)) rfl rfl rfl fun a34 F34 => ?_
      refine sn ?_
      clear F32 F33
      refine cfs (F34.ev 43 rfl) ?_
      refine wp_seq ?_
      refine wsl ?_
      refine sr (v := (.int .i64 1)) F34 (run_as rfl rfl) rfl rfl rfl fun a35 F35 => ?_
      refine sn ?_
      clear F34
      refine wp_block ?_
      refine wkLoop (fun m a0 w2 => ∃ i : Nat, 1 ≤ i ∧ i ≤ l.length + 1 ∧ m = l.length + 1 - i ∧ Fr a0 95 [(0, v), (3, .pointer (some ⟨g0, 0, none⟩)), (6, .pointer (some ⟨g5, 0, none⟩)), (9, .int .i64 (i : Int))] ∧ Mem w [(g5, isB 30 #[vz3b]), (g0, isB 46 (cells8 nz))] w2 ∧ OwnR w [(g5, isB 30 #[vz3b]), (g0, isB 46 (cells8 nz))] w2 23 32 vz3b l.length (l.flatMap dgC)) l.length ⟨1, Nat.le_refl _, by omega, rfl, F35.sub ⟨rfl, rfl, rfl, rfl, trivial⟩, M8.sub (.cons_cons _ (.cons _ (.cons_cons _ .slnil))), hO14.sub (.cons_cons _ (.cons _ (.cons_cons _ .slnil)))⟩ ?_
      rintro m a0 w1 ⟨i, hi1, hi, rfl, F0, M0, hOk⟩
      by_cases h1 : i ≤ l.length
      · obtain ⟨j, rfl⟩ : ∃ j, i = j + 1 := ⟨i - 1, by omega⟩
        have h32t : ∀ y ∈ l.take (j + 1), y.length = 32 := fun y hy => h32 y (List.mem_of_mem_take hy)
        have hid := idS_take (l := l) (j := j) (by omega)
        obtain ⟨bx, hLbx, hbx1, hbx2⟩ := box_take (l := l) (j := j) (by omega)
        refine wp_seq ?_
        refine wsl ?_
        refine mvS F0 rfl rfl rfl rfl rfl fun a1 F1 => ?_
        refine mvS F1 rfl rfl rfl rfl rfl fun a2 F2 => ?_
        refine sr F2 (run_lenS rfl (F2.ev 45 rfl) (hV.below M0.below) rfl Tryd.underlying28) rfl rfl rfl fun a3 F3 => ?_
        refine sr (v := (.bool true)) F3 (run_leq rfl (F3.ev 44 rfl) (F3.ev 46 rfl) (decide_eq_true (by omega))) rfl rfl rfl fun a4 F4 => ?_
        refine sn ?_
        clear F0 F1 F2 F3
        refine cts (F4.ev 47 rfl) ?_
        refine wp_seq ?_
        refine wp_block ?_
        refine wp_seq ?_
        refine wp_region_p 95 [.val v, .val (.int .i64 ((j + 1 : Nat) : Int)), .val (slTo v (j + 1)), .val (.slice (some ⟨g0, 0, none⟩) 64 64), .val (.string ⟨nz.toArray⟩), .tup4 (.st (.row 76 33 ((ringS (l.take (j + 1))).length) ((ringS (l.take (j + 1))).flatMap epF))) (.st (.row 23 32 ((l.take (j + 1)).length) ((l.take (j + 1)).flatMap dgC))) (.rows2 31 54 33 ((l.take (j + 1)).map fun k => (5, (shS k nz).flatMap shareC))) (.val (.bool true)), .tup4 (.st (.row 76 33 ((ringS (l.take (j + 1))).length) ((ringS (l.take (j + 1))).flatMap epF))) (.st (.row 23 32 ((l.take (j + 1)).length) ((l.take (j + 1)).flatMap dgC))) (.rows2 31 54 33 ((l.take (j + 1)).map fun k => (5, (shS k nz).flatMap shareC))) (.val (.bool true)), .st (.row 76 33 ((ringS (l.take (j + 1))).length) ((ringS (l.take (j + 1))).flatMap epF)), .st (.row 23 32 ((l.take (j + 1)).length) ((l.take (j + 1)).flatMap dgC)), .rows2 31 54 33 ((l.take (j + 1)).map fun k => (5, (shS k nz).flatMap shareC)), .val (.bool true), .any, .any, .any, .any, .rows2 31 54 33 ((l.take (j + 1)).map fun k => (5, (shS k nz).flatMap shareC)), .val (.bool true)] [] [⟨11, 10, 13, 27, #[.slice none 0 0], .st (.row 76 33 ((ringS (l.take (j + 1))).length) ((ringS (l.take (j + 1))).flatMap epF))⟩, ⟨12, 11, 14, 30, #[.slice none 0 0], .st (.row 23 32 ((l.take (j + 1)).length) ((l.take (j + 1)).flatMap dgC))⟩] [] [] (by kernel_rfl) (by kernel_rfl) F4.size ?_ ?_ ?_ ?_ (by kernel_rfl) ?_ fun a5 w2 gs hI => ?_
        · intro d hd
          simp only [List.mem_cons, List.not_mem_nil, or_false] at hd
          rcases hd with rfl | rfl <;> exact ⟨Nat.le_of_ble_eq_true (by kernel_rfl), _, rfl, rfl⟩
        · intro b hb
          cases hb
        · intro x y b c hx hy hne
          simp at hx
        · intro r hr
          cases hr
        · refine ⟨?_, ?_, ?_, ?_, ?_, ?_, ?_, ?_, ?_, ?_, ?_, ?_, ?_, ?_, ?_, ?_, ?_, trivial⟩
          · refine .val 51 rfl (by simp) (by simp) (by simp) fun a W hK hh hd => ⟨wanted_yes rfl, ?_⟩
            exact givz_run (run_mv rfl (eval_tmp (hh 0 _ rfl (F4.at 0 rfl)))) rfl
          · refine .val 52 rfl (by simp) (by simp) (by simp) fun a W hK hh hd => ⟨wanted_yes rfl, ?_⟩
            exact givz_run (run_mv rfl (eval_tmp (hh 9 _ rfl (F4.at 9 rfl)))) rfl
          · refine .val 53 rfl (by simp) (by simp) (by simp) fun a W hK hh hd => ⟨wanted_yes rfl, ?_⟩
            exact givz_run (run_toV (n := (j + 1)) (z := 32) rfl (eval_tmp (hd.valz (j := 0) (s := 51) (by kernel_rfl) (by simp) rfl rfl)) (eval_tmp (hd.valz (j := 1) (s := 52) (by kernel_rfl) (by simp) rfl rfl)) rfl (hV.below (M0.grow hK.below).below) (by omega) hcap elKey.un (by kernel_rfl)) rfl
          · refine .val 54 rfl (by simp) (by simp) (by simp) fun a W hK hh hd => ⟨wanted_yes rfl, ?_⟩
            exact givz_run (run_slA rfl (eval_tmp (hh 3 _ rfl (F4.at 3 rfl))) (run_sliceArr_all (P := Tryd.prog) Tryd.underlying46 so8 g0 0 (by decide) _)) rfl
          · refine .val 55 rfl (by simp) (by simp) (by simp) fun a W hK hh hd => ⟨wanted_yes rfl, ?_⟩
            exact givz_run (run_cv rfl (eval_tmp (hd.valz (j := 3) (s := 54) (by kernel_rfl) (by simp) rfl rfl)) (run_strBlk (l := nz) hLnz ((M0.grow hK.below).at 1 rfl))) rfl
          · refine .val 56 rfl (by simp) (by simp) (by simp) fun a W hK hh hd => ⟨wanted_yes rfl, ?_⟩
            exact givz_call (run_call rfl Tryd.func26 (by kernel_rfl) rfl (mapE2 (eval_tmp (hd.valz (j := 2) (s := 53) (by kernel_rfl) (by simp) rfl rfl)) (eval_tmp (hd.valz (j := 4) (s := 55) (by kernel_rfl) (by simp) rfl rfl)))) hK.size (made_any (l.take (j + 1)) (slTo v (j + 1)) nz W (HG.below (M0.grow hK.below).below) (Sl.front (n := (j + 1)) dgC_len (hV.below (M0.grow hK.below).below) (by omega)) (fun y hy => h32 y (List.mem_of_mem_take hy)) (hn.sublist (List.take_sublist _ _)) (by rw [List.length_take]; omega) (by rw [List.length_take]; omega) hLnz)
          · refine .val 50 rfl (by simp) (by simp) (by simp) fun a W hK hh hd => ⟨wanted_yes rfl, ?_⟩
            obtain ⟨_, ey5, ⟨_, _, vz_6_5c, _, rfl, ⟨vz_6_5a, rfl, hz_6_5a⟩, ⟨vz_6_5b, rfl, hz_6_5b⟩, ⟨US_6_5c, hz_6_5c, hzl_6_5c, hze_6_5c⟩, rfl⟩⟩ := hd.getz (j := 5) (s := 56) (by kernel_rfl) (by simp) rfl rfl
            exact givz_run (run_mv rfl (eval_tmp ey5)) ⟨_, _, _, _, rfl, ⟨_, rfl, hz_6_5a⟩, ⟨_, rfl, hz_6_5b⟩, ⟨US_6_5c, hz_6_5c, hzl_6_5c, hze_6_5c⟩, rfl⟩
          · refine .val 57 rfl (by simp) (by simp) (by simp) fun a W hK hh hd => ⟨wanted_yes rfl, ?_⟩
            obtain ⟨_, ey6, ⟨_, _, vz_7_6c, _, rfl, ⟨vz_7_6a, rfl, hz_7_6a⟩, ⟨vz_7_6b, rfl, hz_7_6b⟩, ⟨US_7_6c, hz_7_6c, hzl_7_6c, hze_7_6c⟩, rfl⟩⟩ := hd.getz (j := 6) (s := 50) (by kernel_rfl) (by simp) rfl rfl
            exact givz_run (run_ext rfl (eval_tmp ey6) rfl) ⟨_, rfl, hz_7_6a⟩
          · refine .val 58 rfl (by simp) (by simp) (by simp) fun a W hK hh hd => ⟨wanted_yes rfl, ?_⟩
            obtain ⟨_, ey6, ⟨_, _, vz_8_6c, _, rfl, ⟨vz_8_6a, rfl, hz_8_6a⟩, ⟨vz_8_6b, rfl, hz_8_6b⟩, ⟨US_8_6c, hz_8_6c, hzl_8_6c, hze_8_6c⟩, rfl⟩⟩ := hd.getz (j := 6) (s := 50) (by kernel_rfl) (by simp) rfl rfl
            exact givz_run (run_ext rfl (eval_tmp ey6) rfl) ⟨_, rfl, hz_8_6b⟩
          · refine .val 59 rfl (by simp) (by simp) (by simp) fun a W hK hh hd => ⟨wanted_yes rfl, ?_⟩
            obtain ⟨_, ey6, ⟨_, _, vz_9_6c, _, rfl, ⟨vz_9_6a, rfl, hz_9_6a⟩, ⟨vz_9_6b, rfl, hz_9_6b⟩, ⟨US_9_6c, hz_9_6c, hzl_9_6c, hze_9_6c⟩, rfl⟩⟩ := hd.getz (j := 6) (s := 50) (by kernel_rfl) (by simp) rfl rfl
            exact givz_run (run_ext rfl (eval_tmp ey6) rfl) ⟨US_9_6c, hz_9_6c, hzl_9_6c, hze_9_6c⟩
          · refine .val 60 rfl (by simp) (by simp) (by simp) fun a W hK hh hd => ⟨wanted_yes rfl, ?_⟩
            obtain ⟨_, ey6, ⟨_, _, vz_10_6c, _, rfl, ⟨vz_10_6a, rfl, hz_10_6a⟩, ⟨vz_10_6b, rfl, hz_10_6b⟩, ⟨US_10_6c, hz_10_6c, hzl_10_6c, hze_10_6c⟩, rfl⟩⟩ := hd.getz (j := 6) (s := 50) (by kernel_rfl) (by simp) rfl rfl
            exact givz_run (run_ext rfl (eval_tmp ey6) rfl) rfl
          · exact .new 0 _ rfl rfl rfl (by simp) (by simp) (by simp) (fun y e hy he => by rcases y with _ | _ | y <;> simp at hy <;> (try subst hy) <;> simp at he ⊢) fun a W => ⟨wanted_yes rfl, run_alloc rfl (by kernel_rfl)⟩
          · exact .new 1 _ rfl rfl rfl (by simp) (by simp) (by simp) (fun y e hy he => by rcases y with _ | _ | y <;> simp at hy <;> (try subst hy) <;> simp at he ⊢) fun a W => ⟨wanted_yes rfl, run_alloc rfl (by kernel_rfl)⟩
          · refine .put 0 _ rfl rfl rfl (by simp) (by simp) (by simp) (fun y e hy he => by rcases y with _ | _ | y <;> simp at hy <;> (try subst hy) <;> simp at he ⊢) (by kernel_rfl) 1 27 _ _ rfl rfl (fun a W hK hh hd => ?_) rfl szRg rfl
            obtain ⟨_, ey7, ⟨vz_13_7, rfl, hz_13_7⟩⟩ := hd.getz (j := 7) (s := 57) (by kernel_rfl) (by simp) rfl rfl
            rw [show a.eval _ = _ from (eval_tmp ey7)]
            exact ⟨⟨_, rfl, hz_13_7⟩, rfl, (one_own hz_13_7)⟩
          · refine .put 1 _ rfl rfl rfl (by simp) (by simp) (by simp) (fun y e hy he => by rcases y with _ | _ | y <;> simp at hy <;> (try subst hy) <;> simp at he ⊢) (by kernel_rfl) 1 30 _ _ rfl rfl (fun a W hK hh hd => ?_) rfl szKy rfl
            obtain ⟨_, ey8, ⟨vz_14_8, rfl, hz_14_8⟩⟩ := hd.getz (j := 8) (s := 58) (by kernel_rfl) (by simp) rfl rfl
            rw [show a.eval _ = _ from (eval_tmp ey8)]
            exact ⟨⟨_, rfl, hz_14_8⟩, rfl, (one_own hz_14_8)⟩
          · refine .val 12 rfl (by simp) (by simp) (by simp) fun a W hK hh hd => ⟨wanted_yes rfl, ?_⟩
            obtain ⟨vz_15_9, ey9, ⟨US_15_9, hz_15_9, hzl_15_9, hze_15_9⟩⟩ := hd.getz (j := 9) (s := 59) (by kernel_rfl) (by simp) rfl rfl
            exact givz_run (run_as rfl (eval_tmp ey9)) ⟨US_15_9, hz_15_9, hzl_15_9, hze_15_9⟩
          · refine .val 13 rfl (by simp) (by simp) (by simp) fun a W hK hh hd => ⟨wanted_yes rfl, ?_⟩
            exact givz_run (run_as rfl (eval_tmp (hd.valz (j := 10) (s := 60) (by kernel_rfl) (by simp) rfl rfl))) rfl
        have e13_ : a5.tmps[13]? = some (.bool true) := by
          obtain ⟨vq, hq1, hq2⟩ := hI.val 16 _ 13 rfl rfl rfl (by simp) (fun _ h => by cases h)
          rw [hq1]
          exact congrArg some hq2
        obtain ⟨pg6, qg6, _, fg6⟩ := hI.blk 0 _ rfl rfl
        obtain ⟨pg7, qg7, _, fg7⟩ := hI.blk 1 _ rfl rfl
        have neg7 := hI.apart 0 1 _ _ rfl rfl (by decide) rfl rfl
        generalize gs 0 = g6 at pg6 qg6 fg6 neg7
        generalize gs 1 = g7 at pg7 qg7 fg7 neg7
        obtain ⟨_, Bg6, ⟨vz8_, rfl, hz8_⟩⟩ := fg6 rfl
        have Bg6 : Blk w2 g6 27 (#[vz8_]) := Bg6
        obtain ⟨_, Bg7, ⟨vz9_, rfl, hz9_⟩⟩ := fg7 rfl
        have Bg7 : Blk w2 g7 30 (#[vz9_]) := Bg7
        have hb2 := KeepW.below hI.keep
        have M1 := M0.grow hb2
        have hO1 := hOk.grow hb2
        have hO2 := OwnR.ofCall M0 (show World.ownsRow w2 _ 76 33 vz8_ ((ringS (l.take (j + 1))).length) ((ringS (l.take (j + 1))).flatMap epF) from hz8_)
        have hO3 := OwnR.ofCall M0 (show World.ownsRow w2 _ 23 32 vz9_ ((l.take (j + 1)).length) ((l.take (j + 1)).flatMap dgC) from hz9_)
        have hO4 := hO1.addFar (S := isB 27 (#[vz8_])) (own_ne_ge hOk.owns qg6)
        have hO5 := hO2.addFar (S := isB 27 (#[vz8_])) (own_ne_ty hO2.owns Bg6 (by kernel_rfl))
        have hO6 := hO3.addFar (S := isB 27 (#[vz8_])) (own_ne_ty hO3.owns Bg6 (by kernel_rfl))
        have M2 := M1.put1 (cs := #[vz8_]) (Nat.le_trans M0.below.size qg6) Bg6 (mem_far_new M0 qg6)
        have hO7 := hO4.addFar (S := isB 30 (#[vz9_])) (own_ne_ge hOk.owns qg7)
        have hO8 := hO5.addFar (S := isB 30 (#[vz9_])) (own_ne_ty hO5.owns Bg7 (by kernel_rfl))
        have hO9 := hO6.addFar (S := isB 30 (#[vz9_])) (own_ne_ty hO6.owns Bg7 (by kernel_rfl))
        have M3 := M2.put1 (cs := #[vz9_]) (Nat.le_trans M0.below.size qg7) Bg7 (far_cons neg7 (mem_far_new M0 qg7))
        have F5 : Fr a5 95 [(0, v), (3, (.pointer (some ⟨g0, 0, none⟩))), (6, (.pointer (some ⟨g5, 0, none⟩))), (9, (.int .i64 ((j + 1 : Nat) : Int))), (11, (.pointer (some ⟨g7, 0, none⟩))), (13, (.bool true)), (44, (.int .i64 ((j + 1 : Nat) : Int))), (45, v), (46, (.int .i64 (l.length : Int))), (47, (.bool true))] := fr_of_holds hI.tsz (hI.defers.trans F4.defers) ⟨hI.had 0 _ rfl (F4.at 0 rfl), hI.had 3 _ rfl (F4.at 3 rfl), hI.had 6 _ rfl (F4.at 6 rfl), hI.had 9 _ rfl (F4.at 9 rfl), pg7, e13_, hI.had 44 _ rfl (F4.at 44 rfl), hI.had 45 _ rfl (F4.at 45 rfl), hI.had 46 _ rfl (F4.at 46 rfl), hI.had 47 _ rfl (F4.at 47 rfl), trivial⟩
        clear F4 M0 M1 M2
        refine nx ?_
        refine wp_seq ?_
        refine wp_seq ?_
        obtain ⟨KL, hKL⟩ : ∃ KL, KL = [kval (.bool true), kval (.bool false), kval (.bool false), kval (.agg #[vz9_]), kval (.agg (cells8 (idS (l.take (j + 1))))), kval (.agg #[vz3b]), kval (.agg (cells8 (idS l))), kval (.bool false), kval (.bool false)] := ⟨_, rfl⟩
        have K0 := getK hKL 0
        have K1 := getK hKL 1
        have K2 := getK hKL 2
        have K3 := getK hKL 3
        have K4 := getK hKL 4
        have K5 := getK hKL 5
        have K6 := getK hKL 6
        have K7 := getK hKL 7
        have K8 := getK hKL 8
        clear hKL
        refine wp_region_kd 95 (by kernel_rfl) (by kernel_rfl) (by kernel_rfl) F5.size KL ?_ ?_
        · refine ⟨?_, ?_, ?_, ?_, ?_, ?_, ?_, ?_, ?_, trivial⟩
          · exact asksY rfl fun a W hS hh hd => giv_run (run_mv rfl (eval_tmp (hh 13 _ rfl (F5.at 13 rfl)))) K0
          · exact asksY rfl fun a W hS hh hd => giv_run (run_not rfl (eval_tmp (hd.vl 0 61 (by kernel_rfl) K0))) K1
          · exact asksY rfl fun a W hS hh hd => giv_run (run_mv rfl (eval_tmp (hd.vl 1 62 (by kernel_rfl) K1))) K2
          · refine asks_mk fun a W hS hh hd => ⟨wanted_of (j := 2) (s := 63) (by kernel_rfl) (hd.vl 2 63 (by kernel_rfl) K2), ?_⟩
            exact giv_run (run_ldB rfl (eval_tmp (hh 11 _ rfl (F5.at 11 rfl))) ((M3.grow hS).at 0 rfl) Tryd.underlying30 rfl szKy rfl) K3
          · refine asks_mk fun a W hS hh hd => ⟨wanted_of (j := 2) (s := 63) (by kernel_rfl) (hd.vl 2 63 (by kernel_rfl) K2), ?_⟩
            exact giv_call (run_call rfl Tryd.func31 (by kernel_rfl) rfl (mapE1 (eval_tmp (hd.vl 3 64 (by kernel_rfl) K3)))) (kid_any (l.take (j + 1)) vz9_ W (HG.below (M3.grow hS).below) (Sl.own (hO9.grow hS)) h32t) K4
          · refine asks_mk fun a W hS hh hd => ⟨wanted_of (j := 2) (s := 63) (by kernel_rfl) (hd.vl 2 63 (by kernel_rfl) K2), ?_⟩
            exact giv_run (run_ldB rfl (eval_tmp (hh 6 _ rfl (F5.at 6 rfl))) ((M3.grow hS).at 2 rfl) Tryd.underlying30 rfl szKy rfl) K5
          · refine asks_mk fun a W hS hh hd => ⟨wanted_of (j := 2) (s := 63) (by kernel_rfl) (hd.vl 2 63 (by kernel_rfl) K2), ?_⟩
            exact giv_call (run_call rfl Tryd.func31 (by kernel_rfl) rfl (mapE1 (eval_tmp (hd.vl 5 66 (by kernel_rfl) K5)))) (kid_any l vz3b W (HG.below (M3.grow hS).below) (Sl.own (hO7.grow hS)) h32) K6
          · refine asks_mk fun a W hS hh hd => ⟨wanted_of (j := 2) (s := 63) (by kernel_rfl) (hd.vl 2 63 (by kernel_rfl) K2), ?_⟩
            exact giv_run (run_neKB (idS_len _) (idS_len _) (by rw [hid]; exact beq_self_eq_true _) rfl (eval_tmp (hd.vl 4 65 (by kernel_rfl) K4)) (eval_tmp (hd.vl 6 67 (by kernel_rfl) K6))) K7
          · exact asksY rfl fun a W hS hh hd => giv_run (run_pick rfl (eval_tmp (hd.vl 2 63 (by kernel_rfl) K2)) rfl (eval_tmp (hd.vl 7 68 (by kernel_rfl) K7))) K8
        · intro a6 w3 hb3 hK
          have e0 := hK.vl 0 61 (by kernel_rfl) K0
          have e1 := hK.vl 1 62 (by kernel_rfl) K1
          have e2 := hK.vl 2 63 (by kernel_rfl) K2
          have e3 := hK.vl 3 64 (by kernel_rfl) K3
          have e4 := hK.vl 4 65 (by kernel_rfl) K4
          have e5 := hK.vl 5 66 (by kernel_rfl) K5
          have e6 := hK.vl 6 67 (by kernel_rfl) K6
          have e7 := hK.vl 7 68 (by kernel_rfl) K7
          have e8 := hK.vl 8 69 (by kernel_rfl) K8
          have F6 : Fr a6 95 [(0, v), (3, (.pointer (some ⟨g0, 0, none⟩))), (6, (.pointer (some ⟨g5, 0, none⟩))), (9, (.int .i64 ((j + 1 : Nat) : Int))), (11, (.pointer (some ⟨g7, 0, none⟩))), (13, (.bool true)), (44, (.int .i64 ((j + 1 : Nat) : Int))), (45, v), (46, (.int .i64 (l.length : Int))), (47, (.bool true)), (69, (.bool false))] := (hK.fr F5 [_, _, _, _, _, _, _, _, _] ⟨e0, e1, e2, e3, e4, e5, e6, e7, e8, trivial⟩).sub ⟨rfl, rfl, rfl, rfl, rfl, rfl, rfl, rfl, rfl, rfl, rfl, trivial⟩
          have M4 := M3.grow hb3
          have hO10 := hO7.grow hb3
          have hO11 := hO8.grow hb3
          have hO12 := hO9.grow hb3
          clear hK K0 e0 K1 e1 K2 e2 K3 e3 K4 e4 K5 e5 K6 e6 K7 e7 K8 e8
          clear F5 M3
          refine nx ?_
          refine cfs (F6.ev 69 rfl) ?_
          refine wsl ?_
          refine sr F6 (run_ldB rfl (F6.ev 11 rfl) (M4.at 0 rfl) Tryd.underlying30 rfl szKy rfl) rfl rfl rfl fun a7 F7 => ?_
          refine mvS F7 rfl rfl rfl rfl rfl fun a8 F8 => ?_
          refine sr F8 (run_sub (r := (j : Int)) rfl (F8.ev 72 rfl) rfl (by rw [IntKind.wrap_i64]; omega)) rfl rfl rfl fun a9 F9 => ?_
          refine sqC (v := (.tuple #[(.agg (cells8 bx)), (.int .i64 0)])) F9 M4 (wantedS rfl) (run_call rfl Tryd.func29 (by kernel_rfl) rfl (mapE2 (F9.ev 71 rfl) (F9.ev 73 rfl))) rfl (by decide) ((by have h := kbox_any (l.take (j + 1)) vz9_ (j : Int) w3 (HG.below M4.below) (Sl.own hO12) h32t; rw [hbx1] at h; exact h)) fun a10 w4 hb4 F10 M5 => ?_
          have hO13 := hO10.grow hb4
          have hO14 := hO11.grow hb4
          have hO15 := hO12.grow hb4
          refine mvS F10 rfl rfl rfl rfl rfl fun a11 F11 => ?_
          refine sr (v := (.agg (cells8 bx))) F11 (run_ext rfl (F11.ev 70 rfl) rfl) rfl rfl rfl fun a12 F12 => ?_
          refine sr (v := (.int .i64 0)) F12 (run_ext rfl (F12.ev 70 rfl) rfl) rfl rfl rfl fun a13 F13 => ?_
          refine sqNew (cs := (cells8 (List.replicate 32 0))) (t := 23) F13 M5 (wantedS rfl) (run_alloc rfl (by kernel_rfl)) rfl (by decide) fun g10 a14 w5 hgg10 hb5 F14 M6 => ?_
          have hO16 := hO13.add (S := isB 23 (cells8 (List.replicate 32 0))) hb5 hgg10
          have hO17 := hO14.add (S := isB 23 (cells8 (List.replicate 32 0))) hb5 hgg10
          have hO18 := hO15.add (S := isB 23 (cells8 (List.replicate 32 0))) hb5 hgg10
          refine sqStoreG (i := 0) F14 M6 rfl rfl rfl (F14.ev 14 rfl) (F14.ev 75 rfl) rfl sz32k (szOf hLbx) (szOf List.length_replicate) (cells8_one _) fun a15 w6 hgr6 F15 M7 => ?_
          have hO19 := hO16.upd 0 (S2 := isB 23 (cells8 bx)) rfl hgr6
          have hO20 := hO17.upd 0 (S2 := isB 23 (cells8 bx)) rfl hgr6
          have hO21 := hO18.upd 0 (S2 := isB 23 (cells8 bx)) rfl hgr6
          refine asS F15 rfl rfl rfl rfl rfl fun a16 F16 => ?_
          refine sn ?_
          clear F6 F7 F8 F9 F10 F11 F12 F13 F14 F15 M4 M5 M6
          refine wsl ?_
          refine sr F16 (run_ldB rfl (F16.ev 6 rfl) (M7.at 3 rfl) Tryd.underlying30 rfl szKy rfl) rfl rfl rfl fun a17 F17 => ?_
          refine mvS F17 rfl rfl rfl rfl rfl fun a18 F18 => ?_
          refine sr F18 (run_sub (r := (j : Int)) rfl (F18.ev 79 rfl) rfl (by rw [IntKind.wrap_i64]; omega)) rfl rfl rfl fun a19 F19 => ?_
          refine sqC (v := (.tuple #[(.agg (cells8 bx)), (.int .i64 0)])) F19 M7 (wantedS rfl) (run_call rfl Tryd.func29 (by kernel_rfl) rfl (mapE2 (F19.ev 78 rfl) (F19.ev 80 rfl))) rfl (by decide) ((by have h := kbox_any l vz3b (j : Int) w6 (HG.below M7.below) (Sl.own hO19) h32; rw [hbx2] at h; exact h)) fun a20 w7 hb7 F20 M8 => ?_
          have hO22 := hO19.grow hb7
          have hO23 := hO20.grow hb7
          have hO24 := hO21.grow hb7
          refine mvS F20 rfl rfl rfl rfl rfl fun a21 F21 => ?_
          refine sr (v := (.agg (cells8 bx))) F21 (run_ext rfl (F21.ev 77 rfl) rfl) rfl rfl rfl fun a22 F22 => ?_
          refine sr (v := (.int .i64 0)) F22 (run_ext rfl (F22.ev 77 rfl) rfl) rfl rfl rfl fun a23 F23 => ?_
          refine sqNew (cs := (cells8 (List.replicate 32 0))) (t := 23) F23 M8 (wantedS rfl) (run_alloc rfl (by kernel_rfl)) rfl (by decide) fun g11 a24 w8 hgg11 hb8 F24 M9 => ?_
          have hO25 := hO22.add (S := isB 23 (cells8 (List.replicate 32 0))) hb8 hgg11
          have hO26 := hO23.add (S := isB 23 (cells8 (List.replicate 32 0))) hb8 hgg11
          have hO27 := hO24.add (S := isB 23 (cells8 (List.replicate 32 0))) hb8 hgg11
          refine sqStoreG (i := 0) F24 M9 rfl rfl rfl (F24.ev 16 rfl) (F24.ev 82 rfl) rfl sz32k (szOf hLbx) (szOf List.length_replicate) (cells8_one _) fun a25 w9 hgr9 F25 M10 => ?_
          have hO28 := hO25.upd 0 (S2 := isB 23 (cells8 bx)) rfl hgr9
          have hO29 := hO26.upd 0 (S2 := isB 23 (cells8 bx)) rfl hgr9
          have hO30 := hO27.upd 0 (S2 := isB 23 (cells8 bx)) rfl hgr9
          refine asS F25 rfl rfl rfl rfl rfl fun a26 F26 => ?_
          refine sn ?_
          clear F16 F17 F18 F19 F20 F21 F22 F23 F24 F25 M7 M8 M9
          refine wsl ?_
          refine mvS F26 rfl rfl rfl rfl rfl fun a27 F27 => ?_
          refine sr (v := (.bool false)) F27 (run_nei rfl (F27.ev 84 rfl) rfl (bne_self_eq_false _)) rfl rfl rfl fun a28 F28 => ?_
          refine mvS F28 rfl rfl rfl rfl rfl fun a29 F29 => ?_
          refine sq (v := (.int .i64 0)) F29 (wantedG F29 rfl rfl rfl rfl rfl) (run_mv rfl (F29.ev 17 rfl)) rfl (by decide) fun a30 F30 => ?_
          refine sq (v := (.bool false)) F30 (wantedG F30 rfl rfl rfl rfl rfl) (run_nei rfl (F30.ev 87 rfl) rfl (bne_self_eq_false _)) rfl (by decide) fun a31 F31 => ?_
          refine sr (v := (.bool false)) F31 (run_pick rfl (F31.ev 86 rfl) rfl (F31.ev 88 rfl)) rfl rfl rfl fun a32 F32 => ?_
          refine mvS F32 rfl rfl rfl rfl rfl fun a33 F33 => ?_
          refine sq (v := (.agg (cells8 bx))) F33 (wantedG F33 rfl rfl rfl rfl rfl) (run_ldB rfl (F33.ev 14 rfl) (M10.at 1 rfl) Tryd.underlying23 rfl sz32k (szOf hLbx)) rfl (by decide) fun a34 F34 => ?_
          refine sq (v := (.agg (cells8 bx))) F34 (wantedG F34 rfl rfl rfl rfl rfl) (run_ldB rfl (F34.ev 16 rfl) (M10.at 0 rfl) Tryd.underlying23 rfl sz32k (szOf hLbx)) rfl (by decide) fun a35 F35 => ?_
          refine sq (v := (.bool false)) F35 (wantedG F35 rfl rfl rfl rfl rfl) (run_neKB hLbx hLbx (beq_self_eq_true _) rfl (F35.ev 91 rfl) (F35.ev 92 rfl)) rfl (by decide) fun a36 F36 => ?_
          refine sr (v := (.bool false)) F36 (run_pick rfl (F36.ev 90 rfl) rfl (F36.ev 93 rfl)) rfl rfl rfl fun a37 F37 => ?_
          refine sn ?_
          clear F26 F27 F28 F29 F30 F31 F32 F33 F34 F35 F36
          refine wp_cond_false (F37.ev 94 rfl) ?_
          refine wp_skip ?_
          refine bkEnd ?_
          refine nx ?_
          refine wp_region_lit ?_
          refine mvS F37 rfl rfl rfl rfl rfl fun a38 F38 => ?_
          refine sr F38 (run_add (r := ((j + 1 + 1 : Nat) : Int)) rfl (F38.ev 48 rfl) rfl (by rw [IntKind.wrap_i64]; omega)) rfl rfl rfl fun a39 F39 => ?_
          refine asS F39 rfl rfl rfl rfl rfl fun a40 F40 => ?_
          refine sn ?_
          clear F37 F38 F39
          exact ⟨_, by omega, j + 1 + 1, by omega, by omega, rfl, F40.sub ⟨rfl, rfl, rfl, rfl, trivial⟩, M10.sub (.cons _ (.cons _ (.cons _ (.cons _ (.cons_cons _ (.cons_cons _ .slnil)))))), hO28.sub (.cons _ (.cons _ (.cons _ (.cons _ (.cons_cons _ (.cons_cons _ .slnil))))))⟩
      · skip
        refine wp_seq ?_
        refine wsl ?_
        refine mvS F0 rfl rfl rfl rfl rfl fun a1 F1 => ?_
        refine mvS F1 rfl rfl rfl rfl rfl fun a2 F2 => ?_
        refine sr F2 (run_lenS rfl (F2.ev 45 rfl) (hV.below M0.below) rfl Tryd.underlying28) rfl rfl rfl fun a3 F3 => ?_
        refine sr (v := (.bool false)) F3 (run_leq rfl (F3.ev 44 rfl) (F3.ev 46 rfl) (decide_eq_false (by omega))) rfl rfl rfl fun a4 F4 => ?_
        refine sn ?_
        clear F0 F1 F2 F3
        refine wp_cond_false (F4.ev 47 rfl) ?_
        refine wp_exit ?_
        refine nxExit ?_
        refine nxExit ?_
        refine bkHere ?_
        refine nx ?_
        refine wsl ?_
        refine sr (v := (.bool true)) F4 (run_as rfl rfl) rfl rfl rfl fun a5 F5 => ?_
        refine sn ?_
        clear F4
        refine wp_ret ?_
        exact ret1 F5 rfl rfl ⟨rfl, M0.below⟩
end Go.Proofs.YtconhhhggckcbaaDoor
