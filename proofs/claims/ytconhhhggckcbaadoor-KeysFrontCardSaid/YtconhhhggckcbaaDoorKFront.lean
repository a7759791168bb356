/- The walk of the law KeysFront. Printed by gen_key23.py. -/
import Derived.Test.YtconhhhggckcbaaDoorRng8
namespace Go.Proofs.YtconhhhggckcbaaDoor
open Go.RowKit

attribute [local irreducible] sealS keyedS nonceS openS idS boxK bkeyS
set_option maxRecDepth 100000 in
set_option maxHeartbeats 1000000 in
theorem lawFront_any (l : List (List UInt8)) (v : Value) (nz : List UInt8) (b : UInt8) (w : World) (HG : Glob w) (hV : Sl w v 32 l.length (l.flatMap dgC)) (h32 : ∀ k ∈ l, k.length = 32) (_hcap : capOk v) (hLnz : nz.length = 64) : Calls Tryd.prog 8 #[v, .agg (cells8 nz), .int .u8 (b.toNat : Int)] w fun e w' => e = .returned (.bool true) ∧ Below w.heap.size w w' := by
  by_cases hl0 : l.length = 0
  · skip
    refine walk_enter Tryd.func8 rfl rfl rfl fun a0 F0 => ?_
    have M0 := Mem.new w
    refine wsl ?_
    refine sqNew (cs := (cells8 nz)) (t := 46) F0 M0 (wantedS rfl) (run_box rfl (F0.ev 1 rfl)) rfl (by decide) fun g0 a1 w1 hgg0 hb1 F1 M1 => ?_
    refine sr (v := (.bool false)) F1 (run_as rfl rfl) rfl rfl rfl fun a2 F2 => ?_
    refine sn ?_
    clear F0 F1 M0
    refine wp_seq ?_
    refine wsl ?_
    refine sqC (v := (.bool true)) F2 M1 (wantedS rfl) (run_call rfl Tryd.func12 (by kernel_rfl) rfl (mapE0 )) rfl (by decide) (alive38_any w1 (HG.below M1.below)) fun a3 w2 hb2 F3 M2 => ?_
    refine sr (v := (.bool false)) F3 (run_not rfl (F3.ev 14 rfl)) rfl rfl rfl fun a4 F4 => ?_
    refine sn ?_
    clear F2 F3 M1
    refine cfs (F4.ev 15 rfl) ?_
    refine wp_seq ?_
    refine wsl ?_
    refine mvS F4 rfl rfl rfl rfl rfl fun a5 F5 => ?_
    refine sr F5 (run_lenS rfl (F5.ev 16 rfl) (hV.below M2.below) rfl Tryd.underlying28) rfl rfl rfl fun a6 F6 => ?_
    refine sr (v := (.bool true)) F6 (run_eqi rfl (F6.ev 17 rfl) rfl (beq_iff_eq.2 (by omega))) rfl rfl rfl fun a7 F7 => ?_
    refine mvS F7 rfl rfl rfl rfl rfl fun a8 F8 => ?_
    refine sqSkip F8 (unwantedG F8 rfl rfl rfl rfl rfl) rfl (by decide) fun a9 F9 => ?_
    refine sqSkip F9 (unwantedG F9 rfl rfl rfl rfl rfl) rfl (by decide) fun a10 F10 => ?_
    refine sqSkip F10 (unwantedG F10 rfl rfl rfl rfl rfl) rfl (by decide) fun a11 F11 => ?_
    refine sr (v := (.bool true)) F11 (run_pick rfl (F11.ev 19 rfl) rfl (F11.ev 22 rfl)) rfl rfl rfl fun a12 F12 => ?_
    refine mvS F12 rfl rfl rfl rfl rfl fun a13 F13 => ?_
    refine sqSkip F13 (unwantedG F13 rfl rfl rfl rfl rfl) rfl (by decide) fun a14 F14 => ?_
    refine sqSkip F14 (unwantedG F14 rfl rfl rfl rfl rfl) rfl (by decide) fun a15 F15 => ?_
    refine sqSkip F15 (unwantedG F15 rfl rfl rfl rfl rfl) rfl (by decide) fun a16 F16 => ?_
    refine sr (v := (.bool true)) F16 (run_pick rfl (F16.ev 24 rfl) rfl (F16.ev 27 rfl)) rfl rfl rfl fun a17 F17 => ?_
    refine sn ?_
    clear F4 F5 F6 F7 F8 F9 F10 F11 F12 F13 F14 F15 F16
    refine wp_cond_true (F17.ev 28 rfl) ?_
    refine wsl ?_
    refine sr (v := (.bool true)) F17 (run_as rfl rfl) rfl rfl rfl fun a18 F18 => ?_
    refine sn ?_
    clear F17
    refine wp_ret ?_
    refine nxRet ?_
    exact ret1 F18 rfl rfl ⟨rfl, M2.below⟩
  by_cases hl6 : 6 < l.length
  · skip
    refine walk_enter Tryd.func8 rfl rfl rfl fun a0 F0 => ?_
    have M0 := Mem.new w
    refine wsl ?_
    refine sqNew (cs := (cells8 nz)) (t := 46) F0 M0 (wantedS rfl) (run_box rfl (F0.ev 1 rfl)) rfl (by decide) fun g0 a1 w1 hgg0 hb1 F1 M1 => ?_
    refine sr (v := (.bool false)) F1 (run_as rfl rfl) rfl rfl rfl fun a2 F2 => ?_
    refine sn ?_
    clear F0 F1 M0
    refine wp_seq ?_
    refine wsl ?_
    refine sqC (v := (.bool true)) F2 M1 (wantedS rfl) (run_call rfl Tryd.func12 (by kernel_rfl) rfl (mapE0 )) rfl (by decide) (alive38_any w1 (HG.below M1.below)) fun a3 w2 hb2 F3 M2 => ?_
    refine sr (v := (.bool false)) F3 (run_not rfl (F3.ev 14 rfl)) rfl rfl rfl fun a4 F4 => ?_
    refine sn ?_
    clear F2 F3 M1
    refine cfs (F4.ev 15 rfl) ?_
    refine wp_seq ?_
    refine wsl ?_
    refine mvS F4 rfl rfl rfl rfl rfl fun a5 F5 => ?_
    refine sr F5 (run_lenS rfl (F5.ev 16 rfl) (hV.below M2.below) rfl Tryd.underlying28) rfl rfl rfl fun a6 F6 => ?_
    refine sr (v := (.bool false)) F6 (run_eqi rfl (F6.ev 17 rfl) rfl (beq_eq_false_iff_ne.2 (by omega))) rfl rfl rfl fun a7 F7 => ?_
    refine mvS F7 rfl rfl rfl rfl rfl fun a8 F8 => ?_
    refine sq (v := v) F8 (wantedG F8 rfl rfl rfl rfl rfl) (run_mv rfl (F8.ev 0 rfl)) rfl (by decide) fun a9 F9 => ?_
    refine sq (v := (.int .i64 (l.length : Int))) F9 (wantedG F9 rfl rfl rfl rfl rfl) (run_lenS rfl (F9.ev 20 rfl) (hV.below M2.below) rfl Tryd.underlying28) rfl (by decide) fun a10 F10 => ?_
    refine sq (v := (.bool true)) F10 (wantedG F10 rfl rfl rfl rfl rfl) (run_gtr rfl (F10.ev 21 rfl) rfl (decide_eq_true (by omega))) rfl (by decide) fun a11 F11 => ?_
    refine sr (v := (.bool true)) F11 (run_pick rfl (F11.ev 19 rfl) rfl (F11.ev 22 rfl)) rfl rfl rfl fun a12 F12 => ?_
    refine mvS F12 rfl rfl rfl rfl rfl fun a13 F13 => ?_
    refine sqSkip F13 (unwantedG F13 rfl rfl rfl rfl rfl) rfl (by decide) fun a14 F14 => ?_
    refine sqSkip F14 (unwantedG F14 rfl rfl rfl rfl rfl) rfl (by decide) fun a15 F15 => ?_
    refine sqSkip F15 (unwantedG F15 rfl rfl rfl rfl rfl) rfl (by decide) fun a16 F16 => ?_
    refine sr (v := (.bool true)) F16 (run_pick rfl (F16.ev 24 rfl) rfl (F16.ev 27 rfl)) rfl rfl rfl fun a17 F17 => ?_
    refine sn ?_
    clear F4 F5 F6 F7 F8 F9 F10 F11 F12 F13 F14 F15 F16
    refine wp_cond_true (F17.ev 28 rfl) ?_
    refine wsl ?_
    refine sr (v := (.bool true)) F17 (run_as rfl rfl) rfl rfl rfl fun a18 F18 => ?_
    refine sn ?_
    clear F17
    refine wp_ret ?_
    refine nxRet ?_
    exact ret1 F18 rfl rfl ⟨rfl, M2.below⟩
  · skip
    refine walk_enter Tryd.func8 rfl rfl rfl fun a0 F0 => ?_
    have M0 := Mem.new w
    refine wsl ?_
    refine sqNew (cs := (cells8 nz)) (t := 46) F0 M0 (wantedS rfl) (run_box rfl (F0.ev 1 rfl)) rfl (by decide) fun g0 a1 w1 hgg0 hb1 F1 M1 => ?_
    refine sr (v := (.bool false)) F1 (run_as rfl rfl) rfl rfl rfl fun a2 F2 => ?_
    refine sn ?_
    clear F0 F1 M0
    refine wp_seq ?_
    refine wsl ?_
    refine sqC (v := (.bool true)) F2 M1 (wantedS rfl) (run_call rfl Tryd.func12 (by kernel_rfl) rfl (mapE0 )) rfl (by decide) (alive38_any w1 (HG.below M1.below)) fun a3 w2 hb2 F3 M2 => ?_
    refine sr (v := (.bool false)) F3 (run_not rfl (F3.ev 14 rfl)) rfl rfl rfl fun a4 F4 => ?_
    refine sn ?_
    clear F2 F3 M1
    refine cfs (F4.ev 15 rfl) ?_
    refine wp_seq ?_
    refine wsl ?_
    refine mvS F4 rfl rfl rfl rfl rfl fun a5 F5 => ?_
    refine sr F5 (run_lenS rfl (F5.ev 16 rfl) (hV.below M2.below) rfl Tryd.underlying28) rfl rfl rfl fun a6 F6 => ?_
    refine sr (v := (.bool false)) F6 (run_eqi rfl (F6.ev 17 rfl) rfl (beq_eq_false_iff_ne.2 (by omega))) rfl rfl rfl fun a7 F7 => ?_
    refine mvS F7 rfl rfl rfl rfl rfl fun a8 F8 => ?_
    refine sq (v := v) F8 (wantedG F8 rfl rfl rfl rfl rfl) (run_mv rfl (F8.ev 0 rfl)) rfl (by decide) fun a9 F9 => ?_
    refine sq (v := (.int .i64 (l.length : Int))) F9 (wantedG F9 rfl rfl rfl rfl rfl) (run_lenS rfl (F9.ev 20 rfl) (hV.below M2.below) rfl Tryd.underlying28) rfl (by decide) fun a10 F10 => ?_
    refine sq (v := (.bool false)) F10 (wantedG F10 rfl rfl rfl rfl rfl) (run_gtr rfl (F10.ev 21 rfl) rfl (decide_eq_false (by omega))) rfl (by decide) fun a11 F11 => ?_
    refine sr (v := (.bool false)) F11 (run_pick rfl (F11.ev 19 rfl) rfl (F11.ev 22 rfl)) rfl rfl rfl fun a12 F12 => ?_
    refine mvS F12 rfl rfl rfl rfl rfl fun a13 F13 => ?_
    refine sq (v := v) F13 (wantedG F13 rfl rfl rfl rfl rfl) (run_mv rfl (F13.ev 0 rfl)) rfl (by decide) fun a14 F14 => ?_
    refine sqT (T := fun u wx => (∃ b : Bool, u = .bool b ∧ (b = true → ∀ (p q : Nat) (x y : List UInt8), l[p]? = some x → l[q]? = some y → q < p → x ≠ y ∧ keyedS x checkT ≠ keyedS y checkT)) ∧ Below w2.heap.size w2 wx) F14 (wantedG F14 rfl rfl rfl rfl rfl) (run_call rfl Tryd.func25 (by kernel_rfl) rfl (mapE1 (F14.ev 25 rfl))) rfl (by decide) ((apart38_any l v w2 (hV.below M2.below) h32 (by omega)).mono fun e w2 ⟨⟨b, h1, h2⟩, h3⟩ => ⟨_, h1, ⟨b, rfl, h2⟩, h3⟩) fun u1 a15 w3 hT3 F15 => ?_
    obtain ⟨⟨bap, rfl, hbap⟩, hb3⟩ := hT3
    have M3 := M2.grow hb3
    rcases bap with _ | _
    · skip
      refine sq (v := (.bool true)) F15 (wantedG F15 rfl rfl rfl rfl rfl) (run_not rfl (F15.ev 26 rfl)) rfl (by decide) fun a16 F16 => ?_
      refine sr (v := (.bool true)) F16 (run_pick rfl (F16.ev 24 rfl) rfl (F16.ev 27 rfl)) rfl rfl rfl fun a17 F17 => ?_
      refine sn ?_
      refine wp_cond_true (F17.ev 28 rfl) ?_
      refine wsl ?_
      refine sr (v := (.bool true)) F17 (run_as rfl rfl) rfl rfl rfl fun a18 F18 => ?_
      refine sn ?_
      clear F17
      refine wp_ret ?_
      refine nxRet ?_
      exact ret1 F18 rfl rfl ⟨rfl, M3.below⟩
    · skip
      have hap := hbap rfl
      have hn := nodup_of_ap hap
      have hb8 := b.toNat_lt
      have hl0' : 0 < l.length := by omega
      obtain ⟨q, hq⟩ : ∃ q, b.toNat % l.length = q := ⟨_, rfl⟩
      have hql : q < l.length := by rw [← hq]; exact Nat.mod_lt _ hl0'
      obtain ⟨k, hk⟩ : ∃ k, l[q]? = some k := ⟨l[q], List.getElem?_eq_getElem hql⟩
      have h32t : ∀ y ∈ l.take (q + 1), y.length = 32 := fun y hy => h32 y (List.mem_of_mem_take hy)
      have htl : (l.take (q + 1)).length = q + 1 := by rw [List.length_take]; omega
      have hck : checkS ((ringS l).take (q + 1)) (l.take (q + 1)) = 0 := by rw [ring_take]; exact check_ring (fun e => by rw [e] at htl; simp at htl)
      refine sq (v := (.bool false)) F15 (wantedG F15 rfl rfl rfl rfl rfl) (run_not rfl (F15.ev 26 rfl)) rfl (by decide) fun a16 F16 => ?_
      refine sr (v := (.bool false)) F16 (run_pick rfl (F16.ev 24 rfl) rfl (F16.ev 27 rfl)) rfl rfl rfl fun a17 F17 => ?_
      refine sn ?_
      refine cfs (F17.ev 28 rfl) ?_
      refine wsl ?_
      refine mvS F17 rfl rfl rfl rfl rfl fun a18 F18 => ?_
      refine sr (v := (.slice (some ⟨g0, 0, none⟩) 64 64)) F18 (run_slA rfl (F18.ev 4 rfl) (run_sliceArr_all (P := Tryd.prog) Tryd.underlying46 so8 g0 0 (by decide) _)) rfl rfl rfl fun a19 F19 => ?_
      refine sr (v := (.string ⟨nz.toArray⟩)) F19 (run_cv rfl (F19.ev 31 rfl) (run_strBlk (l := nz) hLnz (M3.at 0 rfl))) rfl rfl rfl fun a20 F20 => ?_
      refine sqT (T := fun u wx => Kp.sat w3.heap.size (.tup4 (.st (.row 76 33 ((ringS l).length) ((ringS l).flatMap epF))) (.st (.row 23 32 l.length (l.flatMap dgC))) (.rows2 31 54 33 (l.map fun k => (5, (shS k nz).flatMap shareC))) (.val (.bool true))) u wx ∧ Below w3.heap.size w3 wx) F20 (wantedS rfl) (run_call rfl Tryd.func26 (by kernel_rfl) rfl (mapE2 (F20.ev 30 rfl) (F20.ev 32 rfl))) rfl (by decide) (made_any l v nz w3 (HG.below M3.below) (hV.below M3.below) h32 hn (by omega) (by omega) hLnz) fun u2 a21 w4 hT4 F21 => ?_
      obtain ⟨⟨_, _, vz3c, _, rfl, ⟨vz3a, rfl, hz3a⟩, ⟨vz3b, rfl, hz3b⟩, ⟨US3c, hz3c, hzl3c, hze3c⟩, rfl⟩, hb4⟩ := hT4
      have hO1 := OwnR.ofCall M3 (show World.ownsRow w4 _ 76 33 vz3a ((ringS l).length) ((ringS l).flatMap epF) from hz3a)
      have hO2 := OwnR.ofCall M3 (show World.ownsRow w4 _ 23 32 vz3b l.length (l.flatMap dgC) from hz3b)
      have hO3 := OwnR.ofCall M3 (show World.ownsRow w4 _ 31 1 vz3c US3c.length US3c from hz3c)
      obtain ⟨uz, hUuz, hzuz⟩ := hze3c q 5 ((shS k nz).flatMap shareC) (by rw [List.getElem?_map, hk]; rfl)
      have hO4 := OwnR.ofCall M3 hzuz
      have hUl3c : US3c.length = l.length := by rw [hzl3c, List.length_map]
      have M4 := M3.grow hb4
      refine mvS F21 rfl rfl rfl rfl rfl fun a22 F22 => ?_
      refine sr (v := (.agg #[vz3a])) F22 (run_ext rfl (F22.ev 29 rfl) rfl) rfl rfl rfl fun a23 F23 => ?_
      refine sr (v := (.agg #[vz3b])) F23 (run_ext rfl (F23.ev 29 rfl) rfl) rfl rfl rfl fun a24 F24 => ?_
      refine sr (v := vz3c) F24 (run_ext rfl (F24.ev 29 rfl) rfl) rfl rfl rfl fun a25 F25 => ?_
      refine sr (v := (.bool true)) F25 (run_ext rfl (F25.ev 29 rfl) rfl) rfl rfl rfl fun a26 F26 => ?_
      refine sqNew (cs := #[.slice none 0 0]) (t := 27) F26 M4 (wantedS rfl) (run_alloc rfl (by kernel_rfl)) rfl (by decide) fun g4 a27 w5 hgg4 hb5 F27 M5 => ?_
      have hO5 := hO1.add (S := isB 27 (#[.slice none 0 0])) hb5 hgg4
      have hO6 := hO2.add (S := isB 27 (#[.slice none 0 0])) hb5 hgg4
      have hO7 := hO3.add (S := isB 27 (#[.slice none 0 0])) hb5 hgg4
      have hO8 := hO4.add (S := isB 27 (#[.slice none 0 0])) hb5 hgg4
      refine sqNew (cs := #[.slice none 0 0]) (t := 30) F27 M5 (wantedS rfl) (run_alloc rfl (by kernel_rfl)) rfl (by decide) fun g5 a28 w6 hgg5 hb6 F28 M6 => ?_
      have hO9 := hO5.add (S := isB 30 (#[.slice none 0 0])) hb6 hgg5
      have hO10 := hO6.add (S := isB 30 (#[.slice none 0 0])) hb6 hgg5
      have hO11 := hO7.add (S := isB 30 (#[.slice none 0 0])) hb6 hgg5
      have hO12 := hO8.add (S := isB 30 (#[.slice none 0 0])) hb6 hgg5
      refine sqStoreG (i := 1) F28 M6 rfl rfl rfl (F28.ev 7 rfl) (F28.ev 34 rfl) rfl szRg rfl rfl (one_own hO9.owns) fun a29 w7 hgr7 F29 M7 => ?_
      have hO13 := hO9.upd 1 (S2 := isB 27 #[vz3a]) rfl hgr7
      have hO14 := hO10.upd 1 (S2 := isB 27 #[vz3a]) rfl hgr7
      have hO15 := hO11.upd 1 (S2 := isB 27 #[vz3a]) rfl hgr7
      have hO16 := hO12.upd 1 (S2 := isB 27 #[vz3a]) rfl hgr7
      refine sqStoreG (i := 0) F29 M7 rfl rfl rfl (F29.ev 8 rfl) (F29.ev 35 rfl) rfl szKy rfl rfl (one_own hO14.owns) fun a30 w8 hgr8 F30 M8 => ?_
      have hO17 := hO13.upd 0 (S2 := isB 30 #[vz3b]) rfl hgr8
      have hO18 := hO14.upd 0 (S2 := isB 30 #[vz3b]) rfl hgr8
      have hO19 := hO15.upd 0 (S2 := isB 30 #[vz3b]) rfl hgr8
      have hO20 := hO16.upd 0 (S2 := isB 30 #[vz3b]) rfl hgr8
      refine asS F30 rfl rfl rfl rfl rfl fun a31 F31 => ?_
      refine asS F31 rfl rfl rfl rfl rfl fun a32 F32 => ?_
      refine sn ?_
      clear F17 F18 F19 F20 F21 F22 F23 F24 F25 F26 F27 F28 F29 F30 F31 M3 M4 M5 M6 M7
      refine wp_seq ?_
      refine wsl ?_
      refine mvS F32 rfl rfl rfl rfl rfl fun a33 F33 => ?_
      refine sr (v := (.bool false)) F33 (run_not rfl (F33.ev 38 rfl)) rfl rfl rfl fun a34 F34 => ?_
      refine sn ?_
      clear F32 F33
      refine cfs (F34.ev 39 rfl) ?_
      refine wsl ?_
      refine mvS F34 rfl rfl rfl rfl rfl fun a35 F35 => ?_
      refine sr F35 (run_cvI (r := (b.toNat : Int)) rfl (F35.ev 40 rfl) Tryd.underlying5 Tryd.underlying3 (by rw [IntKind.wrap_i64]; omega)) rfl rfl rfl fun a36 F36 => ?_
      refine mvS F36 rfl rfl rfl rfl rfl fun a37 F37 => ?_
      refine sr F37 (run_lenS rfl (F37.ev 42 rfl) (hV.below M8.below) rfl Tryd.underlying28) rfl rfl rfl fun a38 F38 => ?_
      refine sr (v := (.int .i64 (q : Int))) F38 (run_rem (r := (q : Int)) rfl (F38.ev 41 rfl) (F38.ev 43 rfl) (by omega) (by rw [Int.tmod_eq_emod_of_nonneg (by omega), ← hq]; rfl)) rfl rfl rfl fun a39 F39 => ?_
      refine sr F39 (run_add (r := ((q + 1 : Nat) : Int)) rfl rfl (F39.ev 44 rfl) (by rw [IntKind.wrap_i64]; omega)) rfl rfl rfl fun a40 F40 => ?_
      refine asS F40 rfl rfl rfl rfl rfl fun a41 F41 => ?_
      refine sn ?_
      clear F34 F35 F36 F37 F38 F39 F40
      refine wp_seq ?_
      have hUq : q < US3c.length := by rw [hUl3c]; exact hql
      have hs5 := shS_len k nz
      obtain ⟨gu, cu, rfl, hcapgu, M9⟩ := hO20.toMem2 M8 (by first | omega | (simp; done))
      have hO21 := hO17.addFar (S := isRow 54 33 5 ((shS k nz).flatMap shareC)) (own_ne_row hO17.owns (M9.ob 0 rfl) (by kernel_rfl))
      have hO22 := hO18.addFar (S := isRow 54 33 5 ((shS k nz).flatMap shareC)) (own_ne_row hO18.owns (M9.ob 0 rfl) (by kernel_rfl))
      have hO23 := hO19.addFar (S := isRow 54 33 5 ((shS k nz).flatMap shareC)) (own_ne_row hO19.owns (M9.ob 0 rfl) (by kernel_rfl))
      refine wp_region_p 82 [.val (.pointer (some ⟨g4, 0, none⟩)), .val vz3a, .val (.int .i64 ((q + 1 : Nat) : Int)), .val (slTo vz3a (q + 1)), .val (.agg #[slTo vz3a (q + 1)]), .val vz3c, .val (.int .i64 ((q + 1 : Nat) : Int)), .val (.int .i64 (q : Int)), .val (slPtr vz3c (q * 1)), .val (.slice (some ⟨gu, 0, none⟩) ((shS k nz).length) cu), .val (.slice (some ⟨gu, 1 * 33, none⟩) (4 - 1) (cu - 1)), .tup2 (.st (.row 23 32 ((l.take (q + 1)).length) ((l.take (q + 1)).flatMap dgC))) (.val (.int .i64 0)), .tup2 (.st (.row 23 32 ((l.take (q + 1)).length) ((l.take (q + 1)).flatMap dgC))) (.val (.int .i64 0)), .st (.row 23 32 ((l.take (q + 1)).length) ((l.take (q + 1)).flatMap dgC)), .val (.int .i64 0), .any, .any, .val (.int .i64 0)] [] [⟨15, 12, 16, 30, #[.slice none 0 0], .st (.row 23 32 ((l.take (q + 1)).length) ((l.take (q + 1)).flatMap dgC))⟩] [] [] (by kernel_rfl) (by kernel_rfl) F41.size ?_ ?_ ?_ ?_ (by kernel_rfl) ?_ fun a42 w9 gs hI => ?_
      · intro d hd
        simp only [List.mem_cons, List.not_mem_nil, or_false] at hd
        rcases hd with rfl <;> exact ⟨Nat.le_of_ble_eq_true (by kernel_rfl), _, rfl, rfl⟩
      · intro b hb
        cases hb
      · intro x y b c hx hy hne
        simp at hx
      · intro r hr
        cases hr
      · refine ⟨?_, ?_, ?_, ?_, ?_, ?_, ?_, ?_, ?_, ?_, ?_, ?_, ?_, ?_, ?_, ?_, ?_, ?_, trivial⟩
        · refine .val 47 rfl (by simp) (by simp) (by simp) fun a W hK hh hd => ⟨wanted_yes rfl, ?_⟩
          exact givz_run (run_fldA (m := 1) (s := 0) rfl (eval_tmp (hh 7 _ rfl (F41.at 7 rfl))) Tryd.underlying27 rfl rfl (by kernel_rfl) (by decide)) rfl
        · refine .val 48 rfl (by simp) (by simp) (by simp) fun a W hK hh hd => ⟨wanted_yes rfl, ?_⟩
          exact givz_run (run_ldF rfl (eval_tmp (hd.valz (j := 0) (s := 47) (by kernel_rfl) (by simp) rfl rfl)) ((M9.grow hK.below).at 2 rfl) rfl (by kernel_rfl)) rfl
        · refine .val 49 rfl (by simp) (by simp) (by simp) fun a W hK hh hd => ⟨wanted_yes rfl, ?_⟩
          exact givz_run (run_mv rfl (eval_tmp (hh 11 _ rfl (F41.at 11 rfl)))) rfl
        · refine .val 50 rfl (by simp) (by simp) (by simp) fun a W hK hh hd => ⟨wanted_yes rfl, ?_⟩
          exact givz_run (run_toV (n := (q + 1)) (z := 33) rfl (eval_tmp (hd.valz (j := 1) (s := 48) (by kernel_rfl) (by simp) rfl rfl)) (eval_tmp (hd.valz (j := 2) (s := 49) (by kernel_rfl) (by simp) rfl rfl)) rfl (Sl.own (hO21.grow hK.below)) (by rw [ringS_len]; omega) (cap_own hO21.owns) elEp.un (by kernel_rfl)) rfl
        · refine .val 51 rfl (by simp) (by simp) (by simp) fun a W hK hh hd => ⟨wanted_yes rfl, ?_⟩
          exact givz_run (run_blt1 rfl (eval_tmp (hd.valz (j := 3) (s := 50) (by kernel_rfl) (by simp) rfl rfl)) (slTo_slice (own_slice hO21.owns) _) fun _ _ _ => by kernel_rfl) rfl
        · refine .val 52 rfl (by simp) (by simp) (by simp) fun a W hK hh hd => ⟨wanted_yes rfl, ?_⟩
          exact givz_run (run_mv rfl (eval_tmp (hh 9 _ rfl (F41.at 9 rfl)))) rfl
        · refine .val 53 rfl (by simp) (by simp) (by simp) fun a W hK hh hd => ⟨wanted_yes rfl, ?_⟩
          exact givz_run (run_mv rfl (eval_tmp (hh 11 _ rfl (F41.at 11 rfl)))) rfl
        · refine .val 54 rfl (by simp) (by simp) (by simp) fun a W hK hh hd => ⟨wanted_yes rfl, ?_⟩
          exact givz_run (run_sub (r := (q : Int)) rfl (eval_tmp (hd.valz (j := 6) (s := 53) (by kernel_rfl) (by simp) rfl rfl)) rfl (by rw [IntKind.wrap_i64]; omega)) rfl
        · refine .val 55 rfl (by simp) (by simp) (by simp) fun a W hK hh hd => ⟨wanted_yes rfl, ?_⟩
          exact givz_run (run_atP (i := q) rfl (eval_tmp (hd.valz (j := 5) (s := 52) (by kernel_rfl) (by simp) rfl rfl)) (eval_tmp (hd.valz (j := 7) (s := 54) (by kernel_rfl) (by simp) rfl rfl)) rfl (Sl.own (hO23.grow hK.below)) (by omega) elSl.un (by kernel_rfl)) rfl
        · refine .val 56 rfl (by simp) (by simp) (by simp) fun a W hK hh hd => ⟨wanted_yes rfl, ?_⟩
          exact givz_run (run_ldP rfl (eval_tmp (hd.valz (j := 8) (s := 55) (by kernel_rfl) (by simp) rfl rfl)) (Sl.own (hO23.grow hK.below)) (by rw [Nat.mul_one]; exact hUuz) (by kernel_rfl)) rfl
        · refine .val 57 rfl (by simp) (by simp) (by simp) fun a W hK hh hd => ⟨wanted_yes rfl, ?_⟩
          exact givz_run (run_midS (i := 1) (j := 4) (sz := 33) rfl (eval_tmp (hd.valz (j := 9) (s := 56) (by kernel_rfl) (by simp) rfl rfl)) rfl rfl rfl rfl (by omega) (by omega) (by omega) (by decide) eltSh.un (by kernel_rfl)) rfl
        · refine .val 58 rfl (by simp) (by simp) (by simp) fun a W hK hh hd => ⟨wanted_yes rfl, ?_⟩
          exact givz_call (run_call rfl Tryd.func23 (by kernel_rfl) rfl (mapE2 (eval_tmp (hd.valz (j := 4) (s := 51) (by kernel_rfl) (by simp) rfl rfl)) (eval_tmp (hd.valz (j := 10) (s := 57) (by kernel_rfl) (by simp) rfl rfl)))) hK.size ((by have h := kopen_any ((ringS l).take (q + 1)) (((shS k nz).drop 1).take (4 - 1)) (slTo vz3a (q + 1)) (.slice (some ⟨gu, 1 * 33, none⟩) (4 - 1) (cu - 1)) W (HG.below (M9.grow hK.below).below) (Sl.front (n := (q + 1)) epF_len (Sl.own (hO21.grow hK.below)) (by first | omega | (rw [ringS_len]; omega))) (fun e he => ringS_c32 l e (List.mem_of_mem_take he)) (fun e he => ringS_wr h32 e (List.mem_of_mem_take he)) (slMid (c := cu) (i := 1) (j := 4) shareC_len ((M9.grow hK.below).ob 0 rfl) (by omega) (by omega)) (by rw [List.length_take, ringS_len]; omega) (by rw [List.length_take, List.length_drop, shS_len]; omega); rw [(front_open hk h32 rfl)] at h; exact h))
        · refine .val 46 rfl (by simp) (by simp) (by simp) fun a W hK hh hd => ⟨wanted_yes rfl, ?_⟩
          obtain ⟨_, ey11, ⟨_, _, rfl, ⟨vz_12_11a, rfl, hz_12_11a⟩, rfl⟩⟩ := hd.getz (j := 11) (s := 58) (by kernel_rfl) (by simp) rfl rfl
          exact givz_run (run_mv rfl (eval_tmp ey11)) ⟨_, _, rfl, ⟨_, rfl, hz_12_11a⟩, rfl⟩
        · refine .val 59 rfl (by simp) (by simp) (by simp) fun a W hK hh hd => ⟨wanted_yes rfl, ?_⟩
          obtain ⟨_, ey12, ⟨_, _, rfl, ⟨vz_13_12a, rfl, hz_13_12a⟩, rfl⟩⟩ := hd.getz (j := 12) (s := 46) (by kernel_rfl) (by simp) rfl rfl
          exact givz_run (run_ext rfl (eval_tmp ey12) rfl) ⟨_, rfl, hz_13_12a⟩
        · refine .val 60 rfl (by simp) (by simp) (by simp) fun a W hK hh hd => ⟨wanted_yes rfl, ?_⟩
          obtain ⟨_, ey12, ⟨_, _, rfl, ⟨vz_14_12a, rfl, hz_14_12a⟩, rfl⟩⟩ := hd.getz (j := 12) (s := 46) (by kernel_rfl) (by simp) rfl rfl
          exact givz_run (run_ext rfl (eval_tmp ey12) rfl) rfl
        · exact .new 0 _ rfl rfl rfl (by simp) (by simp) (by simp) (fun y e hy he => by rcases y with _ | _ | y <;> simp at hy <;> (try subst hy) <;> simp at he ⊢) fun a W => ⟨wanted_yes rfl, run_alloc rfl (by kernel_rfl)⟩
        · refine .put 0 _ rfl rfl rfl (by simp) (by simp) (by simp) (fun y e hy he => by rcases y with _ | _ | y <;> simp at hy <;> (try subst hy) <;> simp at he ⊢) (by kernel_rfl) 1 30 _ _ rfl rfl (fun a W hK hh hd => ?_) rfl szKy rfl
          obtain ⟨_, ey13, ⟨vz_16_13, rfl, hz_16_13⟩⟩ := hd.getz (j := 13) (s := 59) (by kernel_rfl) (by simp) rfl rfl
          rw [show a.eval _ = _ from (eval_tmp ey13)]
          exact ⟨⟨_, rfl, hz_16_13⟩, rfl, (one_own hz_16_13)⟩
        · refine .val 13 rfl (by simp) (by simp) (by simp) fun a W hK hh hd => ⟨wanted_yes rfl, ?_⟩
          exact givz_run (run_as rfl (eval_tmp (hd.valz (j := 14) (s := 60) (by kernel_rfl) (by simp) rfl rfl))) rfl
      have e13_ : a42.tmps[13]? = some (.int .i64 0) := by
        obtain ⟨vq, hq1, hq2⟩ := hI.val 17 _ 13 rfl rfl rfl (by simp) (fun _ h => by cases h)
        rw [hq1]
        exact congrArg some hq2
      obtain ⟨pg6, qg6, _, fg6⟩ := hI.blk 0 _ rfl rfl
      generalize gs 0 = g6 at pg6 qg6 fg6
      obtain ⟨_, Bg6, ⟨vz7_, rfl, hz7_⟩⟩ := fg6 rfl
      have Bg6 : Blk w9 g6 30 (#[vz7_]) := Bg6
      have hb9 := KeepW.below hI.keep
      have M10 := M9.grow hb9
      have hO24 := hO21.grow hb9
      have hO25 := hO22.grow hb9
      have hO26 := hO23.grow hb9
      have hO27 := OwnR.ofCall M9 (show World.ownsRow w9 _ 23 32 vz7_ ((l.take (q + 1)).length) ((l.take (q + 1)).flatMap dgC) from hz7_)
      have hO28 := hO24.addFar (S := isB 30 (#[vz7_])) (own_ne_ge hO21.owns qg6)
      have hO29 := hO25.addFar (S := isB 30 (#[vz7_])) (own_ne_ge hO22.owns qg6)
      have hO30 := hO26.addFar (S := isB 30 (#[vz7_])) (own_ne_ge hO23.owns qg6)
      have hO31 := hO27.addFar (S := isB 30 (#[vz7_])) (own_ne_ty hO27.owns Bg6 (by kernel_rfl))
      have M11 := M10.put1 (cs := #[vz7_]) (Nat.le_trans M9.below.size qg6) Bg6 (mem_far_new M9 qg6)
      have F42 : Fr a42 82 [(0, v), (1, (.agg (cells8 nz))), (2, (.int .u8 (b.toNat : Int))), (4, (.pointer (some ⟨g0, 0, none⟩))), (6, (.bool false)), (7, (.pointer (some ⟨g4, 0, none⟩))), (8, (.pointer (some ⟨g5, 0, none⟩))), (10, (.bool true)), (11, (.int .i64 ((q + 1 : Nat) : Int))), (12, (.pointer (some ⟨g6, 0, none⟩))), (13, (.int .i64 0)), (14, (.bool true)), (15, (.bool false)), (16, v), (17, (.int .i64 (l.length : Int))), (18, (.bool false)), (19, (.bool false)), (20, v), (21, (.int .i64 (l.length : Int))), (22, (.bool false)), (23, (.bool false)), (24, (.bool false)), (25, v), (26, (.bool true)), (27, (.bool false)), (28, (.bool false)), (29, (.tuple #[(.agg #[vz3a]), (.agg #[vz3b]), vz3c, (.bool true)])), (30, v), (31, (.slice (some ⟨g0, 0, none⟩) 64 64)), (32, (.string ⟨nz.toArray⟩)), (33, (.tuple #[(.agg #[vz3a]), (.agg #[vz3b]), vz3c, (.bool true)])), (34, (.agg #[vz3a])), (35, (.agg #[vz3b])), (36, vz3c), (37, (.bool true)), (38, (.bool true)), (39, (.bool false)), (40, (.int .u8 (b.toNat : Int))), (41, (.int .i64 (b.toNat : Int))), (42, v), (43, (.int .i64 (l.length : Int))), (44, (.int .i64 (q : Int))), (45, (.int .i64 ((q + 1 : Nat) : Int)))] := fr_of_holds hI.tsz (hI.defers.trans F41.defers) ⟨hI.had 0 _ rfl (F41.at 0 rfl), hI.had 1 _ rfl (F41.at 1 rfl), hI.had 2 _ rfl (F41.at 2 rfl), hI.had 4 _ rfl (F41.at 4 rfl), hI.had 6 _ rfl (F41.at 6 rfl), hI.had 7 _ rfl (F41.at 7 rfl), hI.had 8 _ rfl (F41.at 8 rfl), hI.had 10 _ rfl (F41.at 10 rfl), hI.had 11 _ rfl (F41.at 11 rfl), pg6, e13_, hI.had 14 _ rfl (F41.at 14 rfl), hI.had 15 _ rfl (F41.at 15 rfl), hI.had 16 _ rfl (F41.at 16 rfl), hI.had 17 _ rfl (F41.at 17 rfl), hI.had 18 _ rfl (F41.at 18 rfl), hI.had 19 _ rfl (F41.at 19 rfl), hI.had 20 _ rfl (F41.at 20 rfl), hI.had 21 _ rfl (F41.at 21 rfl), hI.had 22 _ rfl (F41.at 22 rfl), hI.had 23 _ rfl (F41.at 23 rfl), hI.had 24 _ rfl (F41.at 24 rfl), hI.had 25 _ rfl (F41.at 25 rfl), hI.had 26 _ rfl (F41.at 26 rfl), hI.had 27 _ rfl (F41.at 27 rfl), hI.had 28 _ rfl (F41.at 28 rfl), hI.had 29 _ rfl (F41.at 29 rfl), hI.had 30 _ rfl (F41.at 30 rfl), hI.had 31 _ rfl (F41.at 31 rfl), hI.had 32 _ rfl (F41.at 32 rfl), hI.had 33 _ rfl (F41.at 33 rfl), hI.had 34 _ rfl (F41.at 34 rfl), hI.had 35 _ rfl (F41.at 35 rfl), hI.had 36 _ rfl (F41.at 36 rfl), hI.had 37 _ rfl (F41.at 37 rfl), hI.had 38 _ rfl (F41.at 38 rfl), hI.had 39 _ rfl (F41.at 39 rfl), hI.had 40 _ rfl (F41.at 40 rfl), hI.had 41 _ rfl (F41.at 41 rfl), hI.had 42 _ rfl (F41.at 42 rfl), hI.had 43 _ rfl (F41.at 43 rfl), hI.had 44 _ rfl (F41.at 44 rfl), hI.had 45 _ rfl (F41.at 45 rfl), trivial⟩
      clear F41 M9 M10
      refine nx ?_
      refine wp_seq ?_
      obtain ⟨KL, hKL⟩ : ∃ KL, KL = [kval (.int .i64 0), kval (.bool true), kval (.bool true), kval (.agg #[vz7_]), kval (.pointer (some ⟨g5, 0, none⟩)), kval vz3b, kval (.int .i64 ((q + 1 : Nat) : Int)), kval (slTo vz3b (q + 1)), kval (.agg #[slTo vz3b (q + 1)]), kval (.bool true), kval (.bool true), kval (.bool true), kval (.pointer (some ⟨g4, 0, none⟩)), kval vz3a, kval (.int .i64 ((q + 1 : Nat) : Int)), kval (slTo vz3a (q + 1)), kval (.agg #[slTo vz3a (q + 1)]), kval (.agg #[vz7_]), kval (.int .i64 0), kval (.bool true), kval (.bool true), kval (.bool true)] := ⟨_, rfl⟩
      have K0 := getK hKL 0
      have K1 := getK hKL 1
      have K2 := getK hKL 2
      have K3 := getK hKL 3
      have K4 := getK hKL 4
      have K5 := getK hKL 5
      have K6 := getK hKL 6
      have K7 := getK hKL 7
      have K8 := getK hKL 8
      have K9 := getK hKL 9
      have K10 := getK hKL 10
      have K11 := getK hKL 11
      have K12 := getK hKL 12
      have K13 := getK hKL 13
      have K14 := getK hKL 14
      have K15 := getK hKL 15
      have K16 := getK hKL 16
      have K17 := getK hKL 17
      have K18 := getK hKL 18
      have K19 := getK hKL 19
      have K20 := getK hKL 20
      have K21 := getK hKL 21
      clear hKL
      refine wp_region_kd 82 (by kernel_rfl) (by kernel_rfl) (by kernel_rfl) F42.size KL ?_ ?_
      · refine ⟨?_, ?_, ?_, ?_, ?_, ?_, ?_, ?_, ?_, ?_, ?_, ?_, ?_, ?_, ?_, ?_, ?_, ?_, ?_, ?_, ?_, ?_, trivial⟩
        · exact asksY rfl fun a W hS hh hd => giv_run (run_mv rfl (eval_tmp (hh 13 _ rfl (F42.at 13 rfl)))) K0
        · exact asksY rfl fun a W hS hh hd => giv_run (run_eqi rfl (eval_tmp (hd.vl 0 61 (by kernel_rfl) K0)) rfl (beq_self_eq_true _)) K1
        · exact asksY rfl fun a W hS hh hd => giv_run (run_mv rfl (eval_tmp (hd.vl 1 62 (by kernel_rfl) K1))) K2
        · refine asks_mk fun a W hS hh hd => ⟨wanted_of (j := 2) (s := 63) (by kernel_rfl) (hd.vl 2 63 (by kernel_rfl) K2), ?_⟩
          exact giv_run (run_ldB rfl (eval_tmp (hh 12 _ rfl (F42.at 12 rfl))) ((M11.grow hS).at 0 rfl) Tryd.underlying30 rfl szKy rfl) K3
        · refine asks_mk fun a W hS hh hd => ⟨wanted_of (j := 2) (s := 63) (by kernel_rfl) (hd.vl 2 63 (by kernel_rfl) K2), ?_⟩
          exact giv_run (run_fldA (m := 1) (s := 0) rfl (eval_tmp (hh 8 _ rfl (F42.at 8 rfl))) Tryd.underlying30 rfl rfl (by kernel_rfl) (by decide)) K4
        · refine asks_mk fun a W hS hh hd => ⟨wanted_of (j := 2) (s := 63) (by kernel_rfl) (hd.vl 2 63 (by kernel_rfl) K2), ?_⟩
          exact giv_run (run_ldF rfl (eval_tmp (hd.vl 4 65 (by kernel_rfl) K4)) ((M11.grow hS).at 2 rfl) rfl (by kernel_rfl)) K5
        · refine asks_mk fun a W hS hh hd => ⟨wanted_of (j := 2) (s := 63) (by kernel_rfl) (hd.vl 2 63 (by kernel_rfl) K2), ?_⟩
          exact giv_run (run_mv rfl (eval_tmp (hh 11 _ rfl (F42.at 11 rfl)))) K6
        · refine asks_mk fun a W hS hh hd => ⟨wanted_of (j := 2) (s := 63) (by kernel_rfl) (hd.vl 2 63 (by kernel_rfl) K2), ?_⟩
          exact giv_run (run_toV (n := (q + 1)) (z := 32) rfl (eval_tmp (hd.vl 5 66 (by kernel_rfl) K5)) (eval_tmp (hd.vl 6 67 (by kernel_rfl) K6)) rfl (Sl.own (hO29.grow hS)) (by omega) (cap_own hO29.owns) elKey.un (by kernel_rfl)) K7
        · refine asks_mk fun a W hS hh hd => ⟨wanted_of (j := 2) (s := 63) (by kernel_rfl) (hd.vl 2 63 (by kernel_rfl) K2), ?_⟩
          exact giv_run (run_blt1 rfl (eval_tmp (hd.vl 7 68 (by kernel_rfl) K7)) (slTo_slice (own_slice hO29.owns) _) fun _ _ _ => by kernel_rfl) K8
        · refine asks_mk fun a W hS hh hd => ⟨wanted_of (j := 2) (s := 63) (by kernel_rfl) (hd.vl 2 63 (by kernel_rfl) K2), ?_⟩
          exact giv_call (run_call rfl Tryd.func16 (by kernel_rfl) rfl (mapE2 (eval_tmp (hd.vl 3 64 (by kernel_rfl) K3)) (eval_tmp (hd.vl 8 69 (by kernel_rfl) K8)))) (samek_any (l.take (q + 1)) vz7_ (slTo vz3b (q + 1)) W (Sl.own (hO31.grow hS)) (Sl.front (n := (q + 1)) dgC_len (Sl.own (hO29.grow hS)) (by first | omega | (rw [ringS_len]; omega))) h32t (by rw [List.length_take]; omega)) K9
        · exact asksY rfl fun a W hS hh hd => giv_run (run_pick rfl (eval_tmp (hd.vl 2 63 (by kernel_rfl) K2)) (eval_tmp (hd.vl 9 70 (by kernel_rfl) K9)) rfl) K10
        · exact asksY rfl fun a W hS hh hd => giv_run (run_mv rfl (eval_tmp (hd.vl 10 71 (by kernel_rfl) K10))) K11
        · refine asks_mk fun a W hS hh hd => ⟨wanted_of (j := 11) (s := 72) (by kernel_rfl) (hd.vl 11 72 (by kernel_rfl) K11), ?_⟩
          exact giv_run (run_fldA (m := 1) (s := 0) rfl (eval_tmp (hh 7 _ rfl (F42.at 7 rfl))) Tryd.underlying27 rfl rfl (by kernel_rfl) (by decide)) K12
        · refine asks_mk fun a W hS hh hd => ⟨wanted_of (j := 11) (s := 72) (by kernel_rfl) (hd.vl 11 72 (by kernel_rfl) K11), ?_⟩
          exact giv_run (run_ldF rfl (eval_tmp (hd.vl 12 73 (by kernel_rfl) K12)) ((M11.grow hS).at 3 rfl) rfl (by kernel_rfl)) K13
        · refine asks_mk fun a W hS hh hd => ⟨wanted_of (j := 11) (s := 72) (by kernel_rfl) (hd.vl 11 72 (by kernel_rfl) K11), ?_⟩
          exact giv_run (run_mv rfl (eval_tmp (hh 11 _ rfl (F42.at 11 rfl)))) K14
        · refine asks_mk fun a W hS hh hd => ⟨wanted_of (j := 11) (s := 72) (by kernel_rfl) (hd.vl 11 72 (by kernel_rfl) K11), ?_⟩
          exact giv_run (run_toV (n := (q + 1)) (z := 33) rfl (eval_tmp (hd.vl 13 74 (by kernel_rfl) K13)) (eval_tmp (hd.vl 14 75 (by kernel_rfl) K14)) rfl (Sl.own (hO28.grow hS)) (by rw [ringS_len]; omega) (cap_own hO28.owns) elEp.un (by kernel_rfl)) K15
        · refine asks_mk fun a W hS hh hd => ⟨wanted_of (j := 11) (s := 72) (by kernel_rfl) (hd.vl 11 72 (by kernel_rfl) K11), ?_⟩
          exact giv_run (run_blt1 rfl (eval_tmp (hd.vl 15 76 (by kernel_rfl) K15)) (slTo_slice (own_slice hO28.owns) _) fun _ _ _ => by kernel_rfl) K16
        · refine asks_mk fun a W hS hh hd => ⟨wanted_of (j := 11) (s := 72) (by kernel_rfl) (hd.vl 11 72 (by kernel_rfl) K11), ?_⟩
          exact giv_run (run_ldB rfl (eval_tmp (hh 12 _ rfl (F42.at 12 rfl))) ((M11.grow hS).at 0 rfl) Tryd.underlying30 rfl szKy rfl) K17
        · refine asks_mk fun a W hS hh hd => ⟨wanted_of (j := 11) (s := 72) (by kernel_rfl) (hd.vl 11 72 (by kernel_rfl) K11), ?_⟩
          exact giv_call (run_call rfl Tryd.func21 (by kernel_rfl) rfl (mapE2 (eval_tmp (hd.vl 16 77 (by kernel_rfl) K16)) (eval_tmp (hd.vl 17 78 (by kernel_rfl) K17)))) ((by have h := kchk_any ((ringS l).take (q + 1)) (l.take (q + 1)) (slTo vz3a (q + 1)) vz7_ W (HG.below (M11.grow hS).below) (Sl.front (n := (q + 1)) epF_len (Sl.own (hO28.grow hS)) (by first | omega | (rw [ringS_len]; omega))) (fun e he => ringS_c32 l e (List.mem_of_mem_take he)) (Sl.own (hO31.grow hS)) h32t (by rw [List.length_take, ringS_len]; omega) (by rw [List.length_take]; omega); rw [hck] at h; exact h)) K18
        · refine asks_mk fun a W hS hh hd => ⟨wanted_of (j := 11) (s := 72) (by kernel_rfl) (hd.vl 11 72 (by kernel_rfl) K11), ?_⟩
          exact giv_run (run_eqi rfl (eval_tmp (hd.vl 18 79 (by kernel_rfl) K18)) rfl (beq_self_eq_true _)) K19
        · exact asksY rfl fun a W hS hh hd => giv_run (run_pick rfl (eval_tmp (hd.vl 11 72 (by kernel_rfl) K11)) (eval_tmp (hd.vl 19 80 (by kernel_rfl) K19)) rfl) K20
        · exact asksY rfl fun a W hS hh hd => giv_run (run_as rfl (eval_tmp (hd.vl 20 81 (by kernel_rfl) K20))) K21
      · intro a43 w10 hb10 hK
        have e0 := hK.vl 0 61 (by kernel_rfl) K0
        have e1 := hK.vl 1 62 (by kernel_rfl) K1
        have e2 := hK.vl 2 63 (by kernel_rfl) K2
        have e3 := hK.vl 3 64 (by kernel_rfl) K3
        have e4 := hK.vl 4 65 (by kernel_rfl) K4
        have e5 := hK.vl 5 66 (by kernel_rfl) K5
        have e6 := hK.vl 6 67 (by kernel_rfl) K6
        have e7 := hK.vl 7 68 (by kernel_rfl) K7
        have e8 := hK.vl 8 69 (by kernel_rfl) K8
        have e9 := hK.vl 9 70 (by kernel_rfl) K9
        have e10 := hK.vl 10 71 (by kernel_rfl) K10
        have e11 := hK.vl 11 72 (by kernel_rfl) K11
        have e12 := hK.vl 12 73 (by kernel_rfl) K12
        have e13 := hK.vl 13 74 (by kernel_rfl) K13
        have e14 := hK.vl 14 75 (by kernel_rfl) K14
        have e15 := hK.vl 15 76 (by kernel_rfl) K15
        have e16 := hK.vl 16 77 (by kernel_rfl) K16
        have e17 := hK.vl 17 78 (by kernel_rfl) K17
        have e18 := hK.vl 18 79 (by kernel_rfl) K18
        have e19 := hK.vl 19 80 (by kernel_rfl) K19
        have e20 := hK.vl 20 81 (by kernel_rfl) K20
        have e21 := hK.vl 21 6 (by kernel_rfl) K21
        have F43 : Fr a43 82 [(0, v), (1, (.agg (cells8 nz))), (2, (.int .u8 (b.toNat : Int))), (4, (.pointer (some ⟨g0, 0, none⟩))), (6, (.bool true)), (7, (.pointer (some ⟨g4, 0, none⟩))), (8, (.pointer (some ⟨g5, 0, none⟩))), (10, (.bool true)), (11, (.int .i64 ((q + 1 : Nat) : Int))), (12, (.pointer (some ⟨g6, 0, none⟩))), (14, (.bool true)), (15, (.bool false)), (16, v), (17, (.int .i64 (l.length : Int))), (18, (.bool false)), (19, (.bool false)), (20, v), (21, (.int .i64 (l.length : Int))), (22, (.bool false)), (23, (.bool false)), (24, (.bool false)), (25, v), (26, (.bool true)), (27, (.bool false)), (28, (.bool false)), (29, (.tuple #[(.agg #[vz3a]), (.agg #[vz3b]), vz3c, (.bool true)])), (30, v), (31, (.slice (some ⟨g0, 0, none⟩) 64 64)), (32, (.string ⟨nz.toArray⟩)), (33, (.tuple #[(.agg #[vz3a]), (.agg #[vz3b]), vz3c, (.bool true)])), (34, (.agg #[vz3a])), (35, (.agg #[vz3b])), (36, vz3c), (37, (.bool true)), (38, (.bool true)), (39, (.bool false)), (40, (.int .u8 (b.toNat : Int))), (41, (.int .i64 (b.toNat : Int))), (42, v), (43, (.int .i64 (l.length : Int))), (44, (.int .i64 (q : Int))), (45, (.int .i64 ((q + 1 : Nat) : Int)))] := (hK.fr F42 [_, _, _, _, _, _, _, _, _, _, _, _, _, _, _, _, _, _, _, _, _, _] ⟨e0, e1, e2, e3, e4, e5, e6, e7, e8, e9, e10, e11, e12, e13, e14, e15, e16, e17, e18, e19, e20, e21, trivial⟩).sub ⟨rfl, rfl, rfl, rfl, rfl, rfl, rfl, rfl, rfl, rfl, rfl, rfl, rfl, rfl, rfl, rfl, rfl, rfl, rfl, rfl, rfl, rfl, rfl, rfl, rfl, rfl, rfl, rfl, rfl, rfl, rfl, rfl, rfl, rfl, rfl, rfl, rfl, rfl, rfl, rfl, rfl, rfl, trivial⟩
        have M12 := M11.grow hb10
        have hO32 := hO28.grow hb10
        have hO33 := hO29.grow hb10
        have hO34 := hO30.grow hb10
        have hO35 := hO31.grow hb10
        clear hK K0 e0 K1 e1 K2 e2 K3 e3 K4 e4 K5 e5 K6 e6 K7 e7 K8 e8 K9 e9 K10 e10 K11 e11 K12 e12 K13 e13 K14 e14 K15 e15 K16 e16 K17 e17 K18 e18 K19 e19 K20 e20 K21 e21
        clear F42 M11
        refine nx ?_
        refine wp_ret ?_
        exact ret1 F43 rfl rfl ⟨rfl, M12.below⟩
end Go.Proofs.YtconhhhggckcbaaDoor
