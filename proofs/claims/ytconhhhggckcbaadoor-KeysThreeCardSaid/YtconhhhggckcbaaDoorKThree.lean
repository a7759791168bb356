/- The walk of the law KeysThree. Printed by gen_key23.py. -/
import Derived.Test.YtconhhhggckcbaaDoorRng8
namespace Go.Proofs.YtconhhhggckcbaaDoor
open Go.RowKit

attribute [local irreducible] sealS keyedS nonceS openS idS boxK bkeyS
set_option maxRecDepth 100000 in
set_option maxHeartbeats 1000000 in
theorem lawThree3_any (l : List (List UInt8)) (v : Value) (nz : List UInt8) (p0 p1 p2 b : UInt8) (w : World) (HG : Glob w) (hV : Sl w v 32 l.length (l.flatMap dgC)) (h32 : ∀ k ∈ l, k.length = 32) (_hcap : capOk v) (hLnz : nz.length = 64) : Calls Tryd.prog 6 #[v, .agg (cells8 nz), .agg (cells8 [p0, p1, p2]), .int .u8 (b.toNat : Int)] w fun e w' => e = .returned (.bool true) ∧ Below w.heap.size w w' := by
  by_cases hl0 : l.length = 0
  · skip
    refine walk_enter Tryd.func6 rfl rfl rfl fun a0 F0 => ?_
    have M0 := Mem.new w
    refine wsl ?_
    refine sqNew (cs := (cells8 nz)) (t := 46) F0 M0 (wantedS rfl) (run_box rfl (F0.ev 1 rfl)) rfl (by decide) fun g0 a1 w1 hgg0 hb1 F1 M1 => ?_
    refine sqNew (cs := (cells8 [p0, p1, p2])) (t := 47) F1 M1 (wantedS rfl) (run_box rfl (F1.ev 2 rfl)) rfl (by decide) fun g1 a2 w2 hgg1 hb2 F2 M2 => ?_
    refine sr (v := (.bool false)) F2 (run_as rfl rfl) rfl rfl rfl fun a3 F3 => ?_
    refine sn ?_
    clear F0 F1 F2 M0 M1
    refine wp_seq ?_
    refine wsl ?_
    refine sqC (v := (.bool true)) F3 M2 (wantedS rfl) (run_call rfl Tryd.func12 (by kernel_rfl) rfl (mapE0 )) rfl (by decide) (alive38_any w2 (HG.below M2.below)) fun a4 w3 hb3 F4 M3 => ?_
    refine sr (v := (.bool false)) F4 (run_not rfl (F4.ev 22 rfl)) rfl rfl rfl fun a5 F5 => ?_
    refine sn ?_
    clear F3 F4 M2
    refine cfs (F5.ev 23 rfl) ?_
    refine wp_seq ?_
    refine wsl ?_
    refine mvS F5 rfl rfl rfl rfl rfl fun a6 F6 => ?_
    refine sr F6 (run_lenS rfl (F6.ev 24 rfl) (hV.below M3.below) rfl Tryd.underlying28) rfl rfl rfl fun a7 F7 => ?_
    refine sr (v := (.bool true)) F7 (run_eqi rfl (F7.ev 25 rfl) rfl (beq_iff_eq.2 (by omega))) rfl rfl rfl fun a8 F8 => ?_
    refine mvS F8 rfl rfl rfl rfl rfl fun a9 F9 => ?_
    refine sqSkip F9 (unwantedG F9 rfl rfl rfl rfl rfl) rfl (by decide) fun a10 F10 => ?_
    refine sqSkip F10 (unwantedG F10 rfl rfl rfl rfl rfl) rfl (by decide) fun a11 F11 => ?_
    refine sqSkip F11 (unwantedG F11 rfl rfl rfl rfl rfl) rfl (by decide) fun a12 F12 => ?_
    refine sr (v := (.bool true)) F12 (run_pick rfl (F12.ev 27 rfl) rfl (F12.ev 30 rfl)) rfl rfl rfl fun a13 F13 => ?_
    refine mvS F13 rfl rfl rfl rfl rfl fun a14 F14 => ?_
    refine sqSkip F14 (unwantedG F14 rfl rfl rfl rfl rfl) rfl (by decide) fun a15 F15 => ?_
    refine sqSkip F15 (unwantedG F15 rfl rfl rfl rfl rfl) rfl (by decide) fun a16 F16 => ?_
    refine sqSkip F16 (unwantedG F16 rfl rfl rfl rfl rfl) rfl (by decide) fun a17 F17 => ?_
    refine sr (v := (.bool true)) F17 (run_pick rfl (F17.ev 32 rfl) rfl (F17.ev 35 rfl)) rfl rfl rfl fun a18 F18 => ?_
    refine sn ?_
    clear F5 F6 F7 F8 F9 F10 F11 F12 F13 F14 F15 F16 F17
    refine wp_cond_true (F18.ev 36 rfl) ?_
    refine wsl ?_
    refine sr (v := (.bool true)) F18 (run_as rfl rfl) rfl rfl rfl fun a19 F19 => ?_
    refine sn ?_
    clear F18
    refine wp_ret ?_
    refine nxRet ?_
    exact ret1 F19 rfl rfl ⟨rfl, M3.below⟩
  by_cases hl6 : 6 < l.length
  · skip
    refine walk_enter Tryd.func6 rfl rfl rfl fun a0 F0 => ?_
    have M0 := Mem.new w
    refine wsl ?_
    refine sqNew (cs := (cells8 nz)) (t := 46) F0 M0 (wantedS rfl) (run_box rfl (F0.ev 1 rfl)) rfl (by decide) fun g0 a1 w1 hgg0 hb1 F1 M1 => ?_
    refine sqNew (cs := (cells8 [p0, p1, p2])) (t := 47) F1 M1 (wantedS rfl) (run_box rfl (F1.ev 2 rfl)) rfl (by decide) fun g1 a2 w2 hgg1 hb2 F2 M2 => ?_
    refine sr (v := (.bool false)) F2 (run_as rfl rfl) rfl rfl rfl fun a3 F3 => ?_
    refine sn ?_
    clear F0 F1 F2 M0 M1
    refine wp_seq ?_
    refine wsl ?_
    refine sqC (v := (.bool true)) F3 M2 (wantedS rfl) (run_call rfl Tryd.func12 (by kernel_rfl) rfl (mapE0 )) rfl (by decide) (alive38_any w2 (HG.below M2.below)) fun a4 w3 hb3 F4 M3 => ?_
    refine sr (v := (.bool false)) F4 (run_not rfl (F4.ev 22 rfl)) rfl rfl rfl fun a5 F5 => ?_
    refine sn ?_
    clear F3 F4 M2
    refine cfs (F5.ev 23 rfl) ?_
    refine wp_seq ?_
    refine wsl ?_
    refine mvS F5 rfl rfl rfl rfl rfl fun a6 F6 => ?_
    refine sr F6 (run_lenS rfl (F6.ev 24 rfl) (hV.below M3.below) rfl Tryd.underlying28) rfl rfl rfl fun a7 F7 => ?_
    refine sr (v := (.bool false)) F7 (run_eqi rfl (F7.ev 25 rfl) rfl (beq_eq_false_iff_ne.2 (by omega))) rfl rfl rfl fun a8 F8 => ?_
    refine mvS F8 rfl rfl rfl rfl rfl fun a9 F9 => ?_
    refine sq (v := v) F9 (wantedG F9 rfl rfl rfl rfl rfl) (run_mv rfl (F9.ev 0 rfl)) rfl (by decide) fun a10 F10 => ?_
    refine sq (v := (.int .i64 (l.length : Int))) F10 (wantedG F10 rfl rfl rfl rfl rfl) (run_lenS rfl (F10.ev 28 rfl) (hV.below M3.below) rfl Tryd.underlying28) rfl (by decide) fun a11 F11 => ?_
    refine sq (v := (.bool true)) F11 (wantedG F11 rfl rfl rfl rfl rfl) (run_gtr rfl (F11.ev 29 rfl) rfl (decide_eq_true (by omega))) rfl (by decide) fun a12 F12 => ?_
    refine sr (v := (.bool true)) F12 (run_pick rfl (F12.ev 27 rfl) rfl (F12.ev 30 rfl)) rfl rfl rfl fun a13 F13 => ?_
    refine mvS F13 rfl rfl rfl rfl rfl fun a14 F14 => ?_
    refine sqSkip F14 (unwantedG F14 rfl rfl rfl rfl rfl) rfl (by decide) fun a15 F15 => ?_
    refine sqSkip F15 (unwantedG F15 rfl rfl rfl rfl rfl) rfl (by decide) fun a16 F16 => ?_
    refine sqSkip F16 (unwantedG F16 rfl rfl rfl rfl rfl) rfl (by decide) fun a17 F17 => ?_
    refine sr (v := (.bool true)) F17 (run_pick rfl (F17.ev 32 rfl) rfl (F17.ev 35 rfl)) rfl rfl rfl fun a18 F18 => ?_
    refine sn ?_
    clear F5 F6 F7 F8 F9 F10 F11 F12 F13 F14 F15 F16 F17
    refine wp_cond_true (F18.ev 36 rfl) ?_
    refine wsl ?_
    refine sr (v := (.bool true)) F18 (run_as rfl rfl) rfl rfl rfl fun a19 F19 => ?_
    refine sn ?_
    clear F18
    refine wp_ret ?_
    refine nxRet ?_
    exact ret1 F19 rfl rfl ⟨rfl, M3.below⟩
  · skip
    refine walk_enter Tryd.func6 rfl rfl rfl fun a0 F0 => ?_
    have M0 := Mem.new w
    refine wsl ?_
    refine sqNew (cs := (cells8 nz)) (t := 46) F0 M0 (wantedS rfl) (run_box rfl (F0.ev 1 rfl)) rfl (by decide) fun g0 a1 w1 hgg0 hb1 F1 M1 => ?_
    refine sqNew (cs := (cells8 [p0, p1, p2])) (t := 47) F1 M1 (wantedS rfl) (run_box rfl (F1.ev 2 rfl)) rfl (by decide) fun g1 a2 w2 hgg1 hb2 F2 M2 => ?_
    refine sr (v := (.bool false)) F2 (run_as rfl rfl) rfl rfl rfl fun a3 F3 => ?_
    refine sn ?_
    clear F0 F1 F2 M0 M1
    refine wp_seq ?_
    refine wsl ?_
    refine sqC (v := (.bool true)) F3 M2 (wantedS rfl) (run_call rfl Tryd.func12 (by kernel_rfl) rfl (mapE0 )) rfl (by decide) (alive38_any w2 (HG.below M2.below)) fun a4 w3 hb3 F4 M3 => ?_
    refine sr (v := (.bool false)) F4 (run_not rfl (F4.ev 22 rfl)) rfl rfl rfl fun a5 F5 => ?_
    refine sn ?_
    clear F3 F4 M2
    refine cfs (F5.ev 23 rfl) ?_
    refine wp_seq ?_
    refine wsl ?_
    refine mvS F5 rfl rfl rfl rfl rfl fun a6 F6 => ?_
    refine sr F6 (run_lenS rfl (F6.ev 24 rfl) (hV.below M3.below) rfl Tryd.underlying28) rfl rfl rfl fun a7 F7 => ?_
    refine sr (v := (.bool false)) F7 (run_eqi rfl (F7.ev 25 rfl) rfl (beq_eq_false_iff_ne.2 (by omega))) rfl rfl rfl fun a8 F8 => ?_
    refine mvS F8 rfl rfl rfl rfl rfl fun a9 F9 => ?_
    refine sq (v := v) F9 (wantedG F9 rfl rfl rfl rfl rfl) (run_mv rfl (F9.ev 0 rfl)) rfl (by decide) fun a10 F10 => ?_
    refine sq (v := (.int .i64 (l.length : Int))) F10 (wantedG F10 rfl rfl rfl rfl rfl) (run_lenS rfl (F10.ev 28 rfl) (hV.below M3.below) rfl Tryd.underlying28) rfl (by decide) fun a11 F11 => ?_
    refine sq (v := (.bool false)) F11 (wantedG F11 rfl rfl rfl rfl rfl) (run_gtr rfl (F11.ev 29 rfl) rfl (decide_eq_false (by omega))) rfl (by decide) fun a12 F12 => ?_
    refine sr (v := (.bool false)) F12 (run_pick rfl (F12.ev 27 rfl) rfl (F12.ev 30 rfl)) rfl rfl rfl fun a13 F13 => ?_
    refine mvS F13 rfl rfl rfl rfl rfl fun a14 F14 => ?_
    refine sq (v := v) F14 (wantedG F14 rfl rfl rfl rfl rfl) (run_mv rfl (F14.ev 0 rfl)) rfl (by decide) fun a15 F15 => ?_
    refine sqT (T := fun u wx => (∃ b : Bool, u = .bool b ∧ (b = true → ∀ (p q : Nat) (x y : List UInt8), l[p]? = some x → l[q]? = some y → q < p → x ≠ y ∧ keyedS x checkT ≠ keyedS y checkT)) ∧ Below w3.heap.size w3 wx) F15 (wantedG F15 rfl rfl rfl rfl rfl) (run_call rfl Tryd.func25 (by kernel_rfl) rfl (mapE1 (F15.ev 33 rfl))) rfl (by decide) ((apart38_any l v w3 (hV.below M3.below) h32 (by omega)).mono fun e w2 ⟨⟨b, h1, h2⟩, h3⟩ => ⟨_, h1, ⟨b, rfl, h2⟩, h3⟩) fun u2 a16 w4 hT4 F16 => ?_
    obtain ⟨⟨bap, rfl, hbap⟩, hb4⟩ := hT4
    have M4 := M3.grow hb4
    rcases bap with _ | _
    · skip
      refine sq (v := (.bool true)) F16 (wantedG F16 rfl rfl rfl rfl rfl) (run_not rfl (F16.ev 34 rfl)) rfl (by decide) fun a17 F17 => ?_
      refine sr (v := (.bool true)) F17 (run_pick rfl (F17.ev 32 rfl) rfl (F17.ev 35 rfl)) rfl rfl rfl fun a18 F18 => ?_
      refine sn ?_
      refine wp_cond_true (F18.ev 36 rfl) ?_
      refine wsl ?_
      refine sr (v := (.bool true)) F18 (run_as rfl rfl) rfl rfl rfl fun a19 F19 => ?_
      refine sn ?_
      clear F18
      refine wp_ret ?_
      refine nxRet ?_
      exact ret1 F19 rfl rfl ⟨rfl, M4.below⟩
    · skip
      have hap := hbap rfl
      have hn := nodup_of_ap hap
      have hb8 := b.toNat_lt
      have hp0 := p0.toNat_lt
      have hp1 := p1.toNat_lt
      have hp2 := p2.toNat_lt
      have hl0' : 0 < l.length := by omega
      have hne : l ≠ [] := List.length_pos_iff.1 hl0'
      obtain ⟨q, hq⟩ : ∃ q, b.toNat % l.length = q := ⟨_, rfl⟩
      have hql : q < l.length := by rw [← hq]; exact Nat.mod_lt _ hl0'
      obtain ⟨k, hk⟩ : ∃ k, l[q]? = some k := ⟨l[q], List.getElem?_eq_getElem hql⟩
      obtain ⟨kl, hkl⟩ : ∃ k, l[l.length - 1]? = some k := ⟨l[l.length - 1], List.getElem?_eq_getElem (by omega)⟩
      have hck : checkS (ringS l) l = 0 := check_ring hne
      obtain ⟨qa, hqa, hqa5⟩ : ∃ q, p0.toNat % 5 = q ∧ q < 5 := ⟨_, rfl, Nat.mod_lt _ (by decide)⟩
      obtain ⟨qb, hqb, hqb5⟩ : ∃ q, p1.toNat % 5 = q ∧ q < 5 := ⟨_, rfl, Nat.mod_lt _ (by decide)⟩
      obtain ⟨qc, hqc, hqc5⟩ : ∃ q, p2.toNat % 5 = q ∧ q < 5 := ⟨_, rfl, Nat.mod_lt _ (by decide)⟩
      refine sq (v := (.bool false)) F16 (wantedG F16 rfl rfl rfl rfl rfl) (run_not rfl (F16.ev 34 rfl)) rfl (by decide) fun a17 F17 => ?_
      refine sr (v := (.bool false)) F17 (run_pick rfl (F17.ev 32 rfl) rfl (F17.ev 35 rfl)) rfl rfl rfl fun a18 F18 => ?_
      refine sn ?_
      refine cfs (F18.ev 36 rfl) ?_
      refine wsl ?_
      refine mvS F18 rfl rfl rfl rfl rfl fun a19 F19 => ?_
      refine sr (v := (.slice (some ⟨g0, 0, none⟩) 64 64)) F19 (run_slA rfl (F19.ev 5 rfl) (run_sliceArr_all (P := Tryd.prog) Tryd.underlying46 so8 g0 0 (by decide) _)) rfl rfl rfl fun a20 F20 => ?_
      refine sr (v := (.string ⟨nz.toArray⟩)) F20 (run_cv rfl (F20.ev 39 rfl) (run_strBlk (l := nz) hLnz (M4.at 1 rfl))) rfl rfl rfl fun a21 F21 => ?_
      refine sqT (T := fun u wx => Kp.sat w4.heap.size (.tup4 (.st (.row 76 33 ((ringS l).length) ((ringS l).flatMap epF))) (.st (.row 23 32 l.length (l.flatMap dgC))) (.rows2 31 54 33 (l.map fun k => (5, (shS k nz).flatMap shareC))) (.val (.bool true))) u wx ∧ Below w4.heap.size w4 wx) F21 (wantedS rfl) (run_call rfl Tryd.func26 (by kernel_rfl) rfl (mapE2 (F21.ev 38 rfl) (F21.ev 40 rfl))) rfl (by decide) (made_any l v nz w4 (HG.below M4.below) (hV.below M4.below) h32 hn (by omega) (by omega) hLnz) fun u3 a22 w5 hT5 F22 => ?_
      obtain ⟨⟨_, _, vz4c, _, rfl, ⟨vz4a, rfl, hz4a⟩, ⟨vz4b, rfl, hz4b⟩, ⟨US4c, hz4c, hzl4c, hze4c⟩, rfl⟩, hb5⟩ := hT5
      have hO1 := OwnR.ofCall M4 (show World.ownsRow w5 _ 76 33 vz4a ((ringS l).length) ((ringS l).flatMap epF) from hz4a)
      have hO2 := OwnR.ofCall M4 (show World.ownsRow w5 _ 23 32 vz4b l.length (l.flatMap dgC) from hz4b)
      have hO3 := OwnR.ofCall M4 (show World.ownsRow w5 _ 31 1 vz4c US4c.length US4c from hz4c)
      obtain ⟨ul, hUul, hzul⟩ := hze4c (l.length - 1) 5 ((shS kl nz).flatMap shareC) (by rw [List.getElem?_map, hkl]; rfl)
      have hO4 := OwnR.ofCall M4 hzul
      obtain ⟨uz, hUuz, hzuz⟩ := hze4c q 5 ((shS k nz).flatMap shareC) (by rw [List.getElem?_map, hk]; rfl)
      have hO5 := OwnR.ofCall M4 hzuz
      have hUl4c : US4c.length = l.length := by rw [hzl4c, List.length_map]
      have M5 := M4.grow hb5
      refine mvS F22 rfl rfl rfl rfl rfl fun a23 F23 => ?_
      refine sr (v := (.agg #[vz4a])) F23 (run_ext rfl (F23.ev 37 rfl) rfl) rfl rfl rfl fun a24 F24 => ?_
      refine sr (v := (.agg #[vz4b])) F24 (run_ext rfl (F24.ev 37 rfl) rfl) rfl rfl rfl fun a25 F25 => ?_
      refine sr (v := vz4c) F25 (run_ext rfl (F25.ev 37 rfl) rfl) rfl rfl rfl fun a26 F26 => ?_
      refine sr (v := (.bool true)) F26 (run_ext rfl (F26.ev 37 rfl) rfl) rfl rfl rfl fun a27 F27 => ?_
      refine sqNew (cs := #[.slice none 0 0]) (t := 27) F27 M5 (wantedS rfl) (run_alloc rfl (by kernel_rfl)) rfl (by decide) fun g5 a28 w6 hgg5 hb6 F28 M6 => ?_
      have hO6 := hO1.add (S := isB 27 (#[.slice none 0 0])) hb6 hgg5
      have hO7 := hO2.add (S := isB 27 (#[.slice none 0 0])) hb6 hgg5
      have hO8 := hO3.add (S := isB 27 (#[.slice none 0 0])) hb6 hgg5
      have hO9 := hO4.add (S := isB 27 (#[.slice none 0 0])) hb6 hgg5
      have hO10 := hO5.add (S := isB 27 (#[.slice none 0 0])) hb6 hgg5
      refine sqNew (cs := #[.slice none 0 0]) (t := 30) F28 M6 (wantedS rfl) (run_alloc rfl (by kernel_rfl)) rfl (by decide) fun g6 a29 w7 hgg6 hb7 F29 M7 => ?_
      have hO11 := hO6.add (S := isB 30 (#[.slice none 0 0])) hb7 hgg6
      have hO12 := hO7.add (S := isB 30 (#[.slice none 0 0])) hb7 hgg6
      have hO13 := hO8.add (S := isB 30 (#[.slice none 0 0])) hb7 hgg6
      have hO14 := hO9.add (S := isB 30 (#[.slice none 0 0])) hb7 hgg6
      have hO15 := hO10.add (S := isB 30 (#[.slice none 0 0])) hb7 hgg6
      refine sqStoreG (i := 1) F29 M7 rfl rfl rfl (F29.ev 9 rfl) (F29.ev 42 rfl) rfl szRg rfl rfl (one_own hO11.owns) fun a30 w8 hgr8 F30 M8 => ?_
      have hO16 := hO11.upd 1 (S2 := isB 27 #[vz4a]) rfl hgr8
      have hO17 := hO12.upd 1 (S2 := isB 27 #[vz4a]) rfl hgr8
      have hO18 := hO13.upd 1 (S2 := isB 27 #[vz4a]) rfl hgr8
      have hO19 := hO14.upd 1 (S2 := isB 27 #[vz4a]) rfl hgr8
      have hO20 := hO15.upd 1 (S2 := isB 27 #[vz4a]) rfl hgr8
      refine sqStoreG (i := 0) F30 M8 rfl rfl rfl (F30.ev 10 rfl) (F30.ev 43 rfl) rfl szKy rfl rfl (one_own hO17.owns) fun a31 w9 hgr9 F31 M9 => ?_
      have hO21 := hO16.upd 0 (S2 := isB 30 #[vz4b]) rfl hgr9
      have hO22 := hO17.upd 0 (S2 := isB 30 #[vz4b]) rfl hgr9
      have hO23 := hO18.upd 0 (S2 := isB 30 #[vz4b]) rfl hgr9
      have hO24 := hO19.upd 0 (S2 := isB 30 #[vz4b]) rfl hgr9
      have hO25 := hO20.upd 0 (S2 := isB 30 #[vz4b]) rfl hgr9
      refine asS F31 rfl rfl rfl rfl rfl fun a32 F32 => ?_
      refine asS F32 rfl rfl rfl rfl rfl fun a33 F33 => ?_
      refine sn ?_
      clear F18 F19 F20 F21 F22 F23 F24 F25 F26 F27 F28 F29 F30 F31 F32 M4 M5 M6 M7 M8
      refine wp_seq ?_
      refine wsl ?_
      refine mvS F33 rfl rfl rfl rfl rfl fun a34 F34 => ?_
      refine sr (v := (.bool false)) F34 (run_not rfl (F34.ev 46 rfl)) rfl rfl rfl fun a35 F35 => ?_
      refine mvS F35 rfl rfl rfl rfl rfl fun a36 F36 => ?_
      refine sq (v := (.agg #[vz4a])) F36 (wantedG F36 rfl rfl rfl rfl rfl) (run_ldB rfl (F36.ev 9 rfl) (M9.at 1 rfl) Tryd.underlying27 rfl szRg rfl) rfl (by decide) fun a37 F37 => ?_
      refine sq (v := (.agg #[vz4b])) F37 (wantedG F37 rfl rfl rfl rfl rfl) (run_ldB rfl (F37.ev 10 rfl) (M9.at 0 rfl) Tryd.underlying30 rfl szKy rfl) rfl (by decide) fun a38 F38 => ?_
      refine sqC (v := (.int .i64 0)) F38 M9 (wantedG F38 rfl rfl rfl rfl rfl) (run_call rfl Tryd.func21 (by kernel_rfl) rfl (mapE2 (F38.ev 49 rfl) (F38.ev 50 rfl))) rfl (by decide) ((by have h := kchk_any (ringS l) l vz4a vz4b w9 (HG.below M9.below) (Sl.own hO21) (ringS_c32 l) (Sl.own hO22) h32 (by rw [ringS_len]; omega) (by omega); rw [hck] at h; exact h)) fun a39 w10 hb10 F39 M10 => ?_
      have hO26 := hO21.grow hb10
      have hO27 := hO22.grow hb10
      have hO28 := hO23.grow hb10
      have hO29 := hO24.grow hb10
      have hO30 := hO25.grow hb10
      refine sq (v := (.bool false)) F39 (wantedG F39 rfl rfl rfl rfl rfl) (run_nei rfl (F39.ev 51 rfl) rfl (bne_self_eq_false _)) rfl (by decide) fun a40 F40 => ?_
      refine sr (v := (.bool false)) F40 (run_pick rfl (F40.ev 48 rfl) rfl (F40.ev 52 rfl)) rfl rfl rfl fun a41 F41 => ?_
      refine sn ?_
      clear F33 F34 F35 F36 F37 F38 F39 F40 M9
      refine cfs (F41.ev 53 rfl) ?_
      refine wp_seq ?_
      have hUq : q < US4c.length := by rw [hUl4c]; exact hql
      have hUL : l.length - 1 < US4c.length := by rw [hUl4c]; omega
      have hULe := hUl4c
      refine wp_region_lit ?_
      refine mvS F41 rfl rfl rfl rfl rfl fun a42 F42 => ?_
      refine mvS F42 rfl rfl rfl rfl rfl fun a43 F43 => ?_
      refine sr F43 (run_lenS rfl (F43.ev 55 rfl) (Sl.own hO28) rfl Tryd.underlying49) rfl rfl rfl fun a44 F44 => ?_
      refine sr F44 (run_sub (r := ((l.length - 1 : Nat) : Int)) rfl (F44.ev 56 rfl) rfl (by rw [IntKind.wrap_i64]; omega)) rfl rfl rfl fun a45 F45 => ?_
      refine sr (v := (slPtr vz4c ((l.length - 1) * 1))) F45 (run_atP (i := (l.length - 1)) rfl (F45.ev 54 rfl) (F45.ev 57 rfl) rfl (Sl.own hO28) (by omega) elSl.un (by kernel_rfl)) rfl rfl rfl fun a46 F46 => ?_
      refine sr (v := ul) F46 (run_ldP rfl (F46.ev 58 rfl) (Sl.own hO28) (by rw [Nat.mul_one]; exact hUul) (by kernel_rfl)) rfl rfl rfl fun a47 F47 => ?_
      refine asS F47 rfl rfl rfl rfl rfl fun a48 F48 => ?_
      refine sn ?_
      clear F41 F42 F43 F44 F45 F46 F47
      refine wp_seq ?_
      obtain ⟨KL, hKL⟩ : ∃ KL, KL = [kval (.pointer (some ⟨g1, 0, none⟩)), kval (.int .u8 (p0.toNat : Int)), kval (.int .i64 (p0.toNat : Int)), kval (.int .i64 (qa : Int)), kval (.pointer (some ⟨g1, 1, none⟩)), kval (.int .u8 (p1.toNat : Int)), kval (.int .i64 (p1.toNat : Int)), kval (.int .i64 (qb : Int)), kval (.pointer (some ⟨g1, 2, none⟩)), kval (.int .u8 (p2.toNat : Int)), kval (.int .i64 (p2.toNat : Int)), kval (.int .i64 (qc : Int)), kval (.int .i64 (qa : Int)), kval (.int .i64 (qb : Int)), kval (.int .i64 (qc : Int))] := ⟨_, rfl⟩
      have K0 := getK hKL 0
      have K1 := getK hKL 1
      have K2 := getK hKL 2
      have K3 := getK hKL 3
      have K4 := getK hKL 4
      have K5 := getK hKL 5
      have K6 := getK hKL 6
      have K7 := getK hKL 7
      have K8 := getK hKL 8
      have K9 := getK hKL 9
      have K10 := getK hKL 10
      have K11 := getK hKL 11
      have K12 := getK hKL 12
      have K13 := getK hKL 13
      have K14 := getK hKL 14
      clear hKL
      refine wp_region_kd 161 (by kernel_rfl) (by kernel_rfl) (by kernel_rfl) F48.size KL ?_ ?_
      · refine ⟨?_, ?_, ?_, ?_, ?_, ?_, ?_, ?_, ?_, ?_, ?_, ?_, ?_, ?_, ?_, trivial⟩
        · exact asksY rfl fun a W hS hh hd => giv_run (run_idxA (i := 0) (cnt := 3) rfl (eval_tmp (hh 6 _ rfl (F48.at 6 rfl))) rfl rfl (by omega) Tryd.underlying47 (by kernel_rfl)) K0
        · exact asksY rfl fun a W hS hh hd => giv_run (run_ldF rfl (eval_tmp (hd.vl 0 60 (by kernel_rfl) K0)) ((M10.grow hS).at 2 rfl) rfl (by kernel_rfl)) K1
        · exact asksY rfl fun a W hS hh hd => giv_run (run_cvI (r := (p0.toNat : Int)) rfl (eval_tmp (hd.vl 1 61 (by kernel_rfl) K1)) Tryd.underlying5 Tryd.underlying3 (by rw [IntKind.wrap_i64]; omega)) K2
        · exact asksY rfl fun a W hS hh hd => giv_run (run_rem (r := (qa : Int)) rfl (eval_tmp (hd.vl 2 62 (by kernel_rfl) K2)) rfl (by omega) (by rw [Int.tmod_eq_emod_of_nonneg (by omega)]; omega)) K3
        · exact asksY rfl fun a W hS hh hd => giv_run (run_idxA (i := 1) (cnt := 3) rfl (eval_tmp (hh 6 _ rfl (F48.at 6 rfl))) rfl rfl (by omega) Tryd.underlying47 (by kernel_rfl)) K4
        · exact asksY rfl fun a W hS hh hd => giv_run (run_ldF rfl (eval_tmp (hd.vl 4 64 (by kernel_rfl) K4)) ((M10.grow hS).at 2 rfl) rfl (by kernel_rfl)) K5
        · exact asksY rfl fun a W hS hh hd => giv_run (run_cvI (r := (p1.toNat : Int)) rfl (eval_tmp (hd.vl 5 65 (by kernel_rfl) K5)) Tryd.underlying5 Tryd.underlying3 (by rw [IntKind.wrap_i64]; omega)) K6
        · exact asksY rfl fun a W hS hh hd => giv_run (run_rem (r := (qb : Int)) rfl (eval_tmp (hd.vl 6 66 (by kernel_rfl) K6)) rfl (by omega) (by rw [Int.tmod_eq_emod_of_nonneg (by omega)]; omega)) K7
        · exact asksY rfl fun a W hS hh hd => giv_run (run_idxA (i := 2) (cnt := 3) rfl (eval_tmp (hh 6 _ rfl (F48.at 6 rfl))) rfl rfl (by omega) Tryd.underlying47 (by kernel_rfl)) K8
        · exact asksY rfl fun a W hS hh hd => giv_run (run_ldF rfl (eval_tmp (hd.vl 8 68 (by kernel_rfl) K8)) ((M10.grow hS).at 2 rfl) rfl (by kernel_rfl)) K9
        · exact asksY rfl fun a W hS hh hd => giv_run (run_cvI (r := (p2.toNat : Int)) rfl (eval_tmp (hd.vl 9 69 (by kernel_rfl) K9)) Tryd.underlying5 Tryd.underlying3 (by rw [IntKind.wrap_i64]; omega)) K10
        · exact asksY rfl fun a W hS hh hd => giv_run (run_rem (r := (qc : Int)) rfl (eval_tmp (hd.vl 10 70 (by kernel_rfl) K10)) rfl (by omega) (by rw [Int.tmod_eq_emod_of_nonneg (by omega)]; omega)) K11
        · exact asksY rfl fun a W hS hh hd => giv_run (run_as rfl (eval_tmp (hd.vl 3 63 (by kernel_rfl) K3))) K12
        · exact asksY rfl fun a W hS hh hd => giv_run (run_as rfl (eval_tmp (hd.vl 7 67 (by kernel_rfl) K7))) K13
        · exact asksY rfl fun a W hS hh hd => giv_run (run_as rfl (eval_tmp (hd.vl 11 71 (by kernel_rfl) K11))) K14
      · intro a49 w11 hb11 hK
        have e0 := hK.vl 0 60 (by kernel_rfl) K0
        have e1 := hK.vl 1 61 (by kernel_rfl) K1
        have e2 := hK.vl 2 62 (by kernel_rfl) K2
        have e3 := hK.vl 3 63 (by kernel_rfl) K3
        have e4 := hK.vl 4 64 (by kernel_rfl) K4
        have e5 := hK.vl 5 65 (by kernel_rfl) K5
        have e6 := hK.vl 6 66 (by kernel_rfl) K6
        have e7 := hK.vl 7 67 (by kernel_rfl) K7
        have e8 := hK.vl 8 68 (by kernel_rfl) K8
        have e9 := hK.vl 9 69 (by kernel_rfl) K9
        have e10 := hK.vl 10 70 (by kernel_rfl) K10
        have e11 := hK.vl 11 71 (by kernel_rfl) K11
        have e12 := hK.vl 12 14 (by kernel_rfl) K12
        have e13 := hK.vl 13 15 (by kernel_rfl) K13
        have e14 := hK.vl 14 16 (by kernel_rfl) K14
        have F49 : Fr a49 161 [(0, v), (1, (.agg (cells8 nz))), (2, (.agg (cells8 [p0, p1, p2]))), (3, (.int .u8 (b.toNat : Int))), (5, (.pointer (some ⟨g0, 0, none⟩))), (8, (.bool false)), (9, (.pointer (some ⟨g5, 0, none⟩))), (10, (.pointer (some ⟨g6, 0, none⟩))), (11, vz4c), (12, (.bool true)), (13, ul), (14, (.int .i64 (qa : Int))), (15, (.int .i64 (qb : Int))), (16, (.int .i64 (qc : Int))), (22, (.bool true)), (23, (.bool false)), (24, v), (25, (.int .i64 (l.length : Int))), (26, (.bool false)), (27, (.bool false)), (28, v), (29, (.int .i64 (l.length : Int))), (30, (.bool false)), (31, (.bool false)), (32, (.bool false)), (33, v), (34, (.bool true)), (35, (.bool false)), (36, (.bool false)), (37, (.tuple #[(.agg #[vz4a]), (.agg #[vz4b]), vz4c, (.bool true)])), (38, v), (39, (.slice (some ⟨g0, 0, none⟩) 64 64)), (40, (.string ⟨nz.toArray⟩)), (41, (.tuple #[(.agg #[vz4a]), (.agg #[vz4b]), vz4c, (.bool true)])), (42, (.agg #[vz4a])), (43, (.agg #[vz4b])), (44, vz4c), (45, (.bool true)), (46, (.bool true)), (47, (.bool false)), (48, (.bool false)), (49, (.agg #[vz4a])), (50, (.agg #[vz4b])), (51, (.int .i64 0)), (52, (.bool false)), (53, (.bool false)), (54, vz4c), (55, vz4c), (56, (.int .i64 (US4c.length : Int))), (57, (.int .i64 ((l.length - 1 : Nat) : Int))), (58, (slPtr vz4c ((l.length - 1) * 1))), (59, ul)] := (hK.fr F48 [_, _, _, _, _, _, _, _, _, _, _, _, _, _, _] ⟨e0, e1, e2, e3, e4, e5, e6, e7, e8, e9, e10, e11, e12, e13, e14, trivial⟩).sub ⟨rfl, rfl, rfl, rfl, rfl, rfl, rfl, rfl, rfl, rfl, rfl, rfl, rfl, rfl, rfl, rfl, rfl, rfl, rfl, rfl, rfl, rfl, rfl, rfl, rfl, rfl, rfl, rfl, rfl, rfl, rfl, rfl, rfl, rfl, rfl, rfl, rfl, rfl, rfl, rfl, rfl, rfl, rfl, rfl, rfl, rfl, rfl, rfl, rfl, rfl, rfl, rfl, trivial⟩
        have M11 := M10.grow hb11
        have hO31 := hO26.grow hb11
        have hO32 := hO27.grow hb11
        have hO33 := hO28.grow hb11
        have hO34 := hO29.grow hb11
        have hO35 := hO30.grow hb11
        clear hK K0 e0 K1 e1 K2 e2 K3 e3 K4 e4 K5 e5 K6 e6 K7 e7 K8 e8 K9 e9 K10 e10 K11 e11 K12 e12 K13 e13 K14 e14
        clear F48 M10
        refine nx ?_
        refine wp_seq ?_
        have hs5 := shS_len kl nz
        have hs6 := shS_len k nz
        have h4 : qa = qb ∨ (qa ≠ qb ∧ qa = qc) ∨ (qa ≠ qb ∧ qa ≠ qc ∧ qb = qc) ∨ (qa ≠ qb ∧ qa ≠ qc ∧ qb ≠ qc ∧ q = l.length - 1) ∨ (qa ≠ qb ∧ qa ≠ qc ∧ qb ≠ qc ∧ q ≠ l.length - 1) := by omega
        rcases h4 with hab | ⟨hab, hac⟩ | ⟨hab, hac, hbc⟩ | ⟨hab, hac, hbc, hqe⟩ | ⟨hab, hac, hbc, hqe⟩
        · skip
          refine wp_region_p 161 [.val (.agg #[vz4a]), .val ul, .val (.int .i64 (qa : Int)), .val (slPtr ul (qa * 33)), .val (.agg (shareC (shOf kl nz qa)).toArray), .val ul, .val (.int .i64 (qb : Int)), .val (slPtr ul (qb * 33)), .val (.agg (shareC (shOf kl nz qb)).toArray), .val ul, .val (.int .i64 (qc : Int)), .val (slPtr ul (qc * 33)), .val (.agg (shareC (shOf kl nz qc)).toArray), .row 54 33 3 ([shOf kl nz qa, shOf kl nz qb, shOf kl nz qc].flatMap shareC), .tup2 (.st (.row 23 32 (([] : List (List UInt8)).length) (([] : List (List UInt8)).flatMap dgC))) (.val (.int .i64 1)), .tup2 (.st (.row 23 32 (([] : List (List UInt8)).length) (([] : List (List UInt8)).flatMap dgC))) (.val (.int .i64 1)), .st (.row 23 32 (([] : List (List UInt8)).length) (([] : List (List UInt8)).flatMap dgC)), .val (.int .i64 1), .any, .any, .val (.int .i64 1)] [] [⟨18, 17, 19, 30, #[.slice none 0 0], .st (.row 23 32 (([] : List (List UInt8)).length) (([] : List (List UInt8)).flatMap dgC))⟩] [] [] (by kernel_rfl) (by kernel_rfl) F49.size ?_ ?_ ?_ ?_ (by kernel_rfl) ?_ fun a50 w12 gs hI => ?_
          · intro d hd
            simp only [List.mem_cons, List.not_mem_nil, or_false] at hd
            rcases hd with rfl <;> exact ⟨Nat.le_of_ble_eq_true (by kernel_rfl), _, rfl, rfl⟩
          · intro b hb
            cases hb
          · intro x y b c hx hy hne
            simp at hx
          · intro r hr
            cases hr
          · refine ⟨?_, ?_, ?_, ?_, ?_, ?_, ?_, ?_, ?_, ?_, ?_, ?_, ?_, ?_, ?_, ?_, ?_, ?_, ?_, ?_, ?_, trivial⟩
            · refine .val 73 rfl (by simp) (by simp) (by simp) fun a W hK hh hd => ⟨wanted_yes rfl, ?_⟩
              exact givz_run (run_ldB rfl (eval_tmp (hh 9 _ rfl (F49.at 9 rfl))) ((M11.grow hK.below).at 1 rfl) Tryd.underlying27 rfl szRg rfl) rfl
            · refine .val 74 rfl (by simp) (by simp) (by simp) fun a W hK hh hd => ⟨wanted_yes rfl, ?_⟩
              exact givz_run (run_mv rfl (eval_tmp (hh 13 _ rfl (F49.at 13 rfl)))) rfl
            · refine .val 75 rfl (by simp) (by simp) (by simp) fun a W hK hh hd => ⟨wanted_yes rfl, ?_⟩
              exact givz_run (run_mv rfl (eval_tmp (hh 14 _ rfl (F49.at 14 rfl)))) rfl
            · refine .val 76 rfl (by simp) (by simp) (by simp) fun a W hK hh hd => ⟨wanted_yes rfl, ?_⟩
              exact givz_run (run_atP (i := qa) rfl (eval_tmp (hd.valz (j := 1) (s := 74) (by kernel_rfl) (by simp) rfl rfl)) (eval_tmp (hd.valz (j := 2) (s := 75) (by kernel_rfl) (by simp) rfl rfl)) rfl (Sl.own (hO34.grow hK.below)) (by omega) eltSh.un (by kernel_rfl)) rfl
            · refine .val 77 rfl (by simp) (by simp) (by simp) fun a W hK hh hd => ⟨wanted_yes rfl, ?_⟩
              exact givz_run (run_ldPS (ys := shareC (shOf kl nz qa)) rfl (eval_tmp (hd.valz (j := 3) (s := 76) (by kernel_rfl) (by simp) rfl rfl)) (Sl.own (hO34.grow hK.below)) (by omega) (fun j u hj => flat_at shareC_len (shS_at hqa5) j hj) (by kernel_rfl) (by kernel_rfl)) rfl
            · refine .val 78 rfl (by simp) (by simp) (by simp) fun a W hK hh hd => ⟨wanted_yes rfl, ?_⟩
              exact givz_run (run_mv rfl (eval_tmp (hh 13 _ rfl (F49.at 13 rfl)))) rfl
            · refine .val 79 rfl (by simp) (by simp) (by simp) fun a W hK hh hd => ⟨wanted_yes rfl, ?_⟩
              exact givz_run (run_mv rfl (eval_tmp (hh 15 _ rfl (F49.at 15 rfl)))) rfl
            · refine .val 80 rfl (by simp) (by simp) (by simp) fun a W hK hh hd => ⟨wanted_yes rfl, ?_⟩
              exact givz_run (run_atP (i := qb) rfl (eval_tmp (hd.valz (j := 5) (s := 78) (by kernel_rfl) (by simp) rfl rfl)) (eval_tmp (hd.valz (j := 6) (s := 79) (by kernel_rfl) (by simp) rfl rfl)) rfl (Sl.own (hO34.grow hK.below)) (by omega) eltSh.un (by kernel_rfl)) rfl
            · refine .val 81 rfl (by simp) (by simp) (by simp) fun a W hK hh hd => ⟨wanted_yes rfl, ?_⟩
              exact givz_run (run_ldPS (ys := shareC (shOf kl nz qb)) rfl (eval_tmp (hd.valz (j := 7) (s := 80) (by kernel_rfl) (by simp) rfl rfl)) (Sl.own (hO34.grow hK.below)) (by omega) (fun j u hj => flat_at shareC_len (shS_at hqb5) j hj) (by kernel_rfl) (by kernel_rfl)) rfl
            · refine .val 82 rfl (by simp) (by simp) (by simp) fun a W hK hh hd => ⟨wanted_yes rfl, ?_⟩
              exact givz_run (run_mv rfl (eval_tmp (hh 13 _ rfl (F49.at 13 rfl)))) rfl
            · refine .val 83 rfl (by simp) (by simp) (by simp) fun a W hK hh hd => ⟨wanted_yes rfl, ?_⟩
              exact givz_run (run_mv rfl (eval_tmp (hh 16 _ rfl (F49.at 16 rfl)))) rfl
            · refine .val 84 rfl (by simp) (by simp) (by simp) fun a W hK hh hd => ⟨wanted_yes rfl, ?_⟩
              exact givz_run (run_atP (i := qc) rfl (eval_tmp (hd.valz (j := 9) (s := 82) (by kernel_rfl) (by simp) rfl rfl)) (eval_tmp (hd.valz (j := 10) (s := 83) (by kernel_rfl) (by simp) rfl rfl)) rfl (Sl.own (hO34.grow hK.below)) (by omega) eltSh.un (by kernel_rfl)) rfl
            · refine .val 85 rfl (by simp) (by simp) (by simp) fun a W hK hh hd => ⟨wanted_yes rfl, ?_⟩
              exact givz_run (run_ldPS (ys := shareC (shOf kl nz qc)) rfl (eval_tmp (hd.valz (j := 11) (s := 84) (by kernel_rfl) (by simp) rfl rfl)) (Sl.own (hO34.grow hK.below)) (by omega) (fun j u hj => flat_at shareC_len (shS_at hqc5) j hj) (by kernel_rfl) (by kernel_rfl)) rfl
            · refine .val 86 rfl (by simp) (by simp) (by simp) fun a W hK hh hd => ⟨wanted_yes rfl, ?_⟩
              exact givz_newRow 54 (List.toArray ([shOf kl nz qa, shOf kl nz qb, shOf kl nz qc].flatMap shareC)) 33 3 hK.size (by rw [List.size_toArray]; exact flat_lenG shareC_len _) (by decide) (run_shs3 rfl (eval_tmp (hd.valz (j := 4) (s := 77) (by kernel_rfl) (by simp) rfl rfl)) (eval_tmp (hd.valz (j := 8) (s := 81) (by kernel_rfl) (by simp) rfl rfl)) (eval_tmp (hd.valz (j := 12) (s := 85) (by kernel_rfl) (by simp) rfl rfl)))
            · refine .val 87 rfl (by simp) (by simp) (by simp) fun a W hK hh hd => ⟨wanted_yes rfl, ?_⟩
              obtain ⟨vz_14_13, ey13, hz_14_13⟩ := hd.getz (j := 13) (s := 86) (by kernel_rfl) (by simp) rfl rfl
              exact givz_call (run_call rfl Tryd.func23 (by kernel_rfl) rfl (mapE2 (eval_tmp (hd.valz (j := 0) (s := 73) (by kernel_rfl) (by simp) rfl rfl)) (eval_tmp ey13))) hK.size ((by have h := kopen_any (ringS l) [shOf kl nz qa, shOf kl nz qb, shOf kl nz qc] vz4a vz_14_13 W (HG.below (M11.grow hK.below).below) (Sl.own (hO31.grow hK.below)) (ringS_c32 l) (ringS_wr h32) (Sl.ofOwns hz_14_13) (by rw [ringS_len]; omega) (by simp); rw [(three_twice hne (by omega))] at h; exact h))
            · refine .val 72 rfl (by simp) (by simp) (by simp) fun a W hK hh hd => ⟨wanted_yes rfl, ?_⟩
              obtain ⟨_, ey14, ⟨_, _, rfl, ⟨vz_15_14a, rfl, hz_15_14a⟩, rfl⟩⟩ := hd.getz (j := 14) (s := 87) (by kernel_rfl) (by simp) rfl rfl
              exact givz_run (run_mv rfl (eval_tmp ey14)) ⟨_, _, rfl, ⟨_, rfl, hz_15_14a⟩, rfl⟩
            · refine .val 88 rfl (by simp) (by simp) (by simp) fun a W hK hh hd => ⟨wanted_yes rfl, ?_⟩
              obtain ⟨_, ey15, ⟨_, _, rfl, ⟨vz_16_15a, rfl, hz_16_15a⟩, rfl⟩⟩ := hd.getz (j := 15) (s := 72) (by kernel_rfl) (by simp) rfl rfl
              exact givz_run (run_ext rfl (eval_tmp ey15) rfl) ⟨_, rfl, hz_16_15a⟩
            · refine .val 89 rfl (by simp) (by simp) (by simp) fun a W hK hh hd => ⟨wanted_yes rfl, ?_⟩
              obtain ⟨_, ey15, ⟨_, _, rfl, ⟨vz_17_15a, rfl, hz_17_15a⟩, rfl⟩⟩ := hd.getz (j := 15) (s := 72) (by kernel_rfl) (by simp) rfl rfl
              exact givz_run (run_ext rfl (eval_tmp ey15) rfl) rfl
            · exact .new 0 _ rfl rfl rfl (by simp) (by simp) (by simp) (fun y e hy he => by rcases y with _ | _ | y <;> simp at hy <;> (try subst hy) <;> simp at he ⊢) fun a W => ⟨wanted_yes rfl, run_alloc rfl (by kernel_rfl)⟩
            · refine .put 0 _ rfl rfl rfl (by simp) (by simp) (by simp) (fun y e hy he => by rcases y with _ | _ | y <;> simp at hy <;> (try subst hy) <;> simp at he ⊢) (by kernel_rfl) 1 30 _ _ rfl rfl (fun a W hK hh hd => ?_) rfl szKy rfl
              obtain ⟨_, ey16, ⟨vz_19_16, rfl, hz_19_16⟩⟩ := hd.getz (j := 16) (s := 88) (by kernel_rfl) (by simp) rfl rfl
              rw [show a.eval _ = _ from (eval_tmp ey16)]
              exact ⟨⟨_, rfl, hz_19_16⟩, rfl, (one_own hz_19_16)⟩
            · refine .val 18 rfl (by simp) (by simp) (by simp) fun a W hK hh hd => ⟨wanted_yes rfl, ?_⟩
              exact givz_run (run_as rfl (eval_tmp (hd.valz (j := 17) (s := 89) (by kernel_rfl) (by simp) rfl rfl))) rfl
          have e18_ : a50.tmps[18]? = some (.int .i64 1) := by
            obtain ⟨vq, hq1, hq2⟩ := hI.val 20 _ 18 rfl rfl rfl (by simp) (fun _ h => by cases h)
            rw [hq1]
            exact congrArg some hq2
          obtain ⟨pg7, qg7, _, fg7⟩ := hI.blk 0 _ rfl rfl
          generalize gs 0 = g7 at pg7 qg7 fg7
          obtain ⟨_, Bg7, ⟨vz8_, rfl, hz8_⟩⟩ := fg7 rfl
          have Bg7 : Blk w12 g7 30 (#[vz8_]) := Bg7
          have hb12 := KeepW.below hI.keep
          have M12 := M11.grow hb12
          have hO36 := hO31.grow hb12
          have hO37 := hO32.grow hb12
          have hO38 := hO33.grow hb12
          have hO39 := hO34.grow hb12
          have hO40 := hO35.grow hb12
          have hO41 := OwnR.ofCall M11 (show World.ownsRow w12 _ 23 32 vz8_ (([] : List (List UInt8)).length) (([] : List (List UInt8)).flatMap dgC) from hz8_)
          have hO42 := hO36.addFar (S := isB 30 (#[vz8_])) (own_ne_ge hO31.owns qg7)
          have hO43 := hO37.addFar (S := isB 30 (#[vz8_])) (own_ne_ge hO32.owns qg7)
          have hO44 := hO38.addFar (S := isB 30 (#[vz8_])) (own_ne_ge hO33.owns qg7)
          have hO45 := hO39.addFar (S := isB 30 (#[vz8_])) (own_ne_ge hO34.owns qg7)
          have hO46 := hO40.addFar (S := isB 30 (#[vz8_])) (own_ne_ge hO35.owns qg7)
          have hO47 := hO41.addFar (S := isB 30 (#[vz8_])) (own_ne_ty hO41.owns Bg7 (by kernel_rfl))
          have M13 := M12.put1 (cs := #[vz8_]) (Nat.le_trans M11.below.size qg7) Bg7 (mem_far_new M11 qg7)
          have F50 : Fr a50 161 [(0, v), (1, (.agg (cells8 nz))), (2, (.agg (cells8 [p0, p1, p2]))), (3, (.int .u8 (b.toNat : Int))), (5, (.pointer (some ⟨g0, 0, none⟩))), (8, (.bool false)), (9, (.pointer (some ⟨g5, 0, none⟩))), (10, (.pointer (some ⟨g6, 0, none⟩))), (11, vz4c), (12, (.bool true)), (14, (.int .i64 (qa : Int))), (15, (.int .i64 (qb : Int))), (16, (.int .i64 (qc : Int))), (17, (.pointer (some ⟨g7, 0, none⟩))), (18, (.int .i64 1)), (22, (.bool true)), (23, (.bool false)), (24, v), (25, (.int .i64 (l.length : Int))), (26, (.bool false)), (27, (.bool false)), (28, v), (29, (.int .i64 (l.length : Int))), (30, (.bool false)), (31, (.bool false)), (32, (.bool false)), (33, v), (34, (.bool true)), (35, (.bool false)), (36, (.bool false)), (37, (.tuple #[(.agg #[vz4a]), (.agg #[vz4b]), vz4c, (.bool true)])), (38, v), (39, (.slice (some ⟨g0, 0, none⟩) 64 64)), (40, (.string ⟨nz.toArray⟩)), (41, (.tuple #[(.agg #[vz4a]), (.agg #[vz4b]), vz4c, (.bool true)])), (42, (.agg #[vz4a])), (43, (.agg #[vz4b])), (44, vz4c), (45, (.bool true)), (46, (.bool true)), (47, (.bool false)), (48, (.bool false)), (49, (.agg #[vz4a])), (50, (.agg #[vz4b])), (51, (.int .i64 0)), (52, (.bool false)), (53, (.bool false)), (54, vz4c), (55, vz4c), (56, (.int .i64 (US4c.length : Int))), (57, (.int .i64 ((l.length - 1 : Nat) : Int))), (58, (slPtr vz4c ((l.length - 1) * 1))), (59, ul)] := fr_of_holds hI.tsz (hI.defers.trans F49.defers) ⟨hI.had 0 _ rfl (F49.at 0 rfl), hI.had 1 _ rfl (F49.at 1 rfl), hI.had 2 _ rfl (F49.at 2 rfl), hI.had 3 _ rfl (F49.at 3 rfl), hI.had 5 _ rfl (F49.at 5 rfl), hI.had 8 _ rfl (F49.at 8 rfl), hI.had 9 _ rfl (F49.at 9 rfl), hI.had 10 _ rfl (F49.at 10 rfl), hI.had 11 _ rfl (F49.at 11 rfl), hI.had 12 _ rfl (F49.at 12 rfl), hI.had 14 _ rfl (F49.at 14 rfl), hI.had 15 _ rfl (F49.at 15 rfl), hI.had 16 _ rfl (F49.at 16 rfl), pg7, e18_, hI.had 22 _ rfl (F49.at 22 rfl), hI.had 23 _ rfl (F49.at 23 rfl), hI.had 24 _ rfl (F49.at 24 rfl), hI.had 25 _ rfl (F49.at 25 rfl), hI.had 26 _ rfl (F49.at 26 rfl), hI.had 27 _ rfl (F49.at 27 rfl), hI.had 28 _ rfl (F49.at 28 rfl), hI.had 29 _ rfl (F49.at 29 rfl), hI.had 30 _ rfl (F49.at 30 rfl), hI.had 31 _ rfl (F49.at 31 rfl), hI.had 32 _ rfl (F49.at 32 rfl), hI.had 33 _ rfl (F49.at 33 rfl), hI.had 34 _ rfl (F49.at 34 rfl), hI.had 35 _ rfl (F49.at 35 rfl), hI.had 36 _ rfl (F49.at 36 rfl), hI.had 37 _ rfl (F49.at 37 rfl), hI.had 38 _ rfl (F49.at 38 rfl), hI.had 39 _ rfl (F49.at 39 rfl), hI.had 40 _ rfl (F49.at 40 rfl), hI.had 41 _ rfl (F49.at 41 rfl), hI.had 42 _ rfl (F49.at 42 rfl), hI.had 43 _ rfl (F49.at 43 rfl), hI.had 44 _ rfl (F49.at 44 rfl), hI.had 45 _ rfl (F49.at 45 rfl), hI.had 46 _ rfl (F49.at 46 rfl), hI.had 47 _ rfl (F49.at 47 rfl), hI.had 48 _ rfl (F49.at 48 rfl), hI.had 49 _ rfl (F49.at 49 rfl), hI.had 50 _ rfl (F49.at 50 rfl), hI.had 51 _ rfl (F49.at 51 rfl), hI.had 52 _ rfl (F49.at 52 rfl), hI.had 53 _ rfl (F49.at 53 rfl), hI.had 54 _ rfl (F49.at 54 rfl), hI.had 55 _ rfl (F49.at 55 rfl), hI.had 56 _ rfl (F49.at 56 rfl), hI.had 57 _ rfl (F49.at 57 rfl), hI.had 58 _ rfl (F49.at 58 rfl), hI.had 59 _ rfl (F49.at 59 rfl), trivial⟩
          clear F49 M11 M12
          refine nx ?_
          refine wp_seq ?_
          refine wsl ?_
          refine mvS F50 rfl rfl rfl rfl rfl fun a51 F51 => ?_
          refine mvS F51 rfl rfl rfl rfl rfl fun a52 F52 => ?_
          refine sr (v := (.bool true)) F52 (run_eqi rfl (F52.ev 90 rfl) (F52.ev 91 rfl) (beq_iff_eq.2 (by omega))) rfl rfl rfl fun a53 F53 => ?_
          refine mvS F53 rfl rfl rfl rfl rfl fun a54 F54 => ?_
          refine sqSkip F54 (unwantedG F54 rfl rfl rfl rfl rfl) rfl (by decide) fun a55 F55 => ?_
          refine sqSkip F55 (unwantedG F55 rfl rfl rfl rfl rfl) rfl (by decide) fun a56 F56 => ?_
          refine sqSkip F56 (unwantedG F56 rfl rfl rfl rfl rfl) rfl (by decide) fun a57 F57 => ?_
          refine sr (v := (.bool true)) F57 (run_pick rfl (F57.ev 93 rfl) rfl (F57.ev 96 rfl)) rfl rfl rfl fun a58 F58 => ?_
          refine mvS F58 rfl rfl rfl rfl rfl fun a59 F59 => ?_
          refine sqSkip F59 (unwantedG F59 rfl rfl rfl rfl rfl) rfl (by decide) fun a60 F60 => ?_
          refine sqSkip F60 (unwantedG F60 rfl rfl rfl rfl rfl) rfl (by decide) fun a61 F61 => ?_
          refine sqSkip F61 (unwantedG F61 rfl rfl rfl rfl rfl) rfl (by decide) fun a62 F62 => ?_
          refine sr (v := (.bool true)) F62 (run_pick rfl (F62.ev 98 rfl) rfl (F62.ev 101 rfl)) rfl rfl rfl fun a63 F63 => ?_
          refine sn ?_
          clear F50 F51 F52 F53 F54 F55 F56 F57 F58 F59 F60 F61 F62
          refine wp_cond_true (F63.ev 102 rfl) ?_
          refine wsl ?_
          refine mvS F63 rfl rfl rfl rfl rfl fun a64 F64 => ?_
          refine sr (v := (.bool true)) F64 (run_eqi rfl (F64.ev 103 rfl) rfl (beq_self_eq_true _)) rfl rfl rfl fun a65 F65 => ?_
          refine asS F65 rfl rfl rfl rfl rfl fun a66 F66 => ?_
          refine sn ?_
          clear F63 F64 F65
          refine wp_ret ?_
          refine nxRet ?_
          exact ret1 F66 rfl rfl ⟨rfl, M13.below⟩
        · skip
          refine wp_region_p 161 [.val (.agg #[vz4a]), .val ul, .val (.int .i64 (qa : Int)), .val (slPtr ul (qa * 33)), .val (.agg (shareC (shOf kl nz qa)).toArray), .val ul, .val (.int .i64 (qb : Int)), .val (slPtr ul (qb * 33)), .val (.agg (shareC (shOf kl nz qb)).toArray), .val ul, .val (.int .i64 (qc : Int)), .val (slPtr ul (qc * 33)), .val (.agg (shareC (shOf kl nz qc)).toArray), .row 54 33 3 ([shOf kl nz qa, shOf kl nz qb, shOf kl nz qc].flatMap shareC), .tup2 (.st (.row 23 32 (([] : List (List UInt8)).length) (([] : List (List UInt8)).flatMap dgC))) (.val (.int .i64 1)), .tup2 (.st (.row 23 32 (([] : List (List UInt8)).length) (([] : List (List UInt8)).flatMap dgC))) (.val (.int .i64 1)), .st (.row 23 32 (([] : List (List UInt8)).length) (([] : List (List UInt8)).flatMap dgC)), .val (.int .i64 1), .any, .any, .val (.int .i64 1)] [] [⟨18, 17, 19, 30, #[.slice none 0 0], .st (.row 23 32 (([] : List (List UInt8)).length) (([] : List (List UInt8)).flatMap dgC))⟩] [] [] (by kernel_rfl) (by kernel_rfl) F49.size ?_ ?_ ?_ ?_ (by kernel_rfl) ?_ fun a50 w12 gs hI => ?_
          · intro d hd
            simp only [List.mem_cons, List.not_mem_nil, or_false] at hd
            rcases hd with rfl <;> exact ⟨Nat.le_of_ble_eq_true (by kernel_rfl), _, rfl, rfl⟩
          · intro b hb
            cases hb
          · intro x y b c hx hy hne
            simp at hx
          · intro r hr
            cases hr
          · refine ⟨?_, ?_, ?_, ?_, ?_, ?_, ?_, ?_, ?_, ?_, ?_, ?_, ?_, ?_, ?_, ?_, ?_, ?_, ?_, ?_, ?_, trivial⟩
            · refine .val 73 rfl (by simp) (by simp) (by simp) fun a W hK hh hd => ⟨wanted_yes rfl, ?_⟩
              exact givz_run (run_ldB rfl (eval_tmp (hh 9 _ rfl (F49.at 9 rfl))) ((M11.grow hK.below).at 1 rfl) Tryd.underlying27 rfl szRg rfl) rfl
            · refine .val 74 rfl (by simp) (by simp) (by simp) fun a W hK hh hd => ⟨wanted_yes rfl, ?_⟩
              exact givz_run (run_mv rfl (eval_tmp (hh 13 _ rfl (F49.at 13 rfl)))) rfl
            · refine .val 75 rfl (by simp) (by simp) (by simp) fun a W hK hh hd => ⟨wanted_yes rfl, ?_⟩
              exact givz_run (run_mv rfl (eval_tmp (hh 14 _ rfl (F49.at 14 rfl)))) rfl
            · refine .val 76 rfl (by simp) (by simp) (by simp) fun a W hK hh hd => ⟨wanted_yes rfl, ?_⟩
              exact givz_run (run_atP (i := qa) rfl (eval_tmp (hd.valz (j := 1) (s := 74) (by kernel_rfl) (by simp) rfl rfl)) (eval_tmp (hd.valz (j := 2) (s := 75) (by kernel_rfl) (by simp) rfl rfl)) rfl (Sl.own (hO34.grow hK.below)) (by omega) eltSh.un (by kernel_rfl)) rfl
            · refine .val 77 rfl (by simp) (by simp) (by simp) fun a W hK hh hd => ⟨wanted_yes rfl, ?_⟩
              exact givz_run (run_ldPS (ys := shareC (shOf kl nz qa)) rfl (eval_tmp (hd.valz (j := 3) (s := 76) (by kernel_rfl) (by simp) rfl rfl)) (Sl.own (hO34.grow hK.below)) (by omega) (fun j u hj => flat_at shareC_len (shS_at hqa5) j hj) (by kernel_rfl) (by kernel_rfl)) rfl
            · refine .val 78 rfl (by simp) (by simp) (by simp) fun a W hK hh hd => ⟨wanted_yes rfl, ?_⟩
              exact givz_run (run_mv rfl (eval_tmp (hh 13 _ rfl (F49.at 13 rfl)))) rfl
            · refine .val 79 rfl (by simp) (by simp) (by simp) fun a W hK hh hd => ⟨wanted_yes rfl, ?_⟩
              exact givz_run (run_mv rfl (eval_tmp (hh 15 _ rfl (F49.at 15 rfl)))) rfl
            · refine .val 80 rfl (by simp) (by simp) (by simp) fun a W hK hh hd => ⟨wanted_yes rfl, ?_⟩
              exact givz_run (run_atP (i := qb) rfl (eval_tmp (hd.valz (j := 5) (s := 78) (by kernel_rfl) (by simp) rfl rfl)) (eval_tmp (hd.valz (j := 6) (s := 79) (by kernel_rfl) (by simp) rfl rfl)) rfl (Sl.own (hO34.grow hK.below)) (by omega) eltSh.un (by kernel_rfl)) rfl
            · refine .val 81 rfl (by simp) (by simp) (by simp) fun a W hK hh hd => ⟨wanted_yes rfl, ?_⟩
              exact givz_run (run_ldPS (ys := shareC (shOf kl nz qb)) rfl (eval_tmp (hd.valz (j := 7) (s := 80) (by kernel_rfl) (by simp) rfl rfl)) (Sl.own (hO34.grow hK.below)) (by omega) (fun j u hj => flat_at shareC_len (shS_at hqb5) j hj) (by kernel_rfl) (by kernel_rfl)) rfl
            · refine .val 82 rfl (by simp) (by simp) (by simp) fun a W hK hh hd => ⟨wanted_yes rfl, ?_⟩
              exact givz_run (run_mv rfl (eval_tmp (hh 13 _ rfl (F49.at 13 rfl)))) rfl
            · refine .val 83 rfl (by simp) (by simp) (by simp) fun a W hK hh hd => ⟨wanted_yes rfl, ?_⟩
              exact givz_run (run_mv rfl (eval_tmp (hh 16 _ rfl (F49.at 16 rfl)))) rfl
            · refine .val 84 rfl (by simp) (by simp) (by simp) fun a W hK hh hd => ⟨wanted_yes rfl, ?_⟩
              exact givz_run (run_atP (i := qc) rfl (eval_tmp (hd.valz (j := 9) (s := 82) (by kernel_rfl) (by simp) rfl rfl)) (eval_tmp (hd.valz (j := 10) (s := 83) (by kernel_rfl) (by simp) rfl rfl)) rfl (Sl.own (hO34.grow hK.below)) (by omega) eltSh.un (by kernel_rfl)) rfl
            · refine .val 85 rfl (by simp) (by simp) (by simp) fun a W hK hh hd => ⟨wanted_yes rfl, ?_⟩
              exact givz_run (run_ldPS (ys := shareC (shOf kl nz qc)) rfl (eval_tmp (hd.valz (j := 11) (s := 84) (by kernel_rfl) (by simp) rfl rfl)) (Sl.own (hO34.grow hK.below)) (by omega) (fun j u hj => flat_at shareC_len (shS_at hqc5) j hj) (by kernel_rfl) (by kernel_rfl)) rfl
            · refine .val 86 rfl (by simp) (by simp) (by simp) fun a W hK hh hd => ⟨wanted_yes rfl, ?_⟩
              exact givz_newRow 54 (List.toArray ([shOf kl nz qa, shOf kl nz qb, shOf kl nz qc].flatMap shareC)) 33 3 hK.size (by rw [List.size_toArray]; exact flat_lenG shareC_len _) (by decide) (run_shs3 rfl (eval_tmp (hd.valz (j := 4) (s := 77) (by kernel_rfl) (by simp) rfl rfl)) (eval_tmp (hd.valz (j := 8) (s := 81) (by kernel_rfl) (by simp) rfl rfl)) (eval_tmp (hd.valz (j := 12) (s := 85) (by kernel_rfl) (by simp) rfl rfl)))
            · refine .val 87 rfl (by simp) (by simp) (by simp) fun a W hK hh hd => ⟨wanted_yes rfl, ?_⟩
              obtain ⟨vz_14_13, ey13, hz_14_13⟩ := hd.getz (j := 13) (s := 86) (by kernel_rfl) (by simp) rfl rfl
              exact givz_call (run_call rfl Tryd.func23 (by kernel_rfl) rfl (mapE2 (eval_tmp (hd.valz (j := 0) (s := 73) (by kernel_rfl) (by simp) rfl rfl)) (eval_tmp ey13))) hK.size ((by have h := kopen_any (ringS l) [shOf kl nz qa, shOf kl nz qb, shOf kl nz qc] vz4a vz_14_13 W (HG.below (M11.grow hK.below).below) (Sl.own (hO31.grow hK.below)) (ringS_c32 l) (ringS_wr h32) (Sl.ofOwns hz_14_13) (by rw [ringS_len]; omega) (by simp); rw [(three_twice hne (by omega))] at h; exact h))
            · refine .val 72 rfl (by simp) (by simp) (by simp) fun a W hK hh hd => ⟨wanted_yes rfl, ?_⟩
              obtain ⟨_, ey14, ⟨_, _, rfl, ⟨vz_15_14a, rfl, hz_15_14a⟩, rfl⟩⟩ := hd.getz (j := 14) (s := 87) (by kernel_rfl) (by simp) rfl rfl
              exact givz_run (run_mv rfl (eval_tmp ey14)) ⟨_, _, rfl, ⟨_, rfl, hz_15_14a⟩, rfl⟩
            · refine .val 88 rfl (by simp) (by simp) (by simp) fun a W hK hh hd => ⟨wanted_yes rfl, ?_⟩
              obtain ⟨_, ey15, ⟨_, _, rfl, ⟨vz_16_15a, rfl, hz_16_15a⟩, rfl⟩⟩ := hd.getz (j := 15) (s := 72) (by kernel_rfl) (by simp) rfl rfl
              exact givz_run (run_ext rfl (eval_tmp ey15) rfl) ⟨_, rfl, hz_16_15a⟩
            · refine .val 89 rfl (by simp) (by simp) (by simp) fun a W hK hh hd => ⟨wanted_yes rfl, ?_⟩
              obtain ⟨_, ey15, ⟨_, _, rfl, ⟨vz_17_15a, rfl, hz_17_15a⟩, rfl⟩⟩ := hd.getz (j := 15) (s := 72) (by kernel_rfl) (by simp) rfl rfl
              exact givz_run (run_ext rfl (eval_tmp ey15) rfl) rfl
            · exact .new 0 _ rfl rfl rfl (by simp) (by simp) (by simp) (fun y e hy he => by rcases y with _ | _ | y <;> simp at hy <;> (try subst hy) <;> simp at he ⊢) fun a W => ⟨wanted_yes rfl, run_alloc rfl (by kernel_rfl)⟩
            · refine .put 0 _ rfl rfl rfl (by simp) (by simp) (by simp) (fun y e hy he => by rcases y with _ | _ | y <;> simp at hy <;> (try subst hy) <;> simp at he ⊢) (by kernel_rfl) 1 30 _ _ rfl rfl (fun a W hK hh hd => ?_) rfl szKy rfl
              obtain ⟨_, ey16, ⟨vz_19_16, rfl, hz_19_16⟩⟩ := hd.getz (j := 16) (s := 88) (by kernel_rfl) (by simp) rfl rfl
              rw [show a.eval _ = _ from (eval_tmp ey16)]
              exact ⟨⟨_, rfl, hz_19_16⟩, rfl, (one_own hz_19_16)⟩
            · refine .val 18 rfl (by simp) (by simp) (by simp) fun a W hK hh hd => ⟨wanted_yes rfl, ?_⟩
              exact givz_run (run_as rfl (eval_tmp (hd.valz (j := 17) (s := 89) (by kernel_rfl) (by simp) rfl rfl))) rfl
          have e18_ : a50.tmps[18]? = some (.int .i64 1) := by
            obtain ⟨vq, hq1, hq2⟩ := hI.val 20 _ 18 rfl rfl rfl (by simp) (fun _ h => by cases h)
            rw [hq1]
            exact congrArg some hq2
          obtain ⟨pg7, qg7, _, fg7⟩ := hI.blk 0 _ rfl rfl
          generalize gs 0 = g7 at pg7 qg7 fg7
          obtain ⟨_, Bg7, ⟨vz8_, rfl, hz8_⟩⟩ := fg7 rfl
          have Bg7 : Blk w12 g7 30 (#[vz8_]) := Bg7
          have hb12 := KeepW.below hI.keep
          have M12 := M11.grow hb12
          have hO36 := hO31.grow hb12
          have hO37 := hO32.grow hb12
          have hO38 := hO33.grow hb12
          have hO39 := hO34.grow hb12
          have hO40 := hO35.grow hb12
          have hO41 := OwnR.ofCall M11 (show World.ownsRow w12 _ 23 32 vz8_ (([] : List (List UInt8)).length) (([] : List (List UInt8)).flatMap dgC) from hz8_)
          have hO42 := hO36.addFar (S := isB 30 (#[vz8_])) (own_ne_ge hO31.owns qg7)
          have hO43 := hO37.addFar (S := isB 30 (#[vz8_])) (own_ne_ge hO32.owns qg7)
          have hO44 := hO38.addFar (S := isB 30 (#[vz8_])) (own_ne_ge hO33.owns qg7)
          have hO45 := hO39.addFar (S := isB 30 (#[vz8_])) (own_ne_ge hO34.owns qg7)
          have hO46 := hO40.addFar (S := isB 30 (#[vz8_])) (own_ne_ge hO35.owns qg7)
          have hO47 := hO41.addFar (S := isB 30 (#[vz8_])) (own_ne_ty hO41.owns Bg7 (by kernel_rfl))
          have M13 := M12.put1 (cs := #[vz8_]) (Nat.le_trans M11.below.size qg7) Bg7 (mem_far_new M11 qg7)
          have F50 : Fr a50 161 [(0, v), (1, (.agg (cells8 nz))), (2, (.agg (cells8 [p0, p1, p2]))), (3, (.int .u8 (b.toNat : Int))), (5, (.pointer (some ⟨g0, 0, none⟩))), (8, (.bool false)), (9, (.pointer (some ⟨g5, 0, none⟩))), (10, (.pointer (some ⟨g6, 0, none⟩))), (11, vz4c), (12, (.bool true)), (14, (.int .i64 (qa : Int))), (15, (.int .i64 (qb : Int))), (16, (.int .i64 (qc : Int))), (17, (.pointer (some ⟨g7, 0, none⟩))), (18, (.int .i64 1)), (22, (.bool true)), (23, (.bool false)), (24, v), (25, (.int .i64 (l.length : Int))), (26, (.bool false)), (27, (.bool false)), (28, v), (29, (.int .i64 (l.length : Int))), (30, (.bool false)), (31, (.bool false)), (32, (.bool false)), (33, v), (34, (.bool true)), (35, (.bool false)), (36, (.bool false)), (37, (.tuple #[(.agg #[vz4a]), (.agg #[vz4b]), vz4c, (.bool true)])), (38, v), (39, (.slice (some ⟨g0, 0, none⟩) 64 64)), (40, (.string ⟨nz.toArray⟩)), (41, (.tuple #[(.agg #[vz4a]), (.agg #[vz4b]), vz4c, (.bool true)])), (42, (.agg #[vz4a])), (43, (.agg #[vz4b])), (44, vz4c), (45, (.bool true)), (46, (.bool true)), (47, (.bool false)), (48, (.bool false)), (49, (.agg #[vz4a])), (50, (.agg #[vz4b])), (51, (.int .i64 0)), (52, (.bool false)), (53, (.bool false)), (54, vz4c), (55, vz4c), (56, (.int .i64 (US4c.length : Int))), (57, (.int .i64 ((l.length - 1 : Nat) : Int))), (58, (slPtr vz4c ((l.length - 1) * 1))), (59, ul)] := fr_of_holds hI.tsz (hI.defers.trans F49.defers) ⟨hI.had 0 _ rfl (F49.at 0 rfl), hI.had 1 _ rfl (F49.at 1 rfl), hI.had 2 _ rfl (F49.at 2 rfl), hI.had 3 _ rfl (F49.at 3 rfl), hI.had 5 _ rfl (F49.at 5 rfl), hI.had 8 _ rfl (F49.at 8 rfl), hI.had 9 _ rfl (F49.at 9 rfl), hI.had 10 _ rfl (F49.at 10 rfl), hI.had 11 _ rfl (F49.at 11 rfl), hI.had 12 _ rfl (F49.at 12 rfl), hI.had 14 _ rfl (F49.at 14 rfl), hI.had 15 _ rfl (F49.at 15 rfl), hI.had 16 _ rfl (F49.at 16 rfl), pg7, e18_, hI.had 22 _ rfl (F49.at 22 rfl), hI.had 23 _ rfl (F49.at 23 rfl), hI.had 24 _ rfl (F49.at 24 rfl), hI.had 25 _ rfl (F49.at 25 rfl), hI.had 26 _ rfl (F49.at 26 rfl), hI.had 27 _ rfl (F49.at 27 rfl), hI.had 28 _ rfl (F49.at 28 rfl), hI.had 29 _ rfl (F49.at 29 rfl), hI.had 30 _ rfl (F49.at 30 rfl), hI.had 31 _ rfl (F49.at 31 rfl), hI.had 32 _ rfl (F49.at 32 rfl), hI.had 33 _ rfl (F49.at 33 rfl), hI.had 34 _ rfl (F49.at 34 rfl), hI.had 35 _ rfl (F49.at 35 rfl), hI.had 36 _ rfl (F49.at 36 rfl), hI.had 37 _ rfl (F49.at 37 rfl), hI.had 38 _ rfl (F49.at 38 rfl), hI.had 39 _ rfl (F49.at 39 rfl), hI.had 40 _ rfl (F49.at 40 rfl), hI.had 41 _ rfl (F49.at 41 rfl), hI.had 42 _ rfl (F49.at 42 rfl), hI.had 43 _ rfl (F49.at 43 rfl), hI.had 44 _ rfl (F49.at 44 rfl), hI.had 45 _ rfl (F49.at 45 rfl), hI.had 46 _ rfl (F49.at 46 rfl), hI.had 47 _ rfl (F49.at 47 rfl), hI.had 48 _ rfl (F49.at 48 rfl), hI.had 49 _ rfl (F49.at 49 rfl), hI.had 50 _ rfl (F49.at 50 rfl), hI.had 51 _ rfl (F49.at 51 rfl), hI.had 52 _ rfl (F49.at 52 rfl), hI.had 53 _ rfl (F49.at 53 rfl), hI.had 54 _ rfl (F49.at 54 rfl), hI.had 55 _ rfl (F49.at 55 rfl), hI.had 56 _ rfl (F49.at 56 rfl), hI.had 57 _ rfl (F49.at 57 rfl), hI.had 58 _ rfl (F49.at 58 rfl), hI.had 59 _ rfl (F49.at 59 rfl), trivial⟩
          clear F49 M11 M12
          refine nx ?_
          refine wp_seq ?_
          refine wsl ?_
          refine mvS F50 rfl rfl rfl rfl rfl fun a51 F51 => ?_
          refine mvS F51 rfl rfl rfl rfl rfl fun a52 F52 => ?_
          refine sr (v := (.bool false)) F52 (run_eqi rfl (F52.ev 90 rfl) (F52.ev 91 rfl) (beq_eq_false_iff_ne.2 (by omega))) rfl rfl rfl fun a53 F53 => ?_
          refine mvS F53 rfl rfl rfl rfl rfl fun a54 F54 => ?_
          refine sq (v := (.int .i64 (qa : Int))) F54 (wantedG F54 rfl rfl rfl rfl rfl) (run_mv rfl (F54.ev 14 rfl)) rfl (by decide) fun a55 F55 => ?_
          refine sq (v := (.int .i64 (qc : Int))) F55 (wantedG F55 rfl rfl rfl rfl rfl) (run_mv rfl (F55.ev 16 rfl)) rfl (by decide) fun a56 F56 => ?_
          refine sq (v := (.bool true)) F56 (wantedG F56 rfl rfl rfl rfl rfl) (run_eqi rfl (F56.ev 94 rfl) (F56.ev 95 rfl) (beq_iff_eq.2 (by omega))) rfl (by decide) fun a57 F57 => ?_
          refine sr (v := (.bool true)) F57 (run_pick rfl (F57.ev 93 rfl) rfl (F57.ev 96 rfl)) rfl rfl rfl fun a58 F58 => ?_
          refine mvS F58 rfl rfl rfl rfl rfl fun a59 F59 => ?_
          refine sqSkip F59 (unwantedG F59 rfl rfl rfl rfl rfl) rfl (by decide) fun a60 F60 => ?_
          refine sqSkip F60 (unwantedG F60 rfl rfl rfl rfl rfl) rfl (by decide) fun a61 F61 => ?_
          refine sqSkip F61 (unwantedG F61 rfl rfl rfl rfl rfl) rfl (by decide) fun a62 F62 => ?_
          refine sr (v := (.bool true)) F62 (run_pick rfl (F62.ev 98 rfl) rfl (F62.ev 101 rfl)) rfl rfl rfl fun a63 F63 => ?_
          refine sn ?_
          clear F50 F51 F52 F53 F54 F55 F56 F57 F58 F59 F60 F61 F62
          refine wp_cond_true (F63.ev 102 rfl) ?_
          refine wsl ?_
          refine mvS F63 rfl rfl rfl rfl rfl fun a64 F64 => ?_
          refine sr (v := (.bool true)) F64 (run_eqi rfl (F64.ev 103 rfl) rfl (beq_self_eq_true _)) rfl rfl rfl fun a65 F65 => ?_
          refine asS F65 rfl rfl rfl rfl rfl fun a66 F66 => ?_
          refine sn ?_
          clear F63 F64 F65
          refine wp_ret ?_
          refine nxRet ?_
          exact ret1 F66 rfl rfl ⟨rfl, M13.below⟩
        · skip
          refine wp_region_p 161 [.val (.agg #[vz4a]), .val ul, .val (.int .i64 (qa : Int)), .val (slPtr ul (qa * 33)), .val (.agg (shareC (shOf kl nz qa)).toArray), .val ul, .val (.int .i64 (qb : Int)), .val (slPtr ul (qb * 33)), .val (.agg (shareC (shOf kl nz qb)).toArray), .val ul, .val (.int .i64 (qc : Int)), .val (slPtr ul (qc * 33)), .val (.agg (shareC (shOf kl nz qc)).toArray), .row 54 33 3 ([shOf kl nz qa, shOf kl nz qb, shOf kl nz qc].flatMap shareC), .tup2 (.st (.row 23 32 (([] : List (List UInt8)).length) (([] : List (List UInt8)).flatMap dgC))) (.val (.int .i64 1)), .tup2 (.st (.row 23 32 (([] : List (List UInt8)).length) (([] : List (List UInt8)).flatMap dgC))) (.val (.int .i64 1)), .st (.row 23 32 (([] : List (List UInt8)).length) (([] : List (List UInt8)).flatMap dgC)), .val (.int .i64 1), .any, .any, .val (.int .i64 1)] [] [⟨18, 17, 19, 30, #[.slice none 0 0], .st (.row 23 32 (([] : List (List UInt8)).length) (([] : List (List UInt8)).flatMap dgC))⟩] [] [] (by kernel_rfl) (by kernel_rfl) F49.size ?_ ?_ ?_ ?_ (by kernel_rfl) ?_ fun a50 w12 gs hI => ?_
          · intro d hd
            simp only [List.mem_cons, List.not_mem_nil, or_false] at hd
            rcases hd with rfl <;> exact ⟨Nat.le_of_ble_eq_true (by kernel_rfl), _, rfl, rfl⟩
          · intro b hb
            cases hb
          · intro x y b c hx hy hne
            simp at hx
          · intro r hr
            cases hr
          · refine ⟨?_, ?_, ?_, ?_, ?_, ?_, ?_, ?_, ?_, ?_, ?_, ?_, ?_, ?_, ?_, ?_, ?_, ?_, ?_, ?_, ?_, trivial⟩
            · refine .val 73 rfl (by simp) (by simp) (by simp) fun a W hK hh hd => ⟨wanted_yes rfl, ?_⟩
              exact givz_run (run_ldB rfl (eval_tmp (hh 9 _ rfl (F49.at 9 rfl))) ((M11.grow hK.below).at 1 rfl) Tryd.underlying27 rfl szRg rfl) rfl
            · refine .val 74 rfl (by simp) (by simp) (by simp) fun a W hK hh hd => ⟨wanted_yes rfl, ?_⟩
              exact givz_run (run_mv rfl (eval_tmp (hh 13 _ rfl (F49.at 13 rfl)))) rfl
            · refine .val 75 rfl (by simp) (by simp) (by simp) fun a W hK hh hd => ⟨wanted_yes rfl, ?_⟩
              exact givz_run (run_mv rfl (eval_tmp (hh 14 _ rfl (F49.at 14 rfl)))) rfl
            · refine .val 76 rfl (by simp) (by simp) (by simp) fun a W hK hh hd => ⟨wanted_yes rfl, ?_⟩
              exact givz_run (run_atP (i := qa) rfl (eval_tmp (hd.valz (j := 1) (s := 74) (by kernel_rfl) (by simp) rfl rfl)) (eval_tmp (hd.valz (j := 2) (s := 75) (by kernel_rfl) (by simp) rfl rfl)) rfl (Sl.own (hO34.grow hK.below)) (by omega) eltSh.un (by kernel_rfl)) rfl
            · refine .val 77 rfl (by simp) (by simp) (by simp) fun a W hK hh hd => ⟨wanted_yes rfl, ?_⟩
              exact givz_run (run_ldPS (ys := shareC (shOf kl nz qa)) rfl (eval_tmp (hd.valz (j := 3) (s := 76) (by kernel_rfl) (by simp) rfl rfl)) (Sl.own (hO34.grow hK.below)) (by omega) (fun j u hj => flat_at shareC_len (shS_at hqa5) j hj) (by kernel_rfl) (by kernel_rfl)) rfl
            · refine .val 78 rfl (by simp) (by simp) (by simp) fun a W hK hh hd => ⟨wanted_yes rfl, ?_⟩
              exact givz_run (run_mv rfl (eval_tmp (hh 13 _ rfl (F49.at 13 rfl)))) rfl
            · refine .val 79 rfl (by simp) (by simp) (by simp) fun a W hK hh hd => ⟨wanted_yes rfl, ?_⟩
              exact givz_run (run_mv rfl (eval_tmp (hh 15 _ rfl (F49.at 15 rfl)))) rfl
            · refine .val 80 rfl (by simp) (by simp) (by simp) fun a W hK hh hd => ⟨wanted_yes rfl, ?_⟩
              exact givz_run (run_atP (i := qb) rfl (eval_tmp (hd.valz (j := 5) (s := 78) (by kernel_rfl) (by simp) rfl rfl)) (eval_tmp (hd.valz (j := 6) (s := 79) (by kernel_rfl) (by simp) rfl rfl)) rfl (Sl.own (hO34.grow hK.below)) (by omega) eltSh.un (by kernel_rfl)) rfl
            · refine .val 81 rfl (by simp) (by simp) (by simp) fun a W hK hh hd => ⟨wanted_yes rfl, ?_⟩
              exact givz_run (run_ldPS (ys := shareC (shOf kl nz qb)) rfl (eval_tmp (hd.valz (j := 7) (s := 80) (by kernel_rfl) (by simp) rfl rfl)) (Sl.own (hO34.grow hK.below)) (by omega) (fun j u hj => flat_at shareC_len (shS_at hqb5) j hj) (by kernel_rfl) (by kernel_rfl)) rfl
            · refine .val 82 rfl (by simp) (by simp) (by simp) fun a W hK hh hd => ⟨wanted_yes rfl, ?_⟩
              exact givz_run (run_mv rfl (eval_tmp (hh 13 _ rfl (F49.at 13 rfl)))) rfl
            · refine .val 83 rfl (by simp) (by simp) (by simp) fun a W hK hh hd => ⟨wanted_yes rfl, ?_⟩
              exact givz_run (run_mv rfl (eval_tmp (hh 16 _ rfl (F49.at 16 rfl)))) rfl
            · refine .val 84 rfl (by simp) (by simp) (by simp) fun a W hK hh hd => ⟨wanted_yes rfl, ?_⟩
              exact givz_run (run_atP (i := qc) rfl (eval_tmp (hd.valz (j := 9) (s := 82) (by kernel_rfl) (by simp) rfl rfl)) (eval_tmp (hd.valz (j := 10) (s := 83) (by kernel_rfl) (by simp) rfl rfl)) rfl (Sl.own (hO34.grow hK.below)) (by omega) eltSh.un (by kernel_rfl)) rfl
            · refine .val 85 rfl (by simp) (by simp) (by simp) fun a W hK hh hd => ⟨wanted_yes rfl, ?_⟩
              exact givz_run (run_ldPS (ys := shareC (shOf kl nz qc)) rfl (eval_tmp (hd.valz (j := 11) (s := 84) (by kernel_rfl) (by simp) rfl rfl)) (Sl.own (hO34.grow hK.below)) (by omega) (fun j u hj => flat_at shareC_len (shS_at hqc5) j hj) (by kernel_rfl) (by kernel_rfl)) rfl
            · refine .val 86 rfl (by simp) (by simp) (by simp) fun a W hK hh hd => ⟨wanted_yes rfl, ?_⟩
              exact givz_newRow 54 (List.toArray ([shOf kl nz qa, shOf kl nz qb, shOf kl nz qc].flatMap shareC)) 33 3 hK.size (by rw [List.size_toArray]; exact flat_lenG shareC_len _) (by decide) (run_shs3 rfl (eval_tmp (hd.valz (j := 4) (s := 77) (by kernel_rfl) (by simp) rfl rfl)) (eval_tmp (hd.valz (j := 8) (s := 81) (by kernel_rfl) (by simp) rfl rfl)) (eval_tmp (hd.valz (j := 12) (s := 85) (by kernel_rfl) (by simp) rfl rfl)))
            · refine .val 87 rfl (by simp) (by simp) (by simp) fun a W hK hh hd => ⟨wanted_yes rfl, ?_⟩
              obtain ⟨vz_14_13, ey13, hz_14_13⟩ := hd.getz (j := 13) (s := 86) (by kernel_rfl) (by simp) rfl rfl
              exact givz_call (run_call rfl Tryd.func23 (by kernel_rfl) rfl (mapE2 (eval_tmp (hd.valz (j := 0) (s := 73) (by kernel_rfl) (by simp) rfl rfl)) (eval_tmp ey13))) hK.size ((by have h := kopen_any (ringS l) [shOf kl nz qa, shOf kl nz qb, shOf kl nz qc] vz4a vz_14_13 W (HG.below (M11.grow hK.below).below) (Sl.own (hO31.grow hK.below)) (ringS_c32 l) (ringS_wr h32) (Sl.ofOwns hz_14_13) (by rw [ringS_len]; omega) (by simp); rw [(three_twice hne (by omega))] at h; exact h))
            · refine .val 72 rfl (by simp) (by simp) (by simp) fun a W hK hh hd => ⟨wanted_yes rfl, ?_⟩
              obtain ⟨_, ey14, ⟨_, _, rfl, ⟨vz_15_14a, rfl, hz_15_14a⟩, rfl⟩⟩ := hd.getz (j := 14) (s := 87) (by kernel_rfl) (by simp) rfl rfl
              exact givz_run (run_mv rfl (eval_tmp ey14)) ⟨_, _, rfl, ⟨_, rfl, hz_15_14a⟩, rfl⟩
            · refine .val 88 rfl (by simp) (by simp) (by simp) fun a W hK hh hd => ⟨wanted_yes rfl, ?_⟩
              obtain ⟨_, ey15, ⟨_, _, rfl, ⟨vz_16_15a, rfl, hz_16_15a⟩, rfl⟩⟩ := hd.getz (j := 15) (s := 72) (by kernel_rfl) (by simp) rfl rfl
              exact givz_run (run_ext rfl (eval_tmp ey15) rfl) ⟨_, rfl, hz_16_15a⟩
            · refine .val 89 rfl (by simp) (by simp) (by simp) fun a W hK hh hd => ⟨wanted_yes rfl, ?_⟩
              obtain ⟨_, ey15, ⟨_, _, rfl, ⟨vz_17_15a, rfl, hz_17_15a⟩, rfl⟩⟩ := hd.getz (j := 15) (s := 72) (by kernel_rfl) (by simp) rfl rfl
              exact givz_run (run_ext rfl (eval_tmp ey15) rfl) rfl
            · exact .new 0 _ rfl rfl rfl (by simp) (by simp) (by simp) (fun y e hy he => by rcases y with _ | _ | y <;> simp at hy <;> (try subst hy) <;> simp at he ⊢) fun a W => ⟨wanted_yes rfl, run_alloc rfl (by kernel_rfl)⟩
            · refine .put 0 _ rfl rfl rfl (by simp) (by simp) (by simp) (fun y e hy he => by rcases y with _ | _ | y <;> simp at hy <;> (try subst hy) <;> simp at he ⊢) (by kernel_rfl) 1 30 _ _ rfl rfl (fun a W hK hh hd => ?_) rfl szKy rfl
              obtain ⟨_, ey16, ⟨vz_19_16, rfl, hz_19_16⟩⟩ := hd.getz (j := 16) (s := 88) (by kernel_rfl) (by simp) rfl rfl
              rw [show a.eval _ = _ from (eval_tmp ey16)]
              exact ⟨⟨_, rfl, hz_19_16⟩, rfl, (one_own hz_19_16)⟩
            · refine .val 18 rfl (by simp) (by simp) (by simp) fun a W hK hh hd => ⟨wanted_yes rfl, ?_⟩
              exact givz_run (run_as rfl (eval_tmp (hd.valz (j := 17) (s := 89) (by kernel_rfl) (by simp) rfl rfl))) rfl
          have e18_ : a50.tmps[18]? = some (.int .i64 1) := by
            obtain ⟨vq, hq1, hq2⟩ := hI.val 20 _ 18 rfl rfl rfl (by simp) (fun _ h => by cases h)
            rw [hq1]
            exact congrArg some hq2
          obtain ⟨pg7, qg7, _, fg7⟩ := hI.blk 0 _ rfl rfl
          generalize gs 0 = g7 at pg7 qg7 fg7
          obtain ⟨_, Bg7, ⟨vz8_, rfl, hz8_⟩⟩ := fg7 rfl
          have Bg7 : Blk w12 g7 30 (#[vz8_]) := Bg7
          have hb12 := KeepW.below hI.keep
          have M12 := M11.grow hb12
          have hO36 := hO31.grow hb12
          have hO37 := hO32.grow hb12
          have hO38 := hO33.grow hb12
          have hO39 := hO34.grow hb12
          have hO40 := hO35.grow hb12
          have hO41 := OwnR.ofCall M11 (show World.ownsRow w12 _ 23 32 vz8_ (([] : List (List UInt8)).length) (([] : List (List UInt8)).flatMap dgC) from hz8_)
          have hO42 := hO36.addFar (S := isB 30 (#[vz8_])) (own_ne_ge hO31.owns qg7)
          have hO43 := hO37.addFar (S := isB 30 (#[vz8_])) (own_ne_ge hO32.owns qg7)
          have hO44 := hO38.addFar (S := isB 30 (#[vz8_])) (own_ne_ge hO33.owns qg7)
          have hO45 := hO39.addFar (S := isB 30 (#[vz8_])) (own_ne_ge hO34.owns qg7)
          have hO46 := hO40.addFar (S := isB 30 (#[vz8_])) (own_ne_ge hO35.owns qg7)
          have hO47 := hO41.addFar (S := isB 30 (#[vz8_])) (own_ne_ty hO41.owns Bg7 (by kernel_rfl))
          have M13 := M12.put1 (cs := #[vz8_]) (Nat.le_trans M11.below.size qg7) Bg7 (mem_far_new M11 qg7)
          have F50 : Fr a50 161 [(0, v), (1, (.agg (cells8 nz))), (2, (.agg (cells8 [p0, p1, p2]))), (3, (.int .u8 (b.toNat : Int))), (5, (.pointer (some ⟨g0, 0, none⟩))), (8, (.bool false)), (9, (.pointer (some ⟨g5, 0, none⟩))), (10, (.pointer (some ⟨g6, 0, none⟩))), (11, vz4c), (12, (.bool true)), (14, (.int .i64 (qa : Int))), (15, (.int .i64 (qb : Int))), (16, (.int .i64 (qc : Int))), (17, (.pointer (some ⟨g7, 0, none⟩))), (18, (.int .i64 1)), (22, (.bool true)), (23, (.bool false)), (24, v), (25, (.int .i64 (l.length : Int))), (26, (.bool false)), (27, (.bool false)), (28, v), (29, (.int .i64 (l.length : Int))), (30, (.bool false)), (31, (.bool false)), (32, (.bool false)), (33, v), (34, (.bool true)), (35, (.bool false)), (36, (.bool false)), (37, (.tuple #[(.agg #[vz4a]), (.agg #[vz4b]), vz4c, (.bool true)])), (38, v), (39, (.slice (some ⟨g0, 0, none⟩) 64 64)), (40, (.string ⟨nz.toArray⟩)), (41, (.tuple #[(.agg #[vz4a]), (.agg #[vz4b]), vz4c, (.bool true)])), (42, (.agg #[vz4a])), (43, (.agg #[vz4b])), (44, vz4c), (45, (.bool true)), (46, (.bool true)), (47, (.bool false)), (48, (.bool false)), (49, (.agg #[vz4a])), (50, (.agg #[vz4b])), (51, (.int .i64 0)), (52, (.bool false)), (53, (.bool false)), (54, vz4c), (55, vz4c), (56, (.int .i64 (US4c.length : Int))), (57, (.int .i64 ((l.length - 1 : Nat) : Int))), (58, (slPtr vz4c ((l.length - 1) * 1))), (59, ul)] := fr_of_holds hI.tsz (hI.defers.trans F49.defers) ⟨hI.had 0 _ rfl (F49.at 0 rfl), hI.had 1 _ rfl (F49.at 1 rfl), hI.had 2 _ rfl (F49.at 2 rfl), hI.had 3 _ rfl (F49.at 3 rfl), hI.had 5 _ rfl (F49.at 5 rfl), hI.had 8 _ rfl (F49.at 8 rfl), hI.had 9 _ rfl (F49.at 9 rfl), hI.had 10 _ rfl (F49.at 10 rfl), hI.had 11 _ rfl (F49.at 11 rfl), hI.had 12 _ rfl (F49.at 12 rfl), hI.had 14 _ rfl (F49.at 14 rfl), hI.had 15 _ rfl (F49.at 15 rfl), hI.had 16 _ rfl (F49.at 16 rfl), pg7, e18_, hI.had 22 _ rfl (F49.at 22 rfl), hI.had 23 _ rfl (F49.at 23 rfl), hI.had 24 _ rfl (F49.at 24 rfl), hI.had 25 _ rfl (F49.at 25 rfl), hI.had 26 _ rfl (F49.at 26 rfl), hI.had 27 _ rfl (F49.at 27 rfl), hI.had 28 _ rfl (F49.at 28 rfl), hI.had 29 _ rfl (F49.at 29 rfl), hI.had 30 _ rfl (F49.at 30 rfl), hI.had 31 _ rfl (F49.at 31 rfl), hI.had 32 _ rfl (F49.at 32 rfl), hI.had 33 _ rfl (F49.at 33 rfl), hI.had 34 _ rfl (F49.at 34 rfl), hI.had 35 _ rfl (F49.at 35 rfl), hI.had 36 _ rfl (F49.at 36 rfl), hI.had 37 _ rfl (F49.at 37 rfl), hI.had 38 _ rfl (F49.at 38 rfl), hI.had 39 _ rfl (F49.at 39 rfl), hI.had 40 _ rfl (F49.at 40 rfl), hI.had 41 _ rfl (F49.at 41 rfl), hI.had 42 _ rfl (F49.at 42 rfl), hI.had 43 _ rfl (F49.at 43 rfl), hI.had 44 _ rfl (F49.at 44 rfl), hI.had 45 _ rfl (F49.at 45 rfl), hI.had 46 _ rfl (F49.at 46 rfl), hI.had 47 _ rfl (F49.at 47 rfl), hI.had 48 _ rfl (F49.at 48 rfl), hI.had 49 _ rfl (F49.at 49 rfl), hI.had 50 _ rfl (F49.at 50 rfl), hI.had 51 _ rfl (F49.at 51 rfl), hI.had 52 _ rfl (F49.at 52 rfl), hI.had 53 _ rfl (F49.at 53 rfl), hI.had 54 _ rfl (F49.at 54 rfl), hI.had 55 _ rfl (F49.at 55 rfl), hI.had 56 _ rfl (F49.at 56 rfl), hI.had 57 _ rfl (F49.at 57 rfl), hI.had 58 _ rfl (F49.at 58 rfl), hI.had 59 _ rfl (F49.at 59 rfl), trivial⟩
          clear F49 M11 M12
          refine nx ?_
          refine wp_seq ?_
          refine wsl ?_
          refine mvS F50 rfl rfl rfl rfl rfl fun a51 F51 => ?_
          refine mvS F51 rfl rfl rfl rfl rfl fun a52 F52 => ?_
          refine sr (v := (.bool false)) F52 (run_eqi rfl (F52.ev 90 rfl) (F52.ev 91 rfl) (beq_eq_false_iff_ne.2 (by omega))) rfl rfl rfl fun a53 F53 => ?_
          refine mvS F53 rfl rfl rfl rfl rfl fun a54 F54 => ?_
          refine sq (v := (.int .i64 (qa : Int))) F54 (wantedG F54 rfl rfl rfl rfl rfl) (run_mv rfl (F54.ev 14 rfl)) rfl (by decide) fun a55 F55 => ?_
          refine sq (v := (.int .i64 (qc : Int))) F55 (wantedG F55 rfl rfl rfl rfl rfl) (run_mv rfl (F55.ev 16 rfl)) rfl (by decide) fun a56 F56 => ?_
          refine sq (v := (.bool false)) F56 (wantedG F56 rfl rfl rfl rfl rfl) (run_eqi rfl (F56.ev 94 rfl) (F56.ev 95 rfl) (beq_eq_false_iff_ne.2 (by omega))) rfl (by decide) fun a57 F57 => ?_
          refine sr (v := (.bool false)) F57 (run_pick rfl (F57.ev 93 rfl) rfl (F57.ev 96 rfl)) rfl rfl rfl fun a58 F58 => ?_
          refine mvS F58 rfl rfl rfl rfl rfl fun a59 F59 => ?_
          refine sq (v := (.int .i64 (qb : Int))) F59 (wantedG F59 rfl rfl rfl rfl rfl) (run_mv rfl (F59.ev 15 rfl)) rfl (by decide) fun a60 F60 => ?_
          refine sq (v := (.int .i64 (qc : Int))) F60 (wantedG F60 rfl rfl rfl rfl rfl) (run_mv rfl (F60.ev 16 rfl)) rfl (by decide) fun a61 F61 => ?_
          refine sq (v := (.bool true)) F61 (wantedG F61 rfl rfl rfl rfl rfl) (run_eqi rfl (F61.ev 99 rfl) (F61.ev 100 rfl) (beq_iff_eq.2 (by omega))) rfl (by decide) fun a62 F62 => ?_
          refine sr (v := (.bool true)) F62 (run_pick rfl (F62.ev 98 rfl) rfl (F62.ev 101 rfl)) rfl rfl rfl fun a63 F63 => ?_
          refine sn ?_
          clear F50 F51 F52 F53 F54 F55 F56 F57 F58 F59 F60 F61 F62
          refine wp_cond_true (F63.ev 102 rfl) ?_
          refine wsl ?_
          refine mvS F63 rfl rfl rfl rfl rfl fun a64 F64 => ?_
          refine sr (v := (.bool true)) F64 (run_eqi rfl (F64.ev 103 rfl) rfl (beq_self_eq_true _)) rfl rfl rfl fun a65 F65 => ?_
          refine asS F65 rfl rfl rfl rfl rfl fun a66 F66 => ?_
          refine sn ?_
          clear F63 F64 F65
          refine wp_ret ?_
          refine nxRet ?_
          exact ret1 F66 rfl rfl ⟨rfl, M13.below⟩
        · skip
          refine wp_region_p 161 [.val (.agg #[vz4a]), .val ul, .val (.int .i64 (qa : Int)), .val (slPtr ul (qa * 33)), .val (.agg (shareC (shOf kl nz qa)).toArray), .val ul, .val (.int .i64 (qb : Int)), .val (slPtr ul (qb * 33)), .val (.agg (shareC (shOf kl nz qb)).toArray), .val ul, .val (.int .i64 (qc : Int)), .val (slPtr ul (qc * 33)), .val (.agg (shareC (shOf kl nz qc)).toArray), .row 54 33 3 ([shOf kl nz qa, shOf kl nz qb, shOf kl nz qc].flatMap shareC), .tup2 (.st (.row 23 32 l.length (l.flatMap dgC))) (.val (.int .i64 0)), .tup2 (.st (.row 23 32 l.length (l.flatMap dgC))) (.val (.int .i64 0)), .st (.row 23 32 l.length (l.flatMap dgC)), .val (.int .i64 0), .any, .any, .val (.int .i64 0)] [] [⟨18, 17, 19, 30, #[.slice none 0 0], .st (.row 23 32 l.length (l.flatMap dgC))⟩] [] [] (by kernel_rfl) (by kernel_rfl) F49.size ?_ ?_ ?_ ?_ (by kernel_rfl) ?_ fun a50 w12 gs hI => ?_
          · intro d hd
            simp only [List.mem_cons, List.not_mem_nil, or_false] at hd
            rcases hd with rfl <;> exact ⟨Nat.le_of_ble_eq_true (by kernel_rfl), _, rfl, rfl⟩
          · intro b hb
            cases hb
          · intro x y b c hx hy hne
            simp at hx
          · intro r hr
            cases hr
          · refine ⟨?_, ?_, ?_, ?_, ?_, ?_, ?_, ?_, ?_, ?_, ?_, ?_, ?_, ?_, ?_, ?_, ?_, ?_, ?_, ?_, ?_, trivial⟩
            · refine .val 73 rfl (by simp) (by simp) (by simp) fun a W hK hh hd => ⟨wanted_yes rfl, ?_⟩
              exact givz_run (run_ldB rfl (eval_tmp (hh 9 _ rfl (F49.at 9 rfl))) ((M11.grow hK.below).at 1 rfl) Tryd.underlying27 rfl szRg rfl) rfl
            · refine .val 74 rfl (by simp) (by simp) (by simp) fun a W hK hh hd => ⟨wanted_yes rfl, ?_⟩
              exact givz_run (run_mv rfl (eval_tmp (hh 13 _ rfl (F49.at 13 rfl)))) rfl
            · refine .val 75 rfl (by simp) (by simp) (by simp) fun a W hK hh hd => ⟨wanted_yes rfl, ?_⟩
              exact givz_run (run_mv rfl (eval_tmp (hh 14 _ rfl (F49.at 14 rfl)))) rfl
            · refine .val 76 rfl (by simp) (by simp) (by simp) fun a W hK hh hd => ⟨wanted_yes rfl, ?_⟩
              exact givz_run (run_atP (i := qa) rfl (eval_tmp (hd.valz (j := 1) (s := 74) (by kernel_rfl) (by simp) rfl rfl)) (eval_tmp (hd.valz (j := 2) (s := 75) (by kernel_rfl) (by simp) rfl rfl)) rfl (Sl.own (hO34.grow hK.below)) (by omega) eltSh.un (by kernel_rfl)) rfl
            · refine .val 77 rfl (by simp) (by simp) (by simp) fun a W hK hh hd => ⟨wanted_yes rfl, ?_⟩
              exact givz_run (run_ldPS (ys := shareC (shOf kl nz qa)) rfl (eval_tmp (hd.valz (j := 3) (s := 76) (by kernel_rfl) (by simp) rfl rfl)) (Sl.own (hO34.grow hK.below)) (by omega) (fun j u hj => flat_at shareC_len (shS_at hqa5) j hj) (by kernel_rfl) (by kernel_rfl)) rfl
            · refine .val 78 rfl (by simp) (by simp) (by simp) fun a W hK hh hd => ⟨wanted_yes rfl, ?_⟩
              exact givz_run (run_mv rfl (eval_tmp (hh 13 _ rfl (F49.at 13 rfl)))) rfl
            · refine .val 79 rfl (by simp) (by simp) (by simp) fun a W hK hh hd => ⟨wanted_yes rfl, ?_⟩
              exact givz_run (run_mv rfl (eval_tmp (hh 15 _ rfl (F49.at 15 rfl)))) rfl
            · refine .val 80 rfl (by simp) (by simp) (by simp) fun a W hK hh hd => ⟨wanted_yes rfl, ?_⟩
              exact givz_run (run_atP (i := qb) rfl (eval_tmp (hd.valz (j := 5) (s := 78) (by kernel_rfl) (by simp) rfl rfl)) (eval_tmp (hd.valz (j := 6) (s := 79) (by kernel_rfl) (by simp) rfl rfl)) rfl (Sl.own (hO34.grow hK.below)) (by omega) eltSh.un (by kernel_rfl)) rfl
            · refine .val 81 rfl (by simp) (by simp) (by simp) fun a W hK hh hd => ⟨wanted_yes rfl, ?_⟩
              exact givz_run (run_ldPS (ys := shareC (shOf kl nz qb)) rfl (eval_tmp (hd.valz (j := 7) (s := 80) (by kernel_rfl) (by simp) rfl rfl)) (Sl.own (hO34.grow hK.below)) (by omega) (fun j u hj => flat_at shareC_len (shS_at hqb5) j hj) (by kernel_rfl) (by kernel_rfl)) rfl
            · refine .val 82 rfl (by simp) (by simp) (by simp) fun a W hK hh hd => ⟨wanted_yes rfl, ?_⟩
              exact givz_run (run_mv rfl (eval_tmp (hh 13 _ rfl (F49.at 13 rfl)))) rfl
            · refine .val 83 rfl (by simp) (by simp) (by simp) fun a W hK hh hd => ⟨wanted_yes rfl, ?_⟩
              exact givz_run (run_mv rfl (eval_tmp (hh 16 _ rfl (F49.at 16 rfl)))) rfl
            · refine .val 84 rfl (by simp) (by simp) (by simp) fun a W hK hh hd => ⟨wanted_yes rfl, ?_⟩
              exact givz_run (run_atP (i := qc) rfl (eval_tmp (hd.valz (j := 9) (s := 82) (by kernel_rfl) (by simp) rfl rfl)) (eval_tmp (hd.valz (j := 10) (s := 83) (by kernel_rfl) (by simp) rfl rfl)) rfl (Sl.own (hO34.grow hK.below)) (by omega) eltSh.un (by kernel_rfl)) rfl
            · refine .val 85 rfl (by simp) (by simp) (by simp) fun a W hK hh hd => ⟨wanted_yes rfl, ?_⟩
              exact givz_run (run_ldPS (ys := shareC (shOf kl nz qc)) rfl (eval_tmp (hd.valz (j := 11) (s := 84) (by kernel_rfl) (by simp) rfl rfl)) (Sl.own (hO34.grow hK.below)) (by omega) (fun j u hj => flat_at shareC_len (shS_at hqc5) j hj) (by kernel_rfl) (by kernel_rfl)) rfl
            · refine .val 86 rfl (by simp) (by simp) (by simp) fun a W hK hh hd => ⟨wanted_yes rfl, ?_⟩
              exact givz_newRow 54 (List.toArray ([shOf kl nz qa, shOf kl nz qb, shOf kl nz qc].flatMap shareC)) 33 3 hK.size (by rw [List.size_toArray]; exact flat_lenG shareC_len _) (by decide) (run_shs3 rfl (eval_tmp (hd.valz (j := 4) (s := 77) (by kernel_rfl) (by simp) rfl rfl)) (eval_tmp (hd.valz (j := 8) (s := 81) (by kernel_rfl) (by simp) rfl rfl)) (eval_tmp (hd.valz (j := 12) (s := 85) (by kernel_rfl) (by simp) rfl rfl)))
            · refine .val 87 rfl (by simp) (by simp) (by simp) fun a W hK hh hd => ⟨wanted_yes rfl, ?_⟩
              obtain ⟨vz_14_13, ey13, hz_14_13⟩ := hd.getz (j := 13) (s := 86) (by kernel_rfl) (by simp) rfl rfl
              exact givz_call (run_call rfl Tryd.func23 (by kernel_rfl) rfl (mapE2 (eval_tmp (hd.valz (j := 0) (s := 73) (by kernel_rfl) (by simp) rfl rfl)) (eval_tmp ey13))) hK.size ((by have h := kopen_any (ringS l) [shOf kl nz qa, shOf kl nz qb, shOf kl nz qc] vz4a vz_14_13 W (HG.below (M11.grow hK.below).below) (Sl.own (hO31.grow hK.below)) (ringS_c32 l) (ringS_wr h32) (Sl.ofOwns hz_14_13) (by rw [ringS_len]; omega) (by simp); rw [(three_open hkl h32 hqa5 hqb5 hqc5 hab hac hbc)] at h; exact h))
            · refine .val 72 rfl (by simp) (by simp) (by simp) fun a W hK hh hd => ⟨wanted_yes rfl, ?_⟩
              obtain ⟨_, ey14, ⟨_, _, rfl, ⟨vz_15_14a, rfl, hz_15_14a⟩, rfl⟩⟩ := hd.getz (j := 14) (s := 87) (by kernel_rfl) (by simp) rfl rfl
              exact givz_run (run_mv rfl (eval_tmp ey14)) ⟨_, _, rfl, ⟨_, rfl, hz_15_14a⟩, rfl⟩
            · refine .val 88 rfl (by simp) (by simp) (by simp) fun a W hK hh hd => ⟨wanted_yes rfl, ?_⟩
              obtain ⟨_, ey15, ⟨_, _, rfl, ⟨vz_16_15a, rfl, hz_16_15a⟩, rfl⟩⟩ := hd.getz (j := 15) (s := 72) (by kernel_rfl) (by simp) rfl rfl
              exact givz_run (run_ext rfl (eval_tmp ey15) rfl) ⟨_, rfl, hz_16_15a⟩
            · refine .val 89 rfl (by simp) (by simp) (by simp) fun a W hK hh hd => ⟨wanted_yes rfl, ?_⟩
              obtain ⟨_, ey15, ⟨_, _, rfl, ⟨vz_17_15a, rfl, hz_17_15a⟩, rfl⟩⟩ := hd.getz (j := 15) (s := 72) (by kernel_rfl) (by simp) rfl rfl
              exact givz_run (run_ext rfl (eval_tmp ey15) rfl) rfl
            · exact .new 0 _ rfl rfl rfl (by simp) (by simp) (by simp) (fun y e hy he => by rcases y with _ | _ | y <;> simp at hy <;> (try subst hy) <;> simp at he ⊢) fun a W => ⟨wanted_yes rfl, run_alloc rfl (by kernel_rfl)⟩
            · refine .put 0 _ rfl rfl rfl (by simp) (by simp) (by simp) (fun y e hy he => by rcases y with _ | _ | y <;> simp at hy <;> (try subst hy) <;> simp at he ⊢) (by kernel_rfl) 1 30 _ _ rfl rfl (fun a W hK hh hd => ?_) rfl szKy rfl
              obtain ⟨_, ey16, ⟨vz_19_16, rfl, hz_19_16⟩⟩ := hd.getz (j := 16) (s := 88) (by kernel_rfl) (by simp) rfl rfl
              rw [show a.eval _ = _ from (eval_tmp ey16)]
              exact ⟨⟨_, rfl, hz_19_16⟩, rfl, (one_own hz_19_16)⟩
            · refine .val 18 rfl (by simp) (by simp) (by simp) fun a W hK hh hd => ⟨wanted_yes rfl, ?_⟩
              exact givz_run (run_as rfl (eval_tmp (hd.valz (j := 17) (s := 89) (by kernel_rfl) (by simp) rfl rfl))) rfl
          have e18_ : a50.tmps[18]? = some (.int .i64 0) := by
            obtain ⟨vq, hq1, hq2⟩ := hI.val 20 _ 18 rfl rfl rfl (by simp) (fun _ h => by cases h)
            rw [hq1]
            exact congrArg some hq2
          obtain ⟨pg7, qg7, _, fg7⟩ := hI.blk 0 _ rfl rfl
          generalize gs 0 = g7 at pg7 qg7 fg7
          obtain ⟨_, Bg7, ⟨vz8_, rfl, hz8_⟩⟩ := fg7 rfl
          have Bg7 : Blk w12 g7 30 (#[vz8_]) := Bg7
          have hb12 := KeepW.below hI.keep
          have M12 := M11.grow hb12
          have hO36 := hO31.grow hb12
          have hO37 := hO32.grow hb12
          have hO38 := hO33.grow hb12
          have hO39 := hO34.grow hb12
          have hO40 := hO35.grow hb12
          have hO41 := OwnR.ofCall M11 (show World.ownsRow w12 _ 23 32 vz8_ l.length (l.flatMap dgC) from hz8_)
          have hO42 := hO36.addFar (S := isB 30 (#[vz8_])) (own_ne_ge hO31.owns qg7)
          have hO43 := hO37.addFar (S := isB 30 (#[vz8_])) (own_ne_ge hO32.owns qg7)
          have hO44 := hO38.addFar (S := isB 30 (#[vz8_])) (own_ne_ge hO33.owns qg7)
          have hO45 := hO39.addFar (S := isB 30 (#[vz8_])) (own_ne_ge hO34.owns qg7)
          have hO46 := hO40.addFar (S := isB 30 (#[vz8_])) (own_ne_ge hO35.owns qg7)
          have hO47 := hO41.addFar (S := isB 30 (#[vz8_])) (own_ne_ty hO41.owns Bg7 (by kernel_rfl))
          have M13 := M12.put1 (cs := #[vz8_]) (Nat.le_trans M11.below.size qg7) Bg7 (mem_far_new M11 qg7)
          have F50 : Fr a50 161 [(0, v), (1, (.agg (cells8 nz))), (2, (.agg (cells8 [p0, p1, p2]))), (3, (.int .u8 (b.toNat : Int))), (5, (.pointer (some ⟨g0, 0, none⟩))), (8, (.bool false)), (9, (.pointer (some ⟨g5, 0, none⟩))), (10, (.pointer (some ⟨g6, 0, none⟩))), (11, vz4c), (12, (.bool true)), (14, (.int .i64 (qa : Int))), (15, (.int .i64 (qb : Int))), (16, (.int .i64 (qc : Int))), (17, (.pointer (some ⟨g7, 0, none⟩))), (18, (.int .i64 0)), (22, (.bool true)), (23, (.bool false)), (24, v), (25, (.int .i64 (l.length : Int))), (26, (.bool false)), (27, (.bool false)), (28, v), (29, (.int .i64 (l.length : Int))), (30, (.bool false)), (31, (.bool false)), (32, (.bool false)), (33, v), (34, (.bool true)), (35, (.bool false)), (36, (.bool false)), (37, (.tuple #[(.agg #[vz4a]), (.agg #[vz4b]), vz4c, (.bool true)])), (38, v), (39, (.slice (some ⟨g0, 0, none⟩) 64 64)), (40, (.string ⟨nz.toArray⟩)), (41, (.tuple #[(.agg #[vz4a]), (.agg #[vz4b]), vz4c, (.bool true)])), (42, (.agg #[vz4a])), (43, (.agg #[vz4b])), (44, vz4c), (45, (.bool true)), (46, (.bool true)), (47, (.bool false)), (48, (.bool false)), (49, (.agg #[vz4a])), (50, (.agg #[vz4b])), (51, (.int .i64 0)), (52, (.bool false)), (53, (.bool false)), (54, vz4c), (55, vz4c), (56, (.int .i64 (US4c.length : Int))), (57, (.int .i64 ((l.length - 1 : Nat) : Int))), (58, (slPtr vz4c ((l.length - 1) * 1))), (59, ul)] := fr_of_holds hI.tsz (hI.defers.trans F49.defers) ⟨hI.had 0 _ rfl (F49.at 0 rfl), hI.had 1 _ rfl (F49.at 1 rfl), hI.had 2 _ rfl (F49.at 2 rfl), hI.had 3 _ rfl (F49.at 3 rfl), hI.had 5 _ rfl (F49.at 5 rfl), hI.had 8 _ rfl (F49.at 8 rfl), hI.had 9 _ rfl (F49.at 9 rfl), hI.had 10 _ rfl (F49.at 10 rfl), hI.had 11 _ rfl (F49.at 11 rfl), hI.had 12 _ rfl (F49.at 12 rfl), hI.had 14 _ rfl (F49.at 14 rfl), hI.had 15 _ rfl (F49.at 15 rfl), hI.had 16 _ rfl (F49.at 16 rfl), pg7, e18_, hI.had 22 _ rfl (F49.at 22 rfl), hI.had 23 _ rfl (F49.at 23 rfl), hI.had 24 _ rfl (F49.at 24 rfl), hI.had 25 _ rfl (F49.at 25 rfl), hI.had 26 _ rfl (F49.at 26 rfl), hI.had 27 _ rfl (F49.at 27 rfl), hI.had 28 _ rfl (F49.at 28 rfl), hI.had 29 _ rfl (F49.at 29 rfl), hI.had 30 _ rfl (F49.at 30 rfl), hI.had 31 _ rfl (F49.at 31 rfl), hI.had 32 _ rfl (F49.at 32 rfl), hI.had 33 _ rfl (F49.at 33 rfl), hI.had 34 _ rfl (F49.at 34 rfl), hI.had 35 _ rfl (F49.at 35 rfl), hI.had 36 _ rfl (F49.at 36 rfl), hI.had 37 _ rfl (F49.at 37 rfl), hI.had 38 _ rfl (F49.at 38 rfl), hI.had 39 _ rfl (F49.at 39 rfl), hI.had 40 _ rfl (F49.at 40 rfl), hI.had 41 _ rfl (F49.at 41 rfl), hI.had 42 _ rfl (F49.at 42 rfl), hI.had 43 _ rfl (F49.at 43 rfl), hI.had 44 _ rfl (F49.at 44 rfl), hI.had 45 _ rfl (F49.at 45 rfl), hI.had 46 _ rfl (F49.at 46 rfl), hI.had 47 _ rfl (F49.at 47 rfl), hI.had 48 _ rfl (F49.at 48 rfl), hI.had 49 _ rfl (F49.at 49 rfl), hI.had 50 _ rfl (F49.at 50 rfl), hI.had 51 _ rfl (F49.at 51 rfl), hI.had 52 _ rfl (F49.at 52 rfl), hI.had 53 _ rfl (F49.at 53 rfl), hI.had 54 _ rfl (F49.at 54 rfl), hI.had 55 _ rfl (F49.at 55 rfl), hI.had 56 _ rfl (F49.at 56 rfl), hI.had 57 _ rfl (F49.at 57 rfl), hI.had 58 _ rfl (F49.at 58 rfl), hI.had 59 _ rfl (F49.at 59 rfl), trivial⟩
          clear F49 M11 M12
          refine nx ?_
          refine wp_seq ?_
          refine wsl ?_
          refine mvS F50 rfl rfl rfl rfl rfl fun a51 F51 => ?_
          refine mvS F51 rfl rfl rfl rfl rfl fun a52 F52 => ?_
          refine sr (v := (.bool false)) F52 (run_eqi rfl (F52.ev 90 rfl) (F52.ev 91 rfl) (beq_eq_false_iff_ne.2 (by omega))) rfl rfl rfl fun a53 F53 => ?_
          refine mvS F53 rfl rfl rfl rfl rfl fun a54 F54 => ?_
          refine sq (v := (.int .i64 (qa : Int))) F54 (wantedG F54 rfl rfl rfl rfl rfl) (run_mv rfl (F54.ev 14 rfl)) rfl (by decide) fun a55 F55 => ?_
          refine sq (v := (.int .i64 (qc : Int))) F55 (wantedG F55 rfl rfl rfl rfl rfl) (run_mv rfl (F55.ev 16 rfl)) rfl (by decide) fun a56 F56 => ?_
          refine sq (v := (.bool false)) F56 (wantedG F56 rfl rfl rfl rfl rfl) (run_eqi rfl (F56.ev 94 rfl) (F56.ev 95 rfl) (beq_eq_false_iff_ne.2 (by omega))) rfl (by decide) fun a57 F57 => ?_
          refine sr (v := (.bool false)) F57 (run_pick rfl (F57.ev 93 rfl) rfl (F57.ev 96 rfl)) rfl rfl rfl fun a58 F58 => ?_
          refine mvS F58 rfl rfl rfl rfl rfl fun a59 F59 => ?_
          refine sq (v := (.int .i64 (qb : Int))) F59 (wantedG F59 rfl rfl rfl rfl rfl) (run_mv rfl (F59.ev 15 rfl)) rfl (by decide) fun a60 F60 => ?_
          refine sq (v := (.int .i64 (qc : Int))) F60 (wantedG F60 rfl rfl rfl rfl rfl) (run_mv rfl (F60.ev 16 rfl)) rfl (by decide) fun a61 F61 => ?_
          refine sq (v := (.bool false)) F61 (wantedG F61 rfl rfl rfl rfl rfl) (run_eqi rfl (F61.ev 99 rfl) (F61.ev 100 rfl) (beq_eq_false_iff_ne.2 (by omega))) rfl (by decide) fun a62 F62 => ?_
          refine sr (v := (.bool false)) F62 (run_pick rfl (F62.ev 98 rfl) rfl (F62.ev 101 rfl)) rfl rfl rfl fun a63 F63 => ?_
          refine sn ?_
          clear F50 F51 F52 F53 F54 F55 F56 F57 F58 F59 F60 F61 F62
          refine cfs (F63.ev 102 rfl) ?_
          refine wp_seq ?_
          refine wsl ?_
          refine mvS F63 rfl rfl rfl rfl rfl fun a64 F64 => ?_
          refine sr (v := (.bool false)) F64 (run_nei rfl (F64.ev 105 rfl) rfl (bne_self_eq_false _)) rfl rfl rfl fun a65 F65 => ?_
          refine mvS F65 rfl rfl rfl rfl rfl fun a66 F66 => ?_
          refine sq (v := (.agg #[vz8_])) F66 (wantedG F66 rfl rfl rfl rfl rfl) (run_ldB rfl (F66.ev 17 rfl) (M13.at 0 rfl) Tryd.underlying30 rfl szKy rfl) rfl (by decide) fun a67 F67 => ?_
          refine sq (v := (.agg #[vz4b])) F67 (wantedG F67 rfl rfl rfl rfl rfl) (run_ldB rfl (F67.ev 10 rfl) (M13.at 1 rfl) Tryd.underlying30 rfl szKy rfl) rfl (by decide) fun a68 F68 => ?_
          refine sqC (v := (.bool true)) F68 M13 (wantedG F68 rfl rfl rfl rfl rfl) (run_call rfl Tryd.func16 (by kernel_rfl) rfl (mapE2 (F68.ev 108 rfl) (F68.ev 109 rfl))) rfl (by decide) (samek_any l vz8_ vz4b w12 (Sl.own hO47) (Sl.own hO43) h32 (by omega)) fun a69 w13 hb13 F69 M14 => ?_
          have hO48 := hO42.grow hb13
          have hO49 := hO43.grow hb13
          have hO50 := hO44.grow hb13
          have hO51 := hO45.grow hb13
          have hO52 := hO46.grow hb13
          have hO53 := hO47.grow hb13
          refine sq (v := (.bool false)) F69 (wantedG F69 rfl rfl rfl rfl rfl) (run_not rfl (F69.ev 110 rfl)) rfl (by decide) fun a70 F70 => ?_
          refine sr (v := (.bool false)) F70 (run_pick rfl (F70.ev 107 rfl) rfl (F70.ev 111 rfl)) rfl rfl rfl fun a71 F71 => ?_
          refine sn ?_
          clear F63 F64 F65 F66 F67 F68 F69 F70 M13
          refine cfs (F71.ev 112 rfl) ?_
          refine wsl ?_
          refine mvS F71 rfl rfl rfl rfl rfl fun a72 F72 => ?_
          refine sr F72 (run_cvI (r := (b.toNat : Int)) rfl (F72.ev 113 rfl) Tryd.underlying5 Tryd.underlying3 (by rw [IntKind.wrap_i64]; omega)) rfl rfl rfl fun a73 F73 => ?_
          refine mvS F73 rfl rfl rfl rfl rfl fun a74 F74 => ?_
          refine sr F74 (run_lenS rfl (F74.ev 115 rfl) (hV.below M14.below) rfl Tryd.underlying28) rfl rfl rfl fun a75 F75 => ?_
          refine sr (v := (.int .i64 (q : Int))) F75 (run_rem (r := (q : Int)) rfl (F75.ev 114 rfl) (F75.ev 116 rfl) (by omega) (by rw [Int.tmod_eq_emod_of_nonneg (by omega), ← hq]; rfl)) rfl rfl rfl fun a76 F76 => ?_
          refine asS F76 rfl rfl rfl rfl rfl fun a77 F77 => ?_
          refine sn ?_
          clear F71 F72 F73 F74 F75 F76
          refine wp_seq ?_
          refine wp_region_p 161 [.val (.agg #[vz4a]), .val vz4c, .val (.int .i64 (q : Int)), .val (slPtr vz4c (q * 1)), .val uz, .val (.int .i64 (qa : Int)), .val (slPtr uz (qa * 33)), .val (.agg (shareC (shOf k nz qa)).toArray), .val vz4c, .val (.int .i64 (q : Int)), .val (slPtr vz4c (q * 1)), .val uz, .val (.int .i64 (qb : Int)), .val (slPtr uz (qb * 33)), .val (.agg (shareC (shOf k nz qb)).toArray), .val vz4c, .val (.int .i64 (q : Int)), .val (slPtr vz4c (q * 1)), .val uz, .val (.int .i64 (qc : Int)), .val (slPtr uz (qc * 33)), .val (.agg (shareC (shOf k nz qc)).toArray), .row 54 33 3 ([shOf k nz qa, shOf k nz qb, shOf k nz qc].flatMap shareC), .tup2 (.st (.row 23 32 l.length (l.flatMap dgC))) (.val (.int .i64 0)), .tup2 (.st (.row 23 32 l.length (l.flatMap dgC))) (.val (.int .i64 0)), .st (.row 23 32 l.length (l.flatMap dgC)), .val (.int .i64 0), .any, .any, .val (.int .i64 0)] [] [⟨27, 20, 28, 30, #[.slice none 0 0], .st (.row 23 32 l.length (l.flatMap dgC))⟩] [] [] (by kernel_rfl) (by kernel_rfl) F77.size ?_ ?_ ?_ ?_ (by kernel_rfl) ?_ fun a78 w14 gs hI => ?_
          · intro d hd
            simp only [List.mem_cons, List.not_mem_nil, or_false] at hd
            rcases hd with rfl <;> exact ⟨Nat.le_of_ble_eq_true (by kernel_rfl), _, rfl, rfl⟩
          · intro b hb
            cases hb
          · intro x y b c hx hy hne
            simp at hx
          · intro r hr
            cases hr
          · refine ⟨?_, ?_, ?_, ?_, ?_, ?_, ?_, ?_, ?_, ?_, ?_, ?_, ?_, ?_, ?_, ?_, ?_, ?_, ?_, ?_, ?_, ?_, ?_, ?_, ?_, ?_, ?_, ?_, ?_, ?_, trivial⟩
            · refine .val 119 rfl (by simp) (by simp) (by simp) fun a W hK hh hd => ⟨wanted_yes rfl, ?_⟩
              exact givz_run (run_ldB rfl (eval_tmp (hh 9 _ rfl (F77.at 9 rfl))) ((M14.grow hK.below).at 2 rfl) Tryd.underlying27 rfl szRg rfl) rfl
            · refine .val 120 rfl (by simp) (by simp) (by simp) fun a W hK hh hd => ⟨wanted_yes rfl, ?_⟩
              exact givz_run (run_mv rfl (eval_tmp (hh 11 _ rfl (F77.at 11 rfl)))) rfl
            · refine .val 121 rfl (by simp) (by simp) (by simp) fun a W hK hh hd => ⟨wanted_yes rfl, ?_⟩
              exact givz_run (run_mv rfl (eval_tmp (hh 19 _ rfl (F77.at 19 rfl)))) rfl
            · refine .val 122 rfl (by simp) (by simp) (by simp) fun a W hK hh hd => ⟨wanted_yes rfl, ?_⟩
              exact givz_run (run_atP (i := q) rfl (eval_tmp (hd.valz (j := 1) (s := 120) (by kernel_rfl) (by simp) rfl rfl)) (eval_tmp (hd.valz (j := 2) (s := 121) (by kernel_rfl) (by simp) rfl rfl)) rfl (Sl.own (hO50.grow hK.below)) (by omega) elSl.un (by kernel_rfl)) rfl
            · refine .val 123 rfl (by simp) (by simp) (by simp) fun a W hK hh hd => ⟨wanted_yes rfl, ?_⟩
              exact givz_run (run_ldP rfl (eval_tmp (hd.valz (j := 3) (s := 122) (by kernel_rfl) (by simp) rfl rfl)) (Sl.own (hO50.grow hK.below)) (by rw [Nat.mul_one]; exact hUuz) (by kernel_rfl)) rfl
            · refine .val 124 rfl (by simp) (by simp) (by simp) fun a W hK hh hd => ⟨wanted_yes rfl, ?_⟩
              exact givz_run (run_mv rfl (eval_tmp (hh 14 _ rfl (F77.at 14 rfl)))) rfl
            · refine .val 125 rfl (by simp) (by simp) (by simp) fun a W hK hh hd => ⟨wanted_yes rfl, ?_⟩
              exact givz_run (run_atP (i := qa) rfl (eval_tmp (hd.valz (j := 4) (s := 123) (by kernel_rfl) (by simp) rfl rfl)) (eval_tmp (hd.valz (j := 5) (s := 124) (by kernel_rfl) (by simp) rfl rfl)) rfl (Sl.own (hO52.grow hK.below)) (by omega) eltSh.un (by kernel_rfl)) rfl
            · refine .val 126 rfl (by simp) (by simp) (by simp) fun a W hK hh hd => ⟨wanted_yes rfl, ?_⟩
              exact givz_run (run_ldPS (ys := shareC (shOf k nz qa)) rfl (eval_tmp (hd.valz (j := 6) (s := 125) (by kernel_rfl) (by simp) rfl rfl)) (Sl.own (hO52.grow hK.below)) (by omega) (fun j u hj => flat_at shareC_len (shS_at hqa5) j hj) (by kernel_rfl) (by kernel_rfl)) rfl
            · refine .val 127 rfl (by simp) (by simp) (by simp) fun a W hK hh hd => ⟨wanted_yes rfl, ?_⟩
              exact givz_run (run_mv rfl (eval_tmp (hh 11 _ rfl (F77.at 11 rfl)))) rfl
            · refine .val 128 rfl (by simp) (by simp) (by simp) fun a W hK hh hd => ⟨wanted_yes rfl, ?_⟩
              exact givz_run (run_mv rfl (eval_tmp (hh 19 _ rfl (F77.at 19 rfl)))) rfl
            · refine .val 129 rfl (by simp) (by simp) (by simp) fun a W hK hh hd => ⟨wanted_yes rfl, ?_⟩
              exact givz_run (run_atP (i := q) rfl (eval_tmp (hd.valz (j := 8) (s := 127) (by kernel_rfl) (by simp) rfl rfl)) (eval_tmp (hd.valz (j := 9) (s := 128) (by kernel_rfl) (by simp) rfl rfl)) rfl (Sl.own (hO50.grow hK.below)) (by omega) elSl.un (by kernel_rfl)) rfl
            · refine .val 130 rfl (by simp) (by simp) (by simp) fun a W hK hh hd => ⟨wanted_yes rfl, ?_⟩
              exact givz_run (run_ldP rfl (eval_tmp (hd.valz (j := 10) (s := 129) (by kernel_rfl) (by simp) rfl rfl)) (Sl.own (hO50.grow hK.below)) (by rw [Nat.mul_one]; exact hUuz) (by kernel_rfl)) rfl
            · refine .val 131 rfl (by simp) (by simp) (by simp) fun a W hK hh hd => ⟨wanted_yes rfl, ?_⟩
              exact givz_run (run_mv rfl (eval_tmp (hh 15 _ rfl (F77.at 15 rfl)))) rfl
            · refine .val 132 rfl (by simp) (by simp) (by simp) fun a W hK hh hd => ⟨wanted_yes rfl, ?_⟩
              exact givz_run (run_atP (i := qb) rfl (eval_tmp (hd.valz (j := 11) (s := 130) (by kernel_rfl) (by simp) rfl rfl)) (eval_tmp (hd.valz (j := 12) (s := 131) (by kernel_rfl) (by simp) rfl rfl)) rfl (Sl.own (hO52.grow hK.below)) (by omega) eltSh.un (by kernel_rfl)) rfl
            · refine .val 133 rfl (by simp) (by simp) (by simp) fun a W hK hh hd => ⟨wanted_yes rfl, ?_⟩
              exact givz_run (run_ldPS (ys := shareC (shOf k nz qb)) rfl (eval_tmp (hd.valz (j := 13) (s := 132) (by kernel_rfl) (by simp) rfl rfl)) (Sl.own (hO52.grow hK.below)) (by omega) (fun j u hj => flat_at shareC_len (shS_at hqb5) j hj) (by kernel_rfl) (by kernel_rfl)) rfl
            · refine .val 134 rfl (by simp) (by simp) (by simp) fun a W hK hh hd => ⟨wanted_yes rfl, ?_⟩
              exact givz_run (run_mv rfl (eval_tmp (hh 11 _ rfl (F77.at 11 rfl)))) rfl
            · refine .val 135 rfl (by simp) (by simp) (by simp) fun a W hK hh hd => ⟨wanted_yes rfl, ?_⟩
              exact givz_run (run_mv rfl (eval_tmp (hh 19 _ rfl (F77.at 19 rfl)))) rfl
            · refine .val 136 rfl (by simp) (by simp) (by simp) fun a W hK hh hd => ⟨wanted_yes rfl, ?_⟩
              exact givz_run (run_atP (i := q) rfl (eval_tmp (hd.valz (j := 15) (s := 134) (by kernel_rfl) (by simp) rfl rfl)) (eval_tmp (hd.valz (j := 16) (s := 135) (by kernel_rfl) (by simp) rfl rfl)) rfl (Sl.own (hO50.grow hK.below)) (by omega) elSl.un (by kernel_rfl)) rfl
            · refine .val 137 rfl (by simp) (by simp) (by simp) fun a W hK hh hd => ⟨wanted_yes rfl, ?_⟩
              exact givz_run (run_ldP rfl (eval_tmp (hd.valz (j := 17) (s := 136) (by kernel_rfl) (by simp) rfl rfl)) (Sl.own (hO50.grow hK.below)) (by rw [Nat.mul_one]; exact hUuz) (by kernel_rfl)) rfl
            · refine .val 138 rfl (by simp) (by simp) (by simp) fun a W hK hh hd => ⟨wanted_yes rfl, ?_⟩
              exact givz_run (run_mv rfl (eval_tmp (hh 16 _ rfl (F77.at 16 rfl)))) rfl
            · refine .val 139 rfl (by simp) (by simp) (by simp) fun a W hK hh hd => ⟨wanted_yes rfl, ?_⟩
              exact givz_run (run_atP (i := qc) rfl (eval_tmp (hd.valz (j := 18) (s := 137) (by kernel_rfl) (by simp) rfl rfl)) (eval_tmp (hd.valz (j := 19) (s := 138) (by kernel_rfl) (by simp) rfl rfl)) rfl (Sl.own (hO52.grow hK.below)) (by omega) eltSh.un (by kernel_rfl)) rfl
            · refine .val 140 rfl (by simp) (by simp) (by simp) fun a W hK hh hd => ⟨wanted_yes rfl, ?_⟩
              exact givz_run (run_ldPS (ys := shareC (shOf k nz qc)) rfl (eval_tmp (hd.valz (j := 20) (s := 139) (by kernel_rfl) (by simp) rfl rfl)) (Sl.own (hO52.grow hK.below)) (by omega) (fun j u hj => flat_at shareC_len (shS_at hqc5) j hj) (by kernel_rfl) (by kernel_rfl)) rfl
            · refine .val 141 rfl (by simp) (by simp) (by simp) fun a W hK hh hd => ⟨wanted_yes rfl, ?_⟩
              exact givz_newRow 54 (List.toArray ([shOf k nz qa, shOf k nz qb, shOf k nz qc].flatMap shareC)) 33 3 hK.size (by rw [List.size_toArray]; exact flat_lenG shareC_len _) (by decide) (run_shs3 rfl (eval_tmp (hd.valz (j := 7) (s := 126) (by kernel_rfl) (by simp) rfl rfl)) (eval_tmp (hd.valz (j := 14) (s := 133) (by kernel_rfl) (by simp) rfl rfl)) (eval_tmp (hd.valz (j := 21) (s := 140) (by kernel_rfl) (by simp) rfl rfl)))
            · refine .val 142 rfl (by simp) (by simp) (by simp) fun a W hK hh hd => ⟨wanted_yes rfl, ?_⟩
              obtain ⟨vz_23_22, ey22, hz_23_22⟩ := hd.getz (j := 22) (s := 141) (by kernel_rfl) (by simp) rfl rfl
              exact givz_call (run_call rfl Tryd.func23 (by kernel_rfl) rfl (mapE2 (eval_tmp (hd.valz (j := 0) (s := 119) (by kernel_rfl) (by simp) rfl rfl)) (eval_tmp ey22))) hK.size ((by have h := kopen_any (ringS l) [shOf k nz qa, shOf k nz qb, shOf k nz qc] vz4a vz_23_22 W (HG.below (M14.grow hK.below).below) (Sl.own (hO48.grow hK.below)) (ringS_c32 l) (ringS_wr h32) (Sl.ofOwns hz_23_22) (by rw [ringS_len]; omega) (by simp); rw [(three_open (by rw [← hqe]; exact hk) h32 hqa5 hqb5 hqc5 hab hac hbc)] at h; exact h))
            · refine .val 118 rfl (by simp) (by simp) (by simp) fun a W hK hh hd => ⟨wanted_yes rfl, ?_⟩
              obtain ⟨_, ey23, ⟨_, _, rfl, ⟨vz_24_23a, rfl, hz_24_23a⟩, rfl⟩⟩ := hd.getz (j := 23) (s := 142) (by kernel_rfl) (by simp) rfl rfl
              exact givz_run (run_mv rfl (eval_tmp ey23)) ⟨_, _, rfl, ⟨_, rfl, hz_24_23a⟩, rfl⟩
            · refine .val 143 rfl (by simp) (by simp) (by simp) fun a W hK hh hd => ⟨wanted_yes rfl, ?_⟩
              obtain ⟨_, ey24, ⟨_, _, rfl, ⟨vz_25_24a, rfl, hz_25_24a⟩, rfl⟩⟩ := hd.getz (j := 24) (s := 118) (by kernel_rfl) (by simp) rfl rfl
              exact givz_run (run_ext rfl (eval_tmp ey24) rfl) ⟨_, rfl, hz_25_24a⟩
            · refine .val 144 rfl (by simp) (by simp) (by simp) fun a W hK hh hd => ⟨wanted_yes rfl, ?_⟩
              obtain ⟨_, ey24, ⟨_, _, rfl, ⟨vz_26_24a, rfl, hz_26_24a⟩, rfl⟩⟩ := hd.getz (j := 24) (s := 118) (by kernel_rfl) (by simp) rfl rfl
              exact givz_run (run_ext rfl (eval_tmp ey24) rfl) rfl
            · exact .new 0 _ rfl rfl rfl (by simp) (by simp) (by simp) (fun y e hy he => by rcases y with _ | _ | y <;> simp at hy <;> (try subst hy) <;> simp at he ⊢) fun a W => ⟨wanted_yes rfl, run_alloc rfl (by kernel_rfl)⟩
            · refine .put 0 _ rfl rfl rfl (by simp) (by simp) (by simp) (fun y e hy he => by rcases y with _ | _ | y <;> simp at hy <;> (try subst hy) <;> simp at he ⊢) (by kernel_rfl) 1 30 _ _ rfl rfl (fun a W hK hh hd => ?_) rfl szKy rfl
              obtain ⟨_, ey25, ⟨vz_28_25, rfl, hz_28_25⟩⟩ := hd.getz (j := 25) (s := 143) (by kernel_rfl) (by simp) rfl rfl
              rw [show a.eval _ = _ from (eval_tmp ey25)]
              exact ⟨⟨_, rfl, hz_28_25⟩, rfl, (one_own hz_28_25)⟩
            · refine .val 21 rfl (by simp) (by simp) (by simp) fun a W hK hh hd => ⟨wanted_yes rfl, ?_⟩
              exact givz_run (run_as rfl (eval_tmp (hd.valz (j := 26) (s := 144) (by kernel_rfl) (by simp) rfl rfl))) rfl
          have e21_ : a78.tmps[21]? = some (.int .i64 0) := by
            obtain ⟨vq, hq1, hq2⟩ := hI.val 29 _ 21 rfl rfl rfl (by simp) (fun _ h => by cases h)
            rw [hq1]
            exact congrArg some hq2
          obtain ⟨pg9, qg9, _, fg9⟩ := hI.blk 0 _ rfl rfl
          generalize gs 0 = g9 at pg9 qg9 fg9
          obtain ⟨_, Bg9, ⟨vz10_, rfl, hz10_⟩⟩ := fg9 rfl
          have Bg9 : Blk w14 g9 30 (#[vz10_]) := Bg9
          have hb14 := KeepW.below hI.keep
          have M15 := M14.grow hb14
          have hO54 := hO48.grow hb14
          have hO55 := hO49.grow hb14
          have hO56 := hO50.grow hb14
          have hO57 := hO51.grow hb14
          have hO58 := hO52.grow hb14
          have hO59 := hO53.grow hb14
          have hO60 := OwnR.ofCall M14 (show World.ownsRow w14 _ 23 32 vz10_ l.length (l.flatMap dgC) from hz10_)
          have hO61 := hO54.addFar (S := isB 30 (#[vz10_])) (own_ne_ge hO48.owns qg9)
          have hO62 := hO55.addFar (S := isB 30 (#[vz10_])) (own_ne_ge hO49.owns qg9)
          have hO63 := hO56.addFar (S := isB 30 (#[vz10_])) (own_ne_ge hO50.owns qg9)
          have hO64 := hO57.addFar (S := isB 30 (#[vz10_])) (own_ne_ge hO51.owns qg9)
          have hO65 := hO58.addFar (S := isB 30 (#[vz10_])) (own_ne_ge hO52.owns qg9)
          have hO66 := hO59.addFar (S := isB 30 (#[vz10_])) (own_ne_ge hO53.owns qg9)
          have hO67 := hO60.addFar (S := isB 30 (#[vz10_])) (own_ne_ty hO60.owns Bg9 (by kernel_rfl))
          have M16 := M15.put1 (cs := #[vz10_]) (Nat.le_trans M14.below.size qg9) Bg9 (mem_far_new M14 qg9)
          have F78 : Fr a78 161 [(0, v), (1, (.agg (cells8 nz))), (2, (.agg (cells8 [p0, p1, p2]))), (3, (.int .u8 (b.toNat : Int))), (5, (.pointer (some ⟨g0, 0, none⟩))), (8, (.bool false)), (9, (.pointer (some ⟨g5, 0, none⟩))), (10, (.pointer (some ⟨g6, 0, none⟩))), (11, vz4c), (12, (.bool true)), (14, (.int .i64 (qa : Int))), (15, (.int .i64 (qb : Int))), (16, (.int .i64 (qc : Int))), (17, (.pointer (some ⟨g7, 0, none⟩))), (18, (.int .i64 0)), (19, (.int .i64 (q : Int))), (21, (.int .i64 0)), (22, (.bool true)), (23, (.bool false)), (24, v), (25, (.int .i64 (l.length : Int))), (26, (.bool false)), (27, (.bool false)), (28, v), (29, (.int .i64 (l.length : Int))), (30, (.bool false)), (31, (.bool false)), (32, (.bool false)), (33, v), (34, (.bool true)), (35, (.bool false)), (36, (.bool false)), (37, (.tuple #[(.agg #[vz4a]), (.agg #[vz4b]), vz4c, (.bool true)])), (38, v), (39, (.slice (some ⟨g0, 0, none⟩) 64 64)), (40, (.string ⟨nz.toArray⟩)), (41, (.tuple #[(.agg #[vz4a]), (.agg #[vz4b]), vz4c, (.bool true)])), (42, (.agg #[vz4a])), (43, (.agg #[vz4b])), (44, vz4c), (45, (.bool true)), (46, (.bool true)), (47, (.bool false)), (48, (.bool false)), (49, (.agg #[vz4a])), (50, (.agg #[vz4b])), (51, (.int .i64 0)), (52, (.bool false)), (53, (.bool false)), (54, vz4c), (55, vz4c), (56, (.int .i64 (US4c.length : Int))), (57, (.int .i64 ((l.length - 1 : Nat) : Int))), (58, (slPtr vz4c ((l.length - 1) * 1))), (59, ul), (90, (.int .i64 (qa : Int))), (91, (.int .i64 (qb : Int))), (92, (.bool false)), (93, (.bool false)), (94, (.int .i64 (qa : Int))), (95, (.int .i64 (qc : Int))), (96, (.bool false)), (97, (.bool false)), (98, (.bool false)), (99, (.int .i64 (qb : Int))), (100, (.int .i64 (qc : Int))), (101, (.bool false)), (102, (.bool false)), (105, (.int .i64 0)), (106, (.bool false)), (107, (.bool false)), (108, (.agg #[vz8_])), (109, (.agg #[vz4b])), (110, (.bool true)), (111, (.bool false)), (112, (.bool false)), (113, (.int .u8 (b.toNat : Int))), (114, (.int .i64 (b.toNat : Int))), (115, v), (116, (.int .i64 (l.length : Int))), (117, (.int .i64 (q : Int)))] := fr_of_holds hI.tsz (hI.defers.trans F77.defers) ⟨hI.had 0 _ rfl (F77.at 0 rfl), hI.had 1 _ rfl (F77.at 1 rfl), hI.had 2 _ rfl (F77.at 2 rfl), hI.had 3 _ rfl (F77.at 3 rfl), hI.had 5 _ rfl (F77.at 5 rfl), hI.had 8 _ rfl (F77.at 8 rfl), hI.had 9 _ rfl (F77.at 9 rfl), hI.had 10 _ rfl (F77.at 10 rfl), hI.had 11 _ rfl (F77.at 11 rfl), hI.had 12 _ rfl (F77.at 12 rfl), hI.had 14 _ rfl (F77.at 14 rfl), hI.had 15 _ rfl (F77.at 15 rfl), hI.had 16 _ rfl (F77.at 16 rfl), hI.had 17 _ rfl (F77.at 17 rfl), hI.had 18 _ rfl (F77.at 18 rfl), hI.had 19 _ rfl (F77.at 19 rfl), e21_, hI.had 22 _ rfl (F77.at 22 rfl), hI.had 23 _ rfl (F77.at 23 rfl), hI.had 24 _ rfl (F77.at 24 rfl), hI.had 25 _ rfl (F77.at 25 rfl), hI.had 26 _ rfl (F77.at 26 rfl), hI.had 27 _ rfl (F77.at 27 rfl), hI.had 28 _ rfl (F77.at 28 rfl), hI.had 29 _ rfl (F77.at 29 rfl), hI.had 30 _ rfl (F77.at 30 rfl), hI.had 31 _ rfl (F77.at 31 rfl), hI.had 32 _ rfl (F77.at 32 rfl), hI.had 33 _ rfl (F77.at 33 rfl), hI.had 34 _ rfl (F77.at 34 rfl), hI.had 35 _ rfl (F77.at 35 rfl), hI.had 36 _ rfl (F77.at 36 rfl), hI.had 37 _ rfl (F77.at 37 rfl), hI.had 38 _ rfl (F77.at 38 rfl), hI.had 39 _ rfl (F77.at 39 rfl), hI.had 40 _ rfl (F77.at 40 rfl), hI.had 41 _ rfl (F77.at 41 rfl), hI.had 42 _ rfl (F77.at 42 rfl), hI.had 43 _ rfl (F77.at 43 rfl), hI.had 44 _ rfl (F77.at 44 rfl), hI.had 45 _ rfl (F77.at 45 rfl), hI.had 46 _ rfl (F77.at 46 rfl), hI.had 47 _ rfl (F77.at 47 rfl), hI.had 48 _ rfl (F77.at 48 rfl), hI.had 49 _ rfl (F77.at 49 rfl), hI.had 50 _ rfl (F77.at 50 rfl), hI.had 51 _ rfl (F77.at 51 rfl), hI.had 52 _ rfl (F77.at 52 rfl), hI.had 53 _ rfl (F77.at 53 rfl), hI.had 54 _ rfl (F77.at 54 rfl), hI.had 55 _ rfl (F77.at 55 rfl), hI.had 56 _ rfl (F77.at 56 rfl), hI.had 57 _ rfl (F77.at 57 rfl), hI.had 58 _ rfl (F77.at 58 rfl), hI.had 59 _ rfl (F77.at 59 rfl), hI.had 90 _ rfl (F77.at 90 rfl), hI.had 91 _ rfl (F77.at 91 rfl), hI.had 92 _ rfl (F77.at 92 rfl), hI.had 93 _ rfl (F77.at 93 rfl), hI.had 94 _ rfl (F77.at 94 rfl), hI.had 95 _ rfl (F77.at 95 rfl), hI.had 96 _ rfl (F77.at 96 rfl), hI.had 97 _ rfl (F77.at 97 rfl), hI.had 98 _ rfl (F77.at 98 rfl), hI.had 99 _ rfl (F77.at 99 rfl), hI.had 100 _ rfl (F77.at 100 rfl), hI.had 101 _ rfl (F77.at 101 rfl), hI.had 102 _ rfl (F77.at 102 rfl), hI.had 105 _ rfl (F77.at 105 rfl), hI.had 106 _ rfl (F77.at 106 rfl), hI.had 107 _ rfl (F77.at 107 rfl), hI.had 108 _ rfl (F77.at 108 rfl), hI.had 109 _ rfl (F77.at 109 rfl), hI.had 110 _ rfl (F77.at 110 rfl), hI.had 111 _ rfl (F77.at 111 rfl), hI.had 112 _ rfl (F77.at 112 rfl), hI.had 113 _ rfl (F77.at 113 rfl), hI.had 114 _ rfl (F77.at 114 rfl), hI.had 115 _ rfl (F77.at 115 rfl), hI.had 116 _ rfl (F77.at 116 rfl), hI.had 117 _ rfl (F77.at 117 rfl), trivial⟩
          clear F77 M14 M15
          refine nx ?_
          refine wsl ?_
          refine mvS F78 rfl rfl rfl rfl rfl fun a79 F79 => ?_
          refine sr (v := (.bool true)) F79 (run_eqi rfl (F79.ev 145 rfl) rfl (beq_self_eq_true _)) rfl rfl rfl fun a80 F80 => ?_
          refine mvS F80 rfl rfl rfl rfl rfl fun a81 F81 => ?_
          refine mvS F81 rfl rfl rfl rfl rfl fun a82 F82 => ?_
          refine sr F82 (run_lenS rfl (F82.ev 148 rfl) (hV.below M16.below) rfl Tryd.underlying28) rfl rfl rfl fun a83 F83 => ?_
          refine sr F83 (run_sub (r := ((l.length - 1 : Nat) : Int)) rfl (F83.ev 149 rfl) rfl (by rw [IntKind.wrap_i64]; omega)) rfl rfl rfl fun a84 F84 => ?_
          refine sr (v := (.bool true)) F84 (run_eqi rfl (F84.ev 147 rfl) (F84.ev 150 rfl) (beq_iff_eq.2 (by omega))) rfl rfl rfl fun a85 F85 => ?_
          refine sr (v := (.bool true)) F85 (run_eqb rfl (F85.ev 146 rfl) (F85.ev 151 rfl) Tryd.underlying4 (beq_self_eq_true _)) rfl rfl rfl fun a86 F86 => ?_
          refine mvS F86 rfl rfl rfl rfl rfl fun a87 F87 => ?_
          refine sq (v := (.int .i64 0)) F87 (wantedG F87 rfl rfl rfl rfl rfl) (run_mv rfl (F87.ev 21 rfl)) rfl (by decide) fun a88 F88 => ?_
          refine sq (v := (.bool true)) F88 (wantedG F88 rfl rfl rfl rfl rfl) (run_eqi rfl (F88.ev 154 rfl) rfl (beq_self_eq_true _)) rfl (by decide) fun a89 F89 => ?_
          refine sq (v := (.bool true)) F89 (wantedG F89 rfl rfl rfl rfl rfl) (run_mv rfl (F89.ev 155 rfl)) rfl (by decide) fun a90 F90 => ?_
          refine sqSkip F90 (unwantedG F90 rfl rfl rfl rfl rfl) rfl (by decide) fun a91 F91 => ?_
          refine sqSkip F91 (unwantedG F91 rfl rfl rfl rfl rfl) rfl (by decide) fun a92 F92 => ?_
          refine sq (v := (.bool true)) F92 (wantedG F92 rfl rfl rfl rfl rfl) (run_pick rfl (F92.ev 156 rfl) rfl (F92.ev 158 rfl)) rfl (by decide) fun a93 F93 => ?_
          refine sr (v := (.bool true)) F93 (run_pick rfl (F93.ev 153 rfl) (F93.ev 159 rfl) rfl) rfl rfl rfl fun a94 F94 => ?_
          refine asS F94 rfl rfl rfl rfl rfl fun a95 F95 => ?_
          refine sn ?_
          clear F78 F79 F80 F81 F82 F83 F84 F85 F86 F87 F88 F89 F90 F91 F92 F93 F94
          refine wp_ret ?_
          exact ret1 F95 rfl rfl ⟨rfl, M16.below⟩
        · skip
          refine wp_region_p 161 [.val (.agg #[vz4a]), .val ul, .val (.int .i64 (qa : Int)), .val (slPtr ul (qa * 33)), .val (.agg (shareC (shOf kl nz qa)).toArray), .val ul, .val (.int .i64 (qb : Int)), .val (slPtr ul (qb * 33)), .val (.agg (shareC (shOf kl nz qb)).toArray), .val ul, .val (.int .i64 (qc : Int)), .val (slPtr ul (qc * 33)), .val (.agg (shareC (shOf kl nz qc)).toArray), .row 54 33 3 ([shOf kl nz qa, shOf kl nz qb, shOf kl nz qc].flatMap shareC), .tup2 (.st (.row 23 32 l.length (l.flatMap dgC))) (.val (.int .i64 0)), .tup2 (.st (.row 23 32 l.length (l.flatMap dgC))) (.val (.int .i64 0)), .st (.row 23 32 l.length (l.flatMap dgC)), .val (.int .i64 0), .any, .any, .val (.int .i64 0)] [] [⟨18, 17, 19, 30, #[.slice none 0 0], .st (.row 23 32 l.length (l.flatMap dgC))⟩] [] [] (by kernel_rfl) (by kernel_rfl) F49.size ?_ ?_ ?_ ?_ (by kernel_rfl) ?_ fun a50 w12 gs hI => ?_
          · intro d hd
            simp only [List.mem_cons, List.not_mem_nil, or_false] at hd
            rcases hd with rfl <;> exact ⟨Nat.le_of_ble_eq_true (by kernel_rfl), _, rfl, rfl⟩
          · intro b hb
            cases hb
          · intro x y b c hx hy hne
            simp at hx
          · intro r hr
            cases hr
          · refine ⟨?_, ?_, ?_, ?_, ?_, ?_, ?_, ?_, ?_, ?_, ?_, ?_, ?_, ?_, ?_, ?_, ?_, ?_, ?_, ?_, ?_, trivial⟩
            · refine .val 73 rfl (by simp) (by simp) (by simp) fun a W hK hh hd => ⟨wanted_yes rfl, ?_⟩
              exact givz_run (run_ldB rfl (eval_tmp (hh 9 _ rfl (F49.at 9 rfl))) ((M11.grow hK.below).at 1 rfl) Tryd.underlying27 rfl szRg rfl) rfl
            · refine .val 74 rfl (by simp) (by simp) (by simp) fun a W hK hh hd => ⟨wanted_yes rfl, ?_⟩
              exact givz_run (run_mv rfl (eval_tmp (hh 13 _ rfl (F49.at 13 rfl)))) rfl
            · refine .val 75 rfl (by simp) (by simp) (by simp) fun a W hK hh hd => ⟨wanted_yes rfl, ?_⟩
              exact givz_run (run_mv rfl (eval_tmp (hh 14 _ rfl (F49.at 14 rfl)))) rfl
            · refine .val 76 rfl (by simp) (by simp) (by simp) fun a W hK hh hd => ⟨wanted_yes rfl, ?_⟩
              exact givz_run (run_atP (i := qa) rfl (eval_tmp (hd.valz (j := 1) (s := 74) (by kernel_rfl) (by simp) rfl rfl)) (eval_tmp (hd.valz (j := 2) (s := 75) (by kernel_rfl) (by simp) rfl rfl)) rfl (Sl.own (hO34.grow hK.below)) (by omega) eltSh.un (by kernel_rfl)) rfl
            · refine .val 77 rfl (by simp) (by simp) (by simp) fun a W hK hh hd => ⟨wanted_yes rfl, ?_⟩
              exact givz_run (run_ldPS (ys := shareC (shOf kl nz qa)) rfl (eval_tmp (hd.valz (j := 3) (s := 76) (by kernel_rfl) (by simp) rfl rfl)) (Sl.own (hO34.grow hK.below)) (by omega) (fun j u hj => flat_at shareC_len (shS_at hqa5) j hj) (by kernel_rfl) (by kernel_rfl)) rfl
            · refine .val 78 rfl (by simp) (by simp) (by simp) fun a W hK hh hd => ⟨wanted_yes rfl, ?_⟩
              exact givz_run (run_mv rfl (eval_tmp (hh 13 _ rfl (F49.at 13 rfl)))) rfl
            · refine .val 79 rfl (by simp) (by simp) (by simp) fun a W hK hh hd => ⟨wanted_yes rfl, ?_⟩
              exact givz_run (run_mv rfl (eval_tmp (hh 15 _ rfl (F49.at 15 rfl)))) rfl
            · refine .val 80 rfl (by simp) (by simp) (by simp) fun a W hK hh hd => ⟨wanted_yes rfl, ?_⟩
              exact givz_run (run_atP (i := qb) rfl (eval_tmp (hd.valz (j := 5) (s := 78) (by kernel_rfl) (by simp) rfl rfl)) (eval_tmp (hd.valz (j := 6) (s := 79) (by kernel_rfl) (by simp) rfl rfl)) rfl (Sl.own (hO34.grow hK.below)) (by omega) eltSh.un (by kernel_rfl)) rfl
            · refine .val 81 rfl (by simp) (by simp) (by simp) fun a W hK hh hd => ⟨wanted_yes rfl, ?_⟩
              exact givz_run (run_ldPS (ys := shareC (shOf kl nz qb)) rfl (eval_tmp (hd.valz (j := 7) (s := 80) (by kernel_rfl) (by simp) rfl rfl)) (Sl.own (hO34.grow hK.below)) (by omega) (fun j u hj => flat_at shareC_len (shS_at hqb5) j hj) (by kernel_rfl) (by kernel_rfl)) rfl
            · refine .val 82 rfl (by simp) (by simp) (by simp) fun a W hK hh hd => ⟨wanted_yes rfl, ?_⟩
              exact givz_run (run_mv rfl (eval_tmp (hh 13 _ rfl (F49.at 13 rfl)))) rfl
            · refine .val 83 rfl (by simp) (by simp) (by simp) fun a W hK hh hd => ⟨wanted_yes rfl, ?_⟩
              exact givz_run (run_mv rfl (eval_tmp (hh 16 _ rfl (F49.at 16 rfl)))) rfl
            · refine .val 84 rfl (by simp) (by simp) (by simp) fun a W hK hh hd => ⟨wanted_yes rfl, ?_⟩
              exact givz_run (run_atP (i := qc) rfl (eval_tmp (hd.valz (j := 9) (s := 82) (by kernel_rfl) (by simp) rfl rfl)) (eval_tmp (hd.valz (j := 10) (s := 83) (by kernel_rfl) (by simp) rfl rfl)) rfl (Sl.own (hO34.grow hK.below)) (by omega) eltSh.un (by kernel_rfl)) rfl
            · refine .val 85 rfl (by simp) (by simp) (by simp) fun a W hK hh hd => ⟨wanted_yes rfl, ?_⟩
              exact givz_run (run_ldPS (ys := shareC (shOf kl nz qc)) rfl (eval_tmp (hd.valz (j := 11) (s := 84) (by kernel_rfl) (by simp) rfl rfl)) (Sl.own (hO34.grow hK.below)) (by omega) (fun j u hj => flat_at shareC_len (shS_at hqc5) j hj) (by kernel_rfl) (by kernel_rfl)) rfl
            · refine .val 86 rfl (by simp) (by simp) (by simp) fun a W hK hh hd => ⟨wanted_yes rfl, ?_⟩
              exact givz_newRow 54 (List.toArray ([shOf kl nz qa, shOf kl nz qb, shOf kl nz qc].flatMap shareC)) 33 3 hK.size (by rw [List.size_toArray]; exact flat_lenG shareC_len _) (by decide) (run_shs3 rfl (eval_tmp (hd.valz (j := 4) (s := 77) (by kernel_rfl) (by simp) rfl rfl)) (eval_tmp (hd.valz (j := 8) (s := 81) (by kernel_rfl) (by simp) rfl rfl)) (eval_tmp (hd.valz (j := 12) (s := 85) (by kernel_rfl) (by simp) rfl rfl)))
            · refine .val 87 rfl (by simp) (by simp) (by simp) fun a W hK hh hd => ⟨wanted_yes rfl, ?_⟩
              obtain ⟨vz_14_13, ey13, hz_14_13⟩ := hd.getz (j := 13) (s := 86) (by kernel_rfl) (by simp) rfl rfl
              exact givz_call (run_call rfl Tryd.func23 (by kernel_rfl) rfl (mapE2 (eval_tmp (hd.valz (j := 0) (s := 73) (by kernel_rfl) (by simp) rfl rfl)) (eval_tmp ey13))) hK.size ((by have h := kopen_any (ringS l) [shOf kl nz qa, shOf kl nz qb, shOf kl nz qc] vz4a vz_14_13 W (HG.below (M11.grow hK.below).below) (Sl.own (hO31.grow hK.below)) (ringS_c32 l) (ringS_wr h32) (Sl.ofOwns hz_14_13) (by rw [ringS_len]; omega) (by simp); rw [(three_open hkl h32 hqa5 hqb5 hqc5 hab hac hbc)] at h; exact h))
            · refine .val 72 rfl (by simp) (by simp) (by simp) fun a W hK hh hd => ⟨wanted_yes rfl, ?_⟩
              obtain ⟨_, ey14, ⟨_, _, rfl, ⟨vz_15_14a, rfl, hz_15_14a⟩, rfl⟩⟩ := hd.getz (j := 14) (s := 87) (by kernel_rfl) (by simp) rfl rfl
              exact givz_run (run_mv rfl (eval_tmp ey14)) ⟨_, _, rfl, ⟨_, rfl, hz_15_14a⟩, rfl⟩
            · refine .val 88 rfl (by simp) (by simp) (by simp) fun a W hK hh hd => ⟨wanted_yes rfl, ?_⟩
              obtain ⟨_, ey15, ⟨_, _, rfl, ⟨vz_16_15a, rfl, hz_16_15a⟩, rfl⟩⟩ := hd.getz (j := 15) (s := 72) (by kernel_rfl) (by simp) rfl rfl
              exact givz_run (run_ext rfl (eval_tmp ey15) rfl) ⟨_, rfl, hz_16_15a⟩
            · refine .val 89 rfl (by simp) (by simp) (by simp) fun a W hK hh hd => ⟨wanted_yes rfl, ?_⟩
              obtain ⟨_, ey15, ⟨_, _, rfl, ⟨vz_17_15a, rfl, hz_17_15a⟩, rfl⟩⟩ := hd.getz (j := 15) (s := 72) (by kernel_rfl) (by simp) rfl rfl
              exact givz_run (run_ext rfl (eval_tmp ey15) rfl) rfl
            · exact .new 0 _ rfl rfl rfl (by simp) (by simp) (by simp) (fun y e hy he => by rcases y with _ | _ | y <;> simp at hy <;> (try subst hy) <;> simp at he ⊢) fun a W => ⟨wanted_yes rfl, run_alloc rfl (by kernel_rfl)⟩
            · refine .put 0 _ rfl rfl rfl (by simp) (by simp) (by simp) (fun y e hy he => by rcases y with _ | _ | y <;> simp at hy <;> (try subst hy) <;> simp at he ⊢) (by kernel_rfl) 1 30 _ _ rfl rfl (fun a W hK hh hd => ?_) rfl szKy rfl
              obtain ⟨_, ey16, ⟨vz_19_16, rfl, hz_19_16⟩⟩ := hd.getz (j := 16) (s := 88) (by kernel_rfl) (by simp) rfl rfl
              rw [show a.eval _ = _ from (eval_tmp ey16)]
              exact ⟨⟨_, rfl, hz_19_16⟩, rfl, (one_own hz_19_16)⟩
            · refine .val 18 rfl (by simp) (by simp) (by simp) fun a W hK hh hd => ⟨wanted_yes rfl, ?_⟩
              exact givz_run (run_as rfl (eval_tmp (hd.valz (j := 17) (s := 89) (by kernel_rfl) (by simp) rfl rfl))) rfl
          have e18_ : a50.tmps[18]? = some (.int .i64 0) := by
            obtain ⟨vq, hq1, hq2⟩ := hI.val 20 _ 18 rfl rfl rfl (by simp) (fun _ h => by cases h)
            rw [hq1]
            exact congrArg some hq2
          obtain ⟨pg7, qg7, _, fg7⟩ := hI.blk 0 _ rfl rfl
          generalize gs 0 = g7 at pg7 qg7 fg7
          obtain ⟨_, Bg7, ⟨vz8_, rfl, hz8_⟩⟩ := fg7 rfl
          have Bg7 : Blk w12 g7 30 (#[vz8_]) := Bg7
          have hb12 := KeepW.below hI.keep
          have M12 := M11.grow hb12
          have hO36 := hO31.grow hb12
          have hO37 := hO32.grow hb12
          have hO38 := hO33.grow hb12
          have hO39 := hO34.grow hb12
          have hO40 := hO35.grow hb12
          have hO41 := OwnR.ofCall M11 (show World.ownsRow w12 _ 23 32 vz8_ l.length (l.flatMap dgC) from hz8_)
          have hO42 := hO36.addFar (S := isB 30 (#[vz8_])) (own_ne_ge hO31.owns qg7)
          have hO43 := hO37.addFar (S := isB 30 (#[vz8_])) (own_ne_ge hO32.owns qg7)
          have hO44 := hO38.addFar (S := isB 30 (#[vz8_])) (own_ne_ge hO33.owns qg7)
          have hO45 := hO39.addFar (S := isB 30 (#[vz8_])) (own_ne_ge hO34.owns qg7)
          have hO46 := hO40.addFar (S := isB 30 (#[vz8_])) (own_ne_ge hO35.owns qg7)
          have hO47 := hO41.addFar (S := isB 30 (#[vz8_])) (own_ne_ty hO41.owns Bg7 (by kernel_rfl))
          have M13 := M12.put1 (cs := #[vz8_]) (Nat.le_trans M11.below.size qg7) Bg7 (mem_far_new M11 qg7)
          have F50 : Fr a50 161 [(0, v), (1, (.agg (cells8 nz))), (2, (.agg (cells8 [p0, p1, p2]))), (3, (.int .u8 (b.toNat : Int))), (5, (.pointer (some ⟨g0, 0, none⟩))), (8, (.bool false)), (9, (.pointer (some ⟨g5, 0, none⟩))), (10, (.pointer (some ⟨g6, 0, none⟩))), (11, vz4c), (12, (.bool true)), (14, (.int .i64 (qa : Int))), (15, (.int .i64 (qb : Int))), (16, (.int .i64 (qc : Int))), (17, (.pointer (some ⟨g7, 0, none⟩))), (18, (.int .i64 0)), (22, (.bool true)), (23, (.bool false)), (24, v), (25, (.int .i64 (l.length : Int))), (26, (.bool false)), (27, (.bool false)), (28, v), (29, (.int .i64 (l.length : Int))), (30, (.bool false)), (31, (.bool false)), (32, (.bool false)), (33, v), (34, (.bool true)), (35, (.bool false)), (36, (.bool false)), (37, (.tuple #[(.agg #[vz4a]), (.agg #[vz4b]), vz4c, (.bool true)])), (38, v), (39, (.slice (some ⟨g0, 0, none⟩) 64 64)), (40, (.string ⟨nz.toArray⟩)), (41, (.tuple #[(.agg #[vz4a]), (.agg #[vz4b]), vz4c, (.bool true)])), (42, (.agg #[vz4a])), (43, (.agg #[vz4b])), (44, vz4c), (45, (.bool true)), (46, (.bool true)), (47, (.bool false)), (48, (.bool false)), (49, (.agg #[vz4a])), (50, (.agg #[vz4b])), (51, (.int .i64 0)), (52, (.bool false)), (53, (.bool false)), (54, vz4c), (55, vz4c), (56, (.int .i64 (US4c.length : Int))), (57, (.int .i64 ((l.length - 1 : Nat) : Int))), (58, (slPtr vz4c ((l.length - 1) * 1))), (59, ul)] := fr_of_holds hI.tsz (hI.defers.trans F49.defers) ⟨hI.had 0 _ rfl (F49.at 0 rfl), hI.had 1 _ rfl (F49.at 1 rfl), hI.had 2 _ rfl (F49.at 2 rfl), hI.had 3 _ rfl (F49.at 3 rfl), hI.had 5 _ rfl (F49.at 5 rfl), hI.had 8 _ rfl (F49.at 8 rfl), hI.had 9 _ rfl (F49.at 9 rfl), hI.had 10 _ rfl (F49.at 10 rfl), hI.had 11 _ rfl (F49.at 11 rfl), hI.had 12 _ rfl (F49.at 12 rfl), hI.had 14 _ rfl (F49.at 14 rfl), hI.had 15 _ rfl (F49.at 15 rfl), hI.had 16 _ rfl (F49.at 16 rfl), pg7, e18_, hI.had 22 _ rfl (F49.at 22 rfl), hI.had 23 _ rfl (F49.at 23 rfl), hI.had 24 _ rfl (F49.at 24 rfl), hI.had 25 _ rfl (F49.at 25 rfl), hI.had 26 _ rfl (F49.at 26 rfl), hI.had 27 _ rfl (F49.at 27 rfl), hI.had 28 _ rfl (F49.at 28 rfl), hI.had 29 _ rfl (F49.at 29 rfl), hI.had 30 _ rfl (F49.at 30 rfl), hI.had 31 _ rfl (F49.at 31 rfl), hI.had 32 _ rfl (F49.at 32 rfl), hI.had 33 _ rfl (F49.at 33 rfl), hI.had 34 _ rfl (F49.at 34 rfl), hI.had 35 _ rfl (F49.at 35 rfl), hI.had 36 _ rfl (F49.at 36 rfl), hI.had 37 _ rfl (F49.at 37 rfl), hI.had 38 _ rfl (F49.at 38 rfl), hI.had 39 _ rfl (F49.at 39 rfl), hI.had 40 _ rfl (F49.at 40 rfl), hI.had 41 _ rfl (F49.at 41 rfl), hI.had 42 _ rfl (F49.at 42 rfl), hI.had 43 _ rfl (F49.at 43 rfl), hI.had 44 _ rfl (F49.at 44 rfl), hI.had 45 _ rfl (F49.at 45 rfl), hI.had 46 _ rfl (F49.at 46 rfl), hI.had 47 _ rfl (F49.at 47 rfl), hI.had 48 _ rfl (F49.at 48 rfl), hI.had 49 _ rfl (F49.at 49 rfl), hI.had 50 _ rfl (F49.at 50 rfl), hI.had 51 _ rfl (F49.at 51 rfl), hI.had 52 _ rfl (F49.at 52 rfl), hI.had 53 _ rfl (F49.at 53 rfl), hI.had 54 _ rfl (F49.at 54 rfl), hI.had 55 _ rfl (F49.at 55 rfl), hI.had 56 _ rfl (F49.at 56 rfl), hI.had 57 _ rfl (F49.at 57 rfl), hI.had 58 _ rfl (F49.at 58 rfl), hI.had 59 _ rfl (F49.at 59 rfl), trivial⟩
          clear F49 M11 M12
          refine nx ?_
          refine wp_seq ?_
          refine wsl ?_
          refine mvS F50 rfl rfl rfl rfl rfl fun a51 F51 => ?_
          refine mvS F51 rfl rfl rfl rfl rfl fun a52 F52 => ?_
          refine sr (v := (.bool false)) F52 (run_eqi rfl (F52.ev 90 rfl) (F52.ev 91 rfl) (beq_eq_false_iff_ne.2 (by omega))) rfl rfl rfl fun a53 F53 => ?_
          refine mvS F53 rfl rfl rfl rfl rfl fun a54 F54 => ?_
          refine sq (v := (.int .i64 (qa : Int))) F54 (wantedG F54 rfl rfl rfl rfl rfl) (run_mv rfl (F54.ev 14 rfl)) rfl (by decide) fun a55 F55 => ?_
          refine sq (v := (.int .i64 (qc : Int))) F55 (wantedG F55 rfl rfl rfl rfl rfl) (run_mv rfl (F55.ev 16 rfl)) rfl (by decide) fun a56 F56 => ?_
          refine sq (v := (.bool false)) F56 (wantedG F56 rfl rfl rfl rfl rfl) (run_eqi rfl (F56.ev 94 rfl) (F56.ev 95 rfl) (beq_eq_false_iff_ne.2 (by omega))) rfl (by decide) fun a57 F57 => ?_
          refine sr (v := (.bool false)) F57 (run_pick rfl (F57.ev 93 rfl) rfl (F57.ev 96 rfl)) rfl rfl rfl fun a58 F58 => ?_
          refine mvS F58 rfl rfl rfl rfl rfl fun a59 F59 => ?_
          refine sq (v := (.int .i64 (qb : Int))) F59 (wantedG F59 rfl rfl rfl rfl rfl) (run_mv rfl (F59.ev 15 rfl)) rfl (by decide) fun a60 F60 => ?_
          refine sq (v := (.int .i64 (qc : Int))) F60 (wantedG F60 rfl rfl rfl rfl rfl) (run_mv rfl (F60.ev 16 rfl)) rfl (by decide) fun a61 F61 => ?_
          refine sq (v := (.bool false)) F61 (wantedG F61 rfl rfl rfl rfl rfl) (run_eqi rfl (F61.ev 99 rfl) (F61.ev 100 rfl) (beq_eq_false_iff_ne.2 (by omega))) rfl (by decide) fun a62 F62 => ?_
          refine sr (v := (.bool false)) F62 (run_pick rfl (F62.ev 98 rfl) rfl (F62.ev 101 rfl)) rfl rfl rfl fun a63 F63 => ?_
          refine sn ?_
          clear F50 F51 F52 F53 F54 F55 F56 F57 F58 F59 F60 F61 F62
          refine cfs (F63.ev 102 rfl) ?_
          refine wp_seq ?_
          refine wsl ?_
          refine mvS F63 rfl rfl rfl rfl rfl fun a64 F64 => ?_
          refine sr (v := (.bool false)) F64 (run_nei rfl (F64.ev 105 rfl) rfl (bne_self_eq_false _)) rfl rfl rfl fun a65 F65 => ?_
          refine mvS F65 rfl rfl rfl rfl rfl fun a66 F66 => ?_
          refine sq (v := (.agg #[vz8_])) F66 (wantedG F66 rfl rfl rfl rfl rfl) (run_ldB rfl (F66.ev 17 rfl) (M13.at 0 rfl) Tryd.underlying30 rfl szKy rfl) rfl (by decide) fun a67 F67 => ?_
          refine sq (v := (.agg #[vz4b])) F67 (wantedG F67 rfl rfl rfl rfl rfl) (run_ldB rfl (F67.ev 10 rfl) (M13.at 1 rfl) Tryd.underlying30 rfl szKy rfl) rfl (by decide) fun a68 F68 => ?_
          refine sqC (v := (.bool true)) F68 M13 (wantedG F68 rfl rfl rfl rfl rfl) (run_call rfl Tryd.func16 (by kernel_rfl) rfl (mapE2 (F68.ev 108 rfl) (F68.ev 109 rfl))) rfl (by decide) (samek_any l vz8_ vz4b w12 (Sl.own hO47) (Sl.own hO43) h32 (by omega)) fun a69 w13 hb13 F69 M14 => ?_
          have hO48 := hO42.grow hb13
          have hO49 := hO43.grow hb13
          have hO50 := hO44.grow hb13
          have hO51 := hO45.grow hb13
          have hO52 := hO46.grow hb13
          have hO53 := hO47.grow hb13
          refine sq (v := (.bool false)) F69 (wantedG F69 rfl rfl rfl rfl rfl) (run_not rfl (F69.ev 110 rfl)) rfl (by decide) fun a70 F70 => ?_
          refine sr (v := (.bool false)) F70 (run_pick rfl (F70.ev 107 rfl) rfl (F70.ev 111 rfl)) rfl rfl rfl fun a71 F71 => ?_
          refine sn ?_
          clear F63 F64 F65 F66 F67 F68 F69 F70 M13
          refine cfs (F71.ev 112 rfl) ?_
          refine wsl ?_
          refine mvS F71 rfl rfl rfl rfl rfl fun a72 F72 => ?_
          refine sr F72 (run_cvI (r := (b.toNat : Int)) rfl (F72.ev 113 rfl) Tryd.underlying5 Tryd.underlying3 (by rw [IntKind.wrap_i64]; omega)) rfl rfl rfl fun a73 F73 => ?_
          refine mvS F73 rfl rfl rfl rfl rfl fun a74 F74 => ?_
          refine sr F74 (run_lenS rfl (F74.ev 115 rfl) (hV.below M14.below) rfl Tryd.underlying28) rfl rfl rfl fun a75 F75 => ?_
          refine sr (v := (.int .i64 (q : Int))) F75 (run_rem (r := (q : Int)) rfl (F75.ev 114 rfl) (F75.ev 116 rfl) (by omega) (by rw [Int.tmod_eq_emod_of_nonneg (by omega), ← hq]; rfl)) rfl rfl rfl fun a76 F76 => ?_
          refine asS F76 rfl rfl rfl rfl rfl fun a77 F77 => ?_
          refine sn ?_
          clear F71 F72 F73 F74 F75 F76
          refine wp_seq ?_
          refine wp_region_p 161 [.val (.agg #[vz4a]), .val vz4c, .val (.int .i64 (q : Int)), .val (slPtr vz4c (q * 1)), .val uz, .val (.int .i64 (qa : Int)), .val (slPtr uz (qa * 33)), .val (.agg (shareC (shOf k nz qa)).toArray), .val vz4c, .val (.int .i64 (q : Int)), .val (slPtr vz4c (q * 1)), .val uz, .val (.int .i64 (qb : Int)), .val (slPtr uz (qb * 33)), .val (.agg (shareC (shOf k nz qb)).toArray), .val vz4c, .val (.int .i64 (q : Int)), .val (slPtr vz4c (q * 1)), .val uz, .val (.int .i64 (qc : Int)), .val (slPtr uz (qc * 33)), .val (.agg (shareC (shOf k nz qc)).toArray), .row 54 33 3 ([shOf k nz qa, shOf k nz qb, shOf k nz qc].flatMap shareC), .tup2 (.st (.row 23 32 (([] : List (List UInt8)).length) (([] : List (List UInt8)).flatMap dgC))) (.val (.int .i64 21)), .tup2 (.st (.row 23 32 (([] : List (List UInt8)).length) (([] : List (List UInt8)).flatMap dgC))) (.val (.int .i64 21)), .st (.row 23 32 (([] : List (List UInt8)).length) (([] : List (List UInt8)).flatMap dgC)), .val (.int .i64 21), .any, .any, .val (.int .i64 21)] [] [⟨27, 20, 28, 30, #[.slice none 0 0], .st (.row 23 32 (([] : List (List UInt8)).length) (([] : List (List UInt8)).flatMap dgC))⟩] [] [] (by kernel_rfl) (by kernel_rfl) F77.size ?_ ?_ ?_ ?_ (by kernel_rfl) ?_ fun a78 w14 gs hI => ?_
          · intro d hd
            simp only [List.mem_cons, List.not_mem_nil, or_false] at hd
            rcases hd with rfl <;> exact ⟨Nat.le_of_ble_eq_true (by kernel_rfl), _, rfl, rfl⟩
          · intro b hb
            cases hb
          · intro x y b c hx hy hne
            simp at hx
          · intro r hr
            cases hr
          · refine ⟨?_, ?_, ?_, ?_, ?_, ?_, ?_, ?_, ?_, ?_, ?_, ?_, ?_, ?_, ?_, ?_, ?_, ?_, ?_, ?_, ?_, ?_, ?_, ?_, ?_, ?_, ?_, ?_, ?_, ?_, trivial⟩
            · refine .val 119 rfl (by simp) (by simp) (by simp) fun a W hK hh hd => ⟨wanted_yes rfl, ?_⟩
              exact givz_run (run_ldB rfl (eval_tmp (hh 9 _ rfl (F77.at 9 rfl))) ((M14.grow hK.below).at 2 rfl) Tryd.underlying27 rfl szRg rfl) rfl
            · refine .val 120 rfl (by simp) (by simp) (by simp) fun a W hK hh hd => ⟨wanted_yes rfl, ?_⟩
              exact givz_run (run_mv rfl (eval_tmp (hh 11 _ rfl (F77.at 11 rfl)))) rfl
            · refine .val 121 rfl (by simp) (by simp) (by simp) fun a W hK hh hd => ⟨wanted_yes rfl, ?_⟩
              exact givz_run (run_mv rfl (eval_tmp (hh 19 _ rfl (F77.at 19 rfl)))) rfl
            · refine .val 122 rfl (by simp) (by simp) (by simp) fun a W hK hh hd => ⟨wanted_yes rfl, ?_⟩
              exact givz_run (run_atP (i := q) rfl (eval_tmp (hd.valz (j := 1) (s := 120) (by kernel_rfl) (by simp) rfl rfl)) (eval_tmp (hd.valz (j := 2) (s := 121) (by kernel_rfl) (by simp) rfl rfl)) rfl (Sl.own (hO50.grow hK.below)) (by omega) elSl.un (by kernel_rfl)) rfl
            · refine .val 123 rfl (by simp) (by simp) (by simp) fun a W hK hh hd => ⟨wanted_yes rfl, ?_⟩
              exact givz_run (run_ldP rfl (eval_tmp (hd.valz (j := 3) (s := 122) (by kernel_rfl) (by simp) rfl rfl)) (Sl.own (hO50.grow hK.below)) (by rw [Nat.mul_one]; exact hUuz) (by kernel_rfl)) rfl
            · refine .val 124 rfl (by simp) (by simp) (by simp) fun a W hK hh hd => ⟨wanted_yes rfl, ?_⟩
              exact givz_run (run_mv rfl (eval_tmp (hh 14 _ rfl (F77.at 14 rfl)))) rfl
            · refine .val 125 rfl (by simp) (by simp) (by simp) fun a W hK hh hd => ⟨wanted_yes rfl, ?_⟩
              exact givz_run (run_atP (i := qa) rfl (eval_tmp (hd.valz (j := 4) (s := 123) (by kernel_rfl) (by simp) rfl rfl)) (eval_tmp (hd.valz (j := 5) (s := 124) (by kernel_rfl) (by simp) rfl rfl)) rfl (Sl.own (hO52.grow hK.below)) (by omega) eltSh.un (by kernel_rfl)) rfl
            · refine .val 126 rfl (by simp) (by simp) (by simp) fun a W hK hh hd => ⟨wanted_yes rfl, ?_⟩
              exact givz_run (run_ldPS (ys := shareC (shOf k nz qa)) rfl (eval_tmp (hd.valz (j := 6) (s := 125) (by kernel_rfl) (by simp) rfl rfl)) (Sl.own (hO52.grow hK.below)) (by omega) (fun j u hj => flat_at shareC_len (shS_at hqa5) j hj) (by kernel_rfl) (by kernel_rfl)) rfl
            · refine .val 127 rfl (by simp) (by simp) (by simp) fun a W hK hh hd => ⟨wanted_yes rfl, ?_⟩
              exact givz_run (run_mv rfl (eval_tmp (hh 11 _ rfl (F77.at 11 rfl)))) rfl
            · refine .val 128 rfl (by simp) (by simp) (by simp) fun a W hK hh hd => ⟨wanted_yes rfl, ?_⟩
              exact givz_run (run_mv rfl (eval_tmp (hh 19 _ rfl (F77.at 19 rfl)))) rfl
            · refine .val 129 rfl (by simp) (by simp) (by simp) fun a W hK hh hd => ⟨wanted_yes rfl, ?_⟩
              exact givz_run (run_atP (i := q) rfl (eval_tmp (hd.valz (j := 8) (s := 127) (by kernel_rfl) (by simp) rfl rfl)) (eval_tmp (hd.valz (j := 9) (s := 128) (by kernel_rfl) (by simp) rfl rfl)) rfl (Sl.own (hO50.grow hK.below)) (by omega) elSl.un (by kernel_rfl)) rfl
            · refine .val 130 rfl (by simp) (by simp) (by simp) fun a W hK hh hd => ⟨wanted_yes rfl, ?_⟩
              exact givz_run (run_ldP rfl (eval_tmp (hd.valz (j := 10) (s := 129) (by kernel_rfl) (by simp) rfl rfl)) (Sl.own (hO50.grow hK.below)) (by rw [Nat.mul_one]; exact hUuz) (by kernel_rfl)) rfl
            · refine .val 131 rfl (by simp) (by simp) (by simp) fun a W hK hh hd => ⟨wanted_yes rfl, ?_⟩
              exact givz_run (run_mv rfl (eval_tmp (hh 15 _ rfl (F77.at 15 rfl)))) rfl
            · refine .val 132 rfl (by simp) (by simp) (by simp) fun a W hK hh hd => ⟨wanted_yes rfl, ?_⟩
              exact givz_run (run_atP (i := qb) rfl (eval_tmp (hd.valz (j := 11) (s := 130) (by kernel_rfl) (by simp) rfl rfl)) (eval_tmp (hd.valz (j := 12) (s := 131) (by kernel_rfl) (by simp) rfl rfl)) rfl (Sl.own (hO52.grow hK.below)) (by omega) eltSh.un (by kernel_rfl)) rfl
            · refine .val 133 rfl (by simp) (by simp) (by simp) fun a W hK hh hd => ⟨wanted_yes rfl, ?_⟩
              exact givz_run (run_ldPS (ys := shareC (shOf k nz qb)) rfl (eval_tmp (hd.valz (j := 13) (s := 132) (by kernel_rfl) (by simp) rfl rfl)) (Sl.own (hO52.grow hK.below)) (by omega) (fun j u hj => flat_at shareC_len (shS_at hqb5) j hj) (by kernel_rfl) (by kernel_rfl)) rfl
            · refine .val 134 rfl (by simp) (by simp) (by simp) fun a W hK hh hd => ⟨wanted_yes rfl, ?_⟩
              exact givz_run (run_mv rfl (eval_tmp (hh 11 _ rfl (F77.at 11 rfl)))) rfl
            · refine .val 135 rfl (by simp) (by simp) (by simp) fun a W hK hh hd => ⟨wanted_yes rfl, ?_⟩
              exact givz_run (run_mv rfl (eval_tmp (hh 19 _ rfl (F77.at 19 rfl)))) rfl
            · refine .val 136 rfl (by simp) (by simp) (by simp) fun a W hK hh hd => ⟨wanted_yes rfl, ?_⟩
              exact givz_run (run_atP (i := q) rfl (eval_tmp (hd.valz (j := 15) (s := 134) (by kernel_rfl) (by simp) rfl rfl)) (eval_tmp (hd.valz (j := 16) (s := 135) (by kernel_rfl) (by simp) rfl rfl)) rfl (Sl.own (hO50.grow hK.below)) (by omega) elSl.un (by kernel_rfl)) rfl
            · refine .val 137 rfl (by simp) (by simp) (by simp) fun a W hK hh hd => ⟨wanted_yes rfl, ?_⟩
              exact givz_run (run_ldP rfl (eval_tmp (hd.valz (j := 17) (s := 136) (by kernel_rfl) (by simp) rfl rfl)) (Sl.own (hO50.grow hK.below)) (by rw [Nat.mul_one]; exact hUuz) (by kernel_rfl)) rfl
            · refine .val 138 rfl (by simp) (by simp) (by simp) fun a W hK hh hd => ⟨wanted_yes rfl, ?_⟩
              exact givz_run (run_mv rfl (eval_tmp (hh 16 _ rfl (F77.at 16 rfl)))) rfl
            · refine .val 139 rfl (by simp) (by simp) (by simp) fun a W hK hh hd => ⟨wanted_yes rfl, ?_⟩
              exact givz_run (run_atP (i := qc) rfl (eval_tmp (hd.valz (j := 18) (s := 137) (by kernel_rfl) (by simp) rfl rfl)) (eval_tmp (hd.valz (j := 19) (s := 138) (by kernel_rfl) (by simp) rfl rfl)) rfl (Sl.own (hO52.grow hK.below)) (by omega) eltSh.un (by kernel_rfl)) rfl
            · refine .val 140 rfl (by simp) (by simp) (by simp) fun a W hK hh hd => ⟨wanted_yes rfl, ?_⟩
              exact givz_run (run_ldPS (ys := shareC (shOf k nz qc)) rfl (eval_tmp (hd.valz (j := 20) (s := 139) (by kernel_rfl) (by simp) rfl rfl)) (Sl.own (hO52.grow hK.below)) (by omega) (fun j u hj => flat_at shareC_len (shS_at hqc5) j hj) (by kernel_rfl) (by kernel_rfl)) rfl
            · refine .val 141 rfl (by simp) (by simp) (by simp) fun a W hK hh hd => ⟨wanted_yes rfl, ?_⟩
              exact givz_newRow 54 (List.toArray ([shOf k nz qa, shOf k nz qb, shOf k nz qc].flatMap shareC)) 33 3 hK.size (by rw [List.size_toArray]; exact flat_lenG shareC_len _) (by decide) (run_shs3 rfl (eval_tmp (hd.valz (j := 7) (s := 126) (by kernel_rfl) (by simp) rfl rfl)) (eval_tmp (hd.valz (j := 14) (s := 133) (by kernel_rfl) (by simp) rfl rfl)) (eval_tmp (hd.valz (j := 21) (s := 140) (by kernel_rfl) (by simp) rfl rfl)))
            · refine .val 142 rfl (by simp) (by simp) (by simp) fun a W hK hh hd => ⟨wanted_yes rfl, ?_⟩
              obtain ⟨vz_23_22, ey22, hz_23_22⟩ := hd.getz (j := 22) (s := 141) (by kernel_rfl) (by simp) rfl rfl
              exact givz_call (run_call rfl Tryd.func23 (by kernel_rfl) rfl (mapE2 (eval_tmp (hd.valz (j := 0) (s := 119) (by kernel_rfl) (by simp) rfl rfl)) (eval_tmp ey22))) hK.size ((by have h := kopen_any (ringS l) [shOf k nz qa, shOf k nz qb, shOf k nz qc] vz4a vz_23_22 W (HG.below (M14.grow hK.below).below) (Sl.own (hO48.grow hK.below)) (ringS_c32 l) (ringS_wr h32) (Sl.ofOwns hz_23_22) (by rw [ringS_len]; omega) (by simp); rw [(three_shut hkl (h32 k (List.mem_of_getElem? hk)) (fun e => (hap (l.length - 1) q kl k hkl hk (by omega)).2 e.symm) hqa5 hqb5 hqc5 hab hac hbc)] at h; exact h))
            · refine .val 118 rfl (by simp) (by simp) (by simp) fun a W hK hh hd => ⟨wanted_yes rfl, ?_⟩
              obtain ⟨_, ey23, ⟨_, _, rfl, ⟨vz_24_23a, rfl, hz_24_23a⟩, rfl⟩⟩ := hd.getz (j := 23) (s := 142) (by kernel_rfl) (by simp) rfl rfl
              exact givz_run (run_mv rfl (eval_tmp ey23)) ⟨_, _, rfl, ⟨_, rfl, hz_24_23a⟩, rfl⟩
            · refine .val 143 rfl (by simp) (by simp) (by simp) fun a W hK hh hd => ⟨wanted_yes rfl, ?_⟩
              obtain ⟨_, ey24, ⟨_, _, rfl, ⟨vz_25_24a, rfl, hz_25_24a⟩, rfl⟩⟩ := hd.getz (j := 24) (s := 118) (by kernel_rfl) (by simp) rfl rfl
              exact givz_run (run_ext rfl (eval_tmp ey24) rfl) ⟨_, rfl, hz_25_24a⟩
            · refine .val 144 rfl (by simp) (by simp) (by simp) fun a W hK hh hd => ⟨wanted_yes rfl, ?_⟩
              obtain ⟨_, ey24, ⟨_, _, rfl, ⟨vz_26_24a, rfl, hz_26_24a⟩, rfl⟩⟩ := hd.getz (j := 24) (s := 118) (by kernel_rfl) (by simp) rfl rfl
              exact givz_run (run_ext rfl (eval_tmp ey24) rfl) rfl
            · exact .new 0 _ rfl rfl rfl (by simp) (by simp) (by simp) (fun y e hy he => by rcases y with _ | _ | y <;> simp at hy <;> (try subst hy) <;> simp at he ⊢) fun a W => ⟨wanted_yes rfl, run_alloc rfl (by kernel_rfl)⟩
            · refine .put 0 _ rfl rfl rfl (by simp) (by simp) (by simp) (fun y e hy he => by rcases y with _ | _ | y <;> simp at hy <;> (try subst hy) <;> simp at he ⊢) (by kernel_rfl) 1 30 _ _ rfl rfl (fun a W hK hh hd => ?_) rfl szKy rfl
              obtain ⟨_, ey25, ⟨vz_28_25, rfl, hz_28_25⟩⟩ := hd.getz (j := 25) (s := 143) (by kernel_rfl) (by simp) rfl rfl
              rw [show a.eval _ = _ from (eval_tmp ey25)]
              exact ⟨⟨_, rfl, hz_28_25⟩, rfl, (one_own hz_28_25)⟩
            · refine .val 21 rfl (by simp) (by simp) (by simp) fun a W hK hh hd => ⟨wanted_yes rfl, ?_⟩
              exact givz_run (run_as rfl (eval_tmp (hd.valz (j := 26) (s := 144) (by kernel_rfl) (by simp) rfl rfl))) rfl
          have e21_ : a78.tmps[21]? = some (.int .i64 21) := by
            obtain ⟨vq, hq1, hq2⟩ := hI.val 29 _ 21 rfl rfl rfl (by simp) (fun _ h => by cases h)
            rw [hq1]
            exact congrArg some hq2
          obtain ⟨pg9, qg9, _, fg9⟩ := hI.blk 0 _ rfl rfl
          generalize gs 0 = g9 at pg9 qg9 fg9
          obtain ⟨_, Bg9, ⟨vz10_, rfl, hz10_⟩⟩ := fg9 rfl
          have Bg9 : Blk w14 g9 30 (#[vz10_]) := Bg9
          have hb14 := KeepW.below hI.keep
          have M15 := M14.grow hb14
          have hO54 := hO48.grow hb14
          have hO55 := hO49.grow hb14
          have hO56 := hO50.grow hb14
          have hO57 := hO51.grow hb14
          have hO58 := hO52.grow hb14
          have hO59 := hO53.grow hb14
          have hO60 := OwnR.ofCall M14 (show World.ownsRow w14 _ 23 32 vz10_ (([] : List (List UInt8)).length) (([] : List (List UInt8)).flatMap dgC) from hz10_)
          have hO61 := hO54.addFar (S := isB 30 (#[vz10_])) (own_ne_ge hO48.owns qg9)
          have hO62 := hO55.addFar (S := isB 30 (#[vz10_])) (own_ne_ge hO49.owns qg9)
          have hO63 := hO56.addFar (S := isB 30 (#[vz10_])) (own_ne_ge hO50.owns qg9)
          have hO64 := hO57.addFar (S := isB 30 (#[vz10_])) (own_ne_ge hO51.owns qg9)
          have hO65 := hO58.addFar (S := isB 30 (#[vz10_])) (own_ne_ge hO52.owns qg9)
          have hO66 := hO59.addFar (S := isB 30 (#[vz10_])) (own_ne_ge hO53.owns qg9)
          have hO67 := hO60.addFar (S := isB 30 (#[vz10_])) (own_ne_ty hO60.owns Bg9 (by kernel_rfl))
          have M16 := M15.put1 (cs := #[vz10_]) (Nat.le_trans M14.below.size qg9) Bg9 (mem_far_new M14 qg9)
          have F78 : Fr a78 161 [(0, v), (1, (.agg (cells8 nz))), (2, (.agg (cells8 [p0, p1, p2]))), (3, (.int .u8 (b.toNat : Int))), (5, (.pointer (some ⟨g0, 0, none⟩))), (8, (.bool false)), (9, (.pointer (some ⟨g5, 0, none⟩))), (10, (.pointer (some ⟨g6, 0, none⟩))), (11, vz4c), (12, (.bool true)), (14, (.int .i64 (qa : Int))), (15, (.int .i64 (qb : Int))), (16, (.int .i64 (qc : Int))), (17, (.pointer (some ⟨g7, 0, none⟩))), (18, (.int .i64 0)), (19, (.int .i64 (q : Int))), (21, (.int .i64 21)), (22, (.bool true)), (23, (.bool false)), (24, v), (25, (.int .i64 (l.length : Int))), (26, (.bool false)), (27, (.bool false)), (28, v), (29, (.int .i64 (l.length : Int))), (30, (.bool false)), (31, (.bool false)), (32, (.bool false)), (33, v), (34, (.bool true)), (35, (.bool false)), (36, (.bool false)), (37, (.tuple #[(.agg #[vz4a]), (.agg #[vz4b]), vz4c, (.bool true)])), (38, v), (39, (.slice (some ⟨g0, 0, none⟩) 64 64)), (40, (.string ⟨nz.toArray⟩)), (41, (.tuple #[(.agg #[vz4a]), (.agg #[vz4b]), vz4c, (.bool true)])), (42, (.agg #[vz4a])), (43, (.agg #[vz4b])), (44, vz4c), (45, (.bool true)), (46, (.bool true)), (47, (.bool false)), (48, (.bool false)), (49, (.agg #[vz4a])), (50, (.agg #[vz4b])), (51, (.int .i64 0)), (52, (.bool false)), (53, (.bool false)), (54, vz4c), (55, vz4c), (56, (.int .i64 (US4c.length : Int))), (57, (.int .i64 ((l.length - 1 : Nat) : Int))), (58, (slPtr vz4c ((l.length - 1) * 1))), (59, ul), (90, (.int .i64 (qa : Int))), (91, (.int .i64 (qb : Int))), (92, (.bool false)), (93, (.bool false)), (94, (.int .i64 (qa : Int))), (95, (.int .i64 (qc : Int))), (96, (.bool false)), (97, (.bool false)), (98, (.bool false)), (99, (.int .i64 (qb : Int))), (100, (.int .i64 (qc : Int))), (101, (.bool false)), (102, (.bool false)), (105, (.int .i64 0)), (106, (.bool false)), (107, (.bool false)), (108, (.agg #[vz8_])), (109, (.agg #[vz4b])), (110, (.bool true)), (111, (.bool false)), (112, (.bool false)), (113, (.int .u8 (b.toNat : Int))), (114, (.int .i64 (b.toNat : Int))), (115, v), (116, (.int .i64 (l.length : Int))), (117, (.int .i64 (q : Int)))] := fr_of_holds hI.tsz (hI.defers.trans F77.defers) ⟨hI.had 0 _ rfl (F77.at 0 rfl), hI.had 1 _ rfl (F77.at 1 rfl), hI.had 2 _ rfl (F77.at 2 rfl), hI.had 3 _ rfl (F77.at 3 rfl), hI.had 5 _ rfl (F77.at 5 rfl), hI.had 8 _ rfl (F77.at 8 rfl), hI.had 9 _ rfl (F77.at 9 rfl), hI.had 10 _ rfl (F77.at 10 rfl), hI.had 11 _ rfl (F77.at 11 rfl), hI.had 12 _ rfl (F77.at 12 rfl), hI.had 14 _ rfl (F77.at 14 rfl), hI.had 15 _ rfl (F77.at 15 rfl), hI.had 16 _ rfl (F77.at 16 rfl), hI.had 17 _ rfl (F77.at 17 rfl), hI.had 18 _ rfl (F77.at 18 rfl), hI.had 19 _ rfl (F77.at 19 rfl), e21_, hI.had 22 _ rfl (F77.at 22 rfl), hI.had 23 _ rfl (F77.at 23 rfl), hI.had 24 _ rfl (F77.at 24 rfl), hI.had 25 _ rfl (F77.at 25 rfl), hI.had 26 _ rfl (F77.at 26 rfl), hI.had 27 _ rfl (F77.at 27 rfl), hI.had 28 _ rfl (F77.at 28 rfl), hI.had 29 _ rfl (F77.at 29 rfl), hI.had 30 _ rfl (F77.at 30 rfl), hI.had 31 _ rfl (F77.at 31 rfl), hI.had 32 _ rfl (F77.at 32 rfl), hI.had 33 _ rfl (F77.at 33 rfl), hI.had 34 _ rfl (F77.at 34 rfl), hI.had 35 _ rfl (F77.at 35 rfl), hI.had 36 _ rfl (F77.at 36 rfl), hI.had 37 _ rfl (F77.at 37 rfl), hI.had 38 _ rfl (F77.at 38 rfl), hI.had 39 _ rfl (F77.at 39 rfl), hI.had 40 _ rfl (F77.at 40 rfl), hI.had 41 _ rfl (F77.at 41 rfl), hI.had 42 _ rfl (F77.at 42 rfl), hI.had 43 _ rfl (F77.at 43 rfl), hI.had 44 _ rfl (F77.at 44 rfl), hI.had 45 _ rfl (F77.at 45 rfl), hI.had 46 _ rfl (F77.at 46 rfl), hI.had 47 _ rfl (F77.at 47 rfl), hI.had 48 _ rfl (F77.at 48 rfl), hI.had 49 _ rfl (F77.at 49 rfl), hI.had 50 _ rfl (F77.at 50 rfl), hI.had 51 _ rfl (F77.at 51 rfl), hI.had 52 _ rfl (F77.at 52 rfl), hI.had 53 _ rfl (F77.at 53 rfl), hI.had 54 _ rfl (F77.at 54 rfl), hI.had 55 _ rfl (F77.at 55 rfl), hI.had 56 _ rfl (F77.at 56 rfl), hI.had 57 _ rfl (F77.at 57 rfl), hI.had 58 _ rfl (F77.at 58 rfl), hI.had 59 _ rfl (F77.at 59 rfl), hI.had 90 _ rfl (F77.at 90 rfl), hI.had 91 _ rfl (F77.at 91 rfl), hI.had 92 _ rfl (F77.at 92 rfl), hI.had 93 _ rfl (F77.at 93 rfl), hI.had 94 _ rfl (F77.at 94 rfl), hI.had 95 _ rfl (F77.at 95 rfl), hI.had 96 _ rfl (F77.at 96 rfl), hI.had 97 _ rfl (F77.at 97 rfl), hI.had 98 _ rfl (F77.at 98 rfl), hI.had 99 _ rfl (F77.at 99 rfl), hI.had 100 _ rfl (F77.at 100 rfl), hI.had 101 _ rfl (F77.at 101 rfl), hI.had 102 _ rfl (F77.at 102 rfl), hI.had 105 _ rfl (F77.at 105 rfl), hI.had 106 _ rfl (F77.at 106 rfl), hI.had 107 _ rfl (F77.at 107 rfl), hI.had 108 _ rfl (F77.at 108 rfl), hI.had 109 _ rfl (F77.at 109 rfl), hI.had 110 _ rfl (F77.at 110 rfl), hI.had 111 _ rfl (F77.at 111 rfl), hI.had 112 _ rfl (F77.at 112 rfl), hI.had 113 _ rfl (F77.at 113 rfl), hI.had 114 _ rfl (F77.at 114 rfl), hI.had 115 _ rfl (F77.at 115 rfl), hI.had 116 _ rfl (F77.at 116 rfl), hI.had 117 _ rfl (F77.at 117 rfl), trivial⟩
          clear F77 M14 M15
          refine nx ?_
          refine wsl ?_
          refine mvS F78 rfl rfl rfl rfl rfl fun a79 F79 => ?_
          refine sr (v := (.bool false)) F79 (run_eqi rfl (F79.ev 145 rfl) rfl rfl) rfl rfl rfl fun a80 F80 => ?_
          refine mvS F80 rfl rfl rfl rfl rfl fun a81 F81 => ?_
          refine mvS F81 rfl rfl rfl rfl rfl fun a82 F82 => ?_
          refine sr F82 (run_lenS rfl (F82.ev 148 rfl) (hV.below M16.below) rfl Tryd.underlying28) rfl rfl rfl fun a83 F83 => ?_
          refine sr F83 (run_sub (r := ((l.length - 1 : Nat) : Int)) rfl (F83.ev 149 rfl) rfl (by rw [IntKind.wrap_i64]; omega)) rfl rfl rfl fun a84 F84 => ?_
          refine sr (v := (.bool false)) F84 (run_eqi rfl (F84.ev 147 rfl) (F84.ev 150 rfl) (beq_eq_false_iff_ne.2 (by omega))) rfl rfl rfl fun a85 F85 => ?_
          refine sr (v := (.bool true)) F85 (run_eqb rfl (F85.ev 146 rfl) (F85.ev 151 rfl) Tryd.underlying4 (beq_self_eq_true _)) rfl rfl rfl fun a86 F86 => ?_
          refine mvS F86 rfl rfl rfl rfl rfl fun a87 F87 => ?_
          refine sq (v := (.int .i64 21)) F87 (wantedG F87 rfl rfl rfl rfl rfl) (run_mv rfl (F87.ev 21 rfl)) rfl (by decide) fun a88 F88 => ?_
          refine sq (v := (.bool false)) F88 (wantedG F88 rfl rfl rfl rfl rfl) (run_eqi rfl (F88.ev 154 rfl) rfl rfl) rfl (by decide) fun a89 F89 => ?_
          refine sq (v := (.bool false)) F89 (wantedG F89 rfl rfl rfl rfl rfl) (run_mv rfl (F89.ev 155 rfl)) rfl (by decide) fun a90 F90 => ?_
          refine sq (v := (.int .i64 21)) F90 (wantedG F90 rfl rfl rfl rfl rfl) (run_mv rfl (F90.ev 21 rfl)) rfl (by decide) fun a91 F91 => ?_
          refine sq (v := (.bool true)) F91 (wantedG F91 rfl rfl rfl rfl rfl) (run_eqi rfl (F91.ev 157 rfl) rfl (beq_self_eq_true _)) rfl (by decide) fun a92 F92 => ?_
          refine sq (v := (.bool true)) F92 (wantedG F92 rfl rfl rfl rfl rfl) (run_pick rfl (F92.ev 156 rfl) rfl (F92.ev 158 rfl)) rfl (by decide) fun a93 F93 => ?_
          refine sr (v := (.bool true)) F93 (run_pick rfl (F93.ev 153 rfl) (F93.ev 159 rfl) rfl) rfl rfl rfl fun a94 F94 => ?_
          refine asS F94 rfl rfl rfl rfl rfl fun a95 F95 => ?_
          refine sn ?_
          clear F78 F79 F80 F81 F82 F83 F84 F85 F86 F87 F88 F89 F90 F91 F92 F93 F94
          refine wp_ret ?_
          exact ret1 F95 rfl rfl ⟨rfl, M16.below⟩
theorem lawThree_any (l : List (List UInt8)) (v : Value) (nz : List UInt8) (pk : List UInt8) (b : UInt8) (w : World) (HG : Glob w) (hV : Sl w v 32 l.length (l.flatMap dgC)) (h32 : ∀ k ∈ l, k.length = 32) (_hcap : capOk v) (hLnz : nz.length = 64) (hpk : pk.length = 3) : Calls Tryd.prog 6 #[v, .agg (cells8 nz), .agg (cells8 pk), .int .u8 (b.toNat : Int)] w fun e w' => e = .returned (.bool true) ∧ Below w.heap.size w w' := by
  obtain ⟨p0, p1, p2, rfl⟩ := len3 hpk
  exact lawThree3_any l v nz p0 p1 p2 b w HG hV h32 _hcap hLnz
end Go.Proofs.YtconhhhggckcbaaDoor
