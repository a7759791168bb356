/- The walk of the law KeysOpen. Printed by gen_key30.py. -/
import Derived.Test.YtconhhhggckcbaaDoorRngD
import Derived.Test.YtconhhhggckcbaaDoorKRot
namespace Go.Proofs.YtconhhhggckcbaaDoor
open Go.RowKit

attribute [local irreducible] sealS keyedS nonceS openS
theorem opn_k32 {E : List Ep} {l : List Sh} : ∀ x ∈ (opnS E l).1, x.length = 32 := by
  unfold opnS
  split
  · intro x hx; cases hx
  · cases hJ : joinT l with
    | none => intro x hx; cases hx
    | some k =>
      show ∀ x ∈ (opnK E k).1, x.length = 32
      unfold opnK
      split
      · next hall =>
        intro x hx
        obtain ⟨i, hi, rfl⟩ := List.mem_map.1 hx
        exact kyI_len (joinT_len hJ) (List.mem_range.1 hi) (fun q _ h2 => hall q h2)
      · intro x hx; cases hx
theorem opn_len {E : List Ep} {l : List Sh} : (opnS E l).1.length ≤ E.length := by
  unfold opnS
  split
  · exact Nat.zero_le _
  · cases joinT l with
    | none => exact Nat.zero_le _
    | some k =>
      show (opnK E k).1.length ≤ E.length
      unfold opnK
      split
      · exact Nat.le_of_eq (allS_len E k)
      · exact Nat.zero_le _
attribute [local irreducible] opnS
set_option maxRecDepth 100000 in
set_option maxHeartbeats 1000000 in
theorem lawOpen38_any (E : List Ep) (v : Value) (l : List Sh) (u : Value) (w : World) (HG : Glob w) (hV : Sl w v 33 E.length (E.flatMap epF)) (hE32 : ∀ e ∈ E, e.c.length = 32) (hEw : ∀ e ∈ E, e.wr.length ≤ 140737488351232) (hU : Sl w u 33 l.length (l.flatMap shareC)) : Calls Tryd.prog 5 #[.agg #[v], u] w fun e w' => e = .returned (.bool true) ∧ Below w.heap.size w w' := by
  refine walk_enter Tryd.func5 rfl rfl rfl fun a0 F0 => ?_
  have M0 := Mem.new w
  refine wsl ?_
  refine sqNew (cs := #[v]) (t := 27) F0 M0 (wantedS rfl) (run_box rfl (F0.ev 0 rfl)) rfl (by decide) fun g0 a1 w1 hgg0 hb1 F1 M1 => ?_
  refine sr (v := (.bool false)) F1 (run_as rfl rfl) rfl rfl rfl fun a2 F2 => ?_
  refine sn ?_
  clear F0 F1 M0
  refine wp_seq ?_
  refine wsl ?_
  refine sqC (v := (.bool true)) F2 M1 (wantedS rfl) (run_call rfl Tryd.func12 (by kernel_rfl) rfl (mapE0 )) rfl (by decide) (alive38_any w1 (HG.below M1.below)) fun a3 w2 hb2 F3 M2 => ?_
  refine sr (v := (.bool false)) F3 (run_not rfl (F3.ev 9 rfl)) rfl rfl rfl fun a4 F4 => ?_
  refine sn ?_
  clear F2 F3 M1
  refine cfs (F4.ev 10 rfl) ?_
  refine wp_seq ?_
  refine wsl ?_
  refine sr F4 (run_ldB rfl (F4.ev 2 rfl) (M2.at 0 rfl) Tryd.underlying27 rfl szRg rfl) rfl rfl rfl fun a5 F5 => ?_
  refine sqT (T := fun u wx => (∃ r : Int, u = .int .i64 r ∧ (r = 1 ∨ (r = 0 ∧ E.length ≤ 105))) ∧ Below w2.heap.size w2 wx) F5 (wantedS rfl) (run_call rfl Tryd.func18 (by kernel_rfl) rfl (mapE1 (F5.ev 11 rfl))) rfl (by decide) ((great_any E v w2 (hV.below M2.below) hE32).mono fun e w2 ⟨⟨r, h1, h2⟩, h3⟩ => ⟨_, h1, ⟨r, rfl, h2⟩, h3⟩) fun u1 a6 w3 hT3 F6 => ?_
  obtain ⟨⟨rg, rfl, hrg⟩, hb3⟩ := hT3
  have M3 := M2.grow hb3
  rcases hrg with rfl | ⟨rfl, h105⟩
  · skip
    refine sr (v := (.bool true)) F6 (run_eqi rfl (F6.ev 12 rfl) rfl (beq_self_eq_true _)) rfl rfl rfl fun a7 F7 => ?_
    refine mvS F7 rfl rfl rfl rfl rfl fun a8 F8 => ?_
    refine sqSkip F8 (unwantedG F8 rfl rfl rfl rfl rfl) rfl (by decide) fun a9 F9 => ?_
    refine sqSkip F9 (unwantedG F9 rfl rfl rfl rfl rfl) rfl (by decide) fun a10 F10 => ?_
    refine sqSkip F10 (unwantedG F10 rfl rfl rfl rfl rfl) rfl (by decide) fun a11 F11 => ?_
    refine sr (v := (.bool true)) F11 (run_pick rfl (F11.ev 14 rfl) rfl (F11.ev 17 rfl)) rfl rfl rfl fun a12 F12 => ?_
    refine sn ?_
    refine wp_cond_true (F12.ev 18 rfl) ?_
    refine wsl ?_
    refine sr (v := (.bool true)) F12 (run_as rfl rfl) rfl rfl rfl fun a13 F13 => ?_
    refine sn ?_
    clear F12
    refine wp_ret ?_
    refine nxRet ?_
    exact ret1 F13 rfl rfl ⟨rfl, M3.below⟩
  · skip
    have hc3 : 10 < l.length ∨ l.length ≤ 10 := by omega
    rcases hc3 with h1 | h1
    · skip
      refine sr (v := (.bool false)) F6 (run_eqi rfl (F6.ev 12 rfl) rfl rfl) rfl rfl rfl fun a7 F7 => ?_
      refine mvS F7 rfl rfl rfl rfl rfl fun a8 F8 => ?_
      refine sq (v := u) F8 (wantedG F8 rfl rfl rfl rfl rfl) (run_mv rfl (F8.ev 1 rfl)) rfl (by decide) fun a9 F9 => ?_
      refine sq (v := (.int .i64 (l.length : Int))) F9 (wantedG F9 rfl rfl rfl rfl rfl) (run_lenS rfl (F9.ev 15 rfl) (hU.below M3.below) rfl Tryd.underlying31) rfl (by decide) fun a10 F10 => ?_
      refine sq (v := (.bool true)) F10 (wantedG F10 rfl rfl rfl rfl rfl) (run_gtr rfl (F10.ev 16 rfl) rfl (decide_eq_true (by omega))) rfl (by decide) fun a11 F11 => ?_
      refine sr (v := (.bool true)) F11 (run_pick rfl (F11.ev 14 rfl) rfl (F11.ev 17 rfl)) rfl rfl rfl fun a12 F12 => ?_
      refine sn ?_
      refine wp_cond_true (F12.ev 18 rfl) ?_
      refine wsl ?_
      refine sr (v := (.bool true)) F12 (run_as rfl rfl) rfl rfl rfl fun a13 F13 => ?_
      refine sn ?_
      clear F12
      refine wp_ret ?_
      refine nxRet ?_
      exact ret1 F13 rfl rfl ⟨rfl, M3.below⟩
    · skip
      refine sr (v := (.bool false)) F6 (run_eqi rfl (F6.ev 12 rfl) rfl rfl) rfl rfl rfl fun a7 F7 => ?_
      refine mvS F7 rfl rfl rfl rfl rfl fun a8 F8 => ?_
      refine sq (v := u) F8 (wantedG F8 rfl rfl rfl rfl rfl) (run_mv rfl (F8.ev 1 rfl)) rfl (by decide) fun a9 F9 => ?_
      refine sq (v := (.int .i64 (l.length : Int))) F9 (wantedG F9 rfl rfl rfl rfl rfl) (run_lenS rfl (F9.ev 15 rfl) (hU.below M3.below) rfl Tryd.underlying31) rfl (by decide) fun a10 F10 => ?_
      refine sq (v := (.bool false)) F10 (wantedG F10 rfl rfl rfl rfl rfl) (run_gtr rfl (F10.ev 16 rfl) rfl (decide_eq_false (by omega))) rfl (by decide) fun a11 F11 => ?_
      refine sr (v := (.bool false)) F11 (run_pick rfl (F11.ev 14 rfl) rfl (F11.ev 17 rfl)) rfl rfl rfl fun a12 F12 => ?_
      refine sn ?_
      refine cfs (F12.ev 18 rfl) ?_
      refine wsl ?_
      refine sr F12 (run_ldB rfl (F12.ev 2 rfl) (M3.at 0 rfl) Tryd.underlying27 rfl szRg rfl) rfl rfl rfl fun a13 F13 => ?_
      refine mvS F13 rfl rfl rfl rfl rfl fun a14 F14 => ?_
      refine sqT (T := fun u wx => Kp.sat w3.heap.size (.tup2 (.st (.row 23 32 ((opnS E l).1.length) ((opnS E l).1.flatMap dgC))) (.val (.int .i64 ((opnS E l).2)))) u wx ∧ Below w3.heap.size w3 wx) F14 (wantedS rfl) (run_call rfl Tryd.func23 (by kernel_rfl) rfl (mapE2 (F14.ev 20 rfl) (F14.ev 21 rfl))) rfl (by decide) (kopenB_any E l v u w3 (HG.below M3.below) (hV.below M3.below) hE32 hEw (hU.below M3.below) (by omega) (by omega)) fun u2 a15 w4 hT4 F15 => ?_
      obtain ⟨⟨_, _, rfl, ⟨vz3a, rfl, hz3a⟩, rfl⟩, hb4⟩ := hT4
      have hO1 := OwnR.ofCall M3 (show World.ownsRow w4 _ 23 32 vz3a ((opnS E l).1.length) ((opnS E l).1.flatMap dgC) from hz3a)
      have M4 := M3.grow hb4
      refine mvS F15 rfl rfl rfl rfl rfl fun a16 F16 => ?_
      refine sr (v := (.agg #[vz3a])) F16 (run_ext rfl (F16.ev 19 rfl) rfl) rfl rfl rfl fun a17 F17 => ?_
      refine sr (v := (.int .i64 ((opnS E l).2))) F17 (run_ext rfl (F17.ev 19 rfl) rfl) rfl rfl rfl fun a18 F18 => ?_
      refine sqNew (cs := #[.slice none 0 0]) (t := 30) F18 M4 (wantedS rfl) (run_alloc rfl (by kernel_rfl)) rfl (by decide) fun g4 a19 w5 hgg4 hb5 F19 M5 => ?_
      have hO2 := hO1.add (S := isB 30 (#[.slice none 0 0])) hb5 hgg4
      refine sqStoreG (i := 0) F19 M5 rfl rfl rfl (F19.ev 5 rfl) (F19.ev 23 rfl) rfl szKy rfl rfl (one_own hO2.owns) fun a20 w6 hgr6 F20 M6 => ?_
      have hO3 := hO2.upd 0 (S2 := isB 30 #[vz3a]) rfl hgr6
      refine asS F20 rfl rfl rfl rfl rfl fun a21 F21 => ?_
      refine sn ?_
      clear F12 F13 F14 F15 F16 F17 F18 F19 F20 M3 M4 M5
      refine wsl ?_
      refine sr F21 (run_ldB rfl (F21.ev 2 rfl) (M6.at 1 rfl) Tryd.underlying27 rfl szRg rfl) rfl rfl rfl fun a22 F22 => ?_
      refine mvS F22 rfl rfl rfl rfl rfl fun a23 F23 => ?_
      refine sqT (T := fun u wx => Kp.sat w6.heap.size (.tup2 (.st (.row 23 32 ((opnS E l).1.length) ((opnS E l).1.flatMap dgC))) (.val (.int .i64 ((opnS E l).2)))) u wx ∧ Below w6.heap.size w6 wx) F23 (wantedS rfl) (run_call rfl Tryd.func24 (by kernel_rfl) rfl (mapE2 (F23.ev 26 rfl) (F23.ev 27 rfl))) rfl (by decide) (ropen38_any E l v u w6 (hV.below M6.below) hE32 hEw (hU.below M6.below) (by omega)) fun u5 a24 w7 hT7 F24 => ?_
      obtain ⟨⟨_, _, rfl, ⟨vz6a, rfl, hz6a⟩, rfl⟩, hb7⟩ := hT7
      have hO4 := OwnR.ofCall M6 (show World.ownsRow w7 _ 23 32 vz6a ((opnS E l).1.length) ((opnS E l).1.flatMap dgC) from hz6a)
      have M7 := M6.grow hb7
      have hO5 := hO3.grow hb7
      refine mvS F24 rfl rfl rfl rfl rfl fun a25 F25 => ?_
      refine sr (v := (.agg #[vz6a])) F25 (run_ext rfl (F25.ev 25 rfl) rfl) rfl rfl rfl fun a26 F26 => ?_
      refine sr (v := (.int .i64 ((opnS E l).2))) F26 (run_ext rfl (F26.ev 25 rfl) rfl) rfl rfl rfl fun a27 F27 => ?_
      refine sqNew (cs := #[.slice none 0 0]) (t := 30) F27 M7 (wantedS rfl) (run_alloc rfl (by kernel_rfl)) rfl (by decide) fun g7 a28 w8 hgg7 hb8 F28 M8 => ?_
      have hO6 := hO5.add (S := isB 30 (#[.slice none 0 0])) hb8 hgg7
      have hO7 := hO4.add (S := isB 30 (#[.slice none 0 0])) hb8 hgg7
      refine sqStoreG (i := 0) F28 M8 rfl rfl rfl (F28.ev 7 rfl) (F28.ev 29 rfl) rfl szKy rfl rfl (one_own hO7.owns) fun a29 w9 hgr9 F29 M9 => ?_
      have hO8 := hO6.upd 0 (S2 := isB 30 #[vz6a]) rfl hgr9
      have hO9 := hO7.upd 0 (S2 := isB 30 #[vz6a]) rfl hgr9
      refine asS F29 rfl rfl rfl rfl rfl fun a30 F30 => ?_
      refine sn ?_
      clear F21 F22 F23 F24 F25 F26 F27 F28 F29 M6 M7 M8
      refine wsl ?_
      refine mvS F30 rfl rfl rfl rfl rfl fun a31 F31 => ?_
      refine mvS F31 rfl rfl rfl rfl rfl fun a32 F32 => ?_
      refine sr (v := (.bool true)) F32 (run_eqi rfl (F32.ev 31 rfl) (F32.ev 32 rfl) (beq_self_eq_true _)) rfl rfl rfl fun a33 F33 => ?_
      refine mvS F33 rfl rfl rfl rfl rfl fun a34 F34 => ?_
      refine sq (v := (.agg #[vz3a])) F34 (wantedG F34 rfl rfl rfl rfl rfl) (run_ldB rfl (F34.ev 5 rfl) (M9.at 1 rfl) Tryd.underlying30 rfl szKy rfl) rfl (by decide) fun a35 F35 => ?_
      refine sq (v := (.agg #[vz6a])) F35 (wantedG F35 rfl rfl rfl rfl rfl) (run_ldB rfl (F35.ev 7 rfl) (M9.at 0 rfl) Tryd.underlying30 rfl szKy rfl) rfl (by decide) fun a36 F36 => ?_
      refine sqC (v := (.bool true)) F36 M9 (wantedG F36 rfl rfl rfl rfl rfl) (run_call rfl Tryd.func16 (by kernel_rfl) rfl (mapE2 (F36.ev 35 rfl) (F36.ev 36 rfl))) rfl (by decide) (samek_any (opnS E l).1 vz3a vz6a w9 (Sl.own hO8) (Sl.own hO9) opn_k32 (Nat.lt_of_le_of_lt opn_len (by omega))) fun a37 w10 hb10 F37 M10 => ?_
      have hO10 := hO8.grow hb10
      have hO11 := hO9.grow hb10
      refine sr (v := (.bool true)) F37 (run_pick rfl (F37.ev 34 rfl) (F37.ev 37 rfl) rfl) rfl rfl rfl fun a38 F38 => ?_
      refine asS F38 rfl rfl rfl rfl rfl fun a39 F39 => ?_
      refine sn ?_
      clear F30 F31 F32 F33 F34 F35 F36 F37 F38 M9
      refine wp_ret ?_
      exact ret1 F39 rfl rfl ⟨rfl, M10.below⟩
end Go.Proofs.YtconhhhggckcbaaDoor
