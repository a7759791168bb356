/- The walk of the law KeysBytes (of texts up to 2^20 bytes). Printed by gen_key34.py. -/
import Derived.Test.YtconhhhggckcbaaDoorBytD
import Derived.Test.YtconhhhggckcbaaDoorKRot
namespace Go.Proofs.YtconhhhggckcbaaDoor
open Go.RowKit

attribute [local irreducible] sealS keyedS nonceS openS
theorem ringO_len (b : List UInt8) : (ringO b).1.length ≤ 100 := by
  cases h : textsS b with
  | error e => rw [ringO_err h]; exact Nat.zero_le _
  | ok l =>
    by_cases hy : evenOk l ∧ mayP (epsOf l)
    · rw [ringO_ok h hy]; exact hy.2.2.1
    · rw [ringO_no h hy]; exact Nat.zero_le _
theorem mem_row {s : List UInt8} : ∀ {l : List (List UInt8)}, s ∈ l → s.length ≤ (rowS l).length
  | [], h => by cases h
  | x :: l, h => by
    rw [rowS_cons, List.length_append, List.length_append]
    rcases List.mem_cons.1 h with rfl | h
    · omega
    · have := mem_row h
      omega
theorem ringO_wr (b : List UInt8) : ∀ e ∈ (ringO b).1, e.wr.length ≤ b.length := by
  cases h : textsS b with
  | error e => rw [ringO_err h]; intro e he; cases he
  | ok l =>
    by_cases hy : evenOk l ∧ mayP (epsOf l)
    · rw [ringO_ok h hy]
      intro e he
      have h1 := (textsS_back b.length b l (Nat.le_refl _) h).1
      have h2 : e.wr ∈ l := by
        rw [← rtxT_eps l hy.1.1]
        exact List.mem_flatMap.2 ⟨e, he, by simp⟩
      have := mem_row h2
      rw [h1] at this
      exact this
    · rw [ringO_no h hy]; intro e he; cases he
theorem row_le {E : List Ep} (hE32 : ∀ e ∈ E, e.c.length = 32) (hEw : ∀ e ∈ E, e.wr.length ≤ 1048576) (h : E.length ≤ 100) : (rowS (rtxT E)).length < 2 ^ 41 := by
  have h1 := flatten_le (rtxT_all hE32 hEw (by decide))
  have h2 := rtxT_len E
  rw [h2] at h1
  have h3 := rowS_len10 (rtxT E) (by omega)
  omega
attribute [local irreducible] ringO ringB
set_option maxRecDepth 100000 in
set_option maxHeartbeats 1000000 in
theorem lawBytes_any (E : List Ep) (v : Value) (b : List UInt8) (w : World) (HG : Glob w) (hV : Sl w v 33 E.length (E.flatMap epF)) (hE32 : ∀ e ∈ E, e.c.length = 32) (hEw : ∀ e ∈ E, e.wr.length ≤ 1048576) (_hb : b.length ≤ maxLen) : Calls Tryd.prog 11 #[.agg #[v], .string ⟨b.toArray⟩] w fun e w' => e = .returned (.bool true) ∧ Below w.heap.size w w' := by
  by_cases hm : mayP E
  · have hB : ringB E = (rowS (rtxT E), 0) := by unfold ringB; rw [if_pos hm]
    by_cases hO : (ringO b).2 = 0
    · skip
      refine walk_enter Tryd.func11 rfl rfl rfl fun a0 F0 => ?_
      have M0 := Mem.new w
      refine wsl ?_
      refine sqNew (cs := #[v]) (t := 27) F0 M0 (wantedS rfl) (run_box rfl (F0.ev 0 rfl)) rfl (by decide) fun g0 a1 w1 hgg0 hb1 F1 M1 => ?_
      refine sr (v := (.bool false)) F1 (run_as rfl rfl) rfl rfl rfl fun a2 F2 => ?_
      refine sn ?_
      clear F0 F1 M0
      refine wp_seq ?_
      refine wsl ?_
      refine sqC (v := (.bool true)) F2 M1 (wantedS rfl) (run_call rfl Tryd.func12 (by kernel_rfl) rfl (mapE0 )) rfl (by decide) (alive38_any w1 (HG.below M1.below)) fun a3 w2 hb2 F3 M2 => ?_
      refine sr (v := (.bool false)) F3 (run_not rfl (F3.ev 17 rfl)) rfl rfl rfl fun a4 F4 => ?_
      refine sn ?_
      clear F2 F3 M1
      refine cfs (F4.ev 18 rfl) ?_
      refine wp_seq ?_
      refine wsl ?_
      refine sr F4 (run_ldB rfl (F4.ev 2 rfl) (M2.at 0 rfl) Tryd.underlying27 rfl szRg rfl) rfl rfl rfl fun a5 F5 => ?_
      refine sqT (T := fun u wx => (∃ r : Int, u = .int .i64 r ∧ (r = 1 ∨ (r = 0 ∧ E.length ≤ 105))) ∧ Below w2.heap.size w2 wx) F5 (wantedS rfl) (run_call rfl Tryd.func18 (by kernel_rfl) rfl (mapE1 (F5.ev 19 rfl))) rfl (by decide) ((great_any E v w2 (hV.below M2.below) hE32).mono fun e w2 ⟨⟨r, h1, h2⟩, h3⟩ => ⟨_, h1, ⟨r, rfl, h2⟩, h3⟩) fun u1 a6 w3 hT3 F6 => ?_
      obtain ⟨⟨rg, rfl, hrg⟩, hb3⟩ := hT3
      have M3 := M2.grow hb3
      rcases hrg with rfl | ⟨rfl, h105⟩
      · skip
        refine sr (v := (.bool true)) F6 (run_eqi rfl (F6.ev 20 rfl) rfl (beq_self_eq_true _)) rfl rfl rfl fun a7 F7 => ?_
        refine mvS F7 rfl rfl rfl rfl rfl fun a8 F8 => ?_
        refine sqSkip F8 (unwantedG F8 rfl rfl rfl rfl rfl) rfl (by decide) fun a9 F9 => ?_
        refine sqSkip F9 (unwantedG F9 rfl rfl rfl rfl rfl) rfl (by decide) fun a10 F10 => ?_
        refine sqSkip F10 (unwantedG F10 rfl rfl rfl rfl rfl) rfl (by decide) fun a11 F11 => ?_
        refine sr (v := (.bool true)) F11 (run_pick rfl (F11.ev 22 rfl) rfl (F11.ev 25 rfl)) rfl rfl rfl fun a12 F12 => ?_
        refine sn ?_
        refine wp_cond_true (F12.ev 26 rfl) ?_
        refine wsl ?_
        refine sr (v := (.bool true)) F12 (run_as rfl rfl) rfl rfl rfl fun a13 F13 => ?_
        refine sn ?_
        clear F12
        refine wp_ret ?_
        refine nxRet ?_
        exact ret1 F13 rfl rfl ⟨rfl, M3.below⟩
      · skip
        have hc3 : 3000 < b.length ∨ b.length ≤ 3000 := by omega
        rcases hc3 with h1 | h1
        · skip
          refine sr (v := (.bool false)) F6 (run_eqi rfl (F6.ev 20 rfl) rfl rfl) rfl rfl rfl fun a7 F7 => ?_
          refine mvS F7 rfl rfl rfl rfl rfl fun a8 F8 => ?_
          refine sq (v := (.string ⟨b.toArray⟩)) F8 (wantedG F8 rfl rfl rfl rfl rfl) (run_mv rfl (F8.ev 1 rfl)) rfl (by decide) fun a9 F9 => ?_
          refine sq (v := (.int .i64 (b.length : Int))) F9 (wantedG F9 rfl rfl rfl rfl rfl) (run_len rfl (F9.ev 23 rfl) rfl Tryd.underlying9) rfl (by decide) fun a10 F10 => ?_
          refine sq (v := (.bool true)) F10 (wantedG F10 rfl rfl rfl rfl rfl) (run_gtr rfl (F10.ev 24 rfl) rfl (decide_eq_true (by omega))) rfl (by decide) fun a11 F11 => ?_
          refine sr (v := (.bool true)) F11 (run_pick rfl (F11.ev 22 rfl) rfl (F11.ev 25 rfl)) rfl rfl rfl fun a12 F12 => ?_
          refine sn ?_
          refine wp_cond_true (F12.ev 26 rfl) ?_
          refine wsl ?_
          refine sr (v := (.bool true)) F12 (run_as rfl rfl) rfl rfl rfl fun a13 F13 => ?_
          refine sn ?_
          clear F12
          refine wp_ret ?_
          refine nxRet ?_
          exact ret1 F13 rfl rfl ⟨rfl, M3.below⟩
        · skip
          refine sr (v := (.bool false)) F6 (run_eqi rfl (F6.ev 20 rfl) rfl rfl) rfl rfl rfl fun a7 F7 => ?_
          refine mvS F7 rfl rfl rfl rfl rfl fun a8 F8 => ?_
          refine sq (v := (.string ⟨b.toArray⟩)) F8 (wantedG F8 rfl rfl rfl rfl rfl) (run_mv rfl (F8.ev 1 rfl)) rfl (by decide) fun a9 F9 => ?_
          refine sq (v := (.int .i64 (b.length : Int))) F9 (wantedG F9 rfl rfl rfl rfl rfl) (run_len rfl (F9.ev 23 rfl) rfl Tryd.underlying9) rfl (by decide) fun a10 F10 => ?_
          refine sq (v := (.bool false)) F10 (wantedG F10 rfl rfl rfl rfl rfl) (run_gtr rfl (F10.ev 24 rfl) rfl (decide_eq_false (by omega))) rfl (by decide) fun a11 F11 => ?_
          refine sr (v := (.bool false)) F11 (run_pick rfl (F11.ev 22 rfl) rfl (F11.ev 25 rfl)) rfl rfl rfl fun a12 F12 => ?_
          refine sn ?_
          refine cfs (F12.ev 26 rfl) ?_
          refine wsl ?_
          refine sr F12 (run_ldB rfl (F12.ev 2 rfl) (M3.at 0 rfl) Tryd.underlying27 rfl szRg rfl) rfl rfl rfl fun a13 F13 => ?_
          refine sqC (v := (.tuple #[(.string ⟨(rowS (rtxT E)).toArray⟩), (.int .i64 0)])) F13 M3 (wantedS rfl) (run_call rfl Tryd.func33 (by kernel_rfl) rfl (mapE1 (F13.ev 28 rfl))) rfl (by decide) ((by have h := kbytes_any E v w3 (hV.below M3.below) hE32 hEw; rw [hB] at h; exact h)) fun a14 w4 hb4 F14 M4 => ?_
          refine mvS F14 rfl rfl rfl rfl rfl fun a15 F15 => ?_
          refine sr (v := (.string ⟨(rowS (rtxT E)).toArray⟩)) F15 (run_ext rfl (F15.ev 27 rfl) rfl) rfl rfl rfl fun a16 F16 => ?_
          refine sr (v := (.int .i64 0)) F16 (run_ext rfl (F16.ev 27 rfl) rfl) rfl rfl rfl fun a17 F17 => ?_
          refine asS F17 rfl rfl rfl rfl rfl fun a18 F18 => ?_
          refine asS F18 rfl rfl rfl rfl rfl fun a19 F19 => ?_
          refine sn ?_
          clear F12 F13 F14 F15 F16 F17 F18 M3
          refine wsl ?_
          refine sr F19 (run_ldB rfl (F19.ev 2 rfl) (M4.at 0 rfl) Tryd.underlying27 rfl szRg rfl) rfl rfl rfl fun a20 F20 => ?_
          refine sqC (v := (.tuple #[(.string ⟨(rowS (rtxT E)).toArray⟩), (.int .i64 0)])) F20 M4 (wantedS rfl) (run_call rfl Tryd.func34 (by kernel_rfl) rfl (mapE1 (F20.ev 33 rfl))) rfl (by decide) ((by have h := rbytes38_any E v w4 (hV.below M4.below) hE32 hEw; rw [hB] at h; exact h)) fun a21 w5 hb5 F21 M5 => ?_
          refine mvS F21 rfl rfl rfl rfl rfl fun a22 F22 => ?_
          refine sr (v := (.string ⟨(rowS (rtxT E)).toArray⟩)) F22 (run_ext rfl (F22.ev 32 rfl) rfl) rfl rfl rfl fun a23 F23 => ?_
          refine sr (v := (.int .i64 0)) F23 (run_ext rfl (F23.ev 32 rfl) rfl) rfl rfl rfl fun a24 F24 => ?_
          refine asS F24 rfl rfl rfl rfl rfl fun a25 F25 => ?_
          refine asS F25 rfl rfl rfl rfl rfl fun a26 F26 => ?_
          refine sn ?_
          clear F19 F20 F21 F22 F23 F24 F25 M4
          refine wsl ?_
          refine mvS F26 rfl rfl rfl rfl rfl fun a27 F27 => ?_
          refine sqT (T := fun u wx => Kp.sat w5.heap.size (.tup2 (.st (.row 76 33 (((ringO b).1).length) (((ringO b).1).flatMap epF))) (.val (.int .i64 ((ringO b).2)))) u wx ∧ Below w5.heap.size w5 wx) F27 (wantedS rfl) (run_call rfl Tryd.func35 (by kernel_rfl) rfl (mapE1 (F27.ev 38 rfl))) rfl (by decide) (kof_any b w5 (by omega)) fun u2 a28 w6 hT6 F28 => ?_
          obtain ⟨⟨_, _, rfl, ⟨vz3a, rfl, hz3a⟩, rfl⟩, hb6⟩ := hT6
          have hO1 := OwnR.ofCall M5 (show World.ownsRow w6 _ 76 33 vz3a (((ringO b).1).length) (((ringO b).1).flatMap epF) from hz3a)
          have M6 := M5.grow hb6
          refine mvS F28 rfl rfl rfl rfl rfl fun a29 F29 => ?_
          refine sr (v := (.agg #[vz3a])) F29 (run_ext rfl (F29.ev 37 rfl) rfl) rfl rfl rfl fun a30 F30 => ?_
          refine sr (v := (.int .i64 ((ringO b).2))) F30 (run_ext rfl (F30.ev 37 rfl) rfl) rfl rfl rfl fun a31 F31 => ?_
          refine sqNew (cs := #[.slice none 0 0]) (t := 27) F31 M6 (wantedS rfl) (run_alloc rfl (by kernel_rfl)) rfl (by decide) fun g4 a32 w7 hgg4 hb7 F32 M7 => ?_
          have hO2 := hO1.add (S := isB 27 (#[.slice none 0 0])) hb7 hgg4
          refine sqStoreG (i := 0) F32 M7 rfl rfl rfl (F32.ev 9 rfl) (F32.ev 40 rfl) rfl szRg rfl rfl (one_own hO2.owns) fun a33 w8 hgr8 F33 M8 => ?_
          have hO3 := hO2.upd 0 (S2 := isB 27 #[vz3a]) rfl hgr8
          refine asS F33 rfl rfl rfl rfl rfl fun a34 F34 => ?_
          refine sn ?_
          clear F26 F27 F28 F29 F30 F31 F32 F33 M5 M6 M7
          refine wsl ?_
          refine mvS F34 rfl rfl rfl rfl rfl fun a35 F35 => ?_
          refine sqT (T := fun u wx => Kp.sat w8.heap.size (.tup2 (.st (.row 76 33 (((ringO b).1).length) (((ringO b).1).flatMap epF))) (.val (.int .i64 ((ringO b).2)))) u wx ∧ Below w8.heap.size w8 wx) F35 (wantedS rfl) (run_call rfl Tryd.func36 (by kernel_rfl) rfl (mapE1 (F35.ev 43 rfl))) rfl (by decide) (rof38_any b w8 (by omega)) fun u5 a36 w9 hT9 F36 => ?_
          obtain ⟨⟨_, _, rfl, ⟨vz6a, rfl, hz6a⟩, rfl⟩, hb9⟩ := hT9
          have hO4 := OwnR.ofCall M8 (show World.ownsRow w9 _ 76 33 vz6a (((ringO b).1).length) (((ringO b).1).flatMap epF) from hz6a)
          have M9 := M8.grow hb9
          have hO5 := hO3.grow hb9
          refine mvS F36 rfl rfl rfl rfl rfl fun a37 F37 => ?_
          refine sr (v := (.agg #[vz6a])) F37 (run_ext rfl (F37.ev 42 rfl) rfl) rfl rfl rfl fun a38 F38 => ?_
          refine sr (v := (.int .i64 ((ringO b).2))) F38 (run_ext rfl (F38.ev 42 rfl) rfl) rfl rfl rfl fun a39 F39 => ?_
          refine sqNew (cs := #[.slice none 0 0]) (t := 27) F39 M9 (wantedS rfl) (run_alloc rfl (by kernel_rfl)) rfl (by decide) fun g7 a40 w10 hgg7 hb10 F40 M10 => ?_
          have hO6 := hO5.add (S := isB 27 (#[.slice none 0 0])) hb10 hgg7
          have hO7 := hO4.add (S := isB 27 (#[.slice none 0 0])) hb10 hgg7
          refine sqStoreG (i := 0) F40 M10 rfl rfl rfl (F40.ev 11 rfl) (F40.ev 45 rfl) rfl szRg rfl rfl (one_own hO7.owns) fun a41 w11 hgr11 F41 M11 => ?_
          have hO8 := hO6.upd 0 (S2 := isB 27 #[vz6a]) rfl hgr11
          have hO9 := hO7.upd 0 (S2 := isB 27 #[vz6a]) rfl hgr11
          refine asS F41 rfl rfl rfl rfl rfl fun a42 F42 => ?_
          refine sn ?_
          clear F34 F35 F36 F37 F38 F39 F40 F41 M8 M9 M10
          refine wp_seq ?_
          refine wsl ?_
          refine mvS F42 rfl rfl rfl rfl rfl fun a43 F43 => ?_
          refine mvS F43 rfl rfl rfl rfl rfl fun a44 F44 => ?_
          refine sr (v := (.bool false)) F44 (run_nes rfl (F44.ev 47 rfl) (F44.ev 48 rfl) (by rw [beq_self_eq_true]; rfl)) rfl rfl rfl fun a45 F45 => ?_
          refine mvS F45 rfl rfl rfl rfl rfl fun a46 F46 => ?_
          refine sq (v := (.int .i64 0)) F46 (wantedG F46 rfl rfl rfl rfl rfl) (run_mv rfl (F46.ev 6 rfl)) rfl (by decide) fun a47 F47 => ?_
          refine sq (v := (.int .i64 0)) F47 (wantedG F47 rfl rfl rfl rfl rfl) (run_mv rfl (F47.ev 8 rfl)) rfl (by decide) fun a48 F48 => ?_
          refine sq (v := (.bool false)) F48 (wantedG F48 rfl rfl rfl rfl rfl) (run_nei rfl (F48.ev 51 rfl) (F48.ev 52 rfl) (bne_self_eq_false _)) rfl (by decide) fun a49 F49 => ?_
          refine sr (v := (.bool false)) F49 (run_pick rfl (F49.ev 50 rfl) rfl (F49.ev 53 rfl)) rfl rfl rfl fun a50 F50 => ?_
          refine mvS F50 rfl rfl rfl rfl rfl fun a51 F51 => ?_
          refine sq (v := (.int .i64 ((ringO b).2))) F51 (wantedG F51 rfl rfl rfl rfl rfl) (run_mv rfl (F51.ev 10 rfl)) rfl (by decide) fun a52 F52 => ?_
          refine sq (v := (.int .i64 ((ringO b).2))) F52 (wantedG F52 rfl rfl rfl rfl rfl) (run_mv rfl (F52.ev 12 rfl)) rfl (by decide) fun a53 F53 => ?_
          refine sq (v := (.bool false)) F53 (wantedG F53 rfl rfl rfl rfl rfl) (run_nei rfl (F53.ev 56 rfl) (F53.ev 57 rfl) (bne_self_eq_false _)) rfl (by decide) fun a54 F54 => ?_
          refine sr (v := (.bool false)) F54 (run_pick rfl (F54.ev 55 rfl) rfl (F54.ev 58 rfl)) rfl rfl rfl fun a55 F55 => ?_
          refine mvS F55 rfl rfl rfl rfl rfl fun a56 F56 => ?_
          refine sq (v := (.agg #[vz3a])) F56 (wantedG F56 rfl rfl rfl rfl rfl) (run_ldB rfl (F56.ev 9 rfl) (M11.at 1 rfl) Tryd.underlying27 rfl szRg rfl) rfl (by decide) fun a57 F57 => ?_
          refine sq (v := (.agg #[vz6a])) F57 (wantedG F57 rfl rfl rfl rfl rfl) (run_ldB rfl (F57.ev 11 rfl) (M11.at 0 rfl) Tryd.underlying27 rfl szRg rfl) rfl (by decide) fun a58 F58 => ?_
          refine sqC (v := (.bool true)) F58 M11 (wantedG F58 rfl rfl rfl rfl rfl) (run_call rfl Tryd.func15 (by kernel_rfl) rfl (mapE2 (F58.ev 61 rfl) (F58.ev 62 rfl))) rfl (by decide) (samer_any (ringO b).1 vz3a vz6a w11 (Sl.own hO8) (Sl.own hO9) (ringO_c32 b) (Nat.lt_of_le_of_lt (ringO_len b) (by decide))) fun a59 w12 hb12 F59 M12 => ?_
          have hO10 := hO8.grow hb12
          have hO11 := hO9.grow hb12
          refine sq (v := (.bool false)) F59 (wantedG F59 rfl rfl rfl rfl rfl) (run_not rfl (F59.ev 63 rfl)) rfl (by decide) fun a60 F60 => ?_
          refine sr (v := (.bool false)) F60 (run_pick rfl (F60.ev 60 rfl) rfl (F60.ev 64 rfl)) rfl rfl rfl fun a61 F61 => ?_
          refine sn ?_
          clear F42 F43 F44 F45 F46 F47 F48 F49 F50 F51 F52 F53 F54 F55 F56 F57 F58 F59 F60 M11
          refine cfs (F61.ev 65 rfl) ?_
          refine wp_seq ?_
          refine wsl ?_
          refine mvS F61 rfl rfl rfl rfl rfl fun a62 F62 => ?_
          refine sr (v := (.bool true)) F62 (run_eqi rfl (F62.ev 66 rfl) rfl (beq_iff_eq.2 (by omega))) rfl rfl rfl fun a63 F63 => ?_
          refine sn ?_
          clear F61 F62
          refine wp_cond_true (F63.ev 67 rfl) ?_
          refine wsl ?_
          refine mvS F63 rfl rfl rfl rfl rfl fun a64 F64 => ?_
          refine sqT (T := fun u wx => Kp.sat w12.heap.size (.tup2 (.st (.row 76 33 E.length (E.flatMap epF))) (.val (.int .i64 0))) u wx ∧ Below w12.heap.size w12 wx) F64 (wantedS rfl) (run_call rfl Tryd.func35 (by kernel_rfl) rfl (mapE1 (F64.ev 69 rfl))) rfl (by decide) ((by have h := kof_any (rowS (rtxT E)) w12 (row_le hE32 hEw hm.2.1); rw [ringO_ring hm hE32 hEw] at h; exact h)) fun u8 a65 w13 hT13 F65 => ?_
          obtain ⟨⟨_, _, rfl, ⟨vz9a, rfl, hz9a⟩, rfl⟩, hb13⟩ := hT13
          have hO12 := OwnR.ofCall M12 (show World.ownsRow w13 _ 76 33 vz9a E.length (E.flatMap epF) from hz9a)
          have M13 := M12.grow hb13
          have hO13 := hO10.grow hb13
          have hO14 := hO11.grow hb13
          refine mvS F65 rfl rfl rfl rfl rfl fun a66 F66 => ?_
          refine sr (v := (.agg #[vz9a])) F66 (run_ext rfl (F66.ev 68 rfl) rfl) rfl rfl rfl fun a67 F67 => ?_
          refine sr (v := (.int .i64 0)) F67 (run_ext rfl (F67.ev 68 rfl) rfl) rfl rfl rfl fun a68 F68 => ?_
          refine sqNew (cs := #[.slice none 0 0]) (t := 27) F68 M13 (wantedS rfl) (run_alloc rfl (by kernel_rfl)) rfl (by decide) fun g10 a69 w14 hgg10 hb14 F69 M14 => ?_
          have hO15 := hO13.add (S := isB 27 (#[.slice none 0 0])) hb14 hgg10
          have hO16 := hO14.add (S := isB 27 (#[.slice none 0 0])) hb14 hgg10
          have hO17 := hO12.add (S := isB 27 (#[.slice none 0 0])) hb14 hgg10
          refine sqStoreG (i := 0) F69 M14 rfl rfl rfl (F69.ev 13 rfl) (F69.ev 71 rfl) rfl szRg rfl rfl (one_own hO17.owns) fun a70 w15 hgr15 F70 M15 => ?_
          have hO18 := hO15.upd 0 (S2 := isB 27 #[vz9a]) rfl hgr15
          have hO19 := hO16.upd 0 (S2 := isB 27 #[vz9a]) rfl hgr15
          have hO20 := hO17.upd 0 (S2 := isB 27 #[vz9a]) rfl hgr15
          refine asS F70 rfl rfl rfl rfl rfl fun a71 F71 => ?_
          refine sn ?_
          clear F63 F64 F65 F66 F67 F68 F69 F70 M12 M13 M14
          refine wsl ?_
          refine mvS F71 rfl rfl rfl rfl rfl fun a72 F72 => ?_
          refine sr (v := (.bool false)) F72 (run_nei rfl (F72.ev 73 rfl) rfl (bne_self_eq_false _)) rfl rfl rfl fun a73 F73 => ?_
          refine mvS F73 rfl rfl rfl rfl rfl fun a74 F74 => ?_
          refine sq (v := (.agg #[vz9a])) F74 (wantedG F74 rfl rfl rfl rfl rfl) (run_ldB rfl (F74.ev 13 rfl) (M15.at 0 rfl) Tryd.underlying27 rfl szRg rfl) rfl (by decide) fun a75 F75 => ?_
          refine sq (v := (.agg #[v])) F75 (wantedG F75 rfl rfl rfl rfl rfl) (run_ldB rfl (F75.ev 2 rfl) (M15.at 3 rfl) Tryd.underlying27 rfl szRg rfl) rfl (by decide) fun a76 F76 => ?_
          refine sqC (v := (.bool true)) F76 M15 (wantedG F76 rfl rfl rfl rfl rfl) (run_call rfl Tryd.func15 (by kernel_rfl) rfl (mapE2 (F76.ev 76 rfl) (F76.ev 77 rfl))) rfl (by decide) (samer_any E vz9a v w15 (Sl.own hO20) (hV.below M15.below) hE32 (by omega)) fun a77 w16 hb16 F77 M16 => ?_
          have hO21 := hO18.grow hb16
          have hO22 := hO19.grow hb16
          have hO23 := hO20.grow hb16
          refine sq (v := (.bool false)) F77 (wantedG F77 rfl rfl rfl rfl rfl) (run_not rfl (F77.ev 78 rfl)) rfl (by decide) fun a78 F78 => ?_
          refine sr (v := (.bool false)) F78 (run_pick rfl (F78.ev 75 rfl) rfl (F78.ev 79 rfl)) rfl rfl rfl fun a79 F79 => ?_
          refine sn ?_
          clear F71 F72 F73 F74 F75 F76 F77 F78 M15
          refine cfs (F79.ev 80 rfl) ?_
          refine wp_seq ?_
          refine wsl ?_
          refine mvS F79 rfl rfl rfl rfl rfl fun a80 F80 => ?_
          refine sr (v := (.bool true)) F80 (run_eqi rfl (F80.ev 81 rfl) rfl (beq_iff_eq.2 hO)) rfl rfl rfl fun a81 F81 => ?_
          refine sn ?_
          clear F79 F80
          refine wp_cond_true (F81.ev 82 rfl) ?_
          refine wsl ?_
          refine sr F81 (run_ldB rfl (F81.ev 9 rfl) (M16.at 2 rfl) Tryd.underlying27 rfl szRg rfl) rfl rfl rfl fun a82 F82 => ?_
          refine sqC (v := (.tuple #[(.string ⟨b.toArray⟩), (.int .i64 0)])) F82 M16 (wantedS rfl) (run_call rfl Tryd.func33 (by kernel_rfl) rfl (mapE1 (F82.ev 84 rfl))) rfl (by decide) ((by have h := kbytes_any (ringO b).1 vz3a w16 (Sl.own hO21) (ringO_c32 b) (fun e he => Nat.le_trans (ringO_wr b e he) (by omega)); rw [(ringO_back hO).2] at h; exact h)) fun a83 w17 hb17 F83 M17 => ?_
          have hO24 := hO21.grow hb17
          have hO25 := hO22.grow hb17
          have hO26 := hO23.grow hb17
          refine mvS F83 rfl rfl rfl rfl rfl fun a84 F84 => ?_
          refine sr (v := (.string ⟨b.toArray⟩)) F84 (run_ext rfl (F84.ev 83 rfl) rfl) rfl rfl rfl fun a85 F85 => ?_
          refine sr (v := (.int .i64 0)) F85 (run_ext rfl (F85.ev 83 rfl) rfl) rfl rfl rfl fun a86 F86 => ?_
          refine asS F86 rfl rfl rfl rfl rfl fun a87 F87 => ?_
          refine asS F87 rfl rfl rfl rfl rfl fun a88 F88 => ?_
          refine sn ?_
          clear F81 F82 F83 F84 F85 F86 F87 M16
          refine wsl ?_
          refine mvS F88 rfl rfl rfl rfl rfl fun a89 F89 => ?_
          refine sr (v := (.bool true)) F89 (run_eqi rfl (F89.ev 88 rfl) rfl (beq_self_eq_true _)) rfl rfl rfl fun a90 F90 => ?_
          refine mvS F90 rfl rfl rfl rfl rfl fun a91 F91 => ?_
          refine sq (v := (.string ⟨b.toArray⟩)) F91 (wantedG F91 rfl rfl rfl rfl rfl) (run_mv rfl (F91.ev 15 rfl)) rfl (by decide) fun a92 F92 => ?_
          refine sq (v := (.string ⟨b.toArray⟩)) F92 (wantedG F92 rfl rfl rfl rfl rfl) (run_mv rfl (F92.ev 1 rfl)) rfl (by decide) fun a93 F93 => ?_
          refine sq (v := (.bool true)) F93 (wantedG F93 rfl rfl rfl rfl rfl) (run_eqs rfl (F93.ev 91 rfl) (F93.ev 92 rfl) (beq_self_eq_true _)) rfl (by decide) fun a94 F94 => ?_
          refine sr (v := (.bool true)) F94 (run_pick rfl (F94.ev 90 rfl) (F94.ev 93 rfl) rfl) rfl rfl rfl fun a95 F95 => ?_
          refine asS F95 rfl rfl rfl rfl rfl fun a96 F96 => ?_
          refine sn ?_
          clear F88 F89 F90 F91 F92 F93 F94 F95
          refine wp_ret ?_
          refine nxRet ?_
          exact ret1 F96 rfl rfl ⟨rfl, M17.below⟩
    · skip
      refine walk_enter Tryd.func11 rfl rfl rfl fun a0 F0 => ?_
      have M0 := Mem.new w
      refine wsl ?_
      refine sqNew (cs := #[v]) (t := 27) F0 M0 (wantedS rfl) (run_box rfl (F0.ev 0 rfl)) rfl (by decide) fun g0 a1 w1 hgg0 hb1 F1 M1 => ?_
      refine sr (v := (.bool false)) F1 (run_as rfl rfl) rfl rfl rfl fun a2 F2 => ?_
      refine sn ?_
      clear F0 F1 M0
      refine wp_seq ?_
      refine wsl ?_
      refine sqC (v := (.bool true)) F2 M1 (wantedS rfl) (run_call rfl Tryd.func12 (by kernel_rfl) rfl (mapE0 )) rfl (by decide) (alive38_any w1 (HG.below M1.below)) fun a3 w2 hb2 F3 M2 => ?_
      refine sr (v := (.bool false)) F3 (run_not rfl (F3.ev 17 rfl)) rfl rfl rfl fun a4 F4 => ?_
      refine sn ?_
      clear F2 F3 M1
      refine cfs (F4.ev 18 rfl) ?_
      refine wp_seq ?_
      refine wsl ?_
      refine sr F4 (run_ldB rfl (F4.ev 2 rfl) (M2.at 0 rfl) Tryd.underlying27 rfl szRg rfl) rfl rfl rfl fun a5 F5 => ?_
      refine sqT (T := fun u wx => (∃ r : Int, u = .int .i64 r ∧ (r = 1 ∨ (r = 0 ∧ E.length ≤ 105))) ∧ Below w2.heap.size w2 wx) F5 (wantedS rfl) (run_call rfl Tryd.func18 (by kernel_rfl) rfl (mapE1 (F5.ev 19 rfl))) rfl (by decide) ((great_any E v w2 (hV.below M2.below) hE32).mono fun e w2 ⟨⟨r, h1, h2⟩, h3⟩ => ⟨_, h1, ⟨r, rfl, h2⟩, h3⟩) fun u1 a6 w3 hT3 F6 => ?_
      obtain ⟨⟨rg, rfl, hrg⟩, hb3⟩ := hT3
      have M3 := M2.grow hb3
      rcases hrg with rfl | ⟨rfl, h105⟩
      · skip
        refine sr (v := (.bool true)) F6 (run_eqi rfl (F6.ev 20 rfl) rfl (beq_self_eq_true _)) rfl rfl rfl fun a7 F7 => ?_
        refine mvS F7 rfl rfl rfl rfl rfl fun a8 F8 => ?_
        refine sqSkip F8 (unwantedG F8 rfl rfl rfl rfl rfl) rfl (by decide) fun a9 F9 => ?_
        refine sqSkip F9 (unwantedG F9 rfl rfl rfl rfl rfl) rfl (by decide) fun a10 F10 => ?_
        refine sqSkip F10 (unwantedG F10 rfl rfl rfl rfl rfl) rfl (by decide) fun a11 F11 => ?_
        refine sr (v := (.bool true)) F11 (run_pick rfl (F11.ev 22 rfl) rfl (F11.ev 25 rfl)) rfl rfl rfl fun a12 F12 => ?_
        refine sn ?_
        refine wp_cond_true (F12.ev 26 rfl) ?_
        refine wsl ?_
        refine sr (v := (.bool true)) F12 (run_as rfl rfl) rfl rfl rfl fun a13 F13 => ?_
        refine sn ?_
        clear F12
        refine wp_ret ?_
        refine nxRet ?_
        exact ret1 F13 rfl rfl ⟨rfl, M3.below⟩
      · skip
        have hc3 : 3000 < b.length ∨ b.length ≤ 3000 := by omega
        rcases hc3 with h1 | h1
        · skip
          refine sr (v := (.bool false)) F6 (run_eqi rfl (F6.ev 20 rfl) rfl rfl) rfl rfl rfl fun a7 F7 => ?_
          refine mvS F7 rfl rfl rfl rfl rfl fun a8 F8 => ?_
          refine sq (v := (.string ⟨b.toArray⟩)) F8 (wantedG F8 rfl rfl rfl rfl rfl) (run_mv rfl (F8.ev 1 rfl)) rfl (by decide) fun a9 F9 => ?_
          refine sq (v := (.int .i64 (b.length : Int))) F9 (wantedG F9 rfl rfl rfl rfl rfl) (run_len rfl (F9.ev 23 rfl) rfl Tryd.underlying9) rfl (by decide) fun a10 F10 => ?_
          refine sq (v := (.bool true)) F10 (wantedG F10 rfl rfl rfl rfl rfl) (run_gtr rfl (F10.ev 24 rfl) rfl (decide_eq_true (by omega))) rfl (by decide) fun a11 F11 => ?_
          refine sr (v := (.bool true)) F11 (run_pick rfl (F11.ev 22 rfl) rfl (F11.ev 25 rfl)) rfl rfl rfl fun a12 F12 => ?_
          refine sn ?_
          refine wp_cond_true (F12.ev 26 rfl) ?_
          refine wsl ?_
          refine sr (v := (.bool true)) F12 (run_as rfl rfl) rfl rfl rfl fun a13 F13 => ?_
          refine sn ?_
          clear F12
          refine wp_ret ?_
          refine nxRet ?_
          exact ret1 F13 rfl rfl ⟨rfl, M3.below⟩
        · skip
          refine sr (v := (.bool false)) F6 (run_eqi rfl (F6.ev 20 rfl) rfl rfl) rfl rfl rfl fun a7 F7 => ?_
          refine mvS F7 rfl rfl rfl rfl rfl fun a8 F8 => ?_
          refine sq (v := (.string ⟨b.toArray⟩)) F8 (wantedG F8 rfl rfl rfl rfl rfl) (run_mv rfl (F8.ev 1 rfl)) rfl (by decide) fun a9 F9 => ?_
          refine sq (v := (.int .i64 (b.length : Int))) F9 (wantedG F9 rfl rfl rfl rfl rfl) (run_len rfl (F9.ev 23 rfl) rfl Tryd.underlying9) rfl (by decide) fun a10 F10 => ?_
          refine sq (v := (.bool false)) F10 (wantedG F10 rfl rfl rfl rfl rfl) (run_gtr rfl (F10.ev 24 rfl) rfl (decide_eq_false (by omega))) rfl (by decide) fun a11 F11 => ?_
          refine sr (v := (.bool false)) F11 (run_pick rfl (F11.ev 22 rfl) rfl (F11.ev 25 rfl)) rfl rfl rfl fun a12 F12 => ?_
          refine sn ?_
          refine cfs (F12.ev 26 rfl) ?_
          refine wsl ?_
          refine sr F12 (run_ldB rfl (F12.ev 2 rfl) (M3.at 0 rfl) Tryd.underlying27 rfl szRg rfl) rfl rfl rfl fun a13 F13 => ?_
          refine sqC (v := (.tuple #[(.string ⟨(rowS (rtxT E)).toArray⟩), (.int .i64 0)])) F13 M3 (wantedS rfl) (run_call rfl Tryd.func33 (by kernel_rfl) rfl (mapE1 (F13.ev 28 rfl))) rfl (by decide) ((by have h := kbytes_any E v w3 (hV.below M3.below) hE32 hEw; rw [hB] at h; exact h)) fun a14 w4 hb4 F14 M4 => ?_
          refine mvS F14 rfl rfl rfl rfl rfl fun a15 F15 => ?_
          refine sr (v := (.string ⟨(rowS (rtxT E)).toArray⟩)) F15 (run_ext rfl (F15.ev 27 rfl) rfl) rfl rfl rfl fun a16 F16 => ?_
          refine sr (v := (.int .i64 0)) F16 (run_ext rfl (F16.ev 27 rfl) rfl) rfl rfl rfl fun a17 F17 => ?_
          refine asS F17 rfl rfl rfl rfl rfl fun a18 F18 => ?_
          refine asS F18 rfl rfl rfl rfl rfl fun a19 F19 => ?_
          refine sn ?_
          clear F12 F13 F14 F15 F16 F17 F18 M3
          refine wsl ?_
          refine sr F19 (run_ldB rfl (F19.ev 2 rfl) (M4.at 0 rfl) Tryd.underlying27 rfl szRg rfl) rfl rfl rfl fun a20 F20 => ?_
          refine sqC (v := (.tuple #[(.string ⟨(rowS (rtxT E)).toArray⟩), (.int .i64 0)])) F20 M4 (wantedS rfl) (run_call rfl Tryd.func34 (by kernel_rfl) rfl (mapE1 (F20.ev 33 rfl))) rfl (by decide) ((by have h := rbytes38_any E v w4 (hV.below M4.below) hE32 hEw; rw [hB] at h; exact h)) fun a21 w5 hb5 F21 M5 => ?_
          refine mvS F21 rfl rfl rfl rfl rfl fun a22 F22 => ?_
          refine sr (v := (.string ⟨(rowS (rtxT E)).toArray⟩)) F22 (run_ext rfl (F22.ev 32 rfl) rfl) rfl rfl rfl fun a23 F23 => ?_
          refine sr (v := (.int .i64 0)) F23 (run_ext rfl (F23.ev 32 rfl) rfl) rfl rfl rfl fun a24 F24 => ?_
          refine asS F24 rfl rfl rfl rfl rfl fun a25 F25 => ?_
          refine asS F25 rfl rfl rfl rfl rfl fun a26 F26 => ?_
          refine sn ?_
          clear F19 F20 F21 F22 F23 F24 F25 M4
          refine wsl ?_
          refine mvS F26 rfl rfl rfl rfl rfl fun a27 F27 => ?_
          refine sqT (T := fun u wx => Kp.sat w5.heap.size (.tup2 (.st (.row 76 33 (((ringO b).1).length) (((ringO b).1).flatMap epF))) (.val (.int .i64 ((ringO b).2)))) u wx ∧ Below w5.heap.size w5 wx) F27 (wantedS rfl) (run_call rfl Tryd.func35 (by kernel_rfl) rfl (mapE1 (F27.ev 38 rfl))) rfl (by decide) (kof_any b w5 (by omega)) fun u2 a28 w6 hT6 F28 => ?_
          obtain ⟨⟨_, _, rfl, ⟨vz3a, rfl, hz3a⟩, rfl⟩, hb6⟩ := hT6
          have hO1 := OwnR.ofCall M5 (show World.ownsRow w6 _ 76 33 vz3a (((ringO b).1).length) (((ringO b).1).flatMap epF) from hz3a)
          have M6 := M5.grow hb6
          refine mvS F28 rfl rfl rfl rfl rfl fun a29 F29 => ?_
          refine sr (v := (.agg #[vz3a])) F29 (run_ext rfl (F29.ev 37 rfl) rfl) rfl rfl rfl fun a30 F30 => ?_
          refine sr (v := (.int .i64 ((ringO b).2))) F30 (run_ext rfl (F30.ev 37 rfl) rfl) rfl rfl rfl fun a31 F31 => ?_
          refine sqNew (cs := #[.slice none 0 0]) (t := 27) F31 M6 (wantedS rfl) (run_alloc rfl (by kernel_rfl)) rfl (by decide) fun g4 a32 w7 hgg4 hb7 F32 M7 => ?_
          have hO2 := hO1.add (S := isB 27 (#[.slice none 0 0])) hb7 hgg4
          refine sqStoreG (i := 0) F32 M7 rfl rfl rfl (F32.ev 9 rfl) (F32.ev 40 rfl) rfl szRg rfl rfl (one_own hO2.owns) fun a33 w8 hgr8 F33 M8 => ?_
          have hO3 := hO2.upd 0 (S2 := isB 27 #[vz3a]) rfl hgr8
          refine asS F33 rfl rfl rfl rfl rfl fun a34 F34 => ?_
          refine sn ?_
          clear F26 F27 F28 F29 F30 F31 F32 F33 M5 M6 M7
          refine wsl ?_
          refine mvS F34 rfl rfl rfl rfl rfl fun a35 F35 => ?_
          refine sqT (T := fun u wx => Kp.sat w8.heap.size (.tup2 (.st (.row 76 33 (((ringO b).1).length) (((ringO b).1).flatMap epF))) (.val (.int .i64 ((ringO b).2)))) u wx ∧ Below w8.heap.size w8 wx) F35 (wantedS rfl) (run_call rfl Tryd.func36 (by kernel_rfl) rfl (mapE1 (F35.ev 43 rfl))) rfl (by decide) (rof38_any b w8 (by omega)) fun u5 a36 w9 hT9 F36 => ?_
          obtain ⟨⟨_, _, rfl, ⟨vz6a, rfl, hz6a⟩, rfl⟩, hb9⟩ := hT9
          have hO4 := OwnR.ofCall M8 (show World.ownsRow w9 _ 76 33 vz6a (((ringO b).1).length) (((ringO b).1).flatMap epF) from hz6a)
          have M9 := M8.grow hb9
          have hO5 := hO3.grow hb9
          refine mvS F36 rfl rfl rfl rfl rfl fun a37 F37 => ?_
          refine sr (v := (.agg #[vz6a])) F37 (run_ext rfl (F37.ev 42 rfl) rfl) rfl rfl rfl fun a38 F38 => ?_
          refine sr (v := (.int .i64 ((ringO b).2))) F38 (run_ext rfl (F38.ev 42 rfl) rfl) rfl rfl rfl fun a39 F39 => ?_
          refine sqNew (cs := #[.slice none 0 0]) (t := 27) F39 M9 (wantedS rfl) (run_alloc rfl (by kernel_rfl)) rfl (by decide) fun g7 a40 w10 hgg7 hb10 F40 M10 => ?_
          have hO6 := hO5.add (S := isB 27 (#[.slice none 0 0])) hb10 hgg7
          have hO7 := hO4.add (S := isB 27 (#[.slice none 0 0])) hb10 hgg7
          refine sqStoreG (i := 0) F40 M10 rfl rfl rfl (F40.ev 11 rfl) (F40.ev 45 rfl) rfl szRg rfl rfl (one_own hO7.owns) fun a41 w11 hgr11 F41 M11 => ?_
          have hO8 := hO6.upd 0 (S2 := isB 27 #[vz6a]) rfl hgr11
          have hO9 := hO7.upd 0 (S2 := isB 27 #[vz6a]) rfl hgr11
          refine asS F41 rfl rfl rfl rfl rfl fun a42 F42 => ?_
          refine sn ?_
          clear F34 F35 F36 F37 F38 F39 F40 F41 M8 M9 M10
          refine wp_seq ?_
          refine wsl ?_
          refine mvS F42 rfl rfl rfl rfl rfl fun a43 F43 => ?_
          refine mvS F43 rfl rfl rfl rfl rfl fun a44 F44 => ?_
          refine sr (v := (.bool false)) F44 (run_nes rfl (F44.ev 47 rfl) (F44.ev 48 rfl) (by rw [beq_self_eq_true]; rfl)) rfl rfl rfl fun a45 F45 => ?_
          refine mvS F45 rfl rfl rfl rfl rfl fun a46 F46 => ?_
          refine sq (v := (.int .i64 0)) F46 (wantedG F46 rfl rfl rfl rfl rfl) (run_mv rfl (F46.ev 6 rfl)) rfl (by decide) fun a47 F47 => ?_
          refine sq (v := (.int .i64 0)) F47 (wantedG F47 rfl rfl rfl rfl rfl) (run_mv rfl (F47.ev 8 rfl)) rfl (by decide) fun a48 F48 => ?_
          refine sq (v := (.bool false)) F48 (wantedG F48 rfl rfl rfl rfl rfl) (run_nei rfl (F48.ev 51 rfl) (F48.ev 52 rfl) (bne_self_eq_false _)) rfl (by decide) fun a49 F49 => ?_
          refine sr (v := (.bool false)) F49 (run_pick rfl (F49.ev 50 rfl) rfl (F49.ev 53 rfl)) rfl rfl rfl fun a50 F50 => ?_
          refine mvS F50 rfl rfl rfl rfl rfl fun a51 F51 => ?_
          refine sq (v := (.int .i64 ((ringO b).2))) F51 (wantedG F51 rfl rfl rfl rfl rfl) (run_mv rfl (F51.ev 10 rfl)) rfl (by decide) fun a52 F52 => ?_
          refine sq (v := (.int .i64 ((ringO b).2))) F52 (wantedG F52 rfl rfl rfl rfl rfl) (run_mv rfl (F52.ev 12 rfl)) rfl (by decide) fun a53 F53 => ?_
          refine sq (v := (.bool false)) F53 (wantedG F53 rfl rfl rfl rfl rfl) (run_nei rfl (F53.ev 56 rfl) (F53.ev 57 rfl) (bne_self_eq_false _)) rfl (by decide) fun a54 F54 => ?_
          refine sr (v := (.bool false)) F54 (run_pick rfl (F54.ev 55 rfl) rfl (F54.ev 58 rfl)) rfl rfl rfl fun a55 F55 => ?_
          refine mvS F55 rfl rfl rfl rfl rfl fun a56 F56 => ?_
          refine sq (v := (.agg #[vz3a])) F56 (wantedG F56 rfl rfl rfl rfl rfl) (run_ldB rfl (F56.ev 9 rfl) (M11.at 1 rfl) Tryd.underlying27 rfl szRg rfl) rfl (by decide) fun a57 F57 => ?_
          refine sq (v := (.agg #[vz6a])) F57 (wantedG F57 rfl rfl rfl rfl rfl) (run_ldB rfl (F57.ev 11 rfl) (M11.at 0 rfl) Tryd.underlying27 rfl szRg rfl) rfl (by decide) fun a58 F58 => ?_
          refine sqC (v := (.bool true)) F58 M11 (wantedG F58 rfl rfl rfl rfl rfl) (run_call rfl Tryd.func15 (by kernel_rfl) rfl (mapE2 (F58.ev 61 rfl) (F58.ev 62 rfl))) rfl (by decide) (samer_any (ringO b).1 vz3a vz6a w11 (Sl.own hO8) (Sl.own hO9) (ringO_c32 b) (Nat.lt_of_le_of_lt (ringO_len b) (by decide))) fun a59 w12 hb12 F59 M12 => ?_
          have hO10 := hO8.grow hb12
          have hO11 := hO9.grow hb12
          refine sq (v := (.bool false)) F59 (wantedG F59 rfl rfl rfl rfl rfl) (run_not rfl (F59.ev 63 rfl)) rfl (by decide) fun a60 F60 => ?_
          refine sr (v := (.bool false)) F60 (run_pick rfl (F60.ev 60 rfl) rfl (F60.ev 64 rfl)) rfl rfl rfl fun a61 F61 => ?_
          refine sn ?_
          clear F42 F43 F44 F45 F46 F47 F48 F49 F50 F51 F52 F53 F54 F55 F56 F57 F58 F59 F60 M11
          refine cfs (F61.ev 65 rfl) ?_
          refine wp_seq ?_
          refine wsl ?_
          refine mvS F61 rfl rfl rfl rfl rfl fun a62 F62 => ?_
          refine sr (v := (.bool true)) F62 (run_eqi rfl (F62.ev 66 rfl) rfl (beq_iff_eq.2 (by omega))) rfl rfl rfl fun a63 F63 => ?_
          refine sn ?_
          clear F61 F62
          refine wp_cond_true (F63.ev 67 rfl) ?_
          refine wsl ?_
          refine mvS F63 rfl rfl rfl rfl rfl fun a64 F64 => ?_
          refine sqT (T := fun u wx => Kp.sat w12.heap.size (.tup2 (.st (.row 76 33 E.length (E.flatMap epF))) (.val (.int .i64 0))) u wx ∧ Below w12.heap.size w12 wx) F64 (wantedS rfl) (run_call rfl Tryd.func35 (by kernel_rfl) rfl (mapE1 (F64.ev 69 rfl))) rfl (by decide) ((by have h := kof_any (rowS (rtxT E)) w12 (row_le hE32 hEw hm.2.1); rw [ringO_ring hm hE32 hEw] at h; exact h)) fun u8 a65 w13 hT13 F65 => ?_
          obtain ⟨⟨_, _, rfl, ⟨vz9a, rfl, hz9a⟩, rfl⟩, hb13⟩ := hT13
          have hO12 := OwnR.ofCall M12 (show World.ownsRow w13 _ 76 33 vz9a E.length (E.flatMap epF) from hz9a)
          have M13 := M12.grow hb13
          have hO13 := hO10.grow hb13
          have hO14 := hO11.grow hb13
          refine mvS F65 rfl rfl rfl rfl rfl fun a66 F66 => ?_
          refine sr (v := (.agg #[vz9a])) F66 (run_ext rfl (F66.ev 68 rfl) rfl) rfl rfl rfl fun a67 F67 => ?_
          refine sr (v := (.int .i64 0)) F67 (run_ext rfl (F67.ev 68 rfl) rfl) rfl rfl rfl fun a68 F68 => ?_
          refine sqNew (cs := #[.slice none 0 0]) (t := 27) F68 M13 (wantedS rfl) (run_alloc rfl (by kernel_rfl)) rfl (by decide) fun g10 a69 w14 hgg10 hb14 F69 M14 => ?_
          have hO15 := hO13.add (S := isB 27 (#[.slice none 0 0])) hb14 hgg10
          have hO16 := hO14.add (S := isB 27 (#[.slice none 0 0])) hb14 hgg10
          have hO17 := hO12.add (S := isB 27 (#[.slice none 0 0])) hb14 hgg10
          refine sqStoreG (i := 0) F69 M14 rfl rfl rfl (F69.ev 13 rfl) (F69.ev 71 rfl) rfl szRg rfl rfl (one_own hO17.owns) fun a70 w15 hgr15 F70 M15 => ?_
          have hO18 := hO15.upd 0 (S2 := isB 27 #[vz9a]) rfl hgr15
          have hO19 := hO16.upd 0 (S2 := isB 27 #[vz9a]) rfl hgr15
          have hO20 := hO17.upd 0 (S2 := isB 27 #[vz9a]) rfl hgr15
          refine asS F70 rfl rfl rfl rfl rfl fun a71 F71 => ?_
          refine sn ?_
          clear F63 F64 F65 F66 F67 F68 F69 F70 M12 M13 M14
          refine wsl ?_
          refine mvS F71 rfl rfl rfl rfl rfl fun a72 F72 => ?_
          refine sr (v := (.bool false)) F72 (run_nei rfl (F72.ev 73 rfl) rfl (bne_self_eq_false _)) rfl rfl rfl fun a73 F73 => ?_
          refine mvS F73 rfl rfl rfl rfl rfl fun a74 F74 => ?_
          refine sq (v := (.agg #[vz9a])) F74 (wantedG F74 rfl rfl rfl rfl rfl) (run_ldB rfl (F74.ev 13 rfl) (M15.at 0 rfl) Tryd.underlying27 rfl szRg rfl) rfl (by decide) fun a75 F75 => ?_
          refine sq (v := (.agg #[v])) F75 (wantedG F75 rfl rfl rfl rfl rfl) (run_ldB rfl (F75.ev 2 rfl) (M15.at 3 rfl) Tryd.underlying27 rfl szRg rfl) rfl (by decide) fun a76 F76 => ?_
          refine sqC (v := (.bool true)) F76 M15 (wantedG F76 rfl rfl rfl rfl rfl) (run_call rfl Tryd.func15 (by kernel_rfl) rfl (mapE2 (F76.ev 76 rfl) (F76.ev 77 rfl))) rfl (by decide) (samer_any E vz9a v w15 (Sl.own hO20) (hV.below M15.below) hE32 (by omega)) fun a77 w16 hb16 F77 M16 => ?_
          have hO21 := hO18.grow hb16
          have hO22 := hO19.grow hb16
          have hO23 := hO20.grow hb16
          refine sq (v := (.bool false)) F77 (wantedG F77 rfl rfl rfl rfl rfl) (run_not rfl (F77.ev 78 rfl)) rfl (by decide) fun a78 F78 => ?_
          refine sr (v := (.bool false)) F78 (run_pick rfl (F78.ev 75 rfl) rfl (F78.ev 79 rfl)) rfl rfl rfl fun a79 F79 => ?_
          refine sn ?_
          clear F71 F72 F73 F74 F75 F76 F77 F78 M15
          refine cfs (F79.ev 80 rfl) ?_
          refine wp_seq ?_
          refine wsl ?_
          refine mvS F79 rfl rfl rfl rfl rfl fun a80 F80 => ?_
          refine sr (v := (.bool false)) F80 (run_eqi rfl (F80.ev 81 rfl) rfl (beq_eq_false_iff_ne.2 hO)) rfl rfl rfl fun a81 F81 => ?_
          refine sn ?_
          clear F79 F80
          refine cfs (F81.ev 82 rfl) ?_
          refine wsl ?_
          refine sr (v := (.bool true)) F81 (run_as rfl rfl) rfl rfl rfl fun a82 F82 => ?_
          refine sn ?_
          clear F81
          refine wp_ret ?_
          exact ret1 F82 rfl rfl ⟨rfl, M16.below⟩
  · have hB : ringB E = ([], 3) := by unfold ringB; rw [if_neg hm]
    by_cases hO : (ringO b).2 = 0
    · skip
      refine walk_enter Tryd.func11 rfl rfl rfl fun a0 F0 => ?_
      have M0 := Mem.new w
      refine wsl ?_
      refine sqNew (cs := #[v]) (t := 27) F0 M0 (wantedS rfl) (run_box rfl (F0.ev 0 rfl)) rfl (by decide) fun g0 a1 w1 hgg0 hb1 F1 M1 => ?_
      refine sr (v := (.bool false)) F1 (run_as rfl rfl) rfl rfl rfl fun a2 F2 => ?_
      refine sn ?_
      clear F0 F1 M0
      refine wp_seq ?_
      refine wsl ?_
      refine sqC (v := (.bool true)) F2 M1 (wantedS rfl) (run_call rfl Tryd.func12 (by kernel_rfl) rfl (mapE0 )) rfl (by decide) (alive38_any w1 (HG.below M1.below)) fun a3 w2 hb2 F3 M2 => ?_
      refine sr (v := (.bool false)) F3 (run_not rfl (F3.ev 17 rfl)) rfl rfl rfl fun a4 F4 => ?_
      refine sn ?_
      clear F2 F3 M1
      refine cfs (F4.ev 18 rfl) ?_
      refine wp_seq ?_
      refine wsl ?_
      refine sr F4 (run_ldB rfl (F4.ev 2 rfl) (M2.at 0 rfl) Tryd.underlying27 rfl szRg rfl) rfl rfl rfl fun a5 F5 => ?_
      refine sqT (T := fun u wx => (∃ r : Int, u = .int .i64 r ∧ (r = 1 ∨ (r = 0 ∧ E.length ≤ 105))) ∧ Below w2.heap.size w2 wx) F5 (wantedS rfl) (run_call rfl Tryd.func18 (by kernel_rfl) rfl (mapE1 (F5.ev 19 rfl))) rfl (by decide) ((great_any E v w2 (hV.below M2.below) hE32).mono fun e w2 ⟨⟨r, h1, h2⟩, h3⟩ => ⟨_, h1, ⟨r, rfl, h2⟩, h3⟩) fun u1 a6 w3 hT3 F6 => ?_
      obtain ⟨⟨rg, rfl, hrg⟩, hb3⟩ := hT3
      have M3 := M2.grow hb3
      rcases hrg with rfl | ⟨rfl, h105⟩
      · skip
        refine sr (v := (.bool true)) F6 (run_eqi rfl (F6.ev 20 rfl) rfl (beq_self_eq_true _)) rfl rfl rfl fun a7 F7 => ?_
        refine mvS F7 rfl rfl rfl rfl rfl fun a8 F8 => ?_
        refine sqSkip F8 (unwantedG F8 rfl rfl rfl rfl rfl) rfl (by decide) fun a9 F9 => ?_
        refine sqSkip F9 (unwantedG F9 rfl rfl rfl rfl rfl) rfl (by decide) fun a10 F10 => ?_
        refine sqSkip F10 (unwantedG F10 rfl rfl rfl rfl rfl) rfl (by decide) fun a11 F11 => ?_
        refine sr (v := (.bool true)) F11 (run_pick rfl (F11.ev 22 rfl) rfl (F11.ev 25 rfl)) rfl rfl rfl fun a12 F12 => ?_
        refine sn ?_
        refine wp_cond_true (F12.ev 26 rfl) ?_
        refine wsl ?_
        refine sr (v := (.bool true)) F12 (run_as rfl rfl) rfl rfl rfl fun a13 F13 => ?_
        refine sn ?_
        clear F12
        refine wp_ret ?_
        refine nxRet ?_
        exact ret1 F13 rfl rfl ⟨rfl, M3.below⟩
      · skip
        have hc3 : 3000 < b.length ∨ b.length ≤ 3000 := by omega
        rcases hc3 with h1 | h1
        · skip
          refine sr (v := (.bool false)) F6 (run_eqi rfl (F6.ev 20 rfl) rfl rfl) rfl rfl rfl fun a7 F7 => ?_
          refine mvS F7 rfl rfl rfl rfl rfl fun a8 F8 => ?_
          refine sq (v := (.string ⟨b.toArray⟩)) F8 (wantedG F8 rfl rfl rfl rfl rfl) (run_mv rfl (F8.ev 1 rfl)) rfl (by decide) fun a9 F9 => ?_
          refine sq (v := (.int .i64 (b.length : Int))) F9 (wantedG F9 rfl rfl rfl rfl rfl) (run_len rfl (F9.ev 23 rfl) rfl Tryd.underlying9) rfl (by decide) fun a10 F10 => ?_
          refine sq (v := (.bool true)) F10 (wantedG F10 rfl rfl rfl rfl rfl) (run_gtr rfl (F10.ev 24 rfl) rfl (decide_eq_true (by omega))) rfl (by decide) fun a11 F11 => ?_
          refine sr (v := (.bool true)) F11 (run_pick rfl (F11.ev 22 rfl) rfl (F11.ev 25 rfl)) rfl rfl rfl fun a12 F12 => ?_
          refine sn ?_
          refine wp_cond_true (F12.ev 26 rfl) ?_
          refine wsl ?_
          refine sr (v := (.bool true)) F12 (run_as rfl rfl) rfl rfl rfl fun a13 F13 => ?_
          refine sn ?_
          clear F12
          refine wp_ret ?_
          refine nxRet ?_
          exact ret1 F13 rfl rfl ⟨rfl, M3.below⟩
        · skip
          refine sr (v := (.bool false)) F6 (run_eqi rfl (F6.ev 20 rfl) rfl rfl) rfl rfl rfl fun a7 F7 => ?_
          refine mvS F7 rfl rfl rfl rfl rfl fun a8 F8 => ?_
          refine sq (v := (.string ⟨b.toArray⟩)) F8 (wantedG F8 rfl rfl rfl rfl rfl) (run_mv rfl (F8.ev 1 rfl)) rfl (by decide) fun a9 F9 => ?_
          refine sq (v := (.int .i64 (b.length : Int))) F9 (wantedG F9 rfl rfl rfl rfl rfl) (run_len rfl (F9.ev 23 rfl) rfl Tryd.underlying9) rfl (by decide) fun a10 F10 => ?_
          refine sq (v := (.bool false)) F10 (wantedG F10 rfl rfl rfl rfl rfl) (run_gtr rfl (F10.ev 24 rfl) rfl (decide_eq_false (by omega))) rfl (by decide) fun a11 F11 => ?_
          refine sr (v := (.bool false)) F11 (run_pick rfl (F11.ev 22 rfl) rfl (F11.ev 25 rfl)) rfl rfl rfl fun a12 F12 => ?_
          refine sn ?_
          refine cfs (F12.ev 26 rfl) ?_
          refine wsl ?_
          refine sr F12 (run_ldB rfl (F12.ev 2 rfl) (M3.at 0 rfl) Tryd.underlying27 rfl szRg rfl) rfl rfl rfl fun a13 F13 => ?_
          refine sqC (v := (.tuple #[(.string ⟨List.toArray []⟩), (.int .i64 3)])) F13 M3 (wantedS rfl) (run_call rfl Tryd.func33 (by kernel_rfl) rfl (mapE1 (F13.ev 28 rfl))) rfl (by decide) ((by have h := kbytes_any E v w3 (hV.below M3.below) hE32 hEw; rw [hB] at h; exact h)) fun a14 w4 hb4 F14 M4 => ?_
          refine mvS F14 rfl rfl rfl rfl rfl fun a15 F15 => ?_
          refine sr (v := (.string ⟨List.toArray []⟩)) F15 (run_ext rfl (F15.ev 27 rfl) rfl) rfl rfl rfl fun a16 F16 => ?_
          refine sr (v := (.int .i64 3)) F16 (run_ext rfl (F16.ev 27 rfl) rfl) rfl rfl rfl fun a17 F17 => ?_
          refine asS F17 rfl rfl rfl rfl rfl fun a18 F18 => ?_
          refine asS F18 rfl rfl rfl rfl rfl fun a19 F19 => ?_
          refine sn ?_
          clear F12 F13 F14 F15 F16 F17 F18 M3
          refine wsl ?_
          refine sr F19 (run_ldB rfl (F19.ev 2 rfl) (M4.at 0 rfl) Tryd.underlying27 rfl szRg rfl) rfl rfl rfl fun a20 F20 => ?_
          refine sqC (v := (.tuple #[(.string ⟨List.toArray []⟩), (.int .i64 3)])) F20 M4 (wantedS rfl) (run_call rfl Tryd.func34 (by kernel_rfl) rfl (mapE1 (F20.ev 33 rfl))) rfl (by decide) ((by have h := rbytes38_any E v w4 (hV.below M4.below) hE32 hEw; rw [hB] at h; exact h)) fun a21 w5 hb5 F21 M5 => ?_
          refine mvS F21 rfl rfl rfl rfl rfl fun a22 F22 => ?_
          refine sr (v := (.string ⟨List.toArray []⟩)) F22 (run_ext rfl (F22.ev 32 rfl) rfl) rfl rfl rfl fun a23 F23 => ?_
          refine sr (v := (.int .i64 3)) F23 (run_ext rfl (F23.ev 32 rfl) rfl) rfl rfl rfl fun a24 F24 => ?_
          refine asS F24 rfl rfl rfl rfl rfl fun a25 F25 => ?_
          refine asS F25 rfl rfl rfl rfl rfl fun a26 F26 => ?_
          refine sn ?_
          clear F19 F20 F21 F22 F23 F24 F25 M4
          refine wsl ?_
          refine mvS F26 rfl rfl rfl rfl rfl fun a27 F27 => ?_
          refine sqT (T := fun u wx => Kp.sat w5.heap.size (.tup2 (.st (.row 76 33 (((ringO b).1).length) (((ringO b).1).flatMap epF))) (.val (.int .i64 ((ringO b).2)))) u wx ∧ Below w5.heap.size w5 wx) F27 (wantedS rfl) (run_call rfl Tryd.func35 (by kernel_rfl) rfl (mapE1 (F27.ev 38 rfl))) rfl (by decide) (kof_any b w5 (by omega)) fun u2 a28 w6 hT6 F28 => ?_
          obtain ⟨⟨_, _, rfl, ⟨vz3a, rfl, hz3a⟩, rfl⟩, hb6⟩ := hT6
          have hO1 := OwnR.ofCall M5 (show World.ownsRow w6 _ 76 33 vz3a (((ringO b).1).length) (((ringO b).1).flatMap epF) from hz3a)
          have M6 := M5.grow hb6
          refine mvS F28 rfl rfl rfl rfl rfl fun a29 F29 => ?_
          refine sr (v := (.agg #[vz3a])) F29 (run_ext rfl (F29.ev 37 rfl) rfl) rfl rfl rfl fun a30 F30 => ?_
          refine sr (v := (.int .i64 ((ringO b).2))) F30 (run_ext rfl (F30.ev 37 rfl) rfl) rfl rfl rfl fun a31 F31 => ?_
          refine sqNew (cs := #[.slice none 0 0]) (t := 27) F31 M6 (wantedS rfl) (run_alloc rfl (by kernel_rfl)) rfl (by decide) fun g4 a32 w7 hgg4 hb7 F32 M7 => ?_
          have hO2 := hO1.add (S := isB 27 (#[.slice none 0 0])) hb7 hgg4
          refine sqStoreG (i := 0) F32 M7 rfl rfl rfl (F32.ev 9 rfl) (F32.ev 40 rfl) rfl szRg rfl rfl (one_own hO2.owns) fun a33 w8 hgr8 F33 M8 => ?_
          have hO3 := hO2.upd 0 (S2 := isB 27 #[vz3a]) rfl hgr8
          refine asS F33 rfl rfl rfl rfl rfl fun a34 F34 => ?_
          refine sn ?_
          clear F26 F27 F28 F29 F30 F31 F32 F33 M5 M6 M7
          refine wsl ?_
          refine mvS F34 rfl rfl rfl rfl rfl fun a35 F35 => ?_
          refine sqT (T := fun u wx => Kp.sat w8.heap.size (.tup2 (.st (.row 76 33 (((ringO b).1).length) (((ringO b).1).flatMap epF))) (.val (.int .i64 ((ringO b).2)))) u wx ∧ Below w8.heap.size w8 wx) F35 (wantedS rfl) (run_call rfl Tryd.func36 (by kernel_rfl) rfl (mapE1 (F35.ev 43 rfl))) rfl (by decide) (rof38_any b w8 (by omega)) fun u5 a36 w9 hT9 F36 => ?_
          obtain ⟨⟨_, _, rfl, ⟨vz6a, rfl, hz6a⟩, rfl⟩, hb9⟩ := hT9
          have hO4 := OwnR.ofCall M8 (show World.ownsRow w9 _ 76 33 vz6a (((ringO b).1).length) (((ringO b).1).flatMap epF) from hz6a)
          have M9 := M8.grow hb9
          have hO5 := hO3.grow hb9
          refine mvS F36 rfl rfl rfl rfl rfl fun a37 F37 => ?_
          refine sr (v := (.agg #[vz6a])) F37 (run_ext rfl (F37.ev 42 rfl) rfl) rfl rfl rfl fun a38 F38 => ?_
          refine sr (v := (.int .i64 ((ringO b).2))) F38 (run_ext rfl (F38.ev 42 rfl) rfl) rfl rfl rfl fun a39 F39 => ?_
          refine sqNew (cs := #[.slice none 0 0]) (t := 27) F39 M9 (wantedS rfl) (run_alloc rfl (by kernel_rfl)) rfl (by decide) fun g7 a40 w10 hgg7 hb10 F40 M10 => ?_
          have hO6 := hO5.add (S := isB 27 (#[.slice none 0 0])) hb10 hgg7
          have hO7 := hO4.add (S := isB 27 (#[.slice none 0 0])) hb10 hgg7
          refine sqStoreG (i := 0) F40 M10 rfl rfl rfl (F40.ev 11 rfl) (F40.ev 45 rfl) rfl szRg rfl rfl (one_own hO7.owns) fun a41 w11 hgr11 F41 M11 => ?_
          have hO8 := hO6.upd 0 (S2 := isB 27 #[vz6a]) rfl hgr11
          have hO9 := hO7.upd 0 (S2 := isB 27 #[vz6a]) rfl hgr11
          refine asS F41 rfl rfl rfl rfl rfl fun a42 F42 => ?_
          refine sn ?_
          clear F34 F35 F36 F37 F38 F39 F40 F41 M8 M9 M10
          refine wp_seq ?_
          refine wsl ?_
          refine mvS F42 rfl rfl rfl rfl rfl fun a43 F43 => ?_
          refine mvS F43 rfl rfl rfl rfl rfl fun a44 F44 => ?_
          refine sr (v := (.bool false)) F44 (run_nes rfl (F44.ev 47 rfl) (F44.ev 48 rfl) (by rw [beq_self_eq_true]; rfl)) rfl rfl rfl fun a45 F45 => ?_
          refine mvS F45 rfl rfl rfl rfl rfl fun a46 F46 => ?_
          refine sq (v := (.int .i64 3)) F46 (wantedG F46 rfl rfl rfl rfl rfl) (run_mv rfl (F46.ev 6 rfl)) rfl (by decide) fun a47 F47 => ?_
          refine sq (v := (.int .i64 3)) F47 (wantedG F47 rfl rfl rfl rfl rfl) (run_mv rfl (F47.ev 8 rfl)) rfl (by decide) fun a48 F48 => ?_
          refine sq (v := (.bool false)) F48 (wantedG F48 rfl rfl rfl rfl rfl) (run_nei rfl (F48.ev 51 rfl) (F48.ev 52 rfl) (bne_self_eq_false _)) rfl (by decide) fun a49 F49 => ?_
          refine sr (v := (.bool false)) F49 (run_pick rfl (F49.ev 50 rfl) rfl (F49.ev 53 rfl)) rfl rfl rfl fun a50 F50 => ?_
          refine mvS F50 rfl rfl rfl rfl rfl fun a51 F51 => ?_
          refine sq (v := (.int .i64 ((ringO b).2))) F51 (wantedG F51 rfl rfl rfl rfl rfl) (run_mv rfl (F51.ev 10 rfl)) rfl (by decide) fun a52 F52 => ?_
          refine sq (v := (.int .i64 ((ringO b).2))) F52 (wantedG F52 rfl rfl rfl rfl rfl) (run_mv rfl (F52.ev 12 rfl)) rfl (by decide) fun a53 F53 => ?_
          refine sq (v := (.bool false)) F53 (wantedG F53 rfl rfl rfl rfl rfl) (run_nei rfl (F53.ev 56 rfl) (F53.ev 57 rfl) (bne_self_eq_false _)) rfl (by decide) fun a54 F54 => ?_
          refine sr (v := (.bool false)) F54 (run_pick rfl (F54.ev 55 rfl) rfl (F54.ev 58 rfl)) rfl rfl rfl fun a55 F55 => ?_
          refine mvS F55 rfl rfl rfl rfl rfl fun a56 F56 => ?_
          refine sq (v := (.agg #[vz3a])) F56 (wantedG F56 rfl rfl rfl rfl rfl) (run_ldB rfl (F56.ev 9 rfl) (M11.at 1 rfl) Tryd.underlying27 rfl szRg rfl) rfl (by decide) fun a57 F57 => ?_
          refine sq (v := (.agg #[vz6a])) F57 (wantedG F57 rfl rfl rfl rfl rfl) (run_ldB rfl (F57.ev 11 rfl) (M11.at 0 rfl) Tryd.underlying27 rfl szRg rfl) rfl (by decide) fun a58 F58 => ?_
          refine sqC (v := (.bool true)) F58 M11 (wantedG F58 rfl rfl rfl rfl rfl) (run_call rfl Tryd.func15 (by kernel_rfl) rfl (mapE2 (F58.ev 61 rfl) (F58.ev 62 rfl))) rfl (by decide) (samer_any (ringO b).1 vz3a vz6a w11 (Sl.own hO8) (Sl.own hO9) (ringO_c32 b) (Nat.lt_of_le_of_lt (ringO_len b) (by decide))) fun a59 w12 hb12 F59 M12 => ?_
          have hO10 := hO8.grow hb12
          have hO11 := hO9.grow hb12
          refine sq (v := (.bool false)) F59 (wantedG F59 rfl rfl rfl rfl rfl) (run_not rfl (F59.ev 63 rfl)) rfl (by decide) fun a60 F60 => ?_
          refine sr (v := (.bool false)) F60 (run_pick rfl (F60.ev 60 rfl) rfl (F60.ev 64 rfl)) rfl rfl rfl fun a61 F61 => ?_
          refine sn ?_
          clear F42 F43 F44 F45 F46 F47 F48 F49 F50 F51 F52 F53 F54 F55 F56 F57 F58 F59 F60 M11
          refine cfs (F61.ev 65 rfl) ?_
          refine wp_seq ?_
          refine wsl ?_
          refine mvS F61 rfl rfl rfl rfl rfl fun a62 F62 => ?_
          refine sr (v := (.bool false)) F62 (run_eqi rfl (F62.ev 66 rfl) rfl (beq_eq_false_iff_ne.2 (by omega))) rfl rfl rfl fun a63 F63 => ?_
          refine sn ?_
          clear F61 F62
          refine cfs (F63.ev 67 rfl) ?_
          refine wp_seq ?_
          refine wsl ?_
          refine mvS F63 rfl rfl rfl rfl rfl fun a64 F64 => ?_
          refine sr (v := (.bool true)) F64 (run_eqi rfl (F64.ev 81 rfl) rfl (beq_iff_eq.2 hO)) rfl rfl rfl fun a65 F65 => ?_
          refine sn ?_
          clear F63 F64
          refine wp_cond_true (F65.ev 82 rfl) ?_
          refine wsl ?_
          refine sr F65 (run_ldB rfl (F65.ev 9 rfl) (M12.at 1 rfl) Tryd.underlying27 rfl szRg rfl) rfl rfl rfl fun a66 F66 => ?_
          refine sqC (v := (.tuple #[(.string ⟨b.toArray⟩), (.int .i64 0)])) F66 M12 (wantedS rfl) (run_call rfl Tryd.func33 (by kernel_rfl) rfl (mapE1 (F66.ev 84 rfl))) rfl (by decide) ((by have h := kbytes_any (ringO b).1 vz3a w12 (Sl.own hO10) (ringO_c32 b) (fun e he => Nat.le_trans (ringO_wr b e he) (by omega)); rw [(ringO_back hO).2] at h; exact h)) fun a67 w13 hb13 F67 M13 => ?_
          have hO12 := hO10.grow hb13
          have hO13 := hO11.grow hb13
          refine mvS F67 rfl rfl rfl rfl rfl fun a68 F68 => ?_
          refine sr (v := (.string ⟨b.toArray⟩)) F68 (run_ext rfl (F68.ev 83 rfl) rfl) rfl rfl rfl fun a69 F69 => ?_
          refine sr (v := (.int .i64 0)) F69 (run_ext rfl (F69.ev 83 rfl) rfl) rfl rfl rfl fun a70 F70 => ?_
          refine asS F70 rfl rfl rfl rfl rfl fun a71 F71 => ?_
          refine asS F71 rfl rfl rfl rfl rfl fun a72 F72 => ?_
          refine sn ?_
          clear F65 F66 F67 F68 F69 F70 F71 M12
          refine wsl ?_
          refine mvS F72 rfl rfl rfl rfl rfl fun a73 F73 => ?_
          refine sr (v := (.bool true)) F73 (run_eqi rfl (F73.ev 88 rfl) rfl (beq_self_eq_true _)) rfl rfl rfl fun a74 F74 => ?_
          refine mvS F74 rfl rfl rfl rfl rfl fun a75 F75 => ?_
          refine sq (v := (.string ⟨b.toArray⟩)) F75 (wantedG F75 rfl rfl rfl rfl rfl) (run_mv rfl (F75.ev 15 rfl)) rfl (by decide) fun a76 F76 => ?_
          refine sq (v := (.string ⟨b.toArray⟩)) F76 (wantedG F76 rfl rfl rfl rfl rfl) (run_mv rfl (F76.ev 1 rfl)) rfl (by decide) fun a77 F77 => ?_
          refine sq (v := (.bool true)) F77 (wantedG F77 rfl rfl rfl rfl rfl) (run_eqs rfl (F77.ev 91 rfl) (F77.ev 92 rfl) (beq_self_eq_true _)) rfl (by decide) fun a78 F78 => ?_
          refine sr (v := (.bool true)) F78 (run_pick rfl (F78.ev 90 rfl) (F78.ev 93 rfl) rfl) rfl rfl rfl fun a79 F79 => ?_
          refine asS F79 rfl rfl rfl rfl rfl fun a80 F80 => ?_
          refine sn ?_
          clear F72 F73 F74 F75 F76 F77 F78 F79
          refine wp_ret ?_
          refine nxRet ?_
          exact ret1 F80 rfl rfl ⟨rfl, M13.below⟩
    · skip
      refine walk_enter Tryd.func11 rfl rfl rfl fun a0 F0 => ?_
      have M0 := Mem.new w
      refine wsl ?_
      refine sqNew (cs := #[v]) (t := 27) F0 M0 (wantedS rfl) (run_box rfl (F0.ev 0 rfl)) rfl (by decide) fun g0 a1 w1 hgg0 hb1 F1 M1 => ?_
      refine sr (v := (.bool false)) F1 (run_as rfl rfl) rfl rfl rfl fun a2 F2 => ?_
      refine sn ?_
      clear F0 F1 M0
      refine wp_seq ?_
      refine wsl ?_
      refine sqC (v := (.bool true)) F2 M1 (wantedS rfl) (run_call rfl Tryd.func12 (by kernel_rfl) rfl (mapE0 )) rfl (by decide) (alive38_any w1 (HG.below M1.below)) fun a3 w2 hb2 F3 M2 => ?_
      refine sr (v := (.bool false)) F3 (run_not rfl (F3.ev 17 rfl)) rfl rfl rfl fun a4 F4 => ?_
      refine sn ?_
      clear F2 F3 M1
      refine cfs (F4.ev 18 rfl) ?_
      refine wp_seq ?_
      refine wsl ?_
      refine sr F4 (run_ldB rfl (F4.ev 2 rfl) (M2.at 0 rfl) Tryd.underlying27 rfl szRg rfl) rfl rfl rfl fun a5 F5 => ?_
      refine sqT (T := fun u wx => (∃ r : Int, u = .int .i64 r ∧ (r = 1 ∨ (r = 0 ∧ E.length ≤ 105))) ∧ Below w2.heap.size w2 wx) F5 (wantedS rfl) (run_call rfl Tryd.func18 (by kernel_rfl) rfl (mapE1 (F5.ev 19 rfl))) rfl (by decide) ((great_any E v w2 (hV.below M2.below) hE32).mono fun e w2 ⟨⟨r, h1, h2⟩, h3⟩ => ⟨_, h1, ⟨r, rfl, h2⟩, h3⟩) fun u1 a6 w3 hT3 F6 => ?_
      obtain ⟨⟨rg, rfl, hrg⟩, hb3⟩ := hT3
      have M3 := M2.grow hb3
      rcases hrg with rfl | ⟨rfl, h105⟩
      · skip
        refine sr (v := (.bool true)) F6 (run_eqi rfl (F6.ev 20 rfl) rfl (beq_self_eq_true _)) rfl rfl rfl fun a7 F7 => ?_
        refine mvS F7 rfl rfl rfl rfl rfl fun a8 F8 => ?_
        refine sqSkip F8 (unwantedG F8 rfl rfl rfl rfl rfl) rfl (by decide) fun a9 F9 => ?_
        refine sqSkip F9 (unwantedG F9 rfl rfl rfl rfl rfl) rfl (by decide) fun a10 F10 => ?_
        refine sqSkip F10 (unwantedG F10 rfl rfl rfl rfl rfl) rfl (by decide) fun a11 F11 => ?_
        refine sr (v := (.bool true)) F11 (run_pick rfl (F11.ev 22 rfl) rfl (F11.ev 25 rfl)) rfl rfl rfl fun a12 F12 => ?_
        refine sn ?_
        refine wp_cond_true (F12.ev 26 rfl) ?_
        refine wsl ?_
        refine sr (v := (.bool true)) F12 (run_as rfl rfl) rfl rfl rfl fun a13 F13 => ?_
        refine sn ?_
        clear F12
        refine wp_ret ?_
        refine nxRet ?_
        exact ret1 F13 rfl rfl ⟨rfl, M3.below⟩
      · skip
        have hc3 : 3000 < b.length ∨ b.length ≤ 3000 := by omega
        rcases hc3 with h1 | h1
        · skip
          refine sr (v := (.bool false)) F6 (run_eqi rfl (F6.ev 20 rfl) rfl rfl) rfl rfl rfl fun a7 F7 => ?_
          refine mvS F7 rfl rfl rfl rfl rfl fun a8 F8 => ?_
          refine sq (v := (.string ⟨b.toArray⟩)) F8 (wantedG F8 rfl rfl rfl rfl rfl) (run_mv rfl (F8.ev 1 rfl)) rfl (by decide) fun a9 F9 => ?_
          refine sq (v := (.int .i64 (b.length : Int))) F9 (wantedG F9 rfl rfl rfl rfl rfl) (run_len rfl (F9.ev 23 rfl) rfl Tryd.underlying9) rfl (by decide) fun a10 F10 => ?_
          refine sq (v := (.bool true)) F10 (wantedG F10 rfl rfl rfl rfl rfl) (run_gtr rfl (F10.ev 24 rfl) rfl (decide_eq_true (by omega))) rfl (by decide) fun a11 F11 => ?_
          refine sr (v := (.bool true)) F11 (run_pick rfl (F11.ev 22 rfl) rfl (F11.ev 25 rfl)) rfl rfl rfl fun a12 F12 => ?_
          refine sn ?_
          refine wp_cond_true (F12.ev 26 rfl) ?_
          refine wsl ?_
          refine sr (v := (.bool true)) F12 (run_as rfl rfl) rfl rfl rfl fun a13 F13 => ?_
          refine sn ?_
          clear F12
          refine wp_ret ?_
          refine nxRet ?_
          exact ret1 F13 rfl rfl ⟨rfl, M3.below⟩
        · skip
          refine sr (v := (.bool false)) F6 (run_eqi rfl (F6.ev 20 rfl) rfl rfl) rfl rfl rfl fun a7 F7 => ?_
          refine mvS F7 rfl rfl rfl rfl rfl fun a8 F8 => ?_
          refine sq (v := (.string ⟨b.toArray⟩)) F8 (wantedG F8 rfl rfl rfl rfl rfl) (run_mv rfl (F8.ev 1 rfl)) rfl (by decide) fun a9 F9 => ?_
          refine sq (v := (.int .i64 (b.length : Int))) F9 (wantedG F9 rfl rfl rfl rfl rfl) (run_len rfl (F9.ev 23 rfl) rfl Tryd.underlying9) rfl (by decide) fun a10 F10 => ?_
          refine sq (v := (.bool false)) F10 (wantedG F10 rfl rfl rfl rfl rfl) (run_gtr rfl (F10.ev 24 rfl) rfl (decide_eq_false (by omega))) rfl (by decide) fun a11 F11 => ?_
          refine sr (v := (.bool false)) F11 (run_pick rfl (F11.ev 22 rfl) rfl (F11.ev 25 rfl)) rfl rfl rfl fun a12 F12 => ?_
          refine sn ?_
          refine cfs (F12.ev 26 rfl) ?_
          refine wsl ?_
          refine sr F12 (run_ldB rfl (F12.ev 2 rfl) (M3.at 0 rfl) Tryd.underlying27 rfl szRg rfl) rfl rfl rfl fun a13 F13 => ?_
          refine sqC (v := (.tuple #[(.string ⟨List.toArray []⟩), (.int .i64 3)])) F13 M3 (wantedS rfl) (run_call rfl Tryd.func33 (by kernel_rfl) rfl (mapE1 (F13.ev 28 rfl))) rfl (by decide) ((by have h := kbytes_any E v w3 (hV.below M3.below) hE32 hEw; rw [hB] at h; exact h)) fun a14 w4 hb4 F14 M4 => ?_
          refine mvS F14 rfl rfl rfl rfl rfl fun a15 F15 => ?_
          refine sr (v := (.string ⟨List.toArray []⟩)) F15 (run_ext rfl (F15.ev 27 rfl) rfl) rfl rfl rfl fun a16 F16 => ?_
          refine sr (v := (.int .i64 3)) F16 (run_ext rfl (F16.ev 27 rfl) rfl) rfl rfl rfl fun a17 F17 => ?_
          refine asS F17 rfl rfl rfl rfl rfl fun a18 F18 => ?_
          refine asS F18 rfl rfl rfl rfl rfl fun a19 F19 => ?_
          refine sn ?_
          clear F12 F13 F14 F15 F16 F17 F18 M3
          refine wsl ?_
          refine sr F19 (run_ldB rfl (F19.ev 2 rfl) (M4.at 0 rfl) Tryd.underlying27 rfl szRg rfl) rfl rfl rfl fun a20 F20 => ?_
          refine sqC (v := (.tuple #[(.string ⟨List.toArray []⟩), (.int .i64 3)])) F20 M4 (wantedS rfl) (run_call rfl Tryd.func34 (by kernel_rfl) rfl (mapE1 (F20.ev 33 rfl))) rfl (by decide) ((by have h := rbytes38_any E v w4 (hV.below M4.below) hE32 hEw; rw [hB] at h; exact h)) fun a21 w5 hb5 F21 M5 => ?_
          refine mvS F21 rfl rfl rfl rfl rfl fun a22 F22 => ?_
          refine sr (v := (.string ⟨List.toArray []⟩)) F22 (run_ext rfl (F22.ev 32 rfl) rfl) rfl rfl rfl fun a23 F23 => ?_
          refine sr (v := (.int .i64 3)) F23 (run_ext rfl (F23.ev 32 rfl) rfl) rfl rfl rfl fun a24 F24 => ?_
          refine asS F24 rfl rfl rfl rfl rfl fun a25 F25 => ?_
          refine asS F25 rfl rfl rfl rfl rfl fun a26 F26 => ?_
          refine sn ?_
          clear F19 F20 F21 F22 F23 F24 F25 M4
          refine wsl ?_
          refine mvS F26 rfl rfl rfl rfl rfl fun a27 F27 => ?_
          refine sqT (T := fun u wx => Kp.sat w5.heap.size (.tup2 (.st (.row 76 33 (((ringO b).1).length) (((ringO b).1).flatMap epF))) (.val (.int .i64 ((ringO b).2)))) u wx ∧ Below w5.heap.size w5 wx) F27 (wantedS rfl) (run_call rfl Tryd.func35 (by kernel_rfl) rfl (mapE1 (F27.ev 38 rfl))) rfl (by decide) (kof_any b w5 (by omega)) fun u2 a28 w6 hT6 F28 => ?_
          obtain ⟨⟨_, _, rfl, ⟨vz3a, rfl, hz3a⟩, rfl⟩, hb6⟩ := hT6
          have hO1 := OwnR.ofCall M5 (show World.ownsRow w6 _ 76 33 vz3a (((ringO b).1).length) (((ringO b).1).flatMap epF) from hz3a)
          have M6 := M5.grow hb6
          refine mvS F28 rfl rfl rfl rfl rfl fun a29 F29 => ?_
          refine sr (v := (.agg #[vz3a])) F29 (run_ext rfl (F29.ev 37 rfl) rfl) rfl rfl rfl fun a30 F30 => ?_
          refine sr (v := (.int .i64 ((ringO b).2))) F30 (run_ext rfl (F30.ev 37 rfl) rfl) rfl rfl rfl fun a31 F31 => ?_
          refine sqNew (cs := #[.slice none 0 0]) (t := 27) F31 M6 (wantedS rfl) (run_alloc rfl (by kernel_rfl)) rfl (by decide) fun g4 a32 w7 hgg4 hb7 F32 M7 => ?_
          have hO2 := hO1.add (S := isB 27 (#[.slice none 0 0])) hb7 hgg4
          refine sqStoreG (i := 0) F32 M7 rfl rfl rfl (F32.ev 9 rfl) (F32.ev 40 rfl) rfl szRg rfl rfl (one_own hO2.owns) fun a33 w8 hgr8 F33 M8 => ?_
          have hO3 := hO2.upd 0 (S2 := isB 27 #[vz3a]) rfl hgr8
          refine asS F33 rfl rfl rfl rfl rfl fun a34 F34 => ?_
          refine sn ?_
          clear F26 F27 F28 F29 F30 F31 F32 F33 M5 M6 M7
          refine wsl ?_
          refine mvS F34 rfl rfl rfl rfl rfl fun a35 F35 => ?_
          refine sqT (T := fun u wx => Kp.sat w8.heap.size (.tup2 (.st (.row 76 33 (((ringO b).1).length) (((ringO b).1).flatMap epF))) (.val (.int .i64 ((ringO b).2)))) u wx ∧ Below w8.heap.size w8 wx) F35 (wantedS rfl) (run_call rfl Tryd.func36 (by kernel_rfl) rfl (mapE1 (F35.ev 43 rfl))) rfl (by decide) (rof38_any b w8 (by omega)) fun u5 a36 w9 hT9 F36 => ?_
          obtain ⟨⟨_, _, rfl, ⟨vz6a, rfl, hz6a⟩, rfl⟩, hb9⟩ := hT9
          have hO4 := OwnR.ofCall M8 (show World.ownsRow w9 _ 76 33 vz6a (((ringO b).1).length) (((ringO b).1).flatMap epF) from hz6a)
          have M9 := M8.grow hb9
          have hO5 := hO3.grow hb9
          refine mvS F36 rfl rfl rfl rfl rfl fun a37 F37 => ?_
          refine sr (v := (.agg #[vz6a])) F37 (run_ext rfl (F37.ev 42 rfl) rfl) rfl rfl rfl fun a38 F38 => ?_
          refine sr (v := (.int .i64 ((ringO b).2))) F38 (run_ext rfl (F38.ev 42 rfl) rfl) rfl rfl rfl fun a39 F39 => ?_
          refine sqNew (cs := #[.slice none 0 0]) (t := 27) F39 M9 (wantedS rfl) (run_alloc rfl (by kernel_rfl)) rfl (by decide) fun g7 a40 w10 hgg7 hb10 F40 M10 => ?_
          have hO6 := hO5.add (S := isB 27 (#[.slice none 0 0])) hb10 hgg7
          have hO7 := hO4.add (S := isB 27 (#[.slice none 0 0])) hb10 hgg7
          refine sqStoreG (i := 0) F40 M10 rfl rfl rfl (F40.ev 11 rfl) (F40.ev 45 rfl) rfl szRg rfl rfl (one_own hO7.owns) fun a41 w11 hgr11 F41 M11 => ?_
          have hO8 := hO6.upd 0 (S2 := isB 27 #[vz6a]) rfl hgr11
          have hO9 := hO7.upd 0 (S2 := isB 27 #[vz6a]) rfl hgr11
          refine asS F41 rfl rfl rfl rfl rfl fun a42 F42 => ?_
          refine sn ?_
          clear F34 F35 F36 F37 F38 F39 F40 F41 M8 M9 M10
          refine wp_seq ?_
          refine wsl ?_
          refine mvS F42 rfl rfl rfl rfl rfl fun a43 F43 => ?_
          refine mvS F43 rfl rfl rfl rfl rfl fun a44 F44 => ?_
          refine sr (v := (.bool false)) F44 (run_nes rfl (F44.ev 47 rfl) (F44.ev 48 rfl) (by rw [beq_self_eq_true]; rfl)) rfl rfl rfl fun a45 F45 => ?_
          refine mvS F45 rfl rfl rfl rfl rfl fun a46 F46 => ?_
          refine sq (v := (.int .i64 3)) F46 (wantedG F46 rfl rfl rfl rfl rfl) (run_mv rfl (F46.ev 6 rfl)) rfl (by decide) fun a47 F47 => ?_
          refine sq (v := (.int .i64 3)) F47 (wantedG F47 rfl rfl rfl rfl rfl) (run_mv rfl (F47.ev 8 rfl)) rfl (by decide) fun a48 F48 => ?_
          refine sq (v := (.bool false)) F48 (wantedG F48 rfl rfl rfl rfl rfl) (run_nei rfl (F48.ev 51 rfl) (F48.ev 52 rfl) (bne_self_eq_false _)) rfl (by decide) fun a49 F49 => ?_
          refine sr (v := (.bool false)) F49 (run_pick rfl (F49.ev 50 rfl) rfl (F49.ev 53 rfl)) rfl rfl rfl fun a50 F50 => ?_
          refine mvS F50 rfl rfl rfl rfl rfl fun a51 F51 => ?_
          refine sq (v := (.int .i64 ((ringO b).2))) F51 (wantedG F51 rfl rfl rfl rfl rfl) (run_mv rfl (F51.ev 10 rfl)) rfl (by decide) fun a52 F52 => ?_
          refine sq (v := (.int .i64 ((ringO b).2))) F52 (wantedG F52 rfl rfl rfl rfl rfl) (run_mv rfl (F52.ev 12 rfl)) rfl (by decide) fun a53 F53 => ?_
          refine sq (v := (.bool false)) F53 (wantedG F53 rfl rfl rfl rfl rfl) (run_nei rfl (F53.ev 56 rfl) (F53.ev 57 rfl) (bne_self_eq_false _)) rfl (by decide) fun a54 F54 => ?_
          refine sr (v := (.bool false)) F54 (run_pick rfl (F54.ev 55 rfl) rfl (F54.ev 58 rfl)) rfl rfl rfl fun a55 F55 => ?_
          refine mvS F55 rfl rfl rfl rfl rfl fun a56 F56 => ?_
          refine sq (v := (.agg #[vz3a])) F56 (wantedG F56 rfl rfl rfl rfl rfl) (run_ldB rfl (F56.ev 9 rfl) (M11.at 1 rfl) Tryd.underlying27 rfl szRg rfl) rfl (by decide) fun a57 F57 => ?_
          refine sq (v := (.agg #[vz6a])) F57 (wantedG F57 rfl rfl rfl rfl rfl) (run_ldB rfl (F57.ev 11 rfl) (M11.at 0 rfl) Tryd.underlying27 rfl szRg rfl) rfl (by decide) fun a58 F58 => ?_
          refine sqC (v := (.bool true)) F58 M11 (wantedG F58 rfl rfl rfl rfl rfl) (run_call rfl Tryd.func15 (by kernel_rfl) rfl (mapE2 (F58.ev 61 rfl) (F58.ev 62 rfl))) rfl (by decide) (samer_any (ringO b).1 vz3a vz6a w11 (Sl.own hO8) (Sl.own hO9) (ringO_c32 b) (Nat.lt_of_le_of_lt (ringO_len b) (by decide))) fun a59 w12 hb12 F59 M12 => ?_
          have hO10 := hO8.grow hb12
          have hO11 := hO9.grow hb12
          refine sq (v := (.bool false)) F59 (wantedG F59 rfl rfl rfl rfl rfl) (run_not rfl (F59.ev 63 rfl)) rfl (by decide) fun a60 F60 => ?_
          refine sr (v := (.bool false)) F60 (run_pick rfl (F60.ev 60 rfl) rfl (F60.ev 64 rfl)) rfl rfl rfl fun a61 F61 => ?_
          refine sn ?_
          clear F42 F43 F44 F45 F46 F47 F48 F49 F50 F51 F52 F53 F54 F55 F56 F57 F58 F59 F60 M11
          refine cfs (F61.ev 65 rfl) ?_
          refine wp_seq ?_
          refine wsl ?_
          refine mvS F61 rfl rfl rfl rfl rfl fun a62 F62 => ?_
          refine sr (v := (.bool false)) F62 (run_eqi rfl (F62.ev 66 rfl) rfl (beq_eq_false_iff_ne.2 (by omega))) rfl rfl rfl fun a63 F63 => ?_
          refine sn ?_
          clear F61 F62
          refine cfs (F63.ev 67 rfl) ?_
          refine wp_seq ?_
          refine wsl ?_
          refine mvS F63 rfl rfl rfl rfl rfl fun a64 F64 => ?_
          refine sr (v := (.bool false)) F64 (run_eqi rfl (F64.ev 81 rfl) rfl (beq_eq_false_iff_ne.2 hO)) rfl rfl rfl fun a65 F65 => ?_
          refine sn ?_
          clear F63 F64
          refine cfs (F65.ev 82 rfl) ?_
          refine wsl ?_
          refine sr (v := (.bool true)) F65 (run_as rfl rfl) rfl rfl rfl fun a66 F66 => ?_
          refine sn ?_
          clear F65
          refine wp_ret ?_
          exact ret1 F66 rfl rfl ⟨rfl, M12.below⟩
end Go.Proofs.YtconhhhggckcbaaDoor
