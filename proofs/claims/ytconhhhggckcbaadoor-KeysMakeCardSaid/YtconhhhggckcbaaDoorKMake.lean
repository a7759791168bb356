/- The walk of the law KeysMake. Printed by gen_key25.py. -/
import Derived.Test.YtconhhhggckcbaaDoorRngA
namespace Go.Proofs.YtconhhhggckcbaaDoor
open Go.RowKit

attribute [local irreducible] sealS keyedS nonceS openS makeS
set_option maxRecDepth 100000 in
set_option maxHeartbeats 1000000 in
theorem lawMake38_any (k no : List UInt8) (w : World) (HG : Glob w) (hLk : k.length = 32) (_hno : no.length ≤ maxLen) : Calls Tryd.prog 3 #[.agg (cells8 k), .string ⟨no.toArray⟩] w fun e w' => e = .returned (.bool true) ∧ Below w.heap.size w w' := by
  by_cases h200 : 200 < no.length
  · skip
    refine walk_enter Tryd.func3 rfl rfl rfl fun a0 F0 => ?_
    have M0 := Mem.new w
    refine wsl ?_
    refine sqNew (cs := (cells8 k)) (t := 23) F0 M0 (wantedS rfl) (run_box rfl (F0.ev 0 rfl)) rfl (by decide) fun g0 a1 w1 hgg0 hb1 F1 M1 => ?_
    refine sr (v := (.bool false)) F1 (run_as rfl rfl) rfl rfl rfl fun a2 F2 => ?_
    refine sn ?_
    clear F0 F1 M0
    refine wp_seq ?_
    refine wsl ?_
    refine sqC (v := (.bool true)) F2 M1 (wantedS rfl) (run_call rfl Tryd.func12 (by kernel_rfl) rfl (mapE0 )) rfl (by decide) (alive38_any w1 (HG.below M1.below)) fun a3 w2 hb2 F3 M2 => ?_
    refine sr (v := (.bool false)) F3 (run_not rfl (F3.ev 13 rfl)) rfl rfl rfl fun a4 F4 => ?_
    refine sn ?_
    clear F2 F3 M1
    refine cfs (F4.ev 14 rfl) ?_
    refine wp_seq ?_
    refine wsl ?_
    refine mvS F4 rfl rfl rfl rfl rfl fun a5 F5 => ?_
    refine sr F5 (run_len rfl (F5.ev 15 rfl) rfl Tryd.underlying9) rfl rfl rfl fun a6 F6 => ?_
    refine sr (v := (.bool true)) F6 (run_gtr rfl (F6.ev 16 rfl) rfl (decide_eq_true (by omega))) rfl rfl rfl fun a7 F7 => ?_
    refine sn ?_
    clear F4 F5 F6
    refine wp_cond_true (F7.ev 17 rfl) ?_
    refine wsl ?_
    refine sr (v := (.bool true)) F7 (run_as rfl rfl) rfl rfl rfl fun a8 F8 => ?_
    refine sn ?_
    clear F7
    refine wp_ret ?_
    refine nxRet ?_
    exact ret1 F8 rfl rfl ⟨rfl, M2.below⟩
  · skip
    refine walk_enter Tryd.func3 rfl rfl rfl fun a0 F0 => ?_
    have M0 := Mem.new w
    refine wsl ?_
    refine sqNew (cs := (cells8 k)) (t := 23) F0 M0 (wantedS rfl) (run_box rfl (F0.ev 0 rfl)) rfl (by decide) fun g0 a1 w1 hgg0 hb1 F1 M1 => ?_
    refine sr (v := (.bool false)) F1 (run_as rfl rfl) rfl rfl rfl fun a2 F2 => ?_
    refine sn ?_
    clear F0 F1 M0
    refine wp_seq ?_
    refine wsl ?_
    refine sqC (v := (.bool true)) F2 M1 (wantedS rfl) (run_call rfl Tryd.func12 (by kernel_rfl) rfl (mapE0 )) rfl (by decide) (alive38_any w1 (HG.below M1.below)) fun a3 w2 hb2 F3 M2 => ?_
    refine sr (v := (.bool false)) F3 (run_not rfl (F3.ev 13 rfl)) rfl rfl rfl fun a4 F4 => ?_
    refine sn ?_
    clear F2 F3 M1
    refine cfs (F4.ev 14 rfl) ?_
    refine wp_seq ?_
    refine wsl ?_
    refine mvS F4 rfl rfl rfl rfl rfl fun a5 F5 => ?_
    refine sr F5 (run_len rfl (F5.ev 15 rfl) rfl Tryd.underlying9) rfl rfl rfl fun a6 F6 => ?_
    refine sr (v := (.bool false)) F6 (run_gtr rfl (F6.ev 16 rfl) rfl (decide_eq_false (by omega))) rfl rfl rfl fun a7 F7 => ?_
    refine sn ?_
    clear F4 F5 F6
    refine cfs (F7.ev 17 rfl) ?_
    refine wsl ?_
    refine sr F7 (run_ldB rfl (F7.ev 2 rfl) (M2.at 0 rfl) Tryd.underlying23 rfl sz32k (szOf hLk)) rfl rfl rfl fun a8 F8 => ?_
    refine mvS F8 rfl rfl rfl rfl rfl fun a9 F9 => ?_
    refine sqT (T := fun u wx => Kp.sat w2.heap.size (.tup4 (.st (.row 76 33 (((makeS k no).1).length) (((makeS k no).1).flatMap epF))) (.st (.row 23 32 (((makeS k no).2.1).length) (((makeS k no).2.1).flatMap dgC))) (.row 54 33 (((makeS k no).2.2.1).length) (((makeS k no).2.2.1).flatMap shareC)) (.val (.int .i64 ((makeS k no).2.2.2)))) u wx ∧ Below w2.heap.size w2 wx) F9 (wantedS rfl) (run_call rfl Tryd.func13 (by kernel_rfl) rfl (mapE2 (F9.ev 19 rfl) (F9.ev 20 rfl))) rfl (by decide) (kmake_any k no w2 (HG.below M2.below) hLk) fun u1 a10 w3 hT3 F10 => ?_
    obtain ⟨⟨_, _, vz2c, _, rfl, ⟨vz2a, rfl, hz2a⟩, ⟨vz2b, rfl, hz2b⟩, hz2c, rfl⟩, hb3⟩ := hT3
    have hO1 := OwnR.ofCall M2 (show World.ownsRow w3 _ 76 33 vz2a (((makeS k no).1).length) (((makeS k no).1).flatMap epF) from hz2a)
    have hO2 := OwnR.ofCall M2 (show World.ownsRow w3 _ 23 32 vz2b (((makeS k no).2.1).length) (((makeS k no).2.1).flatMap dgC) from hz2b)
    have hO3 := OwnR.ofCall M2 (show World.ownsRow w3 _ 54 33 vz2c (((makeS k no).2.2.1).length) (((makeS k no).2.2.1).flatMap shareC) from hz2c)
    have M3 := M2.grow hb3
    refine mvS F10 rfl rfl rfl rfl rfl fun a11 F11 => ?_
    refine sr (v := (.agg #[vz2a])) F11 (run_ext rfl (F11.ev 18 rfl) rfl) rfl rfl rfl fun a12 F12 => ?_
    refine sr (v := (.agg #[vz2b])) F12 (run_ext rfl (F12.ev 18 rfl) rfl) rfl rfl rfl fun a13 F13 => ?_
    refine sr (v := vz2c) F13 (run_ext rfl (F13.ev 18 rfl) rfl) rfl rfl rfl fun a14 F14 => ?_
    refine sr (v := (.int .i64 ((makeS k no).2.2.2))) F14 (run_ext rfl (F14.ev 18 rfl) rfl) rfl rfl rfl fun a15 F15 => ?_
    refine sqNew (cs := #[.slice none 0 0]) (t := 27) F15 M3 (wantedS rfl) (run_alloc rfl (by kernel_rfl)) rfl (by decide) fun g3 a16 w4 hgg3 hb4 F16 M4 => ?_
    have hO4 := hO1.add (S := isB 27 (#[.slice none 0 0])) hb4 hgg3
    have hO5 := hO2.add (S := isB 27 (#[.slice none 0 0])) hb4 hgg3
    have hO6 := hO3.add (S := isB 27 (#[.slice none 0 0])) hb4 hgg3
    refine sqNew (cs := #[.slice none 0 0]) (t := 30) F16 M4 (wantedS rfl) (run_alloc rfl (by kernel_rfl)) rfl (by decide) fun g4 a17 w5 hgg4 hb5 F17 M5 => ?_
    have hO7 := hO4.add (S := isB 30 (#[.slice none 0 0])) hb5 hgg4
    have hO8 := hO5.add (S := isB 30 (#[.slice none 0 0])) hb5 hgg4
    have hO9 := hO6.add (S := isB 30 (#[.slice none 0 0])) hb5 hgg4
    refine sqStoreG (i := 1) F17 M5 rfl rfl rfl (F17.ev 5 rfl) (F17.ev 22 rfl) rfl szRg rfl rfl (one_own hO7.owns) fun a18 w6 hgr6 F18 M6 => ?_
    have hO10 := hO7.upd 1 (S2 := isB 27 #[vz2a]) rfl hgr6
    have hO11 := hO8.upd 1 (S2 := isB 27 #[vz2a]) rfl hgr6
    have hO12 := hO9.upd 1 (S2 := isB 27 #[vz2a]) rfl hgr6
    refine sqStoreG (i := 0) F18 M6 rfl rfl rfl (F18.ev 6 rfl) (F18.ev 23 rfl) rfl szKy rfl rfl (one_own hO11.owns) fun a19 w7 hgr7 F19 M7 => ?_
    have hO13 := hO10.upd 0 (S2 := isB 30 #[vz2b]) rfl hgr7
    have hO14 := hO11.upd 0 (S2 := isB 30 #[vz2b]) rfl hgr7
    have hO15 := hO12.upd 0 (S2 := isB 30 #[vz2b]) rfl hgr7
    refine asS F19 rfl rfl rfl rfl rfl fun a20 F20 => ?_
    refine asS F20 rfl rfl rfl rfl rfl fun a21 F21 => ?_
    refine sn ?_
    clear F7 F8 F9 F10 F11 F12 F13 F14 F15 F16 F17 F18 F19 F20 M2 M3 M4 M5 M6
    refine wsl ?_
    refine sr F21 (run_ldB rfl (F21.ev 2 rfl) (M7.at 2 rfl) Tryd.underlying23 rfl sz32k (szOf hLk)) rfl rfl rfl fun a22 F22 => ?_
    refine mvS F22 rfl rfl rfl rfl rfl fun a23 F23 => ?_
    refine sqT (T := fun u wx => Kp.sat w7.heap.size (.tup4 (.st (.row 76 33 (((makeS k no).1).length) (((makeS k no).1).flatMap epF))) (.st (.row 23 32 (((makeS k no).2.1).length) (((makeS k no).2.1).flatMap dgC))) (.row 54 33 (((makeS k no).2.2.1).length) (((makeS k no).2.2.1).flatMap shareC)) (.val (.int .i64 ((makeS k no).2.2.2)))) u wx ∧ Below w7.heap.size w7 wx) F23 (wantedS rfl) (run_call rfl Tryd.func14 (by kernel_rfl) rfl (mapE2 (F23.ev 27 rfl) (F23.ev 28 rfl))) rfl (by decide) (rmake_any k no w7 hLk) fun u5 a24 w8 hT8 F24 => ?_
    obtain ⟨⟨_, _, vz6c, _, rfl, ⟨vz6a, rfl, hz6a⟩, ⟨vz6b, rfl, hz6b⟩, hz6c, rfl⟩, hb8⟩ := hT8
    have hO16 := OwnR.ofCall M7 (show World.ownsRow w8 _ 76 33 vz6a (((makeS k no).1).length) (((makeS k no).1).flatMap epF) from hz6a)
    have hO17 := OwnR.ofCall M7 (show World.ownsRow w8 _ 23 32 vz6b (((makeS k no).2.1).length) (((makeS k no).2.1).flatMap dgC) from hz6b)
    have hO18 := OwnR.ofCall M7 (show World.ownsRow w8 _ 54 33 vz6c (((makeS k no).2.2.1).length) (((makeS k no).2.2.1).flatMap shareC) from hz6c)
    have M8 := M7.grow hb8
    have hO19 := hO13.grow hb8
    have hO20 := hO14.grow hb8
    have hO21 := hO15.grow hb8
    refine mvS F24 rfl rfl rfl rfl rfl fun a25 F25 => ?_
    refine sr (v := (.agg #[vz6a])) F25 (run_ext rfl (F25.ev 26 rfl) rfl) rfl rfl rfl fun a26 F26 => ?_
    refine sr (v := (.agg #[vz6b])) F26 (run_ext rfl (F26.ev 26 rfl) rfl) rfl rfl rfl fun a27 F27 => ?_
    refine sr (v := vz6c) F27 (run_ext rfl (F27.ev 26 rfl) rfl) rfl rfl rfl fun a28 F28 => ?_
    refine sr (v := (.int .i64 ((makeS k no).2.2.2))) F28 (run_ext rfl (F28.ev 26 rfl) rfl) rfl rfl rfl fun a29 F29 => ?_
    refine sqNew (cs := #[.slice none 0 0]) (t := 27) F29 M8 (wantedS rfl) (run_alloc rfl (by kernel_rfl)) rfl (by decide) fun g7 a30 w9 hgg7 hb9 F30 M9 => ?_
    have hO22 := hO19.add (S := isB 27 (#[.slice none 0 0])) hb9 hgg7
    have hO23 := hO20.add (S := isB 27 (#[.slice none 0 0])) hb9 hgg7
    have hO24 := hO21.add (S := isB 27 (#[.slice none 0 0])) hb9 hgg7
    have hO25 := hO16.add (S := isB 27 (#[.slice none 0 0])) hb9 hgg7
    have hO26 := hO17.add (S := isB 27 (#[.slice none 0 0])) hb9 hgg7
    have hO27 := hO18.add (S := isB 27 (#[.slice none 0 0])) hb9 hgg7
    refine sqNew (cs := #[.slice none 0 0]) (t := 30) F30 M9 (wantedS rfl) (run_alloc rfl (by kernel_rfl)) rfl (by decide) fun g8 a31 w10 hgg8 hb10 F31 M10 => ?_
    have hO28 := hO22.add (S := isB 30 (#[.slice none 0 0])) hb10 hgg8
    have hO29 := hO23.add (S := isB 30 (#[.slice none 0 0])) hb10 hgg8
    have hO30 := hO24.add (S := isB 30 (#[.slice none 0 0])) hb10 hgg8
    have hO31 := hO25.add (S := isB 30 (#[.slice none 0 0])) hb10 hgg8
    have hO32 := hO26.add (S := isB 30 (#[.slice none 0 0])) hb10 hgg8
    have hO33 := hO27.add (S := isB 30 (#[.slice none 0 0])) hb10 hgg8
    refine sqStoreG (i := 1) F31 M10 rfl rfl rfl (F31.ev 9 rfl) (F31.ev 30 rfl) rfl szRg rfl rfl (one_own hO31.owns) fun a32 w11 hgr11 F32 M11 => ?_
    have hO34 := hO28.upd 1 (S2 := isB 27 #[vz6a]) rfl hgr11
    have hO35 := hO29.upd 1 (S2 := isB 27 #[vz6a]) rfl hgr11
    have hO36 := hO30.upd 1 (S2 := isB 27 #[vz6a]) rfl hgr11
    have hO37 := hO31.upd 1 (S2 := isB 27 #[vz6a]) rfl hgr11
    have hO38 := hO32.upd 1 (S2 := isB 27 #[vz6a]) rfl hgr11
    have hO39 := hO33.upd 1 (S2 := isB 27 #[vz6a]) rfl hgr11
    refine sqStoreG (i := 0) F32 M11 rfl rfl rfl (F32.ev 10 rfl) (F32.ev 31 rfl) rfl szKy rfl rfl (one_own hO38.owns) fun a33 w12 hgr12 F33 M12 => ?_
    have hO40 := hO34.upd 0 (S2 := isB 30 #[vz6b]) rfl hgr12
    have hO41 := hO35.upd 0 (S2 := isB 30 #[vz6b]) rfl hgr12
    have hO42 := hO36.upd 0 (S2 := isB 30 #[vz6b]) rfl hgr12
    have hO43 := hO37.upd 0 (S2 := isB 30 #[vz6b]) rfl hgr12
    have hO44 := hO38.upd 0 (S2 := isB 30 #[vz6b]) rfl hgr12
    have hO45 := hO39.upd 0 (S2 := isB 30 #[vz6b]) rfl hgr12
    refine asS F33 rfl rfl rfl rfl rfl fun a34 F34 => ?_
    refine asS F34 rfl rfl rfl rfl rfl fun a35 F35 => ?_
    refine sn ?_
    clear F21 F22 F23 F24 F25 F26 F27 F28 F29 F30 F31 F32 F33 F34 M7 M8 M9 M10 M11
    refine wsl ?_
    refine mvS F35 rfl rfl rfl rfl rfl fun a36 F36 => ?_
    refine mvS F36 rfl rfl rfl rfl rfl fun a37 F37 => ?_
    refine sr (v := (.bool true)) F37 (run_eqi rfl (F37.ev 34 rfl) (F37.ev 35 rfl) (beq_self_eq_true _)) rfl rfl rfl fun a38 F38 => ?_
    refine mvS F38 rfl rfl rfl rfl rfl fun a39 F39 => ?_
    refine sq (v := (.agg #[vz2a])) F39 (wantedG F39 rfl rfl rfl rfl rfl) (run_ldB rfl (F39.ev 5 rfl) (M12.at 3 rfl) Tryd.underlying27 rfl szRg rfl) rfl (by decide) fun a40 F40 => ?_
    refine sq (v := (.agg #[vz6a])) F40 (wantedG F40 rfl rfl rfl rfl rfl) (run_ldB rfl (F40.ev 9 rfl) (M12.at 1 rfl) Tryd.underlying27 rfl szRg rfl) rfl (by decide) fun a41 F41 => ?_
    refine sqC (v := (.bool true)) F41 M12 (wantedG F41 rfl rfl rfl rfl rfl) (run_call rfl Tryd.func15 (by kernel_rfl) rfl (mapE2 (F41.ev 38 rfl) (F41.ev 39 rfl))) rfl (by decide) (samer_any (makeS k no).1 vz2a vz6a w12 (Sl.own hO40) (Sl.own hO43) (make_c32 k no) (make_lens k no).1) fun a42 w13 hb13 F42 M13 => ?_
    have hO46 := hO40.grow hb13
    have hO47 := hO41.grow hb13
    have hO48 := hO42.grow hb13
    have hO49 := hO43.grow hb13
    have hO50 := hO44.grow hb13
    have hO51 := hO45.grow hb13
    refine sr (v := (.bool true)) F42 (run_pick rfl (F42.ev 37 rfl) (F42.ev 40 rfl) rfl) rfl rfl rfl fun a43 F43 => ?_
    refine mvS F43 rfl rfl rfl rfl rfl fun a44 F44 => ?_
    refine sq (v := (.agg #[vz2b])) F44 (wantedG F44 rfl rfl rfl rfl rfl) (run_ldB rfl (F44.ev 6 rfl) (M13.at 2 rfl) Tryd.underlying30 rfl szKy rfl) rfl (by decide) fun a45 F45 => ?_
    refine sq (v := (.agg #[vz6b])) F45 (wantedG F45 rfl rfl rfl rfl rfl) (run_ldB rfl (F45.ev 10 rfl) (M13.at 0 rfl) Tryd.underlying30 rfl szKy rfl) rfl (by decide) fun a46 F46 => ?_
    refine sqC (v := (.bool true)) F46 M13 (wantedG F46 rfl rfl rfl rfl rfl) (run_call rfl Tryd.func16 (by kernel_rfl) rfl (mapE2 (F46.ev 43 rfl) (F46.ev 44 rfl))) rfl (by decide) (samek_any (makeS k no).2.1 vz2b vz6b w13 (Sl.own hO47) (Sl.own hO50) (make_k32 hLk) (make_lens k no).2.1) fun a47 w14 hb14 F47 M14 => ?_
    have hO52 := hO46.grow hb14
    have hO53 := hO47.grow hb14
    have hO54 := hO48.grow hb14
    have hO55 := hO49.grow hb14
    have hO56 := hO50.grow hb14
    have hO57 := hO51.grow hb14
    refine sr (v := (.bool true)) F47 (run_pick rfl (F47.ev 42 rfl) (F47.ev 45 rfl) rfl) rfl rfl rfl fun a48 F48 => ?_
    refine mvS F48 rfl rfl rfl rfl rfl fun a49 F49 => ?_
    refine sq (v := vz2c) F49 (wantedG F49 rfl rfl rfl rfl rfl) (run_mv rfl (F49.ev 7 rfl)) rfl (by decide) fun a50 F50 => ?_
    refine sq (v := vz6c) F50 (wantedG F50 rfl rfl rfl rfl rfl) (run_mv rfl (F50.ev 11 rfl)) rfl (by decide) fun a51 F51 => ?_
    refine sqC (v := (.bool true)) F51 M14 (wantedG F51 rfl rfl rfl rfl rfl) (run_call rfl Tryd.func17 (by kernel_rfl) rfl (mapE2 (F51.ev 48 rfl) (F51.ev 49 rfl))) rfl (by decide) (sames_any (makeS k no).2.2.1 vz2c vz6c w14 (Sl.own hO54) (Sl.own hO57) (make_lens k no).2.2) fun a52 w15 hb15 F52 M15 => ?_
    have hO58 := hO52.grow hb15
    have hO59 := hO53.grow hb15
    have hO60 := hO54.grow hb15
    have hO61 := hO55.grow hb15
    have hO62 := hO56.grow hb15
    have hO63 := hO57.grow hb15
    refine sr (v := (.bool true)) F52 (run_pick rfl (F52.ev 47 rfl) (F52.ev 50 rfl) rfl) rfl rfl rfl fun a53 F53 => ?_
    refine asS F53 rfl rfl rfl rfl rfl fun a54 F54 => ?_
    refine sn ?_
    clear F35 F36 F37 F38 F39 F40 F41 F42 F43 F44 F45 F46 F47 F48 F49 F50 F51 F52 F53 M12 M13 M14
    refine wp_ret ?_
    exact ret1 F54 rfl rfl ⟨rfl, M15.below⟩
end Go.Proofs.YtconhhhggckcbaaDoor
