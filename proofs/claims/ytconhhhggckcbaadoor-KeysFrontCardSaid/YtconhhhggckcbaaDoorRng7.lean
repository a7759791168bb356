/- The walk of the laws' made. Printed by gen_key21.py. -/
import Derived.Test.YtconhhhggckcbaaDoorRng6
namespace Go.Proofs.YtconhhhggckcbaaDoor
open Go.RowKit

theorem elSl : ElT Tryd.prog 49 31 1 24 := by
  refine ⟨Tryd.underlying49, ?_, by decide⟩
  obtain ⟨i, hi, hz⟩ : ∃ i, Tryd.prog.info? 31 = some i ∧ (i.zero.map (·.cells.size), i.size, i.bytes) = (some 1, 1, 24) := by
    have h : ((Tryd.prog.info? 31).map fun i => (i.zero.map (·.cells.size), i.size, i.bytes)) = some (some 1, 1, 24) := by kernel_rfl
    cases hi : Tryd.prog.info? 31 with
    | none => rw [hi] at h; cases h
    | some i => rw [hi] at h; exact ⟨i, rfl, Option.some.inj h⟩
  simp only [Prod.mk.injEq] at hz
  obtain ⟨h1, h2, h3⟩ := hz
  cases hzz : i.zero with
  | none => rw [hzz] at h1; cases h1
  | some z => rw [hzz] at h1; exact ⟨i, z, hi, hzz, h2, h3, Option.some.inj h1⟩
theorem run_sl1 {a : Act} {o : Oper} {w : World} {x : Operand} {v : Value} (hv : ∃ p n c, v = .slice p n c) (ho : o.op = .buildSlice 49 1 #[(0, x)]) (hx : a.eval x = v) : (execOp a.eval o).run Tryd.prog w = .ok (.value (.slice (some ⟨w.heap.size, 0, none⟩) 1 1)) (w.alloc (.cells (List.toArray [v]) 31)) := by
  obtain ⟨p, n, c, rfl⟩ := hv
  have hr : (Instr.buildSlice 49 1 #[(0, .slice p n c)]).run Tryd.prog w = .ok (.slice (some ⟨w.heap.size, 0, none⟩) 1 1) (w.alloc (.cells (List.toArray [.slice p n c]) 31)) := by kernel_rfl
  unfold execOp
  simp only [ho, List.map_toArray, List.map_cons, List.map_nil, hx, Sem.run_bind, hr, Result.andThen_ok, Sem.run_pure]
/-- each of the rows of shares is a key's. -/
def elemsO (w0 w : World) (l : List (List UInt8)) (no : List UInt8) (i : Nat) (US : List Value) : Prop := ∀ (q : Nat) (k : List UInt8), q < i → l[q]? = some k → ∃ u, US[q]? = some u ∧ w.ownsRow w0.heap.size 54 33 u 5 ((shS k no).flatMap shareC)
theorem elemsO.below {w0 w W : World} {l : List (List UInt8)} {no : List UInt8} {i : Nat} {US : List Value} (h : elemsO w0 w l no i US) (hb : Below w.heap.size w W) : elemsO w0 W l no i US := fun q k hq hk => by
  obtain ⟨u, h1, h2⟩ := h q k hq hk
  exact ⟨u, h1, ownsRow_keep0 h2 (below_grownP hb none) (by simp)⟩
theorem elemsO.keep {w0 w W : World} {l : List (List UInt8)} {no : List UInt8} {i : Nat} {US : List Value} {G : List Nat} (h : elemsO w0 w l no i US) (hk : KeepW G w W) (hG : ∀ g ∈ G, ∃ cur t, w.heap[g]? = some (.cells cur t (0, 0)) ∧ (!(Nat.beq t 54)) = true) : elemsO w0 W l no i US := fun q k hq hk2 => by
  obtain ⟨u, h1, h2⟩ := h q k hq hk2
  exact ⟨u, h1, owns_keepT h2 hk hG⟩
theorem elemsO.snoc {w0 w : World} {l : List (List UInt8)} {no x : List UInt8} {i : Nat} {US : List Value} {u : Value} (h : elemsO w0 w l no i US) (hl : US.length = i) (hx : l[i]? = some x) (hu : w.ownsRow w0.heap.size 54 33 u 5 ((shS x no).flatMap shareC)) : elemsO w0 w l no (i + 1) (US ++ [u]) := fun q k hq hk => by
  by_cases h1 : q < i
  · obtain ⟨u2, h2, h3⟩ := h q k h1 hk
    exact ⟨u2, by rw [List.getElem?_append_left (by omega)]; exact h2, h3⟩
  · obtain rfl : q = i := by omega
    rw [hx] at hk
    injection hk with hk
    subst hk
    exact ⟨u, by rw [List.getElem?_append_right (by omega), hl, Nat.sub_self]; rfl, hu⟩
theorem make_ok {k no : List UInt8} (hno : no.length = 64) : makeS k no = (ringS [k], [k], shS k no, 0) := by unfold makeS; rw [if_pos hno]
theorem take_snoc {l : List (List UInt8)} {i : Nat} {x : List UInt8} (hx : l[i]? = some x) : l.take i ++ [x] = l.take (i + 1) := by rw [List.take_add_one, hx]; rfl
theorem nodup_notmem {l : List (List UInt8)} (hn : l.Nodup) {i : Nat} {x : List UInt8} (hx : l[i]? = some x) : x ∉ l.take i := by
  intro hm
  obtain ⟨j, hj⟩ := List.mem_iff_getElem?.1 hm
  have hji : j < i := by have := (List.getElem?_eq_some_iff.1 hj).1; rw [List.length_take] at this; omega
  rw [List.getElem?_take_of_lt hji] at hj
  have := (List.getElem?_inj (List.getElem?_eq_some_iff.1 hj).1 hn).1 (hj.trans hx.symm)
  omega
attribute [local irreducible] sealS keyedS nonceS openS
theorem OwnR.perm {w0 w : World} {M M2 : List (Nat × (Obj → Prop))} {e : TypeId} {size m : Nat} {v : Value} {xs : List Value} (h : OwnR w0 M w e size v m xs) (hp : M2.Perm M) : OwnR w0 M2 w e size v m xs := ⟨h.owns, fun x hx => h.far x (hp.subset hx)⟩
set_option maxRecDepth 100000 in
set_option maxHeartbeats 1000000 in
theorem made_any (l : List (List UInt8)) (v : Value) (no : List UInt8) (w : World) (HG : Glob w) (hV : Sl w v 32 l.length (l.flatMap dgC)) (h32 : ∀ k ∈ l, k.length = 32) (hn : l.Nodup) (hl0 : 1 ≤ l.length) (hl6 : l.length ≤ 6) (hno : no.length = 64) : Calls Tryd.prog 26 #[v, .string ⟨no.toArray⟩] w fun e w' => ∃ u, e = .returned u ∧ Kp.sat w.heap.size (.tup4 (.st (.row 76 33 ((ringS l).length) ((ringS l).flatMap epF))) (.st (.row 23 32 l.length (l.flatMap dgC))) (.rows2 31 54 33 (l.map fun k => (5, (shS k no).flatMap shareC))) (.val (.bool true))) u w' ∧ Below w.heap.size w w' := by
  obtain ⟨x0, hx0⟩ : ∃ x, l[0]? = some x := ⟨l[0]'(by omega), List.getElem?_eq_getElem (by omega)⟩
  have hLx0 := h32 x0 (List.mem_of_getElem? hx0)
  refine walk_enter Tryd.func26 rfl rfl rfl fun a0 F0 => ?_
  have M0 := Mem.new w
  refine wsl ?_
  refine sqNew (cs := #[.slice none 0 0]) (t := 27) F0 M0 (wantedS rfl) (run_alloc rfl (by kernel_rfl)) rfl (by decide) fun g0 a1 w1 hgg0 hb1 F1 M1 => ?_
  refine sqNew (cs := #[.slice none 0 0]) (t := 30) F1 M1 (wantedS rfl) (run_alloc rfl (by kernel_rfl)) rfl (by decide) fun g1 a2 w2 hgg1 hb2 F2 M2 => ?_
  refine sr (v := (.slice none 0 0)) F2 (run_as rfl rfl) rfl rfl rfl fun a3 F3 => ?_
  refine sr (v := (.bool false)) F3 (run_as rfl rfl) rfl rfl rfl fun a4 F4 => ?_
  refine sn ?_
  clear F0 F1 F2 F3 M0 M1
  refine wsl ?_
  refine mvS F4 rfl rfl rfl rfl rfl fun a5 F5 => ?_
  refine sr (v := (slPtr v (0 * 32))) F5 (run_atP (i := 0) rfl (F5.ev 20 rfl) rfl rfl (hV.below M2.below) (by omega) elKey.un (by kernel_rfl)) rfl rfl rfl fun a6 F6 => ?_
  refine sr (v := (.agg (cells8 x0))) F6 (ldKey hLx0 (run_ldPS (ys := dgC x0) rfl (F6.ev 21 rfl) (hV.below M2.below) (by omega) (fun j u hj => flat_at dgC_len hx0 j hj) (by kernel_rfl) (by kernel_rfl))) rfl rfl rfl fun a7 F7 => ?_
  refine mvS F7 rfl rfl rfl rfl rfl fun a8 F8 => ?_
  refine sqT (T := fun u wx => Kp.sat w2.heap.size (.tup4 (.st (.row 76 33 ((ringS [x0]).length) ((ringS [x0]).flatMap epF))) (.st (.row 23 32 ([x0].length) ([x0].flatMap dgC))) (.row 54 33 ((shS x0 no).length) ((shS x0 no).flatMap shareC)) (.val (.int .i64 0))) u wx ∧ Below w2.heap.size w2 wx) F8 (wantedS rfl) (run_call rfl Tryd.func13 (by kernel_rfl) rfl (mapE2 (F8.ev 22 rfl) (F8.ev 23 rfl))) rfl (by decide) ((by have h := kmake_any x0 no w2 (HG.below M2.below) hLx0; rw [(make_ok hno)] at h; exact h)) fun u2 a9 w3 hT3 F9 => ?_
  obtain ⟨⟨_, _, vz3c, _, rfl, ⟨vz3a, rfl, hz3a⟩, ⟨vz3b, rfl, hz3b⟩, hz3c, rfl⟩, hb3⟩ := hT3
  have hO1 := OwnR.ofCall M2 (show World.ownsRow w3 _ 76 33 vz3a ((ringS [x0]).length) ((ringS [x0]).flatMap epF) from hz3a)
  have hO2 := OwnR.ofCall M2 (show World.ownsRow w3 _ 23 32 vz3b ([x0].length) ([x0].flatMap dgC) from hz3b)
  have hO3 := OwnR.ofCall M2 (show World.ownsRow w3 _ 54 33 vz3c ((shS x0 no).length) ((shS x0 no).flatMap shareC) from hz3c)
  have M3 := M2.grow hb3
  refine mvS F9 rfl rfl rfl rfl rfl fun a10 F10 => ?_
  refine sr (v := (.agg #[vz3a])) F10 (run_ext rfl (F10.ev 19 rfl) rfl) rfl rfl rfl fun a11 F11 => ?_
  refine sr (v := (.agg #[vz3b])) F11 (run_ext rfl (F11.ev 19 rfl) rfl) rfl rfl rfl fun a12 F12 => ?_
  refine sr (v := vz3c) F12 (run_ext rfl (F12.ev 19 rfl) rfl) rfl rfl rfl fun a13 F13 => ?_
  refine sr (v := (.int .i64 0)) F13 (run_ext rfl (F13.ev 19 rfl) rfl) rfl rfl rfl fun a14 F14 => ?_
  refine sqNew (cs := #[.slice none 0 0]) (t := 27) F14 M3 (wantedS rfl) (run_alloc rfl (by kernel_rfl)) rfl (by decide) fun g4 a15 w4 hgg4 hb4 F15 M4 => ?_
  have hO4 := hO1.add (S := isB 27 (#[.slice none 0 0])) hb4 hgg4
  have hO5 := hO2.add (S := isB 27 (#[.slice none 0 0])) hb4 hgg4
  have hO6 := hO3.add (S := isB 27 (#[.slice none 0 0])) hb4 hgg4
  refine sqNew (cs := #[.slice none 0 0]) (t := 30) F15 M4 (wantedS rfl) (run_alloc rfl (by kernel_rfl)) rfl (by decide) fun g5 a16 w5 hgg5 hb5 F16 M5 => ?_
  have hO7 := hO4.add (S := isB 30 (#[.slice none 0 0])) hb5 hgg5
  have hO8 := hO5.add (S := isB 30 (#[.slice none 0 0])) hb5 hgg5
  have hO9 := hO6.add (S := isB 30 (#[.slice none 0 0])) hb5 hgg5
  refine sqStoreG (i := 1) F16 M5 rfl rfl rfl (F16.ev 8 rfl) (F16.ev 25 rfl) rfl szRg rfl rfl (one_own hO7.owns) fun a17 w6 hgr6 F17 M6 => ?_
  have hO10 := hO7.upd 1 (S2 := isB 27 #[vz3a]) rfl hgr6
  have hO11 := hO8.upd 1 (S2 := isB 27 #[vz3a]) rfl hgr6
  have hO12 := hO9.upd 1 (S2 := isB 27 #[vz3a]) rfl hgr6
  refine sqStoreG (i := 0) F17 M6 rfl rfl rfl (F17.ev 9 rfl) (F17.ev 26 rfl) rfl szKy rfl rfl (one_own hO11.owns) fun a18 w7 hgr7 F18 M7 => ?_
  have hO13 := hO10.upd 0 (S2 := isB 30 #[vz3b]) rfl hgr7
  have hO14 := hO11.upd 0 (S2 := isB 30 #[vz3b]) rfl hgr7
  have hO15 := hO12.upd 0 (S2 := isB 30 #[vz3b]) rfl hgr7
  refine asS F18 rfl rfl rfl rfl rfl fun a19 F19 => ?_
  refine asS F19 rfl rfl rfl rfl rfl fun a20 F20 => ?_
  refine sn ?_
  clear F4 F5 F6 F7 F8 F9 F10 F11 F12 F13 F14 F15 F16 F17 F18 F19 M2 M3 M4 M5 M6
  refine wsl ?_
  refine mvS F20 rfl rfl rfl rfl rfl fun a21 F21 => ?_
  refine sqOwnN (cs := [vz3c]) (size := 1) (e := 31) (m := 1) F21 M7 (wantedS rfl) (run_sl1 (own_slice hO15.owns) rfl (F21.ev 29 rfl)) rfl (by unfold maxLen; omega) rfl (by decide) fun v6 a22 w8 hO16 hb8 M8 F22 => ?_
  have hO17 := hO13.grow hb8
  have hO18 := hO14.grow hb8
  have hO19 := hO15.grow hb8
  refine asS F22 rfl rfl rfl rfl rfl fun a23 F23 => ?_
  refine sn ?_
  clear F20 F21 F22 M7
  refine wsl ?_
  refine mvS F23 rfl rfl rfl rfl rfl fun a24 F24 => ?_
  refine sr (v := (.bool true)) F24 (run_eqi rfl (F24.ev 31 rfl) rfl (beq_self_eq_true _)) rfl rfl rfl fun a25 F25 => ?_
  refine asS F25 rfl rfl rfl rfl rfl fun a26 F26 => ?_
  refine sn ?_
  clear F23 F24 F25
  refine wp_seq ?_
  refine wsl ?_
  refine sr (v := (.int .i64 1)) F26 (run_as rfl rfl) rfl rfl rfl fun a27 F27 => ?_
  refine sn ?_
  clear F26
  refine wp_block ?_
  have htk1 : l.take 1 = [x0] := by rw [← take_snoc (i := 0) hx0]; rfl
  refine wkLoop (fun m a0 w2 => ∃ (i : Nat) (vr vk va : Value) (US : List Value), 1 ≤ i ∧ i ≤ l.length ∧ m = l.length - i ∧ Fr a0 67 [(0, v), (1, .string ⟨no.toArray⟩), (4, .pointer (some ⟨g0, 0, none⟩)), (5, .pointer (some ⟨g1, 0, none⟩)), (8, .pointer (some ⟨g4, 0, none⟩)), (9, .pointer (some ⟨g5, 0, none⟩)), (12, va), (13, .bool true), (14, .int .i64 (i : Int))] ∧ Mem w [(g5, isB 30 #[vk]), (g4, isB 27 #[vr]), (g1, isB 30 #[.slice none 0 0]), (g0, isB 27 #[.slice none 0 0])] w2 ∧ OwnR w [(g5, isB 30 #[vk]), (g4, isB 27 #[vr]), (g1, isB 30 #[.slice none 0 0]), (g0, isB 27 #[.slice none 0 0])] w2 76 33 vr (ringS (l.take i)).length ((ringS (l.take i)).flatMap epF) ∧ OwnR w [(g5, isB 30 #[vk]), (g4, isB 27 #[vr]), (g1, isB 30 #[.slice none 0 0]), (g0, isB 27 #[.slice none 0 0])] w2 23 32 vk (l.take i).length ((l.take i).flatMap dgC) ∧ OwnR w [(g5, isB 30 #[vk]), (g4, isB 27 #[vr]), (g1, isB 30 #[.slice none 0 0]), (g0, isB 27 #[.slice none 0 0])] w2 31 1 va US.length US ∧ US.length = i ∧ elemsO w w2 l no i US) (l.length - 1) ⟨1, vz3a, vz3b, v6, [vz3c], Nat.le_refl _, hl0, rfl, F27.sub ⟨rfl, rfl, rfl, rfl, rfl, rfl, rfl, rfl, rfl, trivial⟩, M8.sub (.cons_cons _ (.cons_cons _ (.cons_cons _ (.cons_cons _ .slnil)))), by rw [htk1]; exact hO17.sub (.cons_cons _ (.cons_cons _ (.cons_cons _ (.cons_cons _ .slnil)))), by rw [htk1]; exact hO18.sub (.cons_cons _ (.cons_cons _ (.cons_cons _ (.cons_cons _ .slnil)))), hO16.sub (.cons_cons _ (.cons_cons _ (.cons_cons _ (.cons_cons _ .slnil)))), rfl, fun q k hq hk => ?_⟩ ?_
  · obtain rfl : q = 0 := by omega
    rw [hx0] at hk
    injection hk with hk
    subst hk
    exact ⟨vz3c, rfl, by have h9 := hO19.owns; rw [shS_len] at h9; exact h9⟩
  rintro m a0 w1 ⟨i, vr, vk, va, US, hi1, hi, rfl, F0, M0, hOr, hOk, hOa, hUl, hel⟩
  by_cases h1 : i < l.length
  · obtain ⟨x, hx⟩ : ∃ x, l[i]? = some x := ⟨l[i], List.getElem?_eq_getElem h1⟩
    have hLx := h32 x (List.mem_of_getElem? hx)
    have hti : (l.take i).length = i := by rw [List.length_take]; omega
    have hrot : rotS (ringS (l.take i)) (l.take i) x no = (ringS (l.take (i + 1)), l.take (i + 1), shS x no, 0) := by
      rw [rot_ring (fun h => by rw [h] at hti; simp at hti; omega) (by omega) (nodup_notmem hn hx) hno, take_snoc hx]
    refine wp_seq ?_
    refine wsl ?_
    refine mvS F0 rfl rfl rfl rfl rfl fun a1 F1 => ?_
    refine mvS F1 rfl rfl rfl rfl rfl fun a2 F2 => ?_
    refine sr F2 (run_lenS rfl (F2.ev 34 rfl) (hV.below M0.below) rfl Tryd.underlying28) rfl rfl rfl fun a3 F3 => ?_
    refine sr (v := (.bool true)) F3 (run_lss rfl (F3.ev 33 rfl) (F3.ev 35 rfl) (decide_eq_true (by omega))) rfl rfl rfl fun a4 F4 => ?_
    refine mvS F4 rfl rfl rfl rfl rfl fun a5 F5 => ?_
    refine sq (v := (.bool true)) F5 (wantedG F5 rfl rfl rfl rfl rfl) (run_mv rfl (F5.ev 13 rfl)) rfl (by decide) fun a6 F6 => ?_
    refine sr (v := (.bool true)) F6 (run_pick rfl (F6.ev 37 rfl) (F6.ev 38 rfl) rfl) rfl rfl rfl fun a7 F7 => ?_
    refine sn ?_
    clear F0 F1 F2 F3 F4 F5 F6
    refine cts (F7.ev 39 rfl) ?_
    refine wp_seq ?_
    refine wp_block ?_
    refine wp_seq ?_
    refine wp_region_p 67 [.val (.agg #[vr]), .val (.agg #[vk]), .val v, .val (.int .i64 (i : Int)), .val (slPtr v (i * 32)), .val (.agg (cells8 x)), .val (.string ⟨no.toArray⟩), .tup4 (.st (.row 76 33 ((ringS (l.take (i + 1))).length) ((ringS (l.take (i + 1))).flatMap epF))) (.st (.row 23 32 ((l.take (i + 1)).length) ((l.take (i + 1)).flatMap dgC))) (.row 54 33 ((shS x no).length) ((shS x no).flatMap shareC)) (.val (.int .i64 0)), .tup4 (.st (.row 76 33 ((ringS (l.take (i + 1))).length) ((ringS (l.take (i + 1))).flatMap epF))) (.st (.row 23 32 ((l.take (i + 1)).length) ((l.take (i + 1)).flatMap dgC))) (.row 54 33 ((shS x no).length) ((shS x no).flatMap shareC)) (.val (.int .i64 0)), .st (.row 76 33 ((ringS (l.take (i + 1))).length) ((ringS (l.take (i + 1))).flatMap epF)), .st (.row 23 32 ((l.take (i + 1)).length) ((l.take (i + 1)).flatMap dgC)), .row 54 33 ((shS x no).length) ((shS x no).flatMap shareC), .val (.int .i64 0), .any, .any, .any, .any, .row 54 33 ((shS x no).length) ((shS x no).flatMap shareC), .val (.int .i64 0)] [] [⟨13, 15, 15, 27, #[.slice none 0 0], .st (.row 76 33 ((ringS (l.take (i + 1))).length) ((ringS (l.take (i + 1))).flatMap epF))⟩, ⟨14, 16, 16, 30, #[.slice none 0 0], .st (.row 23 32 ((l.take (i + 1)).length) ((l.take (i + 1)).flatMap dgC))⟩] [] [] (by kernel_rfl) (by kernel_rfl) F7.size ?_ ?_ ?_ ?_ (by kernel_rfl) ?_ fun a8 w2 gs hI => ?_
    · intro d hd
      simp only [List.mem_cons, List.not_mem_nil, or_false] at hd
      rcases hd with rfl | rfl <;> exact ⟨Nat.le_of_ble_eq_true (by kernel_rfl), _, rfl, rfl⟩
    · intro b hb
      cases hb
    · intro x y b c hx hy hne
      simp at hx
    · intro r hr
      cases hr
    · refine ⟨?_, ?_, ?_, ?_, ?_, ?_, ?_, ?_, ?_, ?_, ?_, ?_, ?_, ?_, ?_, ?_, ?_, ?_, ?_, trivial⟩
      · refine .val 43 rfl (by simp) (by simp) (by simp) fun a W hK hh hd => ⟨wanted_yes rfl, ?_⟩
        exact givz_run (run_ldB rfl (eval_tmp (hh 8 _ rfl (F7.at 8 rfl))) ((M0.grow hK.below).at 1 rfl) Tryd.underlying27 rfl szRg rfl) rfl
      · refine .val 44 rfl (by simp) (by simp) (by simp) fun a W hK hh hd => ⟨wanted_yes rfl, ?_⟩
        exact givz_run (run_ldB rfl (eval_tmp (hh 9 _ rfl (F7.at 9 rfl))) ((M0.grow hK.below).at 0 rfl) Tryd.underlying30 rfl szKy rfl) rfl
      · refine .val 45 rfl (by simp) (by simp) (by simp) fun a W hK hh hd => ⟨wanted_yes rfl, ?_⟩
        exact givz_run (run_mv rfl (eval_tmp (hh 0 _ rfl (F7.at 0 rfl)))) rfl
      · refine .val 46 rfl (by simp) (by simp) (by simp) fun a W hK hh hd => ⟨wanted_yes rfl, ?_⟩
        exact givz_run (run_mv rfl (eval_tmp (hh 14 _ rfl (F7.at 14 rfl)))) rfl
      · refine .val 47 rfl (by simp) (by simp) (by simp) fun a W hK hh hd => ⟨wanted_yes rfl, ?_⟩
        exact givz_run (run_atP (i := i) rfl (eval_tmp (hd.valz (j := 2) (s := 45) (by kernel_rfl) (by simp) rfl rfl)) (eval_tmp (hd.valz (j := 3) (s := 46) (by kernel_rfl) (by simp) rfl rfl)) rfl (hV.below (M0.grow hK.below).below) (by omega) elKey.un (by kernel_rfl)) rfl
      · refine .val 48 rfl (by simp) (by simp) (by simp) fun a W hK hh hd => ⟨wanted_yes rfl, ?_⟩
        exact givz_run (ldKey hLx (run_ldPS (ys := dgC x) rfl (eval_tmp (hd.valz (j := 4) (s := 47) (by kernel_rfl) (by simp) rfl rfl)) (hV.below (M0.grow hK.below).below) (by omega) (fun j u hj => flat_at dgC_len hx j hj) (by kernel_rfl) (by kernel_rfl))) rfl
      · refine .val 49 rfl (by simp) (by simp) (by simp) fun a W hK hh hd => ⟨wanted_yes rfl, ?_⟩
        exact givz_run (run_mv rfl (eval_tmp (hh 1 _ rfl (F7.at 1 rfl)))) rfl
      · refine .val 50 rfl (by simp) (by simp) (by simp) fun a W hK hh hd => ⟨wanted_yes rfl, ?_⟩
        exact givz_call (run_call rfl Tryd.func19 (by kernel_rfl) rfl (mapE4 (eval_tmp (hd.valz (j := 0) (s := 43) (by kernel_rfl) (by simp) rfl rfl)) (eval_tmp (hd.valz (j := 1) (s := 44) (by kernel_rfl) (by simp) rfl rfl)) (eval_tmp (hd.valz (j := 5) (s := 48) (by kernel_rfl) (by simp) rfl rfl)) (eval_tmp (hd.valz (j := 6) (s := 49) (by kernel_rfl) (by simp) rfl rfl)))) hK.size ((by have h := krot_any (ringS (l.take i)) (l.take i) x no vr vk W (HG.below (M0.grow hK.below).below) (Sl.own (hOr.grow hK.below)) (ringS_c32 _) (Sl.own (hOk.grow hK.below)) (fun y hy => h32 y (List.mem_of_mem_take hy)) hLx (by rw [ringS_len, List.length_take]; omega) (by rw [List.length_take]; omega); rw [hrot] at h; exact h))
      · refine .val 42 rfl (by simp) (by simp) (by simp) fun a W hK hh hd => ⟨wanted_yes rfl, ?_⟩
        obtain ⟨_, ey7, ⟨_, _, vz_8_7c, _, rfl, ⟨vz_8_7a, rfl, hz_8_7a⟩, ⟨vz_8_7b, rfl, hz_8_7b⟩, hz_8_7c, rfl⟩⟩ := hd.getz (j := 7) (s := 50) (by kernel_rfl) (by simp) rfl rfl
        exact givz_run (run_mv rfl (eval_tmp ey7)) ⟨_, _, _, _, rfl, ⟨_, rfl, hz_8_7a⟩, ⟨_, rfl, hz_8_7b⟩, hz_8_7c, rfl⟩
      · refine .val 51 rfl (by simp) (by simp) (by simp) fun a W hK hh hd => ⟨wanted_yes rfl, ?_⟩
        obtain ⟨_, ey8, ⟨_, _, vz_9_8c, _, rfl, ⟨vz_9_8a, rfl, hz_9_8a⟩, ⟨vz_9_8b, rfl, hz_9_8b⟩, hz_9_8c, rfl⟩⟩ := hd.getz (j := 8) (s := 42) (by kernel_rfl) (by simp) rfl rfl
        exact givz_run (run_ext rfl (eval_tmp ey8) rfl) ⟨_, rfl, hz_9_8a⟩
      · refine .val 52 rfl (by simp) (by simp) (by simp) fun a W hK hh hd => ⟨wanted_yes rfl, ?_⟩
        obtain ⟨_, ey8, ⟨_, _, vz_10_8c, _, rfl, ⟨vz_10_8a, rfl, hz_10_8a⟩, ⟨vz_10_8b, rfl, hz_10_8b⟩, hz_10_8c, rfl⟩⟩ := hd.getz (j := 8) (s := 42) (by kernel_rfl) (by simp) rfl rfl
        exact givz_run (run_ext rfl (eval_tmp ey8) rfl) ⟨_, rfl, hz_10_8b⟩
      · refine .val 53 rfl (by simp) (by simp) (by simp) fun a W hK hh hd => ⟨wanted_yes rfl, ?_⟩
        obtain ⟨_, ey8, ⟨_, _, vz_11_8c, _, rfl, ⟨vz_11_8a, rfl, hz_11_8a⟩, ⟨vz_11_8b, rfl, hz_11_8b⟩, hz_11_8c, rfl⟩⟩ := hd.getz (j := 8) (s := 42) (by kernel_rfl) (by simp) rfl rfl
        exact givz_run (run_ext rfl (eval_tmp ey8) rfl) hz_11_8c
      · refine .val 54 rfl (by simp) (by simp) (by simp) fun a W hK hh hd => ⟨wanted_yes rfl, ?_⟩
        obtain ⟨_, ey8, ⟨_, _, vz_12_8c, _, rfl, ⟨vz_12_8a, rfl, hz_12_8a⟩, ⟨vz_12_8b, rfl, hz_12_8b⟩, hz_12_8c, rfl⟩⟩ := hd.getz (j := 8) (s := 42) (by kernel_rfl) (by simp) rfl rfl
        exact givz_run (run_ext rfl (eval_tmp ey8) rfl) rfl
      · exact .new 0 _ rfl rfl rfl (by simp) (by simp) (by simp) (fun y e hy he => by rcases y with _ | _ | y <;> simp at hy <;> (try subst hy) <;> simp at he ⊢) fun a W => ⟨wanted_yes rfl, run_alloc rfl (by kernel_rfl)⟩
      · exact .new 1 _ rfl rfl rfl (by simp) (by simp) (by simp) (fun y e hy he => by rcases y with _ | _ | y <;> simp at hy <;> (try subst hy) <;> simp at he ⊢) fun a W => ⟨wanted_yes rfl, run_alloc rfl (by kernel_rfl)⟩
      · refine .put 0 _ rfl rfl rfl (by simp) (by simp) (by simp) (fun y e hy he => by rcases y with _ | _ | y <;> simp at hy <;> (try subst hy) <;> simp at he ⊢) (by kernel_rfl) 1 27 _ _ rfl rfl (fun a W hK hh hd => ?_) rfl szRg rfl
        obtain ⟨_, ey9, ⟨vz_15_9, rfl, hz_15_9⟩⟩ := hd.getz (j := 9) (s := 51) (by kernel_rfl) (by simp) rfl rfl
        rw [show a.eval _ = _ from (eval_tmp ey9)]
        exact ⟨⟨_, rfl, hz_15_9⟩, rfl, (one_own hz_15_9)⟩
      · refine .put 1 _ rfl rfl rfl (by simp) (by simp) (by simp) (fun y e hy he => by rcases y with _ | _ | y <;> simp at hy <;> (try subst hy) <;> simp at he ⊢) (by kernel_rfl) 1 30 _ _ rfl rfl (fun a W hK hh hd => ?_) rfl szKy rfl
        obtain ⟨_, ey10, ⟨vz_16_10, rfl, hz_16_10⟩⟩ := hd.getz (j := 10) (s := 52) (by kernel_rfl) (by simp) rfl rfl
        rw [show a.eval _ = _ from (eval_tmp ey10)]
        exact ⟨⟨_, rfl, hz_16_10⟩, rfl, (one_own hz_16_10)⟩
      · refine .val 17 rfl (by simp) (by simp) (by simp) fun a W hK hh hd => ⟨wanted_yes rfl, ?_⟩
        obtain ⟨vz_17_11, ey11, hz_17_11⟩ := hd.getz (j := 11) (s := 53) (by kernel_rfl) (by simp) rfl rfl
        exact givz_run (run_as rfl (eval_tmp ey11)) hz_17_11
      · refine .val 18 rfl (by simp) (by simp) (by simp) fun a W hK hh hd => ⟨wanted_yes rfl, ?_⟩
        exact givz_run (run_as rfl (eval_tmp (hd.valz (j := 12) (s := 54) (by kernel_rfl) (by simp) rfl rfl))) rfl
    obtain ⟨vz7_, e17_, hz7_⟩ := hI.val 17 _ 17 rfl rfl rfl (by simp) (fun _ h => by cases h)
    have e18_ : a8.tmps[18]? = some (.int .i64 0) := by
      obtain ⟨vq, hq1, hq2⟩ := hI.val 18 _ 18 rfl rfl rfl (by simp) (fun _ h => by cases h)
      rw [hq1]
      exact congrArg some hq2
    obtain ⟨pg8, qg8, _, fg8⟩ := hI.blk 0 _ rfl rfl
    obtain ⟨pg9, qg9, _, fg9⟩ := hI.blk 1 _ rfl rfl
    have neg9 := hI.apart 0 1 _ _ rfl rfl (by decide) rfl rfl
    generalize gs 0 = g8 at pg8 qg8 fg8 neg9
    generalize gs 1 = g9 at pg9 qg9 fg9 neg9
    obtain ⟨_, Bg8, ⟨vz10_, rfl, hz10_⟩⟩ := fg8 rfl
    have Bg8 : Blk w2 g8 27 (#[vz10_]) := Bg8
    obtain ⟨_, Bg9, ⟨vz11_, rfl, hz11_⟩⟩ := fg9 rfl
    have Bg9 : Blk w2 g9 30 (#[vz11_]) := Bg9
    have hb2 := KeepW.below hI.keep
    have M1 := M0.grow hb2
    have hO1 := hOr.grow hb2
    have hO2 := hOk.grow hb2
    have hO3 := hOa.grow hb2
    have hO4 := OwnR.ofCall M0 (show World.ownsRow w2 _ 54 33 vz7_ ((shS x no).length) ((shS x no).flatMap shareC) from hz7_)
    have hO5 := OwnR.ofCall M0 (show World.ownsRow w2 _ 76 33 vz10_ ((ringS (l.take (i + 1))).length) ((ringS (l.take (i + 1))).flatMap epF) from hz10_)
    have hO6 := OwnR.ofCall M0 (show World.ownsRow w2 _ 23 32 vz11_ ((l.take (i + 1)).length) ((l.take (i + 1)).flatMap dgC) from hz11_)
    have hO7 := hO1.addFar (S := isB 27 (#[vz10_])) (own_ne_ge hOr.owns qg8)
    have hO8 := hO2.addFar (S := isB 27 (#[vz10_])) (own_ne_ge hOk.owns qg8)
    have hO9 := hO3.addFar (S := isB 27 (#[vz10_])) (own_ne_ge hOa.owns qg8)
    have hO10 := hO4.addFar (S := isB 27 (#[vz10_])) (own_ne_ty hO4.owns Bg8 (by kernel_rfl))
    have hO11 := hO5.addFar (S := isB 27 (#[vz10_])) (own_ne_ty hO5.owns Bg8 (by kernel_rfl))
    have hO12 := hO6.addFar (S := isB 27 (#[vz10_])) (own_ne_ty hO6.owns Bg8 (by kernel_rfl))
    have M2 := M1.put1 (cs := #[vz10_]) (Nat.le_trans M0.below.size qg8) Bg8 (mem_far_new M0 qg8)
    have hO13 := hO7.addFar (S := isB 30 (#[vz11_])) (own_ne_ge hOr.owns qg9)
    have hO14 := hO8.addFar (S := isB 30 (#[vz11_])) (own_ne_ge hOk.owns qg9)
    have hO15 := hO9.addFar (S := isB 30 (#[vz11_])) (own_ne_ge hOa.owns qg9)
    have hO16 := hO10.addFar (S := isB 30 (#[vz11_])) (own_ne_ty hO10.owns Bg9 (by kernel_rfl))
    have hO17 := hO11.addFar (S := isB 30 (#[vz11_])) (own_ne_ty hO11.owns Bg9 (by kernel_rfl))
    have hO18 := hO12.addFar (S := isB 30 (#[vz11_])) (own_ne_ty hO12.owns Bg9 (by kernel_rfl))
    have M3 := M2.put1 (cs := #[vz11_]) (Nat.le_trans M0.below.size qg9) Bg9 (far_cons neg9 (mem_far_new M0 qg9))
    have F8 : Fr a8 67 [(0, v), (1, (.string ⟨no.toArray⟩)), (4, (.pointer (some ⟨g0, 0, none⟩))), (5, (.pointer (some ⟨g1, 0, none⟩))), (8, (.pointer (some ⟨g4, 0, none⟩))), (9, (.pointer (some ⟨g5, 0, none⟩))), (12, va), (13, (.bool true)), (14, (.int .i64 (i : Int))), (15, (.pointer (some ⟨g8, 0, none⟩))), (16, (.pointer (some ⟨g9, 0, none⟩))), (17, vz7_), (18, (.int .i64 0)), (33, (.int .i64 (i : Int))), (34, v), (35, (.int .i64 (l.length : Int))), (36, (.bool true)), (37, (.bool true)), (38, (.bool true)), (39, (.bool true))] := fr_of_holds hI.tsz (hI.defers.trans F7.defers) ⟨hI.had 0 _ rfl (F7.at 0 rfl), hI.had 1 _ rfl (F7.at 1 rfl), hI.had 4 _ rfl (F7.at 4 rfl), hI.had 5 _ rfl (F7.at 5 rfl), hI.had 8 _ rfl (F7.at 8 rfl), hI.had 9 _ rfl (F7.at 9 rfl), hI.had 12 _ rfl (F7.at 12 rfl), hI.had 13 _ rfl (F7.at 13 rfl), hI.had 14 _ rfl (F7.at 14 rfl), pg8, pg9, e17_, e18_, hI.had 33 _ rfl (F7.at 33 rfl), hI.had 34 _ rfl (F7.at 34 rfl), hI.had 35 _ rfl (F7.at 35 rfl), hI.had 36 _ rfl (F7.at 36 rfl), hI.had 37 _ rfl (F7.at 37 rfl), hI.had 38 _ rfl (F7.at 38 rfl), hI.had 39 _ rfl (F7.at 39 rfl), trivial⟩
    clear F7 M0 M1 M2
    have hel7 := hel.below hb2
    refine nx ?_
    refine wsl ?_
    refine mvS F8 rfl rfl rfl rfl rfl fun a9 F9 => ?_
    refine sr (v := (.bool true)) F9 (run_eqi rfl (F9.ev 55 rfl) rfl (beq_self_eq_true _)) rfl rfl rfl fun a10 F10 => ?_
    refine asS F10 rfl rfl rfl rfl rfl fun a11 F11 => ?_
    refine sn ?_
    clear F8 F9 F10
    have hG9 : ∀ g ∈ ([g4, g5] ++ ((va : Value).ownBlock.toList ++ [])), ∃ cur t, w2.heap[g]? = some (.cells cur t (0, 0)) ∧ (!(Nat.beq t 54)) = true := by
      intro g hg
      simp only [List.mem_cons, List.not_mem_nil, or_false, List.mem_append, List.append_nil, Option.mem_toList] at hg
      rcases hg with (rfl | rfl) | hg
      · exact ⟨_, _, M3.at 3 rfl, by kernel_rfl⟩
      · exact ⟨_, _, M3.at 2 rfl, by kernel_rfl⟩
      · obtain ⟨cur, h9⟩ := owns_blk hO15.owns hg
        exact ⟨cur, _, h9, by kernel_rfl⟩
    have hMs := M3.sub (.cons_cons _ (.cons_cons _ (.cons _ (.cons _ (.cons_cons _ (.cons_cons _ .slnil))))))
    have hfM : ∀ xq ∈ [(g9, isB 30 (#[vz11_])), (g8, isB 27 (#[vz10_])), (g1, isB 30 (#[.slice none 0 0])), (g0, isB 27 (#[.slice none 0 0]))], xq.1 ∉ ([g4, g5] ++ ((va : Value).ownBlock.toList ++ [])) := by
      intro xq hx hg
      simp only [List.mem_cons, List.not_mem_nil, or_false, List.mem_append, List.append_nil, Option.mem_toList] at hx hg
      rcases hx with rfl | rfl | rfl | rfl <;> rcases hg with (hg | hg) | hg <;> first | exact absurd hg (setAt_ne M3.nd (i := 0) (j := 3) rfl rfl (by decide)) | exact absurd hg (setAt_ne M3.nd (i := 0) (j := 2) rfl rfl (by decide)) | exact absurd hg (setAt_ne M3.nd (i := 1) (j := 3) rfl rfl (by decide)) | exact absurd hg (setAt_ne M3.nd (i := 1) (j := 2) rfl rfl (by decide)) | exact absurd hg (setAt_ne M3.nd (i := 4) (j := 3) rfl rfl (by decide)) | exact absurd hg (setAt_ne M3.nd (i := 4) (j := 2) rfl rfl (by decide)) | exact absurd hg (setAt_ne M3.nd (i := 5) (j := 3) rfl rfl (by decide)) | exact absurd hg (setAt_ne M3.nd (i := 5) (j := 2) rfl rfl (by decide)) | exact absurd hg (hO15.far _ (List.mem_of_getElem? (i := 0) rfl)) | exact absurd hg (hO15.far _ (List.mem_of_getElem? (i := 1) rfl)) | exact absurd hg (hO15.far _ (List.mem_of_getElem? (i := 4) rfl)) | exact absurd hg (hO15.far _ (List.mem_of_getElem? (i := 5) rfl))
    have hfG : ∀ gq ∈ ([g4, g5] ++ ((va : Value).ownBlock.toList ++ [])), w.heap.size ≤ gq := by
      intro gq hg
      simp only [List.mem_cons, List.not_mem_nil, or_false, List.mem_append, List.append_nil, Option.mem_toList] at hg
      rcases hg with (rfl | rfl) | hg
      · exact M3.ge 3 rfl
      · exact M3.ge 2 rfl
      · exact own_base hO15.owns hg
    have hfovr : ∀ gq ∈ ([g4, g5] ++ ((va : Value).ownBlock.toList ++ [])), (vr : Value).ownBlock ≠ some gq := by
      intro gq hg
      simp only [List.mem_cons, List.not_mem_nil, or_false, List.mem_append, List.append_nil, Option.mem_toList] at hg
      rcases hg with (rfl | rfl) | hg
      · exact hO13.far _ (List.mem_of_getElem? (i := 3) rfl)
      · exact hO13.far _ (List.mem_of_getElem? (i := 2) rfl)
      · exact own_ne_own hO13.owns hO15.owns (by kernel_rfl) hg
    have hfovk : ∀ gq ∈ ([g4, g5] ++ ((va : Value).ownBlock.toList ++ [])), (vk : Value).ownBlock ≠ some gq := by
      intro gq hg
      simp only [List.mem_cons, List.not_mem_nil, or_false, List.mem_append, List.append_nil, Option.mem_toList] at hg
      rcases hg with (rfl | rfl) | hg
      · exact hO14.far _ (List.mem_of_getElem? (i := 3) rfl)
      · exact hO14.far _ (List.mem_of_getElem? (i := 2) rfl)
      · exact own_ne_own hO14.owns hO15.owns (by kernel_rfl) hg
    have hfovz7_ : ∀ gq ∈ ([g4, g5] ++ ((va : Value).ownBlock.toList ++ [])), (vz7_ : Value).ownBlock ≠ some gq := by
      intro gq hg
      simp only [List.mem_cons, List.not_mem_nil, or_false, List.mem_append, List.append_nil, Option.mem_toList] at hg
      rcases hg with (rfl | rfl) | hg
      · exact hO16.far _ (List.mem_of_getElem? (i := 3) rfl)
      · exact hO16.far _ (List.mem_of_getElem? (i := 2) rfl)
      · exact own_ne_own hO16.owns hO15.owns (by kernel_rfl) hg
    have hfovz10_ : ∀ gq ∈ ([g4, g5] ++ ((va : Value).ownBlock.toList ++ [])), (vz10_ : Value).ownBlock ≠ some gq := by
      intro gq hg
      simp only [List.mem_cons, List.not_mem_nil, or_false, List.mem_append, List.append_nil, Option.mem_toList] at hg
      rcases hg with (rfl | rfl) | hg
      · exact hO17.far _ (List.mem_of_getElem? (i := 3) rfl)
      · exact hO17.far _ (List.mem_of_getElem? (i := 2) rfl)
      · exact own_ne_own hO17.owns hO15.owns (by kernel_rfl) hg
    have hfovz11_ : ∀ gq ∈ ([g4, g5] ++ ((va : Value).ownBlock.toList ++ [])), (vz11_ : Value).ownBlock ≠ some gq := by
      intro gq hg
      simp only [List.mem_cons, List.not_mem_nil, or_false, List.mem_append, List.append_nil, Option.mem_toList] at hg
      rcases hg with (rfl | rfl) | hg
      · exact hO18.far _ (List.mem_of_getElem? (i := 3) rfl)
      · exact hO18.far _ (List.mem_of_getElem? (i := 2) rfl)
      · exact own_ne_own hO18.owns hO15.owns (by kernel_rfl) hg
    refine wp_region_p 67 [.val (.agg #[vz10_]), .val (.agg #[vz11_]), .val va, .val vz7_, .new 31 (List.toArray [vz7_]) 1, .rowO w.heap.size 31 1 (US.length + 1) (US ++ [vz7_]) va, .any, .any, .rowO w.heap.size 31 1 (US.length + 1) (US ++ [vz7_]) va] [none, none, none, none, some 5, none, none, none, none] [] [⟨6, g4, 27, #[vr], .val (.agg #[vz10_])⟩, ⟨7, g5, 30, #[vk], .val (.agg #[vz11_])⟩] [⟨5, w.heap.size, 31, 1, va, US.length, US⟩] (by kernel_rfl) (by kernel_rfl) F11.size ?_ ?_ ?_ ?_ (by kernel_rfl) ?_ fun a12 w3 gs hI => ?_
    · intro d hd
      cases hd
    · intro b hb
      simp only [List.mem_cons, List.not_mem_nil, or_false] at hb
      rcases hb with rfl | rfl
      · exact ⟨Nat.le_of_ble_eq_true (by kernel_rfl), M3.at 3 rfl⟩
      · exact ⟨Nat.le_of_ble_eq_true (by kernel_rfl), M3.at 2 rfl⟩
    · have hne01 : g4 ≠ g5 := setAt_ne M3.nd (i := 3) (j := 2) rfl rfl (by decide)
      intro x y b c hx hy hne
      rcases x with _ | _ | x <;> rcases y with _ | _ | y <;> simp at hx hy hne <;> subst hx <;> subst hy <;> first | exact hne01 | exact hne01.symm
    · intro r hr
      rw [List.mem_singleton.1 hr]
      refine ⟨hO15.owns, fun b hb => ?_⟩
      simp only [List.mem_cons, List.not_mem_nil, or_false] at hb
      rcases hb with rfl | rfl
      · exact hO15.far _ (List.mem_of_getElem? (i := 3) rfl)
      · exact hO15.far _ (List.mem_of_getElem? (i := 2) rfl)
    · refine ⟨?_, ?_, ?_, ?_, ?_, ?_, ?_, ?_, ?_, trivial⟩
      · refine .val 57 rfl (by simp) (by simp) (by simp) fun a W hK hh hd => ⟨wanted_yes rfl, ?_⟩
        exact givz_run (run_ldB rfl (eval_tmp (hh 15 _ rfl (F11.at 15 rfl))) ((hMs.keepW hK hfM hfG).at 1 rfl) Tryd.underlying27 rfl szRg rfl) rfl
      · refine .val 58 rfl (by simp) (by simp) (by simp) fun a W hK hh hd => ⟨wanted_yes rfl, ?_⟩
        exact givz_run (run_ldB rfl (eval_tmp (hh 16 _ rfl (F11.at 16 rfl))) ((hMs.keepW hK hfM hfG).at 0 rfl) Tryd.underlying30 rfl szKy rfl) rfl
      · refine .val 59 rfl (by simp) (by simp) (by simp) fun a W hK hh hd => ⟨wanted_yes rfl, ?_⟩
        exact givz_run (run_mv rfl (eval_tmp (hd.prev (j := 8) (s := 12) (by kernel_rfl) (by kernel_rfl) (F11.at 12 rfl)))) rfl
      · refine .val 60 rfl (by simp) (by simp) (by simp) fun a W hK hh hd => ⟨wanted_yes rfl, ?_⟩
        exact givz_run (run_mv rfl (eval_tmp (hh 17 _ rfl (F11.at 17 rfl)))) rfl
      · refine .val 61 rfl (by simp) (by simp) (by simp) fun a W hK hh hd => ⟨wanted_yes rfl, ?_⟩
        exact givz_new 31 _ 1 hK.size (run_sl1 (own_slice hO16.owns) rfl (eval_tmp (hd.valz (j := 3) (s := 60) (by kernel_rfl) (by simp) rfl rfl)))
      · refine .appO 62 _ (List.mem_singleton.2 rfl) rfl rfl (by simp) (by simp) (Nat.le_refl 1) (by kernel_rfl) (by kernel_rfl) (by kernel_rfl) fun a W hK hh hd hO => ⟨wanted_yes rfl, ?_⟩
        obtain ⟨_, ey4, ⟨gz_5_4, hg_5_4, rfl, hz_5_4⟩⟩ := hd.getKz (j := 4) (s := 61) (by kernel_rfl) (by simp) rfl rfl
        exact givz_appO (news := [vz7_]) elSl rfl (eval_tmp (hd.valz (j := 2) (s := 59) (by kernel_rfl) (by simp) rfl rfl)) (eval_tmp ey4) hO (Nat.le_trans M3.below.size hK.size) hK.size rfl hz_5_4 (fun u hu => by rw [List.mem_singleton.1 hu]; exact one_cell_own hO16.owns) (by unfold maxLen; omega) (by omega)
      · refine .putO 0 _ rfl rfl rfl (by simp) (fun y e hy he => by rcases y with _ | _ | y <;> simp at hy <;> (try subst hy) <;> simp at he ⊢) (by simp) 1 27 _ _ rfl (fun a hh => eval_tmp (hh 8 _ rfl (F11.at 8 rfl))) (fun a W hK hh hd => ?_) rfl szRg rfl
        rw [show a.eval _ = _ from (eval_tmp (hd.valz (j := 0) (s := 57) (by kernel_rfl) (by simp) rfl rfl))]
        exact ⟨rfl, rfl, (one_own hO17.owns)⟩
      · refine .putO 1 _ rfl rfl rfl (by simp) (fun y e hy he => by rcases y with _ | _ | y <;> simp at hy <;> (try subst hy) <;> simp at he ⊢) (by simp) 1 30 _ _ rfl (fun a hh => eval_tmp (hh 9 _ rfl (F11.at 9 rfl))) (fun a W hK hh hd => ?_) rfl szKy rfl
        rw [show a.eval _ = _ from (eval_tmp (hd.valz (j := 1) (s := 58) (by kernel_rfl) (by simp) rfl rfl))]
        exact ⟨rfl, rfl, (one_own hO18.owns)⟩
      · refine .val 12 rfl (by simp) (by simp) (by simp) fun a W hK hh hd => ⟨wanted_yes rfl, ?_⟩
        obtain ⟨vz_8_5, ey5, ⟨hz_8_5, hzo_8_5⟩⟩ := hd.getz (j := 5) (s := 62) (by kernel_rfl) (by simp) rfl rfl
        exact givz_run (run_as rfl (eval_tmp ey5)) ⟨hz_8_5, hzo_8_5⟩
    obtain ⟨vz12_, e12_, ⟨hz12_, hzo12_⟩⟩ := hI.val 8 _ 12 rfl rfl rfl (by simp) (fun _ h => by cases h)
    have fg4z := (hI.old _ (List.mem_of_getElem? (i := 0) rfl)).2 (by kernel_rfl)
    obtain ⟨_, Bg4, rfl⟩ := fg4z
    have Bg4 : Blk w3 g4 27 (#[vz10_]) := Bg4
    have fg5z := (hI.old _ (List.mem_of_getElem? (i := 1) rfl)).2 (by kernel_rfl)
    obtain ⟨_, Bg5, rfl⟩ := fg5z
    have Bg5 : Blk w3 g5 30 (#[vz11_]) := Bg5
    have M4 := hMs.keepW hI.keep hfM hfG
    have hO19 := (hO13.sub (.cons_cons _ (.cons_cons _ (.cons _ (.cons _ (.cons_cons _ (.cons_cons _ .slnil))))))).keepW hI.keep hfovr
    have hO20 := (hO14.sub (.cons_cons _ (.cons_cons _ (.cons _ (.cons _ (.cons_cons _ (.cons_cons _ .slnil))))))).keepW hI.keep hfovk
    have hO21 := (hO16.sub (.cons_cons _ (.cons_cons _ (.cons _ (.cons _ (.cons_cons _ (.cons_cons _ .slnil))))))).keepW hI.keep hfovz7_
    have hO22 := (hO17.sub (.cons_cons _ (.cons_cons _ (.cons _ (.cons _ (.cons_cons _ (.cons_cons _ .slnil))))))).keepW hI.keep hfovz10_
    have hO23 := (hO18.sub (.cons_cons _ (.cons_cons _ (.cons _ (.cons _ (.cons_cons _ (.cons_cons _ .slnil))))))).keepW hI.keep hfovz11_
    have hO24 := OwnR.ofRO hMs (hO15.sub (.cons_cons _ (.cons_cons _ (.cons _ (.cons _ (.cons_cons _ (.cons_cons _ .slnil))))))) hz12_ hzo12_
    have hfrg4 : (vz12_ : Value).ownBlock ≠ some g4 := ro_far hzo12_ (hO15.far _ (List.mem_of_getElem? (i := 3) rfl)) (M3.lt (List.mem_of_getElem? (i := 3) rfl))
    have hfrg5 : (vz12_ : Value).ownBlock ≠ some g5 := ro_far hzo12_ (hO15.far _ (List.mem_of_getElem? (i := 2) rfl)) (M3.lt (List.mem_of_getElem? (i := 2) rfl))
    have hO25 := hO19.addFar (S := isB 27 (#[vz10_])) (hfovr g4 (by simp))
    have hO26 := hO20.addFar (S := isB 27 (#[vz10_])) (hfovk g4 (by simp))
    have hO27 := hO21.addFar (S := isB 27 (#[vz10_])) (hfovz7_ g4 (by simp))
    have hO28 := hO22.addFar (S := isB 27 (#[vz10_])) (hfovz10_ g4 (by simp))
    have hO29 := hO23.addFar (S := isB 27 (#[vz10_])) (hfovz11_ g4 (by simp))
    have hO30 := hO24.addFar (S := isB 27 (#[vz10_])) hfrg4
    have M5 := M4.put1 (cs := #[vz10_]) (M3.ge 3 rfl) Bg4 (fun y hy hq => hfM y hy (by rw [hq]; simp))
    have hO31 := hO25.addFar (S := isB 30 (#[vz11_])) (hfovr g5 (by simp))
    have hO32 := hO26.addFar (S := isB 30 (#[vz11_])) (hfovk g5 (by simp))
    have hO33 := hO27.addFar (S := isB 30 (#[vz11_])) (hfovz7_ g5 (by simp))
    have hO34 := hO28.addFar (S := isB 30 (#[vz11_])) (hfovz10_ g5 (by simp))
    have hO35 := hO29.addFar (S := isB 30 (#[vz11_])) (hfovz11_ g5 (by simp))
    have hO36 := hO30.addFar (S := isB 30 (#[vz11_])) hfrg5
    have M6 := M5.put1 (cs := #[vz11_]) (M3.ge 2 rfl) Bg5 (far_cons (setAt_ne M3.nd (i := 3) (j := 2) rfl rfl (by decide)) (fun y hy hq => hfM y hy (by rw [hq]; simp)))
    have F12 : Fr a12 67 [(0, v), (1, (.string ⟨no.toArray⟩)), (4, (.pointer (some ⟨g0, 0, none⟩))), (5, (.pointer (some ⟨g1, 0, none⟩))), (8, (.pointer (some ⟨g4, 0, none⟩))), (9, (.pointer (some ⟨g5, 0, none⟩))), (12, vz12_), (13, (.bool true)), (14, (.int .i64 (i : Int))), (15, (.pointer (some ⟨g8, 0, none⟩))), (16, (.pointer (some ⟨g9, 0, none⟩))), (17, vz7_), (18, (.int .i64 0)), (33, (.int .i64 (i : Int))), (34, v), (35, (.int .i64 (l.length : Int))), (36, (.bool true)), (37, (.bool true)), (38, (.bool true)), (39, (.bool true)), (55, (.int .i64 0)), (56, (.bool true))] := fr_of_holds hI.tsz (hI.defers.trans F11.defers) ⟨hI.had 0 _ rfl (F11.at 0 rfl), hI.had 1 _ rfl (F11.at 1 rfl), hI.had 4 _ rfl (F11.at 4 rfl), hI.had 5 _ rfl (F11.at 5 rfl), hI.had 8 _ rfl (F11.at 8 rfl), hI.had 9 _ rfl (F11.at 9 rfl), e12_, hI.had 13 _ rfl (F11.at 13 rfl), hI.had 14 _ rfl (F11.at 14 rfl), hI.had 15 _ rfl (F11.at 15 rfl), hI.had 16 _ rfl (F11.at 16 rfl), hI.had 17 _ rfl (F11.at 17 rfl), hI.had 18 _ rfl (F11.at 18 rfl), hI.had 33 _ rfl (F11.at 33 rfl), hI.had 34 _ rfl (F11.at 34 rfl), hI.had 35 _ rfl (F11.at 35 rfl), hI.had 36 _ rfl (F11.at 36 rfl), hI.had 37 _ rfl (F11.at 37 rfl), hI.had 38 _ rfl (F11.at 38 rfl), hI.had 39 _ rfl (F11.at 39 rfl), hI.had 55 _ rfl (F11.at 55 rfl), hI.had 56 _ rfl (F11.at 56 rfl), trivial⟩
    clear F11 M3 M4 M5
    have hel9 := hel7.keep hI.keep hG9
    refine bkEnd ?_
    refine nx ?_
    refine wp_region_lit ?_
    refine mvS F12 rfl rfl rfl rfl rfl fun a13 F13 => ?_
    refine sr F13 (run_add (r := ((i + 1 : Nat) : Int)) rfl (F13.ev 40 rfl) rfl (by rw [IntKind.wrap_i64]; omega)) rfl rfl rfl fun a14 F14 => ?_
    refine asS F14 rfl rfl rfl rfl rfl fun a15 F15 => ?_
    refine sn ?_
    clear F12 F13 F14
    have hMe := M6.sub (.cons_cons _ (.cons_cons _ (.cons _ (.cons _ (.cons_cons _ (.cons_cons _ .slnil))))))
    have hMp : Mem w [(g5, isB 30 #[vz11_]), (g4, isB 27 #[vz10_]), (g1, isB 30 #[.slice none 0 0]), (g0, isB 27 #[.slice none 0 0])] w3 := hMe.perm (List.Perm.refl _)
    have helN : elemsO w w3 l no (i + 1) (US ++ [vz7_]) := hel9.snoc hUl hx (by have h9 := hO33.owns; rw [shS_len] at h9; exact h9)
    exact ⟨_, by omega, i + 1, vz10_, vz11_, vz12_, US ++ [vz7_], by omega, by omega, rfl, F15.sub ⟨rfl, rfl, rfl, rfl, rfl, rfl, rfl, rfl, rfl, trivial⟩, hMp, (hO34.sub (.cons_cons _ (.cons_cons _ (.cons _ (.cons _ (.cons_cons _ (.cons_cons _ .slnil))))))).perm (List.Perm.refl _), (hO35.sub (.cons_cons _ (.cons_cons _ (.cons _ (.cons _ (.cons_cons _ (.cons_cons _ .slnil))))))).perm (List.Perm.refl _), by rw [List.length_append]; exact (hO36.sub (.cons_cons _ (.cons_cons _ (.cons _ (.cons _ (.cons_cons _ (.cons_cons _ .slnil))))))).perm (List.Perm.refl _), by rw [List.length_append, hUl]; rfl, helN⟩
  · obtain rfl : i = l.length := by omega
    rw [List.take_length] at hOr hOk
    refine wp_seq ?_
    refine wsl ?_
    refine mvS F0 rfl rfl rfl rfl rfl fun a1 F1 => ?_
    refine mvS F1 rfl rfl rfl rfl rfl fun a2 F2 => ?_
    refine sr F2 (run_lenS rfl (F2.ev 34 rfl) (hV.below M0.below) rfl Tryd.underlying28) rfl rfl rfl fun a3 F3 => ?_
    refine sr (v := (.bool false)) F3 (run_lss rfl (F3.ev 33 rfl) (F3.ev 35 rfl) (decide_eq_false (by omega))) rfl rfl rfl fun a4 F4 => ?_
    refine mvS F4 rfl rfl rfl rfl rfl fun a5 F5 => ?_
    refine sqSkip F5 (unwantedG F5 rfl rfl rfl rfl rfl) rfl (by decide) fun a6 F6 => ?_
    refine sr (v := (.bool false)) F6 (run_pick rfl (F6.ev 37 rfl) (F6.ev 38 rfl) rfl) rfl rfl rfl fun a7 F7 => ?_
    refine sn ?_
    clear F0 F1 F2 F3 F4 F5 F6
    refine wp_cond_false (F7.ev 39 rfl) ?_
    refine wp_exit ?_
    refine nxExit ?_
    refine nxExit ?_
    refine bkHere ?_
    refine nx ?_
    refine wp_seq ?_
    have hG10 : ∀ g ∈ [g0, g1], ∃ cur t, w1.heap[g]? = some (.cells cur t (0, 0)) ∧ (!(Nat.beq t 54)) = true := by
      intro g hg
      simp only [List.mem_cons, List.not_mem_nil, or_false] at hg
      rcases hg with rfl | rfl
      · exact ⟨_, _, M0.at 3 rfl, by kernel_rfl⟩
      · exact ⟨_, _, M0.at 2 rfl, by kernel_rfl⟩
    have hMs := M0.sub (.cons_cons _ (.cons_cons _ (.cons _ (.cons _ .slnil))))
    have hfM : ∀ xq ∈ [(g5, isB 30 (#[vk])), (g4, isB 27 (#[vr]))], xq.1 ∉ [g0, g1] := by
      intro xq hx hg
      simp only [List.mem_cons, List.not_mem_nil, or_false] at hx hg
      rcases hx with rfl | rfl <;> rcases hg with hg | hg <;> first | exact absurd hg (setAt_ne M0.nd (i := 0) (j := 3) rfl rfl (by decide)) | exact absurd hg (setAt_ne M0.nd (i := 0) (j := 2) rfl rfl (by decide)) | exact absurd hg (setAt_ne M0.nd (i := 1) (j := 3) rfl rfl (by decide)) | exact absurd hg (setAt_ne M0.nd (i := 1) (j := 2) rfl rfl (by decide))
    have hfG : ∀ gq ∈ [g0, g1], w.heap.size ≤ gq := by
      intro gq hg
      simp only [List.mem_cons, List.not_mem_nil, or_false] at hg
      rcases hg with rfl | rfl
      · exact M0.ge 3 rfl
      · exact M0.ge 2 rfl
    have hfovr : ∀ gq ∈ [g0, g1], (vr : Value).ownBlock ≠ some gq := by
      intro gq hg
      simp only [List.mem_cons, List.not_mem_nil, or_false] at hg
      rcases hg with rfl | rfl
      · exact hOr.far _ (List.mem_of_getElem? (i := 3) rfl)
      · exact hOr.far _ (List.mem_of_getElem? (i := 2) rfl)
    have hfovk : ∀ gq ∈ [g0, g1], (vk : Value).ownBlock ≠ some gq := by
      intro gq hg
      simp only [List.mem_cons, List.not_mem_nil, or_false] at hg
      rcases hg with rfl | rfl
      · exact hOk.far _ (List.mem_of_getElem? (i := 3) rfl)
      · exact hOk.far _ (List.mem_of_getElem? (i := 2) rfl)
    have hfova : ∀ gq ∈ [g0, g1], (va : Value).ownBlock ≠ some gq := by
      intro gq hg
      simp only [List.mem_cons, List.not_mem_nil, or_false] at hg
      rcases hg with rfl | rfl
      · exact hOa.far _ (List.mem_of_getElem? (i := 3) rfl)
      · exact hOa.far _ (List.mem_of_getElem? (i := 2) rfl)
    refine wp_region_p 67 [.val (.agg #[vr]), .val (.agg #[vk]), .val va, .val (.bool true), .any, .any, .val va, .val (.bool true)] [] [] [⟨4, g0, 27, #[.slice none 0 0], .val (.agg #[vr])⟩, ⟨5, g1, 30, #[.slice none 0 0], .val (.agg #[vk])⟩] [] (by kernel_rfl) (by kernel_rfl) F7.size ?_ ?_ ?_ ?_ (by kernel_rfl) ?_ fun a8 w2 gs hI => ?_
    · intro d hd
      cases hd
    · intro b hb
      simp only [List.mem_cons, List.not_mem_nil, or_false] at hb
      rcases hb with rfl | rfl
      · exact ⟨Nat.le_of_ble_eq_true (by kernel_rfl), M0.at 3 rfl⟩
      · exact ⟨Nat.le_of_ble_eq_true (by kernel_rfl), M0.at 2 rfl⟩
    · have hne01 : g0 ≠ g1 := setAt_ne M0.nd (i := 3) (j := 2) rfl rfl (by decide)
      intro x y b c hx hy hne
      rcases x with _ | _ | x <;> rcases y with _ | _ | y <;> simp at hx hy hne <;> subst hx <;> subst hy <;> first | exact hne01 | exact hne01.symm
    · intro r hr
      cases hr
    · refine ⟨?_, ?_, ?_, ?_, ?_, ?_, ?_, ?_, trivial⟩
      · refine .val 63 rfl (by simp) (by simp) (by simp) fun a W hK hh hd => ⟨wanted_yes rfl, ?_⟩
        exact givz_run (run_ldB rfl (eval_tmp (hh 8 _ rfl (F7.at 8 rfl))) ((hMs.keepW hK hfM hfG).at 1 rfl) Tryd.underlying27 rfl szRg rfl) rfl
      · refine .val 64 rfl (by simp) (by simp) (by simp) fun a W hK hh hd => ⟨wanted_yes rfl, ?_⟩
        exact givz_run (run_ldB rfl (eval_tmp (hh 9 _ rfl (F7.at 9 rfl))) ((hMs.keepW hK hfM hfG).at 0 rfl) Tryd.underlying30 rfl szKy rfl) rfl
      · refine .val 65 rfl (by simp) (by simp) (by simp) fun a W hK hh hd => ⟨wanted_yes rfl, ?_⟩
        exact givz_run (run_mv rfl (eval_tmp (hh 12 _ rfl (F7.at 12 rfl)))) rfl
      · refine .val 66 rfl (by simp) (by simp) (by simp) fun a W hK hh hd => ⟨wanted_yes rfl, ?_⟩
        exact givz_run (run_mv rfl (eval_tmp (hh 13 _ rfl (F7.at 13 rfl)))) rfl
      · refine .putO 0 _ rfl rfl rfl (by simp) (fun y e hy he => by rcases y with _ | _ | y <;> simp at hy <;> (try subst hy) <;> simp at he ⊢) (by simp) 1 27 _ _ rfl (fun a hh => eval_tmp (hh 4 _ rfl (F7.at 4 rfl))) (fun a W hK hh hd => ?_) rfl szRg rfl
        rw [show a.eval _ = _ from (eval_tmp (hd.valz (j := 0) (s := 63) (by kernel_rfl) (by simp) rfl rfl))]
        exact ⟨rfl, rfl, (one_own hOr.owns)⟩
      · refine .putO 1 _ rfl rfl rfl (by simp) (fun y e hy he => by rcases y with _ | _ | y <;> simp at hy <;> (try subst hy) <;> simp at he ⊢) (by simp) 1 30 _ _ rfl (fun a hh => eval_tmp (hh 5 _ rfl (F7.at 5 rfl))) (fun a W hK hh hd => ?_) rfl szKy rfl
        rw [show a.eval _ = _ from (eval_tmp (hd.valz (j := 1) (s := 64) (by kernel_rfl) (by simp) rfl rfl))]
        exact ⟨rfl, rfl, (one_own hOk.owns)⟩
      · refine .val 6 rfl (by simp) (by simp) (by simp) fun a W hK hh hd => ⟨wanted_yes rfl, ?_⟩
        exact givz_run (run_as rfl (eval_tmp (hd.valz (j := 2) (s := 65) (by kernel_rfl) (by simp) rfl rfl))) rfl
      · refine .val 7 rfl (by simp) (by simp) (by simp) fun a W hK hh hd => ⟨wanted_yes rfl, ?_⟩
        exact givz_run (run_as rfl (eval_tmp (hd.valz (j := 3) (s := 66) (by kernel_rfl) (by simp) rfl rfl))) rfl
    have e6_ : a8.tmps[6]? = some va := by
      obtain ⟨vq, hq1, hq2⟩ := hI.val 6 _ 6 rfl rfl rfl (by simp) (fun _ h => by cases h)
      rw [hq1]
      exact congrArg some hq2
    have e7_ : a8.tmps[7]? = some (.bool true) := by
      obtain ⟨vq, hq1, hq2⟩ := hI.val 7 _ 7 rfl rfl rfl (by simp) (fun _ h => by cases h)
      rw [hq1]
      exact congrArg some hq2
    have fg0z := (hI.old _ (List.mem_of_getElem? (i := 0) rfl)).2 (by kernel_rfl)
    obtain ⟨_, Bg0, rfl⟩ := fg0z
    have Bg0 : Blk w2 g0 27 (#[vr]) := Bg0
    have fg1z := (hI.old _ (List.mem_of_getElem? (i := 1) rfl)).2 (by kernel_rfl)
    obtain ⟨_, Bg1, rfl⟩ := fg1z
    have Bg1 : Blk w2 g1 30 (#[vk]) := Bg1
    have M1 := hMs.keepW hI.keep hfM hfG
    have hO1 := (hOr.sub (.cons_cons _ (.cons_cons _ (.cons _ (.cons _ .slnil))))).keepW hI.keep hfovr
    have hO2 := (hOk.sub (.cons_cons _ (.cons_cons _ (.cons _ (.cons _ .slnil))))).keepW hI.keep hfovk
    have hO3 := (hOa.sub (.cons_cons _ (.cons_cons _ (.cons _ (.cons _ .slnil))))).keepW hI.keep hfova
    have hO4 := hO1.addFar (S := isB 27 (#[vr])) (hfovr g0 (by simp))
    have hO5 := hO2.addFar (S := isB 27 (#[vr])) (hfovk g0 (by simp))
    have hO6 := hO3.addFar (S := isB 27 (#[vr])) (hfova g0 (by simp))
    have M2 := M1.put1 (cs := #[vr]) (M0.ge 3 rfl) Bg0 (fun y hy hq => hfM y hy (by rw [hq]; simp))
    have hO7 := hO4.addFar (S := isB 30 (#[vk])) (hfovr g1 (by simp))
    have hO8 := hO5.addFar (S := isB 30 (#[vk])) (hfovk g1 (by simp))
    have hO9 := hO6.addFar (S := isB 30 (#[vk])) (hfova g1 (by simp))
    have M3 := M2.put1 (cs := #[vk]) (M0.ge 2 rfl) Bg1 (far_cons (setAt_ne M0.nd (i := 3) (j := 2) rfl rfl (by decide)) (fun y hy hq => hfM y hy (by rw [hq]; simp)))
    have F8 : Fr a8 67 [(0, v), (1, (.string ⟨no.toArray⟩)), (4, (.pointer (some ⟨g0, 0, none⟩))), (5, (.pointer (some ⟨g1, 0, none⟩))), (6, va), (7, (.bool true)), (8, (.pointer (some ⟨g4, 0, none⟩))), (9, (.pointer (some ⟨g5, 0, none⟩))), (12, va), (13, (.bool true)), (14, (.int .i64 (l.length : Int))), (33, (.int .i64 (l.length : Int))), (34, v), (35, (.int .i64 (l.length : Int))), (36, (.bool false)), (37, (.bool false)), (39, (.bool false))] := fr_of_holds hI.tsz (hI.defers.trans F7.defers) ⟨hI.had 0 _ rfl (F7.at 0 rfl), hI.had 1 _ rfl (F7.at 1 rfl), hI.had 4 _ rfl (F7.at 4 rfl), hI.had 5 _ rfl (F7.at 5 rfl), e6_, e7_, hI.had 8 _ rfl (F7.at 8 rfl), hI.had 9 _ rfl (F7.at 9 rfl), hI.had 12 _ rfl (F7.at 12 rfl), hI.had 13 _ rfl (F7.at 13 rfl), hI.had 14 _ rfl (F7.at 14 rfl), hI.had 33 _ rfl (F7.at 33 rfl), hI.had 34 _ rfl (F7.at 34 rfl), hI.had 35 _ rfl (F7.at 35 rfl), hI.had 36 _ rfl (F7.at 36 rfl), hI.had 37 _ rfl (F7.at 37 rfl), hI.had 39 _ rfl (F7.at 39 rfl), trivial⟩
    clear F7 M0 M1 M2
    have hel10 := hel.keep hI.keep hG10
    refine nx ?_
    refine wp_ret ?_
    exact retV F8 (results_LLTT F8 rfl rfl rfl (loadVar_all (M3.at 1 rfl) Tryd.underlying27 rfl szRg rfl) (loadVar_all (M3.at 0 rfl) Tryd.underlying30 rfl szKy rfl) rfl rfl) ⟨_, rfl, ⟨_, _, _, _, rfl, ⟨_, rfl, hO7.owns⟩, ⟨_, rfl, hO8.owns⟩, ⟨US, hO9.owns, by rw [hUl, List.length_map], fun q n xs hq => by
      rw [List.getElem?_map] at hq
      cases hk : l[q]? with
      | none => rw [hk] at hq; cases hq
      | some k =>
        rw [hk] at hq
        simp only [Option.map_some, Option.some.injEq, Prod.mk.injEq] at hq
        obtain ⟨rfl, rfl⟩ := hq
        exact hel10 q k (List.getElem?_eq_some_iff.1 hk).1 hk⟩, rfl⟩, M3.below⟩
end Go.Proofs.YtconhhhggckcbaaDoor
