/- The walk of the law PackTakes. Printed by gen_pack9.py. -/
import Derived.Test.YtnkklogkjnfjgaaPackLaw3
namespace Go.Proofs.Ytnkklogkjnfjgaa
open Go.RowKit

theorem names_apart : ∀ (l : List Bx) (seen : List (List UInt8)), namesF seen l = 0 → (∀ x ∈ l, x.1 ∉ seen) ∧ (l.map (·.1)).Nodup
  | [], seen, _ => ⟨by simp, .nil⟩
  | b :: l, seen, h => by
    unfold namesF at h
    by_cases hm : mayS seen b.1 = 0
    · rw [if_pos hm] at h
      obtain ⟨h1, h2⟩ := names_apart l (seen ++ [b.1]) h
      have hns : b.1 ∉ seen := by
        unfold mayS at hm
        intro hc
        split at hm
        · cases hm
        · rw [List.contains_iff_mem.2 hc] at hm; cases hm
      refine ⟨fun x hx => ?_, ?_⟩
      · rcases List.mem_cons.1 hx with rfl | hx
        · exact hns
        · exact fun hc => h1 x hx (by simp [hc])
      · rw [List.map_cons, List.nodup_cons]
        refine ⟨fun hc => ?_, h2⟩
        obtain ⟨y, hy, he⟩ := List.mem_map.1 hc
        exact h1 y hy (by simp [he])
    · rw [if_neg hm] at h; exact absurd h hm
theorem find_own {l : List Bx} (hnd : (l.map (·.1)).Nodup) : ∀ {i : Nat} {x : Bx}, l[i]? = some x → (l.find? fun y => y.1 == x.1) = some x := by
  induction l with
  | nil => intro i x h; simp at h
  | cons b l ih =>
    intro i x h
    rw [List.map_cons, List.nodup_cons] at hnd
    cases i with
    | zero => simp only [List.getElem?_cons_zero, Option.some.injEq] at h; subst h; rw [List.find?_cons]; simp
    | succ i =>
      rw [List.getElem?_cons_succ] at h
      have hne : b.1 ≠ x.1 := fun e => hnd.1 (by rw [e]; exact List.mem_map.2 ⟨x, List.mem_of_getElem? h, rfl⟩)
      rw [List.find?_cons, beq_eq_false_iff_ne.2 hne]
      exact ih hnd.2 h
theorem find_has (l : List Bx) (nm : List UInt8) : (l.find? fun y => y.1 == nm).isSome = (l.map (·.1)).contains nm := by
  rw [Bool.eq_iff_iff, List.find?_isSome, List.contains_iff_mem, List.mem_map]
  constructor
  · rintro ⟨x, hx, he⟩; exact ⟨x, hx, by simpa using he⟩
  · rintro ⟨x, hx, he⟩; exact ⟨x, hx, by simpa using he⟩
set_option maxRecDepth 100000 in
set_option maxHeartbeats 1000000 in
theorem lawPTakes_any (l : List Bx) (v : Value) (m : List UInt8) (w : World) (hV : Sl w v 2 l.length (l.flatMap boxC)) (hn : l.length ≤ maxLen) (_hm : m.length ≤ maxLen) : Calls Try.prog 5 #[v, .string ⟨m.toArray⟩] w fun e w' => e = .returned (.bool true) ∧ Below w.heap.size w w' := by
  rcases great_01 l with hg | hg
  · skip
    refine walk_enter Try.func5 rfl rfl rfl fun a0 hF0 => ?_
    have hM0 := Mem.new w
    refine wp_seq ?_
    refine wp_region_lit ?_
    refine sq (v := (.bool false)) hF0 (wantedS rfl) (run_as rfl rfl) rfl (by decide) fun a1 hF1 => ?_
    refine sqEnd ?_
    clear hF0
    refine nx ?_
    refine wp_seq ?_
    refine wp_seq ?_
    refine wp_region_lit ?_
    refine sq (v := v) hF1 (wantedS rfl) (run_mv rfl (hF1.ev 0 rfl)) rfl (by decide) fun a2 hF2 => ?_
    refine sqC (v := (.int .i64 (greatS l))) hF2 hM0 (wantedS rfl) (run_call rfl Try.func6 (by kernel_rfl) rfl (mapE1 (hF2.ev 15 rfl))) rfl (by decide) (rgreat_any l v w (hV.below hM0.below) hn) fun a3 w1 hb1 hF3 hM1 => ?_
    refine sq (v := (.bool true)) hF3 (wantedS rfl) (run_gtr rfl (hF3.ev 16 rfl) rfl (decide_eq_true (by omega))) rfl (by decide) fun a4 hF4 => ?_
    refine sq (v := (.bool true)) hF4 (wantedS rfl) (run_mv rfl (hF4.ev 17 rfl)) rfl (by decide) fun a5 hF5 => ?_
    refine sqSkip hF5 (unwantedG hF5 rfl rfl rfl rfl rfl) rfl (by decide) fun a6 hF6 => ?_
    refine sqSkip hF6 (unwantedG hF6 rfl rfl rfl rfl rfl) rfl (by decide) fun a7 hF7 => ?_
    refine sqSkip hF7 (unwantedG hF7 rfl rfl rfl rfl rfl) rfl (by decide) fun a8 hF8 => ?_
    refine sq (v := (.bool true)) hF8 (wantedS rfl) (run_pick rfl (hF8.ev 18 rfl) rfl (hF8.ev 21 rfl)) rfl (by decide) fun a9 hF9 => ?_
    refine sqEnd ?_
    clear hF1 hF2 hF3 hF4 hF5 hF6 hF7 hF8 hM0
    refine nx ?_
    refine wp_cond_true (hF9.ev 22 rfl) ?_
    refine wp_seq ?_
    refine wp_region_lit ?_
    refine sqC (v := (.bool true)) hF9 hM1 (wantedS rfl) (run_call rfl Try.func7 (by kernel_rfl) rfl (mapE0 )) rfl (by decide) (awake40_any w1) fun a10 w2 hb2 hF10 hM2 => ?_
    refine sq (v := (.bool true)) hF10 (wantedS rfl) (run_as rfl (hF10.ev 23 rfl)) rfl (by decide) fun a11 hF11 => ?_
    refine sqEnd ?_
    clear hF9 hF10 hM1
    refine nx ?_
    refine wp_ret ?_
    refine nxRet ?_
    exact ret1 hF11 rfl rfl ⟨rfl, hM2.below⟩
  obtain ⟨h12, hfl⟩ := great_ok hg
  by_cases h2 : 200 < m.length
  · skip
    refine walk_enter Try.func5 rfl rfl rfl fun a0 hF0 => ?_
    have hM0 := Mem.new w
    refine wp_seq ?_
    refine wp_region_lit ?_
    refine sq (v := (.bool false)) hF0 (wantedS rfl) (run_as rfl rfl) rfl (by decide) fun a1 hF1 => ?_
    refine sqEnd ?_
    clear hF0
    refine nx ?_
    refine wp_seq ?_
    refine wp_seq ?_
    refine wp_region_lit ?_
    refine sq (v := v) hF1 (wantedS rfl) (run_mv rfl (hF1.ev 0 rfl)) rfl (by decide) fun a2 hF2 => ?_
    refine sqC (v := (.int .i64 (greatS l))) hF2 hM0 (wantedS rfl) (run_call rfl Try.func6 (by kernel_rfl) rfl (mapE1 (hF2.ev 15 rfl))) rfl (by decide) (rgreat_any l v w (hV.below hM0.below) hn) fun a3 w1 hb1 hF3 hM1 => ?_
    refine sq (v := (.bool false)) hF3 (wantedS rfl) (run_gtr rfl (hF3.ev 16 rfl) rfl (decide_eq_false (by omega))) rfl (by decide) fun a4 hF4 => ?_
    refine sq (v := (.bool false)) hF4 (wantedS rfl) (run_mv rfl (hF4.ev 17 rfl)) rfl (by decide) fun a5 hF5 => ?_
    refine sq (v := (.string ⟨m.toArray⟩)) hF5 (wantedG hF5 rfl rfl rfl rfl rfl) (run_mv rfl (hF5.ev 1 rfl)) rfl (by decide) fun a6 hF6 => ?_
    refine sq (v := (.int .i64 (m.length : Int))) hF6 (wantedG hF6 rfl rfl rfl rfl rfl) (run_len rfl (hF6.ev 19 rfl) rfl Try.underlying9) rfl (by decide) fun a7 hF7 => ?_
    refine sq (v := (.bool true)) hF7 (wantedG hF7 rfl rfl rfl rfl rfl) (run_gtr rfl (hF7.ev 20 rfl) rfl (decide_eq_true (by omega))) rfl (by decide) fun a8 hF8 => ?_
    refine sq (v := (.bool true)) hF8 (wantedS rfl) (run_pick rfl (hF8.ev 18 rfl) rfl (hF8.ev 21 rfl)) rfl (by decide) fun a9 hF9 => ?_
    refine sqEnd ?_
    clear hF1 hF2 hF3 hF4 hF5 hF6 hF7 hF8 hM0
    refine nx ?_
    refine wp_cond_true (hF9.ev 22 rfl) ?_
    refine wp_seq ?_
    refine wp_region_lit ?_
    refine sqC (v := (.bool true)) hF9 hM1 (wantedS rfl) (run_call rfl Try.func7 (by kernel_rfl) rfl (mapE0 )) rfl (by decide) (awake40_any w1) fun a10 w2 hb2 hF10 hM2 => ?_
    refine sq (v := (.bool true)) hF10 (wantedS rfl) (run_as rfl (hF10.ev 23 rfl)) rfl (by decide) fun a11 hF11 => ?_
    refine sqEnd ?_
    clear hF9 hF10 hM1
    refine nx ?_
    refine wp_ret ?_
    refine nxRet ?_
    exact ret1 hF11 rfl rfl ⟨rfl, hM2.below⟩
  by_cases he : (makeS l).2 ≠ 0
  · skip
    refine walk_enter Try.func5 rfl rfl rfl fun a0 hF0 => ?_
    have hM0 := Mem.new w
    refine wp_seq ?_
    refine wp_region_lit ?_
    refine sq (v := (.bool false)) hF0 (wantedS rfl) (run_as rfl rfl) rfl (by decide) fun a1 hF1 => ?_
    refine sqEnd ?_
    clear hF0
    refine nx ?_
    refine wp_seq ?_
    refine wp_seq ?_
    refine wp_region_lit ?_
    refine sq (v := v) hF1 (wantedS rfl) (run_mv rfl (hF1.ev 0 rfl)) rfl (by decide) fun a2 hF2 => ?_
    refine sqC (v := (.int .i64 (greatS l))) hF2 hM0 (wantedS rfl) (run_call rfl Try.func6 (by kernel_rfl) rfl (mapE1 (hF2.ev 15 rfl))) rfl (by decide) (rgreat_any l v w (hV.below hM0.below) hn) fun a3 w1 hb1 hF3 hM1 => ?_
    refine sq (v := (.bool false)) hF3 (wantedS rfl) (run_gtr rfl (hF3.ev 16 rfl) rfl (decide_eq_false (by omega))) rfl (by decide) fun a4 hF4 => ?_
    refine sq (v := (.bool false)) hF4 (wantedS rfl) (run_mv rfl (hF4.ev 17 rfl)) rfl (by decide) fun a5 hF5 => ?_
    refine sq (v := (.string ⟨m.toArray⟩)) hF5 (wantedG hF5 rfl rfl rfl rfl rfl) (run_mv rfl (hF5.ev 1 rfl)) rfl (by decide) fun a6 hF6 => ?_
    refine sq (v := (.int .i64 (m.length : Int))) hF6 (wantedG hF6 rfl rfl rfl rfl rfl) (run_len rfl (hF6.ev 19 rfl) rfl Try.underlying9) rfl (by decide) fun a7 hF7 => ?_
    refine sq (v := (.bool false)) hF7 (wantedG hF7 rfl rfl rfl rfl rfl) (run_gtr rfl (hF7.ev 20 rfl) rfl (decide_eq_false (by omega))) rfl (by decide) fun a8 hF8 => ?_
    refine sq (v := (.bool false)) hF8 (wantedS rfl) (run_pick rfl (hF8.ev 18 rfl) rfl (hF8.ev 21 rfl)) rfl (by decide) fun a9 hF9 => ?_
    refine sqEnd ?_
    clear hF1 hF2 hF3 hF4 hF5 hF6 hF7 hF8 hM0
    refine nx ?_
    refine wp_cond_false (hF9.ev 22 rfl) ?_
    refine wp_skip ?_
    refine nx ?_
    refine wp_seq ?_
    refine wp_region_lit ?_
    refine sq (v := v) hF9 (wantedS rfl) (run_mv rfl (hF9.ev 0 rfl)) rfl (by decide) fun a10 hF10 => ?_
    refine sqC (v := (.tuple #[(.string ⟨List.toArray []⟩), (.int .i64 ((makeS l).2))])) hF10 hM1 (wantedS rfl) (run_call rfl Try.func8 (by kernel_rfl) rfl (mapE1 (hF10.ev 25 rfl))) rfl (by decide) (by have h := pmake_any l v w1 (hV.below hM1.below) (by omega) (by omega); rw [makeS_err he] at h; exact h) fun a11 w2 hb2 hF11 hM2 => ?_
    refine sq (v := (.tuple #[(.string ⟨List.toArray []⟩), (.int .i64 ((makeS l).2))])) hF11 (wantedS rfl) (run_mv rfl (hF11.ev 26 rfl)) rfl (by decide) fun a12 hF12 => ?_
    refine sq (v := (.string ⟨List.toArray []⟩)) hF12 (wantedS rfl) (run_ext rfl (hF12.ev 24 rfl) rfl) rfl (by decide) fun a13 hF13 => ?_
    refine sq (v := (.int .i64 ((makeS l).2))) hF13 (wantedS rfl) (run_ext rfl (hF13.ev 24 rfl) rfl) rfl (by decide) fun a14 hF14 => ?_
    refine sq (v := (.string ⟨List.toArray []⟩)) hF14 (wantedS rfl) (run_as rfl (hF14.ev 27 rfl)) rfl (by decide) fun a15 hF15 => ?_
    refine sq (v := (.int .i64 ((makeS l).2))) hF15 (wantedS rfl) (run_as rfl (hF15.ev 28 rfl)) rfl (by decide) fun a16 hF16 => ?_
    refine sqEnd ?_
    clear hF9 hF10 hF11 hF12 hF13 hF14 hF15 hM1
    refine nx ?_
    refine wp_seq ?_
    refine wp_seq ?_
    refine wp_region_lit ?_
    refine sq (v := (.int .i64 ((makeS l).2))) hF16 (wantedS rfl) (run_mv rfl (hF16.ev 6 rfl)) rfl (by decide) fun a17 hF17 => ?_
    refine sq (v := (.bool true)) hF17 (wantedS rfl) (run_nei rfl (hF17.ev 29 rfl) rfl (bne_iff_ne.2 (by omega))) rfl (by decide) fun a18 hF18 => ?_
    refine sqEnd ?_
    clear hF16 hF17
    refine nx ?_
    refine wp_cond_true (hF18.ev 30 rfl) ?_
    refine wp_seq ?_
    refine wp_region_lit ?_
    refine sq (v := (.string ⟨List.toArray []⟩)) hF18 (wantedS rfl) (run_mv rfl (hF18.ev 5 rfl)) rfl (by decide) fun a19 hF19 => ?_
    refine sq (v := (.bool true)) hF19 (wantedS rfl) (run_eqs rfl (hF19.ev 31 rfl) rfl rfl) rfl (by decide) fun a20 hF20 => ?_
    refine sq (v := (.bool true)) hF20 (wantedS rfl) (run_mv rfl (hF20.ev 32 rfl)) rfl (by decide) fun a21 hF21 => ?_
    refine sqC (v := (.bool true)) hF21 hM2 (wantedG hF21 rfl rfl rfl rfl rfl) (run_call rfl Try.func7 (by kernel_rfl) rfl (mapE0 )) rfl (by decide) (awake40_any w2) fun a22 w3 hb3 hF22 hM3 => ?_
    refine sq (v := (.bool true)) hF22 (wantedS rfl) (run_pick rfl (hF22.ev 33 rfl) (hF22.ev 34 rfl) rfl) rfl (by decide) fun a23 hF23 => ?_
    refine sq (v := (.bool true)) hF23 (wantedS rfl) (run_as rfl (hF23.ev 35 rfl)) rfl (by decide) fun a24 hF24 => ?_
    refine sqEnd ?_
    clear hF18 hF19 hF20 hF21 hF22 hF23 hM2
    refine nx ?_
    refine wp_ret ?_
    refine nxRet ?_
    exact ret1 hF24 rfl rfl ⟨rfl, hM3.below⟩
  obtain ⟨hmk, hof, _, hnm0, hbl⟩ := ofS_make (Classical.byContradiction he)
  obtain ⟨B, hB⟩ : ∃ B, bytesS l = B := ⟨_, rfl⟩
  rw [hB] at hmk hof hbl
  obtain ⟨_, hnd⟩ := names_apart l [] hnm0
  obtain ⟨Z, hZ⟩ : ∃ Z, placesS l = Z := ⟨_, rfl⟩
  have hZl : Z.length = l.length := by rw [← hZ]; exact placesTo_len l l.length (Nat.le_refl _)
  refine walk_enter Try.func5 rfl rfl rfl fun a0 hF0 => ?_
  have hM0 := Mem.new w
  refine wp_seq ?_
  refine wp_region_lit ?_
  refine sq (v := (.bool false)) hF0 (wantedS rfl) (run_as rfl rfl) rfl (by decide) fun a1 hF1 => ?_
  refine sqEnd ?_
  clear hF0
  refine nx ?_
  refine wp_seq ?_
  refine wp_seq ?_
  refine wp_region_lit ?_
  refine sq (v := v) hF1 (wantedS rfl) (run_mv rfl (hF1.ev 0 rfl)) rfl (by decide) fun a2 hF2 => ?_
  refine sqC (v := (.int .i64 (greatS l))) hF2 hM0 (wantedS rfl) (run_call rfl Try.func6 (by kernel_rfl) rfl (mapE1 (hF2.ev 15 rfl))) rfl (by decide) (rgreat_any l v w (hV.below hM0.below) hn) fun a3 w1 hb1 hF3 hM1 => ?_
  refine sq (v := (.bool false)) hF3 (wantedS rfl) (run_gtr rfl (hF3.ev 16 rfl) rfl (decide_eq_false (by omega))) rfl (by decide) fun a4 hF4 => ?_
  refine sq (v := (.bool false)) hF4 (wantedS rfl) (run_mv rfl (hF4.ev 17 rfl)) rfl (by decide) fun a5 hF5 => ?_
  refine sq (v := (.string ⟨m.toArray⟩)) hF5 (wantedG hF5 rfl rfl rfl rfl rfl) (run_mv rfl (hF5.ev 1 rfl)) rfl (by decide) fun a6 hF6 => ?_
  refine sq (v := (.int .i64 (m.length : Int))) hF6 (wantedG hF6 rfl rfl rfl rfl rfl) (run_len rfl (hF6.ev 19 rfl) rfl Try.underlying9) rfl (by decide) fun a7 hF7 => ?_
  refine sq (v := (.bool false)) hF7 (wantedG hF7 rfl rfl rfl rfl rfl) (run_gtr rfl (hF7.ev 20 rfl) rfl (decide_eq_false (by omega))) rfl (by decide) fun a8 hF8 => ?_
  refine sq (v := (.bool false)) hF8 (wantedS rfl) (run_pick rfl (hF8.ev 18 rfl) rfl (hF8.ev 21 rfl)) rfl (by decide) fun a9 hF9 => ?_
  refine sqEnd ?_
  clear hF1 hF2 hF3 hF4 hF5 hF6 hF7 hF8 hM0
  refine nx ?_
  refine wp_cond_false (hF9.ev 22 rfl) ?_
  refine wp_skip ?_
  refine nx ?_
  refine wp_seq ?_
  refine wp_region_lit ?_
  refine sq (v := v) hF9 (wantedS rfl) (run_mv rfl (hF9.ev 0 rfl)) rfl (by decide) fun a10 hF10 => ?_
  refine sqC (v := (.tuple #[(.string ⟨B.toArray⟩), (.int .i64 0)])) hF10 hM1 (wantedS rfl) (run_call rfl Try.func8 (by kernel_rfl) rfl (mapE1 (hF10.ev 25 rfl))) rfl (by decide) (by have h := pmake_any l v w1 (hV.below hM1.below) (by omega) (by omega); rw [hmk] at h; exact h) fun a11 w2 hb2 hF11 hM2 => ?_
  refine sq (v := (.tuple #[(.string ⟨B.toArray⟩), (.int .i64 0)])) hF11 (wantedS rfl) (run_mv rfl (hF11.ev 26 rfl)) rfl (by decide) fun a12 hF12 => ?_
  refine sq (v := (.string ⟨B.toArray⟩)) hF12 (wantedS rfl) (run_ext rfl (hF12.ev 24 rfl) rfl) rfl (by decide) fun a13 hF13 => ?_
  refine sq (v := (.int .i64 0)) hF13 (wantedS rfl) (run_ext rfl (hF13.ev 24 rfl) rfl) rfl (by decide) fun a14 hF14 => ?_
  refine sq (v := (.string ⟨B.toArray⟩)) hF14 (wantedS rfl) (run_as rfl (hF14.ev 27 rfl)) rfl (by decide) fun a15 hF15 => ?_
  refine sq (v := (.int .i64 0)) hF15 (wantedS rfl) (run_as rfl (hF15.ev 28 rfl)) rfl (by decide) fun a16 hF16 => ?_
  refine sqEnd ?_
  clear hF9 hF10 hF11 hF12 hF13 hF14 hF15 hM1
  refine nx ?_
  refine wp_seq ?_
  refine wp_seq ?_
  refine wp_region_lit ?_
  refine sq (v := (.int .i64 0)) hF16 (wantedS rfl) (run_mv rfl (hF16.ev 6 rfl)) rfl (by decide) fun a17 hF17 => ?_
  refine sq (v := (.bool false)) hF17 (wantedS rfl) (run_nei rfl (hF17.ev 29 rfl) rfl (bne_eq_false_iff_eq.2 (by omega))) rfl (by decide) fun a18 hF18 => ?_
  refine sqEnd ?_
  clear hF16 hF17
  refine nx ?_
  refine wp_cond_false (hF18.ev 30 rfl) ?_
  refine wp_skip ?_
  refine nx ?_
  refine wp_seq ?_
  refine wp_region_lit ?_
  refine sq (v := (.string ⟨B.toArray⟩)) hF18 (wantedS rfl) (run_mv rfl (hF18.ev 5 rfl)) rfl (by decide) fun a19 hF19 => ?_
  refine sqT (T := fun u wx => (∃ v, u = .tuple #[v, .int .i64 0] ∧ wx.ownsRow w2.heap.size 39 3 v Z.length (Z.flatMap placeC)) ∧ Below w2.heap.size w2 wx) hF19 (wantedS rfl) (run_call rfl Try.func9 (by kernel_rfl) rfl (mapE1 (hF19.ev 37 rfl))) rfl (by decide) (by rw [← hZ]; exact pof_some hof w2 (by omega)) fun u0 a20 w3 hT3 hF20 => ?_
  obtain ⟨⟨v1, rfl, hr3⟩, hb3⟩ := hT3
  have hO1 := OwnR.ofCall hM2 hr3
  have hM3 := hM2.grow hb3
  refine sq (v := (.tuple #[v1, (.int .i64 0)])) hF20 (wantedS rfl) (run_mv rfl (hF20.ev 38 rfl)) rfl (by decide) fun a21 hF21 => ?_
  refine sq (v := v1) hF21 (wantedS rfl) (run_ext rfl (hF21.ev 36 rfl) rfl) rfl (by decide) fun a22 hF22 => ?_
  refine sq (v := (.int .i64 0)) hF22 (wantedS rfl) (run_ext rfl (hF22.ev 36 rfl) rfl) rfl (by decide) fun a23 hF23 => ?_
  refine sq (v := v1) hF23 (wantedS rfl) (run_as rfl (hF23.ev 39 rfl)) rfl (by decide) fun a24 hF24 => ?_
  refine sq (v := (.int .i64 0)) hF24 (wantedS rfl) (run_as rfl (hF24.ev 40 rfl)) rfl (by decide) fun a25 hF25 => ?_
  refine sqEnd ?_
  clear hF18 hF19 hF20 hF21 hF22 hF23 hF24 hM2
  refine nx ?_
  refine wp_seq ?_
  refine wp_seq ?_
  refine wp_region_lit ?_
  refine sq (v := (.int .i64 0)) hF25 (wantedS rfl) (run_mv rfl (hF25.ev 8 rfl)) rfl (by decide) fun a26 hF26 => ?_
  refine sq (v := (.bool false)) hF26 (wantedS rfl) (run_nei rfl (hF26.ev 41 rfl) rfl (bne_eq_false_iff_eq.2 (by omega))) rfl (by decide) fun a27 hF27 => ?_
  refine sq (v := (.bool false)) hF27 (wantedS rfl) (run_mv rfl (hF27.ev 42 rfl)) rfl (by decide) fun a28 hF28 => ?_
  refine sq (v := v1) hF28 (wantedG hF28 rfl rfl rfl rfl rfl) (run_mv rfl (hF28.ev 7 rfl)) rfl (by decide) fun a29 hF29 => ?_
  refine sq (v := (.int .i64 (Z.length : Int))) hF29 (wantedG hF29 rfl rfl rfl rfl rfl) (run_lenS rfl (hF29.ev 44 rfl) (Sl.own hO1) rfl Try.underlying32) rfl (by decide) fun a30 hF30 => ?_
  refine sq (v := v) hF30 (wantedG hF30 rfl rfl rfl rfl rfl) (run_mv rfl (hF30.ev 0 rfl)) rfl (by decide) fun a31 hF31 => ?_
  refine sq (v := (.int .i64 (l.length : Int))) hF31 (wantedG hF31 rfl rfl rfl rfl rfl) (run_lenS rfl (hF31.ev 46 rfl) (hV.below hM3.below) rfl Try.underlying22) rfl (by decide) fun a32 hF32 => ?_
  refine sq (v := (.bool false)) hF32 (wantedG hF32 rfl rfl rfl rfl rfl) (run_nei rfl (hF32.ev 45 rfl) (hF32.ev 47 rfl) (bne_eq_false_iff_eq.2 (by omega))) rfl (by decide) fun a33 hF33 => ?_
  refine sq (v := (.bool false)) hF33 (wantedS rfl) (run_pick rfl (hF33.ev 43 rfl) rfl (hF33.ev 48 rfl)) rfl (by decide) fun a34 hF34 => ?_
  refine sqEnd ?_
  clear hF25 hF26 hF27 hF28 hF29 hF30 hF31 hF32 hF33
  refine nx ?_
  refine wp_cond_false (hF34.ev 49 rfl) ?_
  refine wp_skip ?_
  refine nx ?_
  refine wp_seq ?_
  refine wp_region_lit ?_
  refine sq (v := (.bool false)) hF34 (wantedS rfl) (run_as rfl rfl) rfl (by decide) fun a35 hF35 => ?_
  refine sqEnd ?_
  clear hF34
  refine nx ?_
  refine wp_seq ?_
  refine wp_seq ?_
  refine wp_region_lit ?_
  refine sq (v := (.int .i64 0)) hF35 (wantedS rfl) (run_as rfl rfl) rfl (by decide) fun a36 hF36 => ?_
  refine sqEnd ?_
  clear hF35
  refine nx ?_
  refine wp_block ?_
  refine wkLoop (fun mm a w2 => ∃ (i : Nat) (b : Bool), i ≤ l.length ∧ mm = l.length - i ∧ b = ((l.take i).map (·.1)).contains m ∧ OwnR w [] w2 39 3 v1 Z.length (Z.flatMap placeC) ∧ Fr a 176 [(0, v), (1, .string ⟨m.toArray⟩), (5, .string ⟨B.toArray⟩), (7, v1), (9, .bool b), (10, .int .i64 (i : Int))] ∧ Mem w [] w2) l.length ⟨0, false, Nat.zero_le _, rfl, rfl, hO1, hF36.sub ⟨rfl, rfl, rfl, rfl, rfl, rfl, trivial⟩, hM3⟩ ?_
  rintro m0 a0 w1 ⟨i, b, hi, rfl, hb, hO0, hF0, hM0⟩
  by_cases hlt : i < l.length
  · obtain ⟨x, hx⟩ : ∃ x, l[i]? = some x := ⟨l[i], by simp [hlt]⟩
    have hp := placesTo_at l l.length i x hlt (Nat.le_refl _) hx
    rw [show placesTo l l.length = Z from hZ] at hp
    obtain ⟨hc1, hc2, hc3⟩ := place_cut l i hx
    rw [hB] at hc2 hc3
    obtain ⟨p, hpe⟩ : ∃ p, placeOf l i x = p := ⟨_, rfl⟩
    rw [hpe] at hp
    have hp1 : p.1 = x.1 := by rw [← hpe]; rfl
    have hp2 : p.2.1 = (bytesS (l.take (i + 1))).length - x.2.length := by rw [← hpe]; rfl
    have hp3 : p.2.2 = x.2.length := by rw [← hpe]; rfl
    have hcut : (B.drop p.2.1).take (p.2.1 + p.2.2 - p.2.1) = x.2 := by rw [Nat.add_sub_cancel_left, hp2, hp3]; exact hc3
    have hms := map_snoc l i hx
    have hxl := box_le l i hx
    cases b with
    | true =>
      refine wp_seq ?_
      refine wp_seq ?_
      refine wp_region_lit ?_
      refine sq (v := (.int .i64 (i : Int))) hF0 (wantedS rfl) (run_mv rfl (hF0.ev 10 rfl)) rfl (by decide) fun a1 hF1 => ?_
      refine sq (v := v) hF1 (wantedS rfl) (run_mv rfl (hF1.ev 0 rfl)) rfl (by decide) fun a2 hF2 => ?_
      refine sq (v := (.int .i64 (l.length : Int))) hF2 (wantedS rfl) (run_lenS rfl (hF2.ev 51 rfl) (hV.below hM0.below) rfl Try.underlying22) rfl (by decide) fun a3 hF3 => ?_
      refine sq (v := (.bool true)) hF3 (wantedS rfl) (run_lss rfl (hF3.ev 50 rfl) (hF3.ev 52 rfl) (decide_eq_true (by omega))) rfl (by decide) fun a4 hF4 => ?_
      refine sqEnd ?_
      clear hF0 hF1 hF2 hF3
      refine nx ?_
      refine wp_cond_true (hF4.ev 53 rfl) ?_
      refine wp_skip ?_
      refine nx ?_
      refine wp_seq ?_
      refine wp_block ?_
      refine wp_seq ?_
      refine wp_region_lit ?_
      refine sq (v := (.string ⟨B.toArray⟩)) hF4 (wantedS rfl) (run_mv rfl (hF4.ev 5 rfl)) rfl (by decide) fun a5 hF5 => ?_
      refine sq (v := v) hF5 (wantedS rfl) (run_mv rfl (hF5.ev 0 rfl)) rfl (by decide) fun a6 hF6 => ?_
      refine sq (v := (.int .i64 (i : Int))) hF6 (wantedS rfl) (run_mv rfl (hF6.ev 10 rfl)) rfl (by decide) fun a7 hF7 => ?_
      refine sq (v := (slPtr v (i * 2))) hF7 (wantedS rfl) (run_atP (i := i) rfl (hF7.ev 58 rfl) (hF7.ev 59 rfl) rfl (hV.below hM0.below) (by omega) elBox.un (by kernel_rfl)) rfl (by decide) fun a8 hF8 => ?_
      refine sq (v := (slPtr v (i * 2 + 0))) hF8 (wantedS rfl) (run_fldP (m2 := 1) (s := 0) rfl (hF8.ev 60 rfl) (hV.below hM0.below) (by omega) Try.underlying29 rfl rfl (by kernel_rfl) (by decide)) rfl (by decide) fun a9 hF9 => ?_
      refine sq (v := (.string ⟨x.1.toArray⟩)) hF9 (wantedS rfl) (run_ldP rfl (hF9.ev 61 rfl) (hV.below hM0.below) (flat_at boxC_len hx 0 rfl) (by kernel_rfl)) rfl (by decide) fun a10 hF10 => ?_
      refine sqC (v := (.tuple #[(.agg #[.string ⟨x.1.toArray⟩, .string ⟨x.2.toArray⟩]), (.int .i64 0)])) hF10 hM0 (wantedS rfl) (run_call rfl Try.func11 (by kernel_rfl) rfl (mapE2 (hF10.ev 57 rfl) (hF10.ev 62 rfl))) rfl (by decide) (by have h := ptake_any B x.1 w1 (by omega); rw [takeS_some hof (find_own hnd hx)] at h; exact h) fun a11 w2 hb2 hF11 hM1 => ?_
      have hO1 := hO0.grow hb2
      refine sq (v := (.tuple #[(.agg #[.string ⟨x.1.toArray⟩, .string ⟨x.2.toArray⟩]), (.int .i64 0)])) hF11 (wantedS rfl) (run_mv rfl (hF11.ev 63 rfl)) rfl (by decide) fun a12 hF12 => ?_
      refine sq (v := (.agg #[.string ⟨x.1.toArray⟩, .string ⟨x.2.toArray⟩])) hF12 (wantedS rfl) (run_ext rfl (hF12.ev 56 rfl) rfl) rfl (by decide) fun a13 hF13 => ?_
      refine sq (v := (.int .i64 0)) hF13 (wantedS rfl) (run_ext rfl (hF13.ev 56 rfl) rfl) rfl (by decide) fun a14 hF14 => ?_
      refine sqNew (cs := #[.string ⟨List.toArray []⟩, .string ⟨List.toArray []⟩]) (t := 29) hF14 hM1 (wantedS rfl) (run_alloc rfl (by kernel_rfl)) rfl (by decide) fun g2 a15 w3 hgg2 hb3 hF15 hM2 => ?_
      have hO2 := hO1.add (S := isB 29 (#[.string ⟨List.toArray []⟩, .string ⟨List.toArray []⟩])) hb3 hgg2
      refine sqStoreG (i := 0) hF15 hM2 rfl rfl rfl (hF15.ev 11 rfl) (hF15.ev 64 rfl) rfl szBox rfl rfl (arr_one rfl) fun a16 w4 hgr4 hF16 hM3 => ?_
      have hO3 := hO2.upd 0 (S2 := isB 29 (#[.string ⟨x.1.toArray⟩, .string ⟨x.2.toArray⟩])) rfl hgr4
      refine sq (v := (.int .i64 0)) hF16 (wantedS rfl) (run_as rfl (hF16.ev 65 rfl)) rfl (by decide) fun a17 hF17 => ?_
      refine sqEnd ?_
      clear hF4 hF5 hF6 hF7 hF8 hF9 hF10 hF11 hF12 hF13 hF14 hF15 hF16 hM0 hM1 hM2
      refine nx ?_
      refine wp_seq ?_
      refine wp_seq ?_
      obtain ⟨KL, hKL⟩ : ∃ KL, KL = [kval (.int .i64 0), kval (.bool false), kval (.bool false), kval (.agg #[.string ⟨x.1.toArray⟩, .string ⟨x.2.toArray⟩]), kval v, kval (.int .i64 (i : Int)), kval (slPtr v (i * 2)), kval (.agg #[.string ⟨x.1.toArray⟩, .string ⟨x.2.toArray⟩]), kval (.bool false), kval (.bool false), kval (.bool false), kval v1, kval (.int .i64 (i : Int)), kval (slPtr v1 (i * 3)), kval (slPtr v1 (i * 3 + 0)), kval (.string ⟨p.1.toArray⟩), kval v, kval (.int .i64 (i : Int)), kval (slPtr v (i * 2)), kval (slPtr v (i * 2 + 0)), kval (.string ⟨x.1.toArray⟩), kval (.bool false), kval (.bool false), kval (.bool false), kval v1, kval (.int .i64 (i : Int)), kval (slPtr v1 (i * 3)), kval (slPtr v1 (i * 3 + 2)), kval (.int .i64 (p.2.2 : Int)), kval v, kval (.int .i64 (i : Int)), kval (slPtr v (i * 2)), kval (slPtr v (i * 2 + 1)), kval (.string ⟨x.2.toArray⟩), kval (.int .i64 (x.2.length : Int)), kval (.bool false), kval (.bool false), kval (.bool false), kval v1, kval (.int .i64 (i : Int)), kval (slPtr v1 (i * 3)), kval (slPtr v1 (i * 3 + 1)), kval (.int .i64 (p.2.1 : Int)), kval (.bool false), kval (.bool false), kval (.bool false), kval v1, kval (.int .i64 (i : Int)), kval (slPtr v1 (i * 3)), kval (slPtr v1 (i * 3 + 1)), kval (.int .i64 (p.2.1 : Int)), kval v1, kval (.int .i64 (i : Int)), kval (slPtr v1 (i * 3)), kval (slPtr v1 (i * 3 + 2)), kval (.int .i64 (p.2.2 : Int)), kval (.int .i64 ((p.2.1 + p.2.2 : Nat) : Int)), kval (.string ⟨B.toArray⟩), kval (.int .i64 (B.length : Int)), kval (.bool false), kval (.bool false), kval (.bool false), kval (.string ⟨B.toArray⟩), kval v1, kval (.int .i64 (i : Int)), kval (slPtr v1 (i * 3)), kval (slPtr v1 (i * 3 + 1)), kval (.int .i64 (p.2.1 : Int)), kval v1, kval (.int .i64 (i : Int)), kval (slPtr v1 (i * 3)), kval (slPtr v1 (i * 3 + 1)), kval (.int .i64 (p.2.1 : Int)), kval v1, kval (.int .i64 (i : Int)), kval (slPtr v1 (i * 3)), kval (slPtr v1 (i * 3 + 2)), kval (.int .i64 (p.2.2 : Int)), kval (.int .i64 ((p.2.1 + p.2.2 : Nat) : Int)), kval (.string ⟨x.2.toArray⟩), kval v, kval (.int .i64 (i : Int)), kval (slPtr v (i * 2)), kval (slPtr v (i * 2 + 1)), kval (.string ⟨x.2.toArray⟩), kval (.bool false), kval (.bool false)] := ⟨_, rfl⟩
      have K0 : KL.getD 0 kany = kval (.int .i64 0) := by rw [hKL]; rfl
      have K1 : KL.getD 1 kany = kval (.bool false) := by rw [hKL]; rfl
      have K2 : KL.getD 2 kany = kval (.bool false) := by rw [hKL]; rfl
      have K3 : KL.getD 3 kany = kval (.agg #[.string ⟨x.1.toArray⟩, .string ⟨x.2.toArray⟩]) := by rw [hKL]; rfl
      have K4 : KL.getD 4 kany = kval v := by rw [hKL]; rfl
      have K5 : KL.getD 5 kany = kval (.int .i64 (i : Int)) := by rw [hKL]; rfl
      have K6 : KL.getD 6 kany = kval (slPtr v (i * 2)) := by rw [hKL]; rfl
      have K7 : KL.getD 7 kany = kval (.agg #[.string ⟨x.1.toArray⟩, .string ⟨x.2.toArray⟩]) := by rw [hKL]; rfl
      have K8 : KL.getD 8 kany = kval (.bool false) := by rw [hKL]; rfl
      have K9 : KL.getD 9 kany = kval (.bool false) := by rw [hKL]; rfl
      have K10 : KL.getD 10 kany = kval (.bool false) := by rw [hKL]; rfl
      have K11 : KL.getD 11 kany = kval v1 := by rw [hKL]; rfl
      have K12 : KL.getD 12 kany = kval (.int .i64 (i : Int)) := by rw [hKL]; rfl
      have K13 : KL.getD 13 kany = kval (slPtr v1 (i * 3)) := by rw [hKL]; rfl
      have K14 : KL.getD 14 kany = kval (slPtr v1 (i * 3 + 0)) := by rw [hKL]; rfl
      have K15 : KL.getD 15 kany = kval (.string ⟨p.1.toArray⟩) := by rw [hKL]; rfl
      have K16 : KL.getD 16 kany = kval v := by rw [hKL]; rfl
      have K17 : KL.getD 17 kany = kval (.int .i64 (i : Int)) := by rw [hKL]; rfl
      have K18 : KL.getD 18 kany = kval (slPtr v (i * 2)) := by rw [hKL]; rfl
      have K19 : KL.getD 19 kany = kval (slPtr v (i * 2 + 0)) := by rw [hKL]; rfl
      have K20 : KL.getD 20 kany = kval (.string ⟨x.1.toArray⟩) := by rw [hKL]; rfl
      have K21 : KL.getD 21 kany = kval (.bool false) := by rw [hKL]; rfl
      have K22 : KL.getD 22 kany = kval (.bool false) := by rw [hKL]; rfl
      have K23 : KL.getD 23 kany = kval (.bool false) := by rw [hKL]; rfl
      have K24 : KL.getD 24 kany = kval v1 := by rw [hKL]; rfl
      have K25 : KL.getD 25 kany = kval (.int .i64 (i : Int)) := by rw [hKL]; rfl
      have K26 : KL.getD 26 kany = kval (slPtr v1 (i * 3)) := by rw [hKL]; rfl
      have K27 : KL.getD 27 kany = kval (slPtr v1 (i * 3 + 2)) := by rw [hKL]; rfl
      have K28 : KL.getD 28 kany = kval (.int .i64 (p.2.2 : Int)) := by rw [hKL]; rfl
      have K29 : KL.getD 29 kany = kval v := by rw [hKL]; rfl
      have K30 : KL.getD 30 kany = kval (.int .i64 (i : Int)) := by rw [hKL]; rfl
      have K31 : KL.getD 31 kany = kval (slPtr v (i * 2)) := by rw [hKL]; rfl
      have K32 : KL.getD 32 kany = kval (slPtr v (i * 2 + 1)) := by rw [hKL]; rfl
      have K33 : KL.getD 33 kany = kval (.string ⟨x.2.toArray⟩) := by rw [hKL]; rfl
      have K34 : KL.getD 34 kany = kval (.int .i64 (x.2.length : Int)) := by rw [hKL]; rfl
      have K35 : KL.getD 35 kany = kval (.bool false) := by rw [hKL]; rfl
      have K36 : KL.getD 36 kany = kval (.bool false) := by rw [hKL]; rfl
      have K37 : KL.getD 37 kany = kval (.bool false) := by rw [hKL]; rfl
      have K38 : KL.getD 38 kany = kval v1 := by rw [hKL]; rfl
      have K39 : KL.getD 39 kany = kval (.int .i64 (i : Int)) := by rw [hKL]; rfl
      have K40 : KL.getD 40 kany = kval (slPtr v1 (i * 3)) := by rw [hKL]; rfl
      have K41 : KL.getD 41 kany = kval (slPtr v1 (i * 3 + 1)) := by rw [hKL]; rfl
      have K42 : KL.getD 42 kany = kval (.int .i64 (p.2.1 : Int)) := by rw [hKL]; rfl
      have K43 : KL.getD 43 kany = kval (.bool false) := by rw [hKL]; rfl
      have K44 : KL.getD 44 kany = kval (.bool false) := by rw [hKL]; rfl
      have K45 : KL.getD 45 kany = kval (.bool false) := by rw [hKL]; rfl
      have K46 : KL.getD 46 kany = kval v1 := by rw [hKL]; rfl
      have K47 : KL.getD 47 kany = kval (.int .i64 (i : Int)) := by rw [hKL]; rfl
      have K48 : KL.getD 48 kany = kval (slPtr v1 (i * 3)) := by rw [hKL]; rfl
      have K49 : KL.getD 49 kany = kval (slPtr v1 (i * 3 + 1)) := by rw [hKL]; rfl
      have K50 : KL.getD 50 kany = kval (.int .i64 (p.2.1 : Int)) := by rw [hKL]; rfl
      have K51 : KL.getD 51 kany = kval v1 := by rw [hKL]; rfl
      have K52 : KL.getD 52 kany = kval (.int .i64 (i : Int)) := by rw [hKL]; rfl
      have K53 : KL.getD 53 kany = kval (slPtr v1 (i * 3)) := by rw [hKL]; rfl
      have K54 : KL.getD 54 kany = kval (slPtr v1 (i * 3 + 2)) := by rw [hKL]; rfl
      have K55 : KL.getD 55 kany = kval (.int .i64 (p.2.2 : Int)) := by rw [hKL]; rfl
      have K56 : KL.getD 56 kany = kval (.int .i64 ((p.2.1 + p.2.2 : Nat) : Int)) := by rw [hKL]; rfl
      have K57 : KL.getD 57 kany = kval (.string ⟨B.toArray⟩) := by rw [hKL]; rfl
      have K58 : KL.getD 58 kany = kval (.int .i64 (B.length : Int)) := by rw [hKL]; rfl
      have K59 : KL.getD 59 kany = kval (.bool false) := by rw [hKL]; rfl
      have K60 : KL.getD 60 kany = kval (.bool false) := by rw [hKL]; rfl
      have K61 : KL.getD 61 kany = kval (.bool false) := by rw [hKL]; rfl
      have K62 : KL.getD 62 kany = kval (.string ⟨B.toArray⟩) := by rw [hKL]; rfl
      have K63 : KL.getD 63 kany = kval v1 := by rw [hKL]; rfl
      have K64 : KL.getD 64 kany = kval (.int .i64 (i : Int)) := by rw [hKL]; rfl
      have K65 : KL.getD 65 kany = kval (slPtr v1 (i * 3)) := by rw [hKL]; rfl
      have K66 : KL.getD 66 kany = kval (slPtr v1 (i * 3 + 1)) := by rw [hKL]; rfl
      have K67 : KL.getD 67 kany = kval (.int .i64 (p.2.1 : Int)) := by rw [hKL]; rfl
      have K68 : KL.getD 68 kany = kval v1 := by rw [hKL]; rfl
      have K69 : KL.getD 69 kany = kval (.int .i64 (i : Int)) := by rw [hKL]; rfl
      have K70 : KL.getD 70 kany = kval (slPtr v1 (i * 3)) := by rw [hKL]; rfl
      have K71 : KL.getD 71 kany = kval (slPtr v1 (i * 3 + 1)) := by rw [hKL]; rfl
      have K72 : KL.getD 72 kany = kval (.int .i64 (p.2.1 : Int)) := by rw [hKL]; rfl
      have K73 : KL.getD 73 kany = kval v1 := by rw [hKL]; rfl
      have K74 : KL.getD 74 kany = kval (.int .i64 (i : Int)) := by rw [hKL]; rfl
      have K75 : KL.getD 75 kany = kval (slPtr v1 (i * 3)) := by rw [hKL]; rfl
      have K76 : KL.getD 76 kany = kval (slPtr v1 (i * 3 + 2)) := by rw [hKL]; rfl
      have K77 : KL.getD 77 kany = kval (.int .i64 (p.2.2 : Int)) := by rw [hKL]; rfl
      have K78 : KL.getD 78 kany = kval (.int .i64 ((p.2.1 + p.2.2 : Nat) : Int)) := by rw [hKL]; rfl
      have K79 : KL.getD 79 kany = kval (.string ⟨x.2.toArray⟩) := by rw [hKL]; rfl
      have K80 : KL.getD 80 kany = kval v := by rw [hKL]; rfl
      have K81 : KL.getD 81 kany = kval (.int .i64 (i : Int)) := by rw [hKL]; rfl
      have K82 : KL.getD 82 kany = kval (slPtr v (i * 2)) := by rw [hKL]; rfl
      have K83 : KL.getD 83 kany = kval (slPtr v (i * 2 + 1)) := by rw [hKL]; rfl
      have K84 : KL.getD 84 kany = kval (.string ⟨x.2.toArray⟩) := by rw [hKL]; rfl
      have K85 : KL.getD 85 kany = kval (.bool false) := by rw [hKL]; rfl
      have K86 : KL.getD 86 kany = kval (.bool false) := by rw [hKL]; rfl
      clear hKL
      refine wp_region_kd 176 (by kernel_rfl) (by kernel_rfl) (by kernel_rfl) hF17.size KL ?_ ?_
      · refine ⟨?_, ?_, ?_, ?_, ?_, ?_, ?_, ?_, ?_, ?_, ?_, ?_, ?_, ?_, ?_, ?_, ?_, ?_, ?_, ?_, ?_, ?_, ?_, ?_, ?_, ?_, ?_, ?_, ?_, ?_, ?_, ?_, ?_, ?_, ?_, ?_, ?_, ?_, ?_, ?_, ?_, ?_, ?_, ?_, ?_, ?_, ?_, ?_, ?_, ?_, ?_, ?_, ?_, ?_, ?_, ?_, ?_, ?_, ?_, ?_, ?_, ?_, ?_, ?_, ?_, ?_, ?_, ?_, ?_, ?_, ?_, ?_, ?_, ?_, ?_, ?_, ?_, ?_, ?_, ?_, ?_, ?_, ?_, ?_, ?_, ?_, ?_, trivial⟩
        · refine asks_mk fun a W hS hh hd => ⟨wanted_yes rfl, ?_⟩
          exact giv_run (run_mv rfl (eval_tmp (hh 12 _ rfl (hF17.at 12 rfl)))) K0
        · refine asks_mk fun a W hS hh hd => ⟨wanted_yes rfl, ?_⟩
          exact giv_run (run_nei rfl (eval_tmp (hd.val (j := 0) (s := 66) (by kernel_rfl) K0)) rfl (bne_eq_false_iff_eq.2 (by omega))) K1
        · refine asks_mk fun a W hS hh hd => ⟨wanted_yes rfl, ?_⟩
          exact giv_run (run_mv rfl (eval_tmp (hd.val (j := 1) (s := 67) (by kernel_rfl) K1))) K2
        · refine asks_mk fun a W hS hh hd => ⟨wanted_of (j := 2) (s := 68) (by kernel_rfl) (hd.val (j := 2) (s := 68) (by kernel_rfl) K2), ?_⟩
          exact giv_run (run_ldB rfl (eval_tmp (hh 11 _ rfl (hF17.at 11 rfl))) ((hM3.grow hS).at 0 rfl) Try.underlying29 rfl szBox rfl) K3
        · refine asks_mk fun a W hS hh hd => ⟨wanted_of (j := 2) (s := 68) (by kernel_rfl) (hd.val (j := 2) (s := 68) (by kernel_rfl) K2), ?_⟩
          exact giv_run (run_mv rfl (eval_tmp (hh 0 _ rfl (hF17.at 0 rfl)))) K4
        · refine asks_mk fun a W hS hh hd => ⟨wanted_of (j := 2) (s := 68) (by kernel_rfl) (hd.val (j := 2) (s := 68) (by kernel_rfl) K2), ?_⟩
          exact giv_run (run_mv rfl (eval_tmp (hh 10 _ rfl (hF17.at 10 rfl)))) K5
        · refine asks_mk fun a W hS hh hd => ⟨wanted_of (j := 2) (s := 68) (by kernel_rfl) (hd.val (j := 2) (s := 68) (by kernel_rfl) K2), ?_⟩
          exact giv_run (run_atP (i := i) rfl (eval_tmp (hd.val (j := 4) (s := 70) (by kernel_rfl) K4)) (eval_tmp (hd.val (j := 5) (s := 71) (by kernel_rfl) K5)) rfl (hV.below (hM3.grow hS).below) (by omega) elBox.un (by kernel_rfl)) K6
        · refine asks_mk fun a W hS hh hd => ⟨wanted_of (j := 2) (s := 68) (by kernel_rfl) (hd.val (j := 2) (s := 68) (by kernel_rfl) K2), ?_⟩
          exact giv_run (run_ldPS (ys := boxC x) rfl (eval_tmp (hd.val (j := 6) (s := 72) (by kernel_rfl) K6)) (hV.below (hM3.grow hS).below) (by omega) (fun j u hj => flat_at boxC_len hx j hj) (by kernel_rfl) (by kernel_rfl)) K7
        · refine asks_mk fun a W hS hh hd => ⟨wanted_of (j := 2) (s := 68) (by kernel_rfl) (hd.val (j := 2) (s := 68) (by kernel_rfl) K2), ?_⟩
          exact giv_run (run_neBox (by simp) rfl (eval_tmp (hd.val (j := 3) (s := 69) (by kernel_rfl) K3)) (eval_tmp (hd.val (j := 7) (s := 73) (by kernel_rfl) K7))) K8
        · refine asks_mk fun a W hS hh hd => ⟨wanted_yes rfl, ?_⟩
          exact giv_run (run_pick rfl (eval_tmp (hd.val (j := 2) (s := 68) (by kernel_rfl) K2)) rfl (eval_tmp (hd.val (j := 8) (s := 74) (by kernel_rfl) K8))) K9
        · refine asks_mk fun a W hS hh hd => ⟨wanted_yes rfl, ?_⟩
          exact giv_run (run_mv rfl (eval_tmp (hd.val (j := 9) (s := 75) (by kernel_rfl) K9))) K10
        · refine asks_mk fun a W hS hh hd => ⟨wanted_of (j := 10) (s := 76) (by kernel_rfl) (hd.val (j := 10) (s := 76) (by kernel_rfl) K10), ?_⟩
          exact giv_run (run_mv rfl (eval_tmp (hh 7 _ rfl (hF17.at 7 rfl)))) K11
        · refine asks_mk fun a W hS hh hd => ⟨wanted_of (j := 10) (s := 76) (by kernel_rfl) (hd.val (j := 10) (s := 76) (by kernel_rfl) K10), ?_⟩
          exact giv_run (run_mv rfl (eval_tmp (hh 10 _ rfl (hF17.at 10 rfl)))) K12
        · refine asks_mk fun a W hS hh hd => ⟨wanted_of (j := 10) (s := 76) (by kernel_rfl) (hd.val (j := 10) (s := 76) (by kernel_rfl) K10), ?_⟩
          exact giv_run (run_atP (i := i) rfl (eval_tmp (hd.val (j := 11) (s := 77) (by kernel_rfl) K11)) (eval_tmp (hd.val (j := 12) (s := 78) (by kernel_rfl) K12)) rfl (Sl.own (hO3.grow hS)) (by omega) elPlace.un (by kernel_rfl)) K13
        · refine asks_mk fun a W hS hh hd => ⟨wanted_of (j := 10) (s := 76) (by kernel_rfl) (hd.val (j := 10) (s := 76) (by kernel_rfl) K10), ?_⟩
          exact giv_run (run_fldP (m2 := 1) (s := 0) rfl (eval_tmp (hd.val (j := 13) (s := 79) (by kernel_rfl) K13)) (Sl.own (hO3.grow hS)) (by omega) Try.underlying39 rfl rfl (by kernel_rfl) (by decide)) K14
        · refine asks_mk fun a W hS hh hd => ⟨wanted_of (j := 10) (s := 76) (by kernel_rfl) (hd.val (j := 10) (s := 76) (by kernel_rfl) K10), ?_⟩
          exact giv_run (run_ldP rfl (eval_tmp (hd.val (j := 14) (s := 80) (by kernel_rfl) K14)) (Sl.own (hO3.grow hS)) (flat_at placeC_len hp 0 rfl) (by kernel_rfl)) K15
        · refine asks_mk fun a W hS hh hd => ⟨wanted_of (j := 10) (s := 76) (by kernel_rfl) (hd.val (j := 10) (s := 76) (by kernel_rfl) K10), ?_⟩
          exact giv_run (run_mv rfl (eval_tmp (hh 0 _ rfl (hF17.at 0 rfl)))) K16
        · refine asks_mk fun a W hS hh hd => ⟨wanted_of (j := 10) (s := 76) (by kernel_rfl) (hd.val (j := 10) (s := 76) (by kernel_rfl) K10), ?_⟩
          exact giv_run (run_mv rfl (eval_tmp (hh 10 _ rfl (hF17.at 10 rfl)))) K17
        · refine asks_mk fun a W hS hh hd => ⟨wanted_of (j := 10) (s := 76) (by kernel_rfl) (hd.val (j := 10) (s := 76) (by kernel_rfl) K10), ?_⟩
          exact giv_run (run_atP (i := i) rfl (eval_tmp (hd.val (j := 16) (s := 82) (by kernel_rfl) K16)) (eval_tmp (hd.val (j := 17) (s := 83) (by kernel_rfl) K17)) rfl (hV.below (hM3.grow hS).below) (by omega) elBox.un (by kernel_rfl)) K18
        · refine asks_mk fun a W hS hh hd => ⟨wanted_of (j := 10) (s := 76) (by kernel_rfl) (hd.val (j := 10) (s := 76) (by kernel_rfl) K10), ?_⟩
          exact giv_run (run_fldP (m2 := 1) (s := 0) rfl (eval_tmp (hd.val (j := 18) (s := 84) (by kernel_rfl) K18)) (hV.below (hM3.grow hS).below) (by omega) Try.underlying29 rfl rfl (by kernel_rfl) (by decide)) K19
        · refine asks_mk fun a W hS hh hd => ⟨wanted_of (j := 10) (s := 76) (by kernel_rfl) (hd.val (j := 10) (s := 76) (by kernel_rfl) K10), ?_⟩
          exact giv_run (run_ldP rfl (eval_tmp (hd.val (j := 19) (s := 85) (by kernel_rfl) K19)) (hV.below (hM3.grow hS).below) (flat_at boxC_len hx 0 rfl) (by kernel_rfl)) K20
        · refine asks_mk fun a W hS hh hd => ⟨wanted_of (j := 10) (s := 76) (by kernel_rfl) (hd.val (j := 10) (s := 76) (by kernel_rfl) K10), ?_⟩
          exact giv_run (run_nes rfl (eval_tmp (hd.val (j := 15) (s := 81) (by kernel_rfl) K15)) (eval_tmp (hd.val (j := 20) (s := 86) (by kernel_rfl) K20)) (by rw [hp1]; simp)) K21
        · refine asks_mk fun a W hS hh hd => ⟨wanted_yes rfl, ?_⟩
          exact giv_run (run_pick rfl (eval_tmp (hd.val (j := 10) (s := 76) (by kernel_rfl) K10)) rfl (eval_tmp (hd.val (j := 21) (s := 87) (by kernel_rfl) K21))) K22
        · refine asks_mk fun a W hS hh hd => ⟨wanted_yes rfl, ?_⟩
          exact giv_run (run_mv rfl (eval_tmp (hd.val (j := 22) (s := 88) (by kernel_rfl) K22))) K23
        · refine asks_mk fun a W hS hh hd => ⟨wanted_of (j := 23) (s := 89) (by kernel_rfl) (hd.val (j := 23) (s := 89) (by kernel_rfl) K23), ?_⟩
          exact giv_run (run_mv rfl (eval_tmp (hh 7 _ rfl (hF17.at 7 rfl)))) K24
        · refine asks_mk fun a W hS hh hd => ⟨wanted_of (j := 23) (s := 89) (by kernel_rfl) (hd.val (j := 23) (s := 89) (by kernel_rfl) K23), ?_⟩
          exact giv_run (run_mv rfl (eval_tmp (hh 10 _ rfl (hF17.at 10 rfl)))) K25
        · refine asks_mk fun a W hS hh hd => ⟨wanted_of (j := 23) (s := 89) (by kernel_rfl) (hd.val (j := 23) (s := 89) (by kernel_rfl) K23), ?_⟩
          exact giv_run (run_atP (i := i) rfl (eval_tmp (hd.val (j := 24) (s := 90) (by kernel_rfl) K24)) (eval_tmp (hd.val (j := 25) (s := 91) (by kernel_rfl) K25)) rfl (Sl.own (hO3.grow hS)) (by omega) elPlace.un (by kernel_rfl)) K26
        · refine asks_mk fun a W hS hh hd => ⟨wanted_of (j := 23) (s := 89) (by kernel_rfl) (hd.val (j := 23) (s := 89) (by kernel_rfl) K23), ?_⟩
          exact giv_run (run_fldP (m2 := 1) (s := 2) rfl (eval_tmp (hd.val (j := 26) (s := 92) (by kernel_rfl) K26)) (Sl.own (hO3.grow hS)) (by omega) Try.underlying39 rfl rfl (by kernel_rfl) (by decide)) K27
        · refine asks_mk fun a W hS hh hd => ⟨wanted_of (j := 23) (s := 89) (by kernel_rfl) (hd.val (j := 23) (s := 89) (by kernel_rfl) K23), ?_⟩
          exact giv_run (run_ldP rfl (eval_tmp (hd.val (j := 27) (s := 93) (by kernel_rfl) K27)) (Sl.own (hO3.grow hS)) (flat_at placeC_len hp 2 rfl) (by kernel_rfl)) K28
        · refine asks_mk fun a W hS hh hd => ⟨wanted_of (j := 23) (s := 89) (by kernel_rfl) (hd.val (j := 23) (s := 89) (by kernel_rfl) K23), ?_⟩
          exact giv_run (run_mv rfl (eval_tmp (hh 0 _ rfl (hF17.at 0 rfl)))) K29
        · refine asks_mk fun a W hS hh hd => ⟨wanted_of (j := 23) (s := 89) (by kernel_rfl) (hd.val (j := 23) (s := 89) (by kernel_rfl) K23), ?_⟩
          exact giv_run (run_mv rfl (eval_tmp (hh 10 _ rfl (hF17.at 10 rfl)))) K30
        · refine asks_mk fun a W hS hh hd => ⟨wanted_of (j := 23) (s := 89) (by kernel_rfl) (hd.val (j := 23) (s := 89) (by kernel_rfl) K23), ?_⟩
          exact giv_run (run_atP (i := i) rfl (eval_tmp (hd.val (j := 29) (s := 95) (by kernel_rfl) K29)) (eval_tmp (hd.val (j := 30) (s := 96) (by kernel_rfl) K30)) rfl (hV.below (hM3.grow hS).below) (by omega) elBox.un (by kernel_rfl)) K31
        · refine asks_mk fun a W hS hh hd => ⟨wanted_of (j := 23) (s := 89) (by kernel_rfl) (hd.val (j := 23) (s := 89) (by kernel_rfl) K23), ?_⟩
          exact giv_run (run_fldP (m2 := 1) (s := 1) rfl (eval_tmp (hd.val (j := 31) (s := 97) (by kernel_rfl) K31)) (hV.below (hM3.grow hS).below) (by omega) Try.underlying29 rfl rfl (by kernel_rfl) (by decide)) K32
        · refine asks_mk fun a W hS hh hd => ⟨wanted_of (j := 23) (s := 89) (by kernel_rfl) (hd.val (j := 23) (s := 89) (by kernel_rfl) K23), ?_⟩
          exact giv_run (run_ldP rfl (eval_tmp (hd.val (j := 32) (s := 98) (by kernel_rfl) K32)) (hV.below (hM3.grow hS).below) (flat_at boxC_len hx 1 rfl) (by kernel_rfl)) K33
        · refine asks_mk fun a W hS hh hd => ⟨wanted_of (j := 23) (s := 89) (by kernel_rfl) (hd.val (j := 23) (s := 89) (by kernel_rfl) K23), ?_⟩
          exact giv_run (run_len rfl (eval_tmp (hd.val (j := 33) (s := 99) (by kernel_rfl) K33)) rfl Try.underlying9) K34
        · refine asks_mk fun a W hS hh hd => ⟨wanted_of (j := 23) (s := 89) (by kernel_rfl) (hd.val (j := 23) (s := 89) (by kernel_rfl) K23), ?_⟩
          exact giv_run (run_nei rfl (eval_tmp (hd.val (j := 28) (s := 94) (by kernel_rfl) K28)) (eval_tmp (hd.val (j := 34) (s := 100) (by kernel_rfl) K34)) (bne_eq_false_iff_eq.2 (by omega))) K35
        · refine asks_mk fun a W hS hh hd => ⟨wanted_yes rfl, ?_⟩
          exact giv_run (run_pick rfl (eval_tmp (hd.val (j := 23) (s := 89) (by kernel_rfl) K23)) rfl (eval_tmp (hd.val (j := 35) (s := 101) (by kernel_rfl) K35))) K36
        · refine asks_mk fun a W hS hh hd => ⟨wanted_yes rfl, ?_⟩
          exact giv_run (run_mv rfl (eval_tmp (hd.val (j := 36) (s := 102) (by kernel_rfl) K36))) K37
        · refine asks_mk fun a W hS hh hd => ⟨wanted_of (j := 37) (s := 103) (by kernel_rfl) (hd.val (j := 37) (s := 103) (by kernel_rfl) K37), ?_⟩
          exact giv_run (run_mv rfl (eval_tmp (hh 7 _ rfl (hF17.at 7 rfl)))) K38
        · refine asks_mk fun a W hS hh hd => ⟨wanted_of (j := 37) (s := 103) (by kernel_rfl) (hd.val (j := 37) (s := 103) (by kernel_rfl) K37), ?_⟩
          exact giv_run (run_mv rfl (eval_tmp (hh 10 _ rfl (hF17.at 10 rfl)))) K39
        · refine asks_mk fun a W hS hh hd => ⟨wanted_of (j := 37) (s := 103) (by kernel_rfl) (hd.val (j := 37) (s := 103) (by kernel_rfl) K37), ?_⟩
          exact giv_run (run_atP (i := i) rfl (eval_tmp (hd.val (j := 38) (s := 104) (by kernel_rfl) K38)) (eval_tmp (hd.val (j := 39) (s := 105) (by kernel_rfl) K39)) rfl (Sl.own (hO3.grow hS)) (by omega) elPlace.un (by kernel_rfl)) K40
        · refine asks_mk fun a W hS hh hd => ⟨wanted_of (j := 37) (s := 103) (by kernel_rfl) (hd.val (j := 37) (s := 103) (by kernel_rfl) K37), ?_⟩
          exact giv_run (run_fldP (m2 := 1) (s := 1) rfl (eval_tmp (hd.val (j := 40) (s := 106) (by kernel_rfl) K40)) (Sl.own (hO3.grow hS)) (by omega) Try.underlying39 rfl rfl (by kernel_rfl) (by decide)) K41
        · refine asks_mk fun a W hS hh hd => ⟨wanted_of (j := 37) (s := 103) (by kernel_rfl) (hd.val (j := 37) (s := 103) (by kernel_rfl) K37), ?_⟩
          exact giv_run (run_ldP rfl (eval_tmp (hd.val (j := 41) (s := 107) (by kernel_rfl) K41)) (Sl.own (hO3.grow hS)) (flat_at placeC_len hp 1 rfl) (by kernel_rfl)) K42
        · refine asks_mk fun a W hS hh hd => ⟨wanted_of (j := 37) (s := 103) (by kernel_rfl) (hd.val (j := 37) (s := 103) (by kernel_rfl) K37), ?_⟩
          exact giv_run (run_lss rfl (eval_tmp (hd.val (j := 42) (s := 108) (by kernel_rfl) K42)) rfl (decide_eq_false (by omega))) K43
        · refine asks_mk fun a W hS hh hd => ⟨wanted_yes rfl, ?_⟩
          exact giv_run (run_pick rfl (eval_tmp (hd.val (j := 37) (s := 103) (by kernel_rfl) K37)) rfl (eval_tmp (hd.val (j := 43) (s := 109) (by kernel_rfl) K43))) K44
        · refine asks_mk fun a W hS hh hd => ⟨wanted_yes rfl, ?_⟩
          exact giv_run (run_mv rfl (eval_tmp (hd.val (j := 44) (s := 110) (by kernel_rfl) K44))) K45
        · refine asks_mk fun a W hS hh hd => ⟨wanted_of (j := 45) (s := 111) (by kernel_rfl) (hd.val (j := 45) (s := 111) (by kernel_rfl) K45), ?_⟩
          exact giv_run (run_mv rfl (eval_tmp (hh 7 _ rfl (hF17.at 7 rfl)))) K46
        · refine asks_mk fun a W hS hh hd => ⟨wanted_of (j := 45) (s := 111) (by kernel_rfl) (hd.val (j := 45) (s := 111) (by kernel_rfl) K45), ?_⟩
          exact giv_run (run_mv rfl (eval_tmp (hh 10 _ rfl (hF17.at 10 rfl)))) K47
        · refine asks_mk fun a W hS hh hd => ⟨wanted_of (j := 45) (s := 111) (by kernel_rfl) (hd.val (j := 45) (s := 111) (by kernel_rfl) K45), ?_⟩
          exact giv_run (run_atP (i := i) rfl (eval_tmp (hd.val (j := 46) (s := 112) (by kernel_rfl) K46)) (eval_tmp (hd.val (j := 47) (s := 113) (by kernel_rfl) K47)) rfl (Sl.own (hO3.grow hS)) (by omega) elPlace.un (by kernel_rfl)) K48
        · refine asks_mk fun a W hS hh hd => ⟨wanted_of (j := 45) (s := 111) (by kernel_rfl) (hd.val (j := 45) (s := 111) (by kernel_rfl) K45), ?_⟩
          exact giv_run (run_fldP (m2 := 1) (s := 1) rfl (eval_tmp (hd.val (j := 48) (s := 114) (by kernel_rfl) K48)) (Sl.own (hO3.grow hS)) (by omega) Try.underlying39 rfl rfl (by kernel_rfl) (by decide)) K49
        · refine asks_mk fun a W hS hh hd => ⟨wanted_of (j := 45) (s := 111) (by kernel_rfl) (hd.val (j := 45) (s := 111) (by kernel_rfl) K45), ?_⟩
          exact giv_run (run_ldP rfl (eval_tmp (hd.val (j := 49) (s := 115) (by kernel_rfl) K49)) (Sl.own (hO3.grow hS)) (flat_at placeC_len hp 1 rfl) (by kernel_rfl)) K50
        · refine asks_mk fun a W hS hh hd => ⟨wanted_of (j := 45) (s := 111) (by kernel_rfl) (hd.val (j := 45) (s := 111) (by kernel_rfl) K45), ?_⟩
          exact giv_run (run_mv rfl (eval_tmp (hh 7 _ rfl (hF17.at 7 rfl)))) K51
        · refine asks_mk fun a W hS hh hd => ⟨wanted_of (j := 45) (s := 111) (by kernel_rfl) (hd.val (j := 45) (s := 111) (by kernel_rfl) K45), ?_⟩
          exact giv_run (run_mv rfl (eval_tmp (hh 10 _ rfl (hF17.at 10 rfl)))) K52
        · refine asks_mk fun a W hS hh hd => ⟨wanted_of (j := 45) (s := 111) (by kernel_rfl) (hd.val (j := 45) (s := 111) (by kernel_rfl) K45), ?_⟩
          exact giv_run (run_atP (i := i) rfl (eval_tmp (hd.val (j := 51) (s := 117) (by kernel_rfl) K51)) (eval_tmp (hd.val (j := 52) (s := 118) (by kernel_rfl) K52)) rfl (Sl.own (hO3.grow hS)) (by omega) elPlace.un (by kernel_rfl)) K53
        · refine asks_mk fun a W hS hh hd => ⟨wanted_of (j := 45) (s := 111) (by kernel_rfl) (hd.val (j := 45) (s := 111) (by kernel_rfl) K45), ?_⟩
          exact giv_run (run_fldP (m2 := 1) (s := 2) rfl (eval_tmp (hd.val (j := 53) (s := 119) (by kernel_rfl) K53)) (Sl.own (hO3.grow hS)) (by omega) Try.underlying39 rfl rfl (by kernel_rfl) (by decide)) K54
        · refine asks_mk fun a W hS hh hd => ⟨wanted_of (j := 45) (s := 111) (by kernel_rfl) (hd.val (j := 45) (s := 111) (by kernel_rfl) K45), ?_⟩
          exact giv_run (run_ldP rfl (eval_tmp (hd.val (j := 54) (s := 120) (by kernel_rfl) K54)) (Sl.own (hO3.grow hS)) (flat_at placeC_len hp 2 rfl) (by kernel_rfl)) K55
        · refine asks_mk fun a W hS hh hd => ⟨wanted_of (j := 45) (s := 111) (by kernel_rfl) (hd.val (j := 45) (s := 111) (by kernel_rfl) K45), ?_⟩
          exact giv_run (run_add (r := ((p.2.1 + p.2.2 : Nat) : Int)) rfl (eval_tmp (hd.val (j := 50) (s := 116) (by kernel_rfl) K50)) (eval_tmp (hd.val (j := 55) (s := 121) (by kernel_rfl) K55)) (by rw [IntKind.wrap_i64]; omega)) K56
        · refine asks_mk fun a W hS hh hd => ⟨wanted_of (j := 45) (s := 111) (by kernel_rfl) (hd.val (j := 45) (s := 111) (by kernel_rfl) K45), ?_⟩
          exact giv_run (run_mv rfl (eval_tmp (hh 5 _ rfl (hF17.at 5 rfl)))) K57
        · refine asks_mk fun a W hS hh hd => ⟨wanted_of (j := 45) (s := 111) (by kernel_rfl) (hd.val (j := 45) (s := 111) (by kernel_rfl) K45), ?_⟩
          exact giv_run (run_len rfl (eval_tmp (hd.val (j := 57) (s := 123) (by kernel_rfl) K57)) rfl Try.underlying9) K58
        · refine asks_mk fun a W hS hh hd => ⟨wanted_of (j := 45) (s := 111) (by kernel_rfl) (hd.val (j := 45) (s := 111) (by kernel_rfl) K45), ?_⟩
          exact giv_run (run_gtr rfl (eval_tmp (hd.val (j := 56) (s := 122) (by kernel_rfl) K56)) (eval_tmp (hd.val (j := 58) (s := 124) (by kernel_rfl) K58)) (decide_eq_false (by omega))) K59
        · refine asks_mk fun a W hS hh hd => ⟨wanted_yes rfl, ?_⟩
          exact giv_run (run_pick rfl (eval_tmp (hd.val (j := 45) (s := 111) (by kernel_rfl) K45)) rfl (eval_tmp (hd.val (j := 59) (s := 125) (by kernel_rfl) K59))) K60
        · refine asks_mk fun a W hS hh hd => ⟨wanted_yes rfl, ?_⟩
          exact giv_run (run_mv rfl (eval_tmp (hd.val (j := 60) (s := 126) (by kernel_rfl) K60))) K61
        · refine asks_mk fun a W hS hh hd => ⟨wanted_of (j := 61) (s := 127) (by kernel_rfl) (hd.val (j := 61) (s := 127) (by kernel_rfl) K61), ?_⟩
          exact giv_run (run_mv rfl (eval_tmp (hh 5 _ rfl (hF17.at 5 rfl)))) K62
        · refine asks_mk fun a W hS hh hd => ⟨wanted_of (j := 61) (s := 127) (by kernel_rfl) (hd.val (j := 61) (s := 127) (by kernel_rfl) K61), ?_⟩
          exact giv_run (run_mv rfl (eval_tmp (hh 7 _ rfl (hF17.at 7 rfl)))) K63
        · refine asks_mk fun a W hS hh hd => ⟨wanted_of (j := 61) (s := 127) (by kernel_rfl) (hd.val (j := 61) (s := 127) (by kernel_rfl) K61), ?_⟩
          exact giv_run (run_mv rfl (eval_tmp (hh 10 _ rfl (hF17.at 10 rfl)))) K64
        · refine asks_mk fun a W hS hh hd => ⟨wanted_of (j := 61) (s := 127) (by kernel_rfl) (hd.val (j := 61) (s := 127) (by kernel_rfl) K61), ?_⟩
          exact giv_run (run_atP (i := i) rfl (eval_tmp (hd.val (j := 63) (s := 129) (by kernel_rfl) K63)) (eval_tmp (hd.val (j := 64) (s := 130) (by kernel_rfl) K64)) rfl (Sl.own (hO3.grow hS)) (by omega) elPlace.un (by kernel_rfl)) K65
        · refine asks_mk fun a W hS hh hd => ⟨wanted_of (j := 61) (s := 127) (by kernel_rfl) (hd.val (j := 61) (s := 127) (by kernel_rfl) K61), ?_⟩
          exact giv_run (run_fldP (m2 := 1) (s := 1) rfl (eval_tmp (hd.val (j := 65) (s := 131) (by kernel_rfl) K65)) (Sl.own (hO3.grow hS)) (by omega) Try.underlying39 rfl rfl (by kernel_rfl) (by decide)) K66
        · refine asks_mk fun a W hS hh hd => ⟨wanted_of (j := 61) (s := 127) (by kernel_rfl) (hd.val (j := 61) (s := 127) (by kernel_rfl) K61), ?_⟩
          exact giv_run (run_ldP rfl (eval_tmp (hd.val (j := 66) (s := 132) (by kernel_rfl) K66)) (Sl.own (hO3.grow hS)) (flat_at placeC_len hp 1 rfl) (by kernel_rfl)) K67
        · refine asks_mk fun a W hS hh hd => ⟨wanted_of (j := 61) (s := 127) (by kernel_rfl) (hd.val (j := 61) (s := 127) (by kernel_rfl) K61), ?_⟩
          exact giv_run (run_mv rfl (eval_tmp (hh 7 _ rfl (hF17.at 7 rfl)))) K68
        · refine asks_mk fun a W hS hh hd => ⟨wanted_of (j := 61) (s := 127) (by kernel_rfl) (hd.val (j := 61) (s := 127) (by kernel_rfl) K61), ?_⟩
          exact giv_run (run_mv rfl (eval_tmp (hh 10 _ rfl (hF17.at 10 rfl)))) K69
        · refine asks_mk fun a W hS hh hd => ⟨wanted_of (j := 61) (s := 127) (by kernel_rfl) (hd.val (j := 61) (s := 127) (by kernel_rfl) K61), ?_⟩
          exact giv_run (run_atP (i := i) rfl (eval_tmp (hd.val (j := 68) (s := 134) (by kernel_rfl) K68)) (eval_tmp (hd.val (j := 69) (s := 135) (by kernel_rfl) K69)) rfl (Sl.own (hO3.grow hS)) (by omega) elPlace.un (by kernel_rfl)) K70
        · refine asks_mk fun a W hS hh hd => ⟨wanted_of (j := 61) (s := 127) (by kernel_rfl) (hd.val (j := 61) (s := 127) (by kernel_rfl) K61), ?_⟩
          exact giv_run (run_fldP (m2 := 1) (s := 1) rfl (eval_tmp (hd.val (j := 70) (s := 136) (by kernel_rfl) K70)) (Sl.own (hO3.grow hS)) (by omega) Try.underlying39 rfl rfl (by kernel_rfl) (by decide)) K71
        · refine asks_mk fun a W hS hh hd => ⟨wanted_of (j := 61) (s := 127) (by kernel_rfl) (hd.val (j := 61) (s := 127) (by kernel_rfl) K61), ?_⟩
          exact giv_run (run_ldP rfl (eval_tmp (hd.val (j := 71) (s := 137) (by kernel_rfl) K71)) (Sl.own (hO3.grow hS)) (flat_at placeC_len hp 1 rfl) (by kernel_rfl)) K72
        · refine asks_mk fun a W hS hh hd => ⟨wanted_of (j := 61) (s := 127) (by kernel_rfl) (hd.val (j := 61) (s := 127) (by kernel_rfl) K61), ?_⟩
          exact giv_run (run_mv rfl (eval_tmp (hh 7 _ rfl (hF17.at 7 rfl)))) K73
        · refine asks_mk fun a W hS hh hd => ⟨wanted_of (j := 61) (s := 127) (by kernel_rfl) (hd.val (j := 61) (s := 127) (by kernel_rfl) K61), ?_⟩
          exact giv_run (run_mv rfl (eval_tmp (hh 10 _ rfl (hF17.at 10 rfl)))) K74
        · refine asks_mk fun a W hS hh hd => ⟨wanted_of (j := 61) (s := 127) (by kernel_rfl) (hd.val (j := 61) (s := 127) (by kernel_rfl) K61), ?_⟩
          exact giv_run (run_atP (i := i) rfl (eval_tmp (hd.val (j := 73) (s := 139) (by kernel_rfl) K73)) (eval_tmp (hd.val (j := 74) (s := 140) (by kernel_rfl) K74)) rfl (Sl.own (hO3.grow hS)) (by omega) elPlace.un (by kernel_rfl)) K75
        · refine asks_mk fun a W hS hh hd => ⟨wanted_of (j := 61) (s := 127) (by kernel_rfl) (hd.val (j := 61) (s := 127) (by kernel_rfl) K61), ?_⟩
          exact giv_run (run_fldP (m2 := 1) (s := 2) rfl (eval_tmp (hd.val (j := 75) (s := 141) (by kernel_rfl) K75)) (Sl.own (hO3.grow hS)) (by omega) Try.underlying39 rfl rfl (by kernel_rfl) (by decide)) K76
        · refine asks_mk fun a W hS hh hd => ⟨wanted_of (j := 61) (s := 127) (by kernel_rfl) (hd.val (j := 61) (s := 127) (by kernel_rfl) K61), ?_⟩
          exact giv_run (run_ldP rfl (eval_tmp (hd.val (j := 76) (s := 142) (by kernel_rfl) K76)) (Sl.own (hO3.grow hS)) (flat_at placeC_len hp 2 rfl) (by kernel_rfl)) K77
        · refine asks_mk fun a W hS hh hd => ⟨wanted_of (j := 61) (s := 127) (by kernel_rfl) (hd.val (j := 61) (s := 127) (by kernel_rfl) K61), ?_⟩
          exact giv_run (run_add (r := ((p.2.1 + p.2.2 : Nat) : Int)) rfl (eval_tmp (hd.val (j := 72) (s := 138) (by kernel_rfl) K72)) (eval_tmp (hd.val (j := 77) (s := 143) (by kernel_rfl) K77)) (by rw [IntKind.wrap_i64]; omega)) K78
        · refine asks_mk fun a W hS hh hd => ⟨wanted_of (j := 61) (s := 127) (by kernel_rfl) (hd.val (j := 61) (s := 127) (by kernel_rfl) K61), ?_⟩
          exact giv_run (run_sMidE (m := p.2.1) (m2 := (p.2.1 + p.2.2)) hcut rfl (eval_tmp (hd.val (j := 62) (s := 128) (by kernel_rfl) K62)) (eval_tmp (hd.val (j := 67) (s := 133) (by kernel_rfl) K67)) (eval_tmp (hd.val (j := 78) (s := 144) (by kernel_rfl) K78)) Try.underlying9 rfl rfl (by omega) (by omega)) K79
        · refine asks_mk fun a W hS hh hd => ⟨wanted_of (j := 61) (s := 127) (by kernel_rfl) (hd.val (j := 61) (s := 127) (by kernel_rfl) K61), ?_⟩
          exact giv_run (run_mv rfl (eval_tmp (hh 0 _ rfl (hF17.at 0 rfl)))) K80
        · refine asks_mk fun a W hS hh hd => ⟨wanted_of (j := 61) (s := 127) (by kernel_rfl) (hd.val (j := 61) (s := 127) (by kernel_rfl) K61), ?_⟩
          exact giv_run (run_mv rfl (eval_tmp (hh 10 _ rfl (hF17.at 10 rfl)))) K81
        · refine asks_mk fun a W hS hh hd => ⟨wanted_of (j := 61) (s := 127) (by kernel_rfl) (hd.val (j := 61) (s := 127) (by kernel_rfl) K61), ?_⟩
          exact giv_run (run_atP (i := i) rfl (eval_tmp (hd.val (j := 80) (s := 146) (by kernel_rfl) K80)) (eval_tmp (hd.val (j := 81) (s := 147) (by kernel_rfl) K81)) rfl (hV.below (hM3.grow hS).below) (by omega) elBox.un (by kernel_rfl)) K82
        · refine asks_mk fun a W hS hh hd => ⟨wanted_of (j := 61) (s := 127) (by kernel_rfl) (hd.val (j := 61) (s := 127) (by kernel_rfl) K61), ?_⟩
          exact giv_run (run_fldP (m2 := 1) (s := 1) rfl (eval_tmp (hd.val (j := 82) (s := 148) (by kernel_rfl) K82)) (hV.below (hM3.grow hS).below) (by omega) Try.underlying29 rfl rfl (by kernel_rfl) (by decide)) K83
        · refine asks_mk fun a W hS hh hd => ⟨wanted_of (j := 61) (s := 127) (by kernel_rfl) (hd.val (j := 61) (s := 127) (by kernel_rfl) K61), ?_⟩
          exact giv_run (run_ldP rfl (eval_tmp (hd.val (j := 83) (s := 149) (by kernel_rfl) K83)) (hV.below (hM3.grow hS).below) (flat_at boxC_len hx 1 rfl) (by kernel_rfl)) K84
        · refine asks_mk fun a W hS hh hd => ⟨wanted_of (j := 61) (s := 127) (by kernel_rfl) (hd.val (j := 61) (s := 127) (by kernel_rfl) K61), ?_⟩
          exact giv_run (run_nes rfl (eval_tmp (hd.val (j := 79) (s := 145) (by kernel_rfl) K79)) (eval_tmp (hd.val (j := 84) (s := 150) (by kernel_rfl) K84)) (by simp)) K85
        · refine asks_mk fun a W hS hh hd => ⟨wanted_yes rfl, ?_⟩
          exact giv_run (run_pick rfl (eval_tmp (hd.val (j := 61) (s := 127) (by kernel_rfl) K61)) rfl (eval_tmp (hd.val (j := 85) (s := 151) (by kernel_rfl) K85))) K86
      · intro a18 w5 hb5 hK
        have e0 := hK.val (i := 0) (s := 66) (by kernel_rfl) K0
        have e1 := hK.val (i := 1) (s := 67) (by kernel_rfl) K1
        have e2 := hK.val (i := 2) (s := 68) (by kernel_rfl) K2
        have e3 := hK.val (i := 3) (s := 69) (by kernel_rfl) K3
        have e4 := hK.val (i := 4) (s := 70) (by kernel_rfl) K4
        have e5 := hK.val (i := 5) (s := 71) (by kernel_rfl) K5
        have e6 := hK.val (i := 6) (s := 72) (by kernel_rfl) K6
        have e7 := hK.val (i := 7) (s := 73) (by kernel_rfl) K7
        have e8 := hK.val (i := 8) (s := 74) (by kernel_rfl) K8
        have e9 := hK.val (i := 9) (s := 75) (by kernel_rfl) K9
        have e10 := hK.val (i := 10) (s := 76) (by kernel_rfl) K10
        have e11 := hK.val (i := 11) (s := 77) (by kernel_rfl) K11
        have e12 := hK.val (i := 12) (s := 78) (by kernel_rfl) K12
        have e13 := hK.val (i := 13) (s := 79) (by kernel_rfl) K13
        have e14 := hK.val (i := 14) (s := 80) (by kernel_rfl) K14
        have e15 := hK.val (i := 15) (s := 81) (by kernel_rfl) K15
        have e16 := hK.val (i := 16) (s := 82) (by kernel_rfl) K16
        have e17 := hK.val (i := 17) (s := 83) (by kernel_rfl) K17
        have e18 := hK.val (i := 18) (s := 84) (by kernel_rfl) K18
        have e19 := hK.val (i := 19) (s := 85) (by kernel_rfl) K19
        have e20 := hK.val (i := 20) (s := 86) (by kernel_rfl) K20
        have e21 := hK.val (i := 21) (s := 87) (by kernel_rfl) K21
        have e22 := hK.val (i := 22) (s := 88) (by kernel_rfl) K22
        have e23 := hK.val (i := 23) (s := 89) (by kernel_rfl) K23
        have e24 := hK.val (i := 24) (s := 90) (by kernel_rfl) K24
        have e25 := hK.val (i := 25) (s := 91) (by kernel_rfl) K25
        have e26 := hK.val (i := 26) (s := 92) (by kernel_rfl) K26
        have e27 := hK.val (i := 27) (s := 93) (by kernel_rfl) K27
        have e28 := hK.val (i := 28) (s := 94) (by kernel_rfl) K28
        have e29 := hK.val (i := 29) (s := 95) (by kernel_rfl) K29
        have e30 := hK.val (i := 30) (s := 96) (by kernel_rfl) K30
        have e31 := hK.val (i := 31) (s := 97) (by kernel_rfl) K31
        have e32 := hK.val (i := 32) (s := 98) (by kernel_rfl) K32
        have e33 := hK.val (i := 33) (s := 99) (by kernel_rfl) K33
        have e34 := hK.val (i := 34) (s := 100) (by kernel_rfl) K34
        have e35 := hK.val (i := 35) (s := 101) (by kernel_rfl) K35
        have e36 := hK.val (i := 36) (s := 102) (by kernel_rfl) K36
        have e37 := hK.val (i := 37) (s := 103) (by kernel_rfl) K37
        have e38 := hK.val (i := 38) (s := 104) (by kernel_rfl) K38
        have e39 := hK.val (i := 39) (s := 105) (by kernel_rfl) K39
        have e40 := hK.val (i := 40) (s := 106) (by kernel_rfl) K40
        have e41 := hK.val (i := 41) (s := 107) (by kernel_rfl) K41
        have e42 := hK.val (i := 42) (s := 108) (by kernel_rfl) K42
        have e43 := hK.val (i := 43) (s := 109) (by kernel_rfl) K43
        have e44 := hK.val (i := 44) (s := 110) (by kernel_rfl) K44
        have e45 := hK.val (i := 45) (s := 111) (by kernel_rfl) K45
        have e46 := hK.val (i := 46) (s := 112) (by kernel_rfl) K46
        have e47 := hK.val (i := 47) (s := 113) (by kernel_rfl) K47
        have e48 := hK.val (i := 48) (s := 114) (by kernel_rfl) K48
        have e49 := hK.val (i := 49) (s := 115) (by kernel_rfl) K49
        have e50 := hK.val (i := 50) (s := 116) (by kernel_rfl) K50
        have e51 := hK.val (i := 51) (s := 117) (by kernel_rfl) K51
        have e52 := hK.val (i := 52) (s := 118) (by kernel_rfl) K52
        have e53 := hK.val (i := 53) (s := 119) (by kernel_rfl) K53
        have e54 := hK.val (i := 54) (s := 120) (by kernel_rfl) K54
        have e55 := hK.val (i := 55) (s := 121) (by kernel_rfl) K55
        have e56 := hK.val (i := 56) (s := 122) (by kernel_rfl) K56
        have e57 := hK.val (i := 57) (s := 123) (by kernel_rfl) K57
        have e58 := hK.val (i := 58) (s := 124) (by kernel_rfl) K58
        have e59 := hK.val (i := 59) (s := 125) (by kernel_rfl) K59
        have e60 := hK.val (i := 60) (s := 126) (by kernel_rfl) K60
        have e61 := hK.val (i := 61) (s := 127) (by kernel_rfl) K61
        have e62 := hK.val (i := 62) (s := 128) (by kernel_rfl) K62
        have e63 := hK.val (i := 63) (s := 129) (by kernel_rfl) K63
        have e64 := hK.val (i := 64) (s := 130) (by kernel_rfl) K64
        have e65 := hK.val (i := 65) (s := 131) (by kernel_rfl) K65
        have e66 := hK.val (i := 66) (s := 132) (by kernel_rfl) K66
        have e67 := hK.val (i := 67) (s := 133) (by kernel_rfl) K67
        have e68 := hK.val (i := 68) (s := 134) (by kernel_rfl) K68
        have e69 := hK.val (i := 69) (s := 135) (by kernel_rfl) K69
        have e70 := hK.val (i := 70) (s := 136) (by kernel_rfl) K70
        have e71 := hK.val (i := 71) (s := 137) (by kernel_rfl) K71
        have e72 := hK.val (i := 72) (s := 138) (by kernel_rfl) K72
        have e73 := hK.val (i := 73) (s := 139) (by kernel_rfl) K73
        have e74 := hK.val (i := 74) (s := 140) (by kernel_rfl) K74
        have e75 := hK.val (i := 75) (s := 141) (by kernel_rfl) K75
        have e76 := hK.val (i := 76) (s := 142) (by kernel_rfl) K76
        have e77 := hK.val (i := 77) (s := 143) (by kernel_rfl) K77
        have e78 := hK.val (i := 78) (s := 144) (by kernel_rfl) K78
        have e79 := hK.val (i := 79) (s := 145) (by kernel_rfl) K79
        have e80 := hK.val (i := 80) (s := 146) (by kernel_rfl) K80
        have e81 := hK.val (i := 81) (s := 147) (by kernel_rfl) K81
        have e82 := hK.val (i := 82) (s := 148) (by kernel_rfl) K82
        have e83 := hK.val (i := 83) (s := 149) (by kernel_rfl) K83
        have e84 := hK.val (i := 84) (s := 150) (by kernel_rfl) K84
        have e85 := hK.val (i := 85) (s := 151) (by kernel_rfl) K85
        have e86 := hK.val (i := 86) (s := 152) (by kernel_rfl) K86
        have hF18 : Fr a18 176 [(0, v), (1, (.string ⟨m.toArray⟩)), (5, (.string ⟨B.toArray⟩)), (7, v1), (9, (.bool true)), (10, (.int .i64 (i : Int))), (11, (.pointer (some ⟨g2, 0, none⟩))), (50, (.int .i64 (i : Int))), (51, v), (52, (.int .i64 (l.length : Int))), (53, (.bool true)), (56, (.tuple #[(.agg #[.string ⟨x.1.toArray⟩, .string ⟨x.2.toArray⟩]), (.int .i64 0)])), (57, (.string ⟨B.toArray⟩)), (58, v), (59, (.int .i64 (i : Int))), (60, (slPtr v (i * 2))), (61, (slPtr v (i * 2 + 0))), (62, (.string ⟨x.1.toArray⟩)), (63, (.tuple #[(.agg #[.string ⟨x.1.toArray⟩, .string ⟨x.2.toArray⟩]), (.int .i64 0)])), (64, (.agg #[.string ⟨x.1.toArray⟩, .string ⟨x.2.toArray⟩])), (65, (.int .i64 0)), (152, (.bool false))] := (hK.fr hF17 [(.int .i64 0), (.bool false), (.bool false), (.agg #[.string ⟨x.1.toArray⟩, .string ⟨x.2.toArray⟩]), v, (.int .i64 (i : Int)), (slPtr v (i * 2)), (.agg #[.string ⟨x.1.toArray⟩, .string ⟨x.2.toArray⟩]), (.bool false), (.bool false), (.bool false), v1, (.int .i64 (i : Int)), (slPtr v1 (i * 3)), (slPtr v1 (i * 3 + 0)), (.string ⟨p.1.toArray⟩), v, (.int .i64 (i : Int)), (slPtr v (i * 2)), (slPtr v (i * 2 + 0)), (.string ⟨x.1.toArray⟩), (.bool false), (.bool false), (.bool false), v1, (.int .i64 (i : Int)), (slPtr v1 (i * 3)), (slPtr v1 (i * 3 + 2)), (.int .i64 (p.2.2 : Int)), v, (.int .i64 (i : Int)), (slPtr v (i * 2)), (slPtr v (i * 2 + 1)), (.string ⟨x.2.toArray⟩), (.int .i64 (x.2.length : Int)), (.bool false), (.bool false), (.bool false), v1, (.int .i64 (i : Int)), (slPtr v1 (i * 3)), (slPtr v1 (i * 3 + 1)), (.int .i64 (p.2.1 : Int)), (.bool false), (.bool false), (.bool false), v1, (.int .i64 (i : Int)), (slPtr v1 (i * 3)), (slPtr v1 (i * 3 + 1)), (.int .i64 (p.2.1 : Int)), v1, (.int .i64 (i : Int)), (slPtr v1 (i * 3)), (slPtr v1 (i * 3 + 2)), (.int .i64 (p.2.2 : Int)), (.int .i64 ((p.2.1 + p.2.2 : Nat) : Int)), (.string ⟨B.toArray⟩), (.int .i64 (B.length : Int)), (.bool false), (.bool false), (.bool false), (.string ⟨B.toArray⟩), v1, (.int .i64 (i : Int)), (slPtr v1 (i * 3)), (slPtr v1 (i * 3 + 1)), (.int .i64 (p.2.1 : Int)), v1, (.int .i64 (i : Int)), (slPtr v1 (i * 3)), (slPtr v1 (i * 3 + 1)), (.int .i64 (p.2.1 : Int)), v1, (.int .i64 (i : Int)), (slPtr v1 (i * 3)), (slPtr v1 (i * 3 + 2)), (.int .i64 (p.2.2 : Int)), (.int .i64 ((p.2.1 + p.2.2 : Nat) : Int)), (.string ⟨x.2.toArray⟩), v, (.int .i64 (i : Int)), (slPtr v (i * 2)), (slPtr v (i * 2 + 1)), (.string ⟨x.2.toArray⟩), (.bool false), (.bool false)] ⟨e0, e1, e2, e3, e4, e5, e6, e7, e8, e9, e10, e11, e12, e13, e14, e15, e16, e17, e18, e19, e20, e21, e22, e23, e24, e25, e26, e27, e28, e29, e30, e31, e32, e33, e34, e35, e36, e37, e38, e39, e40, e41, e42, e43, e44, e45, e46, e47, e48, e49, e50, e51, e52, e53, e54, e55, e56, e57, e58, e59, e60, e61, e62, e63, e64, e65, e66, e67, e68, e69, e70, e71, e72, e73, e74, e75, e76, e77, e78, e79, e80, e81, e82, e83, e84, e85, e86, trivial⟩).sub ⟨rfl, rfl, rfl, rfl, rfl, rfl, rfl, rfl, rfl, rfl, rfl, rfl, rfl, rfl, rfl, rfl, rfl, rfl, rfl, rfl, rfl, rfl, trivial⟩
        have hM4 := hM3.grow hb5
        have hO4 := hO3.grow hb5
        clear hK K0 e0 K1 e1 K2 e2 K3 e3 K4 e4 K5 e5 K6 e6 K7 e7 K8 e8 K9 e9 K10 e10 K11 e11 K12 e12 K13 e13 K14 e14 K15 e15 K16 e16 K17 e17 K18 e18 K19 e19 K20 e20 K21 e21 K22 e22 K23 e23 K24 e24 K25 e25 K26 e26 K27 e27 K28 e28 K29 e29 K30 e30 K31 e31 K32 e32 K33 e33 K34 e34 K35 e35 K36 e36 K37 e37 K38 e38 K39 e39 K40 e40 K41 e41 K42 e42 K43 e43 K44 e44 K45 e45 K46 e46 K47 e47 K48 e48 K49 e49 K50 e50 K51 e51 K52 e52 K53 e53 K54 e54 K55 e55 K56 e56 K57 e57 K58 e58 K59 e59 K60 e60 K61 e61 K62 e62 K63 e63 K64 e64 K65 e65 K66 e66 K67 e67 K68 e68 K69 e69 K70 e70 K71 e71 K72 e72 K73 e73 K74 e74 K75 e75 K76 e76 K77 e77 K78 e78 K79 e79 K80 e80 K81 e81 K82 e82 K83 e83 K84 e84 K85 e85 K86 e86
        clear hF17 hM3
        refine nx ?_
        refine wp_cond_false (hF18.ev 152 rfl) ?_
        refine wp_skip ?_
        refine nx ?_
        refine wp_region_lit ?_
        refine sq (v := (.bool true)) hF18 (wantedS rfl) (run_mv rfl (hF18.ev 9 rfl)) rfl (by decide) fun a19 hF19 => ?_
        refine sq (v := (.bool true)) hF19 (wantedS rfl) (run_mv rfl (hF19.ev 153 rfl)) rfl (by decide) fun a20 hF20 => ?_
        refine sqSkip hF20 (unwantedG hF20 rfl rfl rfl rfl rfl) rfl (by decide) fun a21 hF21 => ?_
        refine sqSkip hF21 (unwantedG hF21 rfl rfl rfl rfl rfl) rfl (by decide) fun a22 hF22 => ?_
        refine sqSkip hF22 (unwantedG hF22 rfl rfl rfl rfl rfl) rfl (by decide) fun a23 hF23 => ?_
        refine sqSkip hF23 (unwantedG hF23 rfl rfl rfl rfl rfl) rfl (by decide) fun a24 hF24 => ?_
        refine sqSkip hF24 (unwantedG hF24 rfl rfl rfl rfl rfl) rfl (by decide) fun a25 hF25 => ?_
        refine sqSkip hF25 (unwantedG hF25 rfl rfl rfl rfl rfl) rfl (by decide) fun a26 hF26 => ?_
        refine sqSkip hF26 (unwantedG hF26 rfl rfl rfl rfl rfl) rfl (by decide) fun a27 hF27 => ?_
        refine sq (v := (.bool true)) hF27 (wantedS rfl) (run_pick rfl (hF27.ev 154 rfl) rfl (hF27.ev 161 rfl)) rfl (by decide) fun a28 hF28 => ?_
        refine sq (v := (.bool true)) hF28 (wantedS rfl) (run_as rfl (hF28.ev 162 rfl)) rfl (by decide) fun a29 hF29 => ?_
        refine sqEnd ?_
        clear hF18 hF19 hF20 hF21 hF22 hF23 hF24 hF25 hF26 hF27 hF28
        refine bkEnd ?_
        refine nx ?_
        refine wp_region_lit ?_
        refine sq (v := (.int .i64 (i : Int))) hF29 (wantedS rfl) (run_mv rfl (hF29.ev 10 rfl)) rfl (by decide) fun a30 hF30 => ?_
        refine sq (v := (.int .i64 ((i + 1 : Nat) : Int))) hF30 (wantedS rfl) (run_add (r := ((i + 1 : Nat) : Int)) rfl (hF30.ev 54 rfl) rfl (by rw [IntKind.wrap_i64]; omega)) rfl (by decide) fun a31 hF31 => ?_
        refine sq (v := (.int .i64 ((i + 1 : Nat) : Int))) hF31 (wantedS rfl) (run_as rfl (hF31.ev 55 rfl)) rfl (by decide) fun a32 hF32 => ?_
        refine sqEnd ?_
        clear hF29 hF30 hF31
        refine nx ?_
        exact ⟨_, by omega, i + 1, true, by omega, rfl, by rw [hms, contains_snoc, ← hb]; rfl, hO4.sub (.cons _ .slnil), hF32.sub ⟨rfl, rfl, rfl, rfl, rfl, rfl, trivial⟩, hM4.sub (.cons _ .slnil)⟩
    | false =>
      by_cases hxm : x.1 = m
      · skip
        refine wp_seq ?_
        refine wp_seq ?_
        refine wp_region_lit ?_
        refine sq (v := (.int .i64 (i : Int))) hF0 (wantedS rfl) (run_mv rfl (hF0.ev 10 rfl)) rfl (by decide) fun a1 hF1 => ?_
        refine sq (v := v) hF1 (wantedS rfl) (run_mv rfl (hF1.ev 0 rfl)) rfl (by decide) fun a2 hF2 => ?_
        refine sq (v := (.int .i64 (l.length : Int))) hF2 (wantedS rfl) (run_lenS rfl (hF2.ev 51 rfl) (hV.below hM0.below) rfl Try.underlying22) rfl (by decide) fun a3 hF3 => ?_
        refine sq (v := (.bool true)) hF3 (wantedS rfl) (run_lss rfl (hF3.ev 50 rfl) (hF3.ev 52 rfl) (decide_eq_true (by omega))) rfl (by decide) fun a4 hF4 => ?_
        refine sqEnd ?_
        clear hF0 hF1 hF2 hF3
        refine nx ?_
        refine wp_cond_true (hF4.ev 53 rfl) ?_
        refine wp_skip ?_
        refine nx ?_
        refine wp_seq ?_
        refine wp_block ?_
        refine wp_seq ?_
        refine wp_region_lit ?_
        refine sq (v := (.string ⟨B.toArray⟩)) hF4 (wantedS rfl) (run_mv rfl (hF4.ev 5 rfl)) rfl (by decide) fun a5 hF5 => ?_
        refine sq (v := v) hF5 (wantedS rfl) (run_mv rfl (hF5.ev 0 rfl)) rfl (by decide) fun a6 hF6 => ?_
        refine sq (v := (.int .i64 (i : Int))) hF6 (wantedS rfl) (run_mv rfl (hF6.ev 10 rfl)) rfl (by decide) fun a7 hF7 => ?_
        refine sq (v := (slPtr v (i * 2))) hF7 (wantedS rfl) (run_atP (i := i) rfl (hF7.ev 58 rfl) (hF7.ev 59 rfl) rfl (hV.below hM0.below) (by omega) elBox.un (by kernel_rfl)) rfl (by decide) fun a8 hF8 => ?_
        refine sq (v := (slPtr v (i * 2 + 0))) hF8 (wantedS rfl) (run_fldP (m2 := 1) (s := 0) rfl (hF8.ev 60 rfl) (hV.below hM0.below) (by omega) Try.underlying29 rfl rfl (by kernel_rfl) (by decide)) rfl (by decide) fun a9 hF9 => ?_
        refine sq (v := (.string ⟨x.1.toArray⟩)) hF9 (wantedS rfl) (run_ldP rfl (hF9.ev 61 rfl) (hV.below hM0.below) (flat_at boxC_len hx 0 rfl) (by kernel_rfl)) rfl (by decide) fun a10 hF10 => ?_
        refine sqC (v := (.tuple #[(.agg #[.string ⟨x.1.toArray⟩, .string ⟨x.2.toArray⟩]), (.int .i64 0)])) hF10 hM0 (wantedS rfl) (run_call rfl Try.func11 (by kernel_rfl) rfl (mapE2 (hF10.ev 57 rfl) (hF10.ev 62 rfl))) rfl (by decide) (by have h := ptake_any B x.1 w1 (by omega); rw [takeS_some hof (find_own hnd hx)] at h; exact h) fun a11 w2 hb2 hF11 hM1 => ?_
        have hO1 := hO0.grow hb2
        refine sq (v := (.tuple #[(.agg #[.string ⟨x.1.toArray⟩, .string ⟨x.2.toArray⟩]), (.int .i64 0)])) hF11 (wantedS rfl) (run_mv rfl (hF11.ev 63 rfl)) rfl (by decide) fun a12 hF12 => ?_
        refine sq (v := (.agg #[.string ⟨x.1.toArray⟩, .string ⟨x.2.toArray⟩])) hF12 (wantedS rfl) (run_ext rfl (hF12.ev 56 rfl) rfl) rfl (by decide) fun a13 hF13 => ?_
        refine sq (v := (.int .i64 0)) hF13 (wantedS rfl) (run_ext rfl (hF13.ev 56 rfl) rfl) rfl (by decide) fun a14 hF14 => ?_
        refine sqNew (cs := #[.string ⟨List.toArray []⟩, .string ⟨List.toArray []⟩]) (t := 29) hF14 hM1 (wantedS rfl) (run_alloc rfl (by kernel_rfl)) rfl (by decide) fun g3 a15 w3 hgg3 hb3 hF15 hM2 => ?_
        have hO2 := hO1.add (S := isB 29 (#[.string ⟨List.toArray []⟩, .string ⟨List.toArray []⟩])) hb3 hgg3
        refine sqStoreG (i := 0) hF15 hM2 rfl rfl rfl (hF15.ev 11 rfl) (hF15.ev 64 rfl) rfl szBox rfl rfl (arr_one rfl) fun a16 w4 hgr4 hF16 hM3 => ?_
        have hO3 := hO2.upd 0 (S2 := isB 29 (#[.string ⟨x.1.toArray⟩, .string ⟨x.2.toArray⟩])) rfl hgr4
        refine sq (v := (.int .i64 0)) hF16 (wantedS rfl) (run_as rfl (hF16.ev 65 rfl)) rfl (by decide) fun a17 hF17 => ?_
        refine sqEnd ?_
        clear hF4 hF5 hF6 hF7 hF8 hF9 hF10 hF11 hF12 hF13 hF14 hF15 hF16 hM0 hM1 hM2
        refine nx ?_
        refine wp_seq ?_
        refine wp_seq ?_
        obtain ⟨KL, hKL⟩ : ∃ KL, KL = [kval (.int .i64 0), kval (.bool false), kval (.bool false), kval (.agg #[.string ⟨x.1.toArray⟩, .string ⟨x.2.toArray⟩]), kval v, kval (.int .i64 (i : Int)), kval (slPtr v (i * 2)), kval (.agg #[.string ⟨x.1.toArray⟩, .string ⟨x.2.toArray⟩]), kval (.bool false), kval (.bool false), kval (.bool false), kval v1, kval (.int .i64 (i : Int)), kval (slPtr v1 (i * 3)), kval (slPtr v1 (i * 3 + 0)), kval (.string ⟨p.1.toArray⟩), kval v, kval (.int .i64 (i : Int)), kval (slPtr v (i * 2)), kval (slPtr v (i * 2 + 0)), kval (.string ⟨x.1.toArray⟩), kval (.bool false), kval (.bool false), kval (.bool false), kval v1, kval (.int .i64 (i : Int)), kval (slPtr v1 (i * 3)), kval (slPtr v1 (i * 3 + 2)), kval (.int .i64 (p.2.2 : Int)), kval v, kval (.int .i64 (i : Int)), kval (slPtr v (i * 2)), kval (slPtr v (i * 2 + 1)), kval (.string ⟨x.2.toArray⟩), kval (.int .i64 (x.2.length : Int)), kval (.bool false), kval (.bool false), kval (.bool false), kval v1, kval (.int .i64 (i : Int)), kval (slPtr v1 (i * 3)), kval (slPtr v1 (i * 3 + 1)), kval (.int .i64 (p.2.1 : Int)), kval (.bool false), kval (.bool false), kval (.bool false), kval v1, kval (.int .i64 (i : Int)), kval (slPtr v1 (i * 3)), kval (slPtr v1 (i * 3 + 1)), kval (.int .i64 (p.2.1 : Int)), kval v1, kval (.int .i64 (i : Int)), kval (slPtr v1 (i * 3)), kval (slPtr v1 (i * 3 + 2)), kval (.int .i64 (p.2.2 : Int)), kval (.int .i64 ((p.2.1 + p.2.2 : Nat) : Int)), kval (.string ⟨B.toArray⟩), kval (.int .i64 (B.length : Int)), kval (.bool false), kval (.bool false), kval (.bool false), kval (.string ⟨B.toArray⟩), kval v1, kval (.int .i64 (i : Int)), kval (slPtr v1 (i * 3)), kval (slPtr v1 (i * 3 + 1)), kval (.int .i64 (p.2.1 : Int)), kval v1, kval (.int .i64 (i : Int)), kval (slPtr v1 (i * 3)), kval (slPtr v1 (i * 3 + 1)), kval (.int .i64 (p.2.1 : Int)), kval v1, kval (.int .i64 (i : Int)), kval (slPtr v1 (i * 3)), kval (slPtr v1 (i * 3 + 2)), kval (.int .i64 (p.2.2 : Int)), kval (.int .i64 ((p.2.1 + p.2.2 : Nat) : Int)), kval (.string ⟨x.2.toArray⟩), kval v, kval (.int .i64 (i : Int)), kval (slPtr v (i * 2)), kval (slPtr v (i * 2 + 1)), kval (.string ⟨x.2.toArray⟩), kval (.bool false), kval (.bool false)] := ⟨_, rfl⟩
        have K0 : KL.getD 0 kany = kval (.int .i64 0) := by rw [hKL]; rfl
        have K1 : KL.getD 1 kany = kval (.bool false) := by rw [hKL]; rfl
        have K2 : KL.getD 2 kany = kval (.bool false) := by rw [hKL]; rfl
        have K3 : KL.getD 3 kany = kval (.agg #[.string ⟨x.1.toArray⟩, .string ⟨x.2.toArray⟩]) := by rw [hKL]; rfl
        have K4 : KL.getD 4 kany = kval v := by rw [hKL]; rfl
        have K5 : KL.getD 5 kany = kval (.int .i64 (i : Int)) := by rw [hKL]; rfl
        have K6 : KL.getD 6 kany = kval (slPtr v (i * 2)) := by rw [hKL]; rfl
        have K7 : KL.getD 7 kany = kval (.agg #[.string ⟨x.1.toArray⟩, .string ⟨x.2.toArray⟩]) := by rw [hKL]; rfl
        have K8 : KL.getD 8 kany = kval (.bool false) := by rw [hKL]; rfl
        have K9 : KL.getD 9 kany = kval (.bool false) := by rw [hKL]; rfl
        have K10 : KL.getD 10 kany = kval (.bool false) := by rw [hKL]; rfl
        have K11 : KL.getD 11 kany = kval v1 := by rw [hKL]; rfl
        have K12 : KL.getD 12 kany = kval (.int .i64 (i : Int)) := by rw [hKL]; rfl
        have K13 : KL.getD 13 kany = kval (slPtr v1 (i * 3)) := by rw [hKL]; rfl
        have K14 : KL.getD 14 kany = kval (slPtr v1 (i * 3 + 0)) := by rw [hKL]; rfl
        have K15 : KL.getD 15 kany = kval (.string ⟨p.1.toArray⟩) := by rw [hKL]; rfl
        have K16 : KL.getD 16 kany = kval v := by rw [hKL]; rfl
        have K17 : KL.getD 17 kany = kval (.int .i64 (i : Int)) := by rw [hKL]; rfl
        have K18 : KL.getD 18 kany = kval (slPtr v (i * 2)) := by rw [hKL]; rfl
        have K19 : KL.getD 19 kany = kval (slPtr v (i * 2 + 0)) := by rw [hKL]; rfl
        have K20 : KL.getD 20 kany = kval (.string ⟨x.1.toArray⟩) := by rw [hKL]; rfl
        have K21 : KL.getD 21 kany = kval (.bool false) := by rw [hKL]; rfl
        have K22 : KL.getD 22 kany = kval (.bool false) := by rw [hKL]; rfl
        have K23 : KL.getD 23 kany = kval (.bool false) := by rw [hKL]; rfl
        have K24 : KL.getD 24 kany = kval v1 := by rw [hKL]; rfl
        have K25 : KL.getD 25 kany = kval (.int .i64 (i : Int)) := by rw [hKL]; rfl
        have K26 : KL.getD 26 kany = kval (slPtr v1 (i * 3)) := by rw [hKL]; rfl
        have K27 : KL.getD 27 kany = kval (slPtr v1 (i * 3 + 2)) := by rw [hKL]; rfl
        have K28 : KL.getD 28 kany = kval (.int .i64 (p.2.2 : Int)) := by rw [hKL]; rfl
        have K29 : KL.getD 29 kany = kval v := by rw [hKL]; rfl
        have K30 : KL.getD 30 kany = kval (.int .i64 (i : Int)) := by rw [hKL]; rfl
        have K31 : KL.getD 31 kany = kval (slPtr v (i * 2)) := by rw [hKL]; rfl
        have K32 : KL.getD 32 kany = kval (slPtr v (i * 2 + 1)) := by rw [hKL]; rfl
        have K33 : KL.getD 33 kany = kval (.string ⟨x.2.toArray⟩) := by rw [hKL]; rfl
        have K34 : KL.getD 34 kany = kval (.int .i64 (x.2.length : Int)) := by rw [hKL]; rfl
        have K35 : KL.getD 35 kany = kval (.bool false) := by rw [hKL]; rfl
        have K36 : KL.getD 36 kany = kval (.bool false) := by rw [hKL]; rfl
        have K37 : KL.getD 37 kany = kval (.bool false) := by rw [hKL]; rfl
        have K38 : KL.getD 38 kany = kval v1 := by rw [hKL]; rfl
        have K39 : KL.getD 39 kany = kval (.int .i64 (i : Int)) := by rw [hKL]; rfl
        have K40 : KL.getD 40 kany = kval (slPtr v1 (i * 3)) := by rw [hKL]; rfl
        have K41 : KL.getD 41 kany = kval (slPtr v1 (i * 3 + 1)) := by rw [hKL]; rfl
        have K42 : KL.getD 42 kany = kval (.int .i64 (p.2.1 : Int)) := by rw [hKL]; rfl
        have K43 : KL.getD 43 kany = kval (.bool false) := by rw [hKL]; rfl
        have K44 : KL.getD 44 kany = kval (.bool false) := by rw [hKL]; rfl
        have K45 : KL.getD 45 kany = kval (.bool false) := by rw [hKL]; rfl
        have K46 : KL.getD 46 kany = kval v1 := by rw [hKL]; rfl
        have K47 : KL.getD 47 kany = kval (.int .i64 (i : Int)) := by rw [hKL]; rfl
        have K48 : KL.getD 48 kany = kval (slPtr v1 (i * 3)) := by rw [hKL]; rfl
        have K49 : KL.getD 49 kany = kval (slPtr v1 (i * 3 + 1)) := by rw [hKL]; rfl
        have K50 : KL.getD 50 kany = kval (.int .i64 (p.2.1 : Int)) := by rw [hKL]; rfl
        have K51 : KL.getD 51 kany = kval v1 := by rw [hKL]; rfl
        have K52 : KL.getD 52 kany = kval (.int .i64 (i : Int)) := by rw [hKL]; rfl
        have K53 : KL.getD 53 kany = kval (slPtr v1 (i * 3)) := by rw [hKL]; rfl
        have K54 : KL.getD 54 kany = kval (slPtr v1 (i * 3 + 2)) := by rw [hKL]; rfl
        have K55 : KL.getD 55 kany = kval (.int .i64 (p.2.2 : Int)) := by rw [hKL]; rfl
        have K56 : KL.getD 56 kany = kval (.int .i64 ((p.2.1 + p.2.2 : Nat) : Int)) := by rw [hKL]; rfl
        have K57 : KL.getD 57 kany = kval (.string ⟨B.toArray⟩) := by rw [hKL]; rfl
        have K58 : KL.getD 58 kany = kval (.int .i64 (B.length : Int)) := by rw [hKL]; rfl
        have K59 : KL.getD 59 kany = kval (.bool false) := by rw [hKL]; rfl
        have K60 : KL.getD 60 kany = kval (.bool false) := by rw [hKL]; rfl
        have K61 : KL.getD 61 kany = kval (.bool false) := by rw [hKL]; rfl
        have K62 : KL.getD 62 kany = kval (.string ⟨B.toArray⟩) := by rw [hKL]; rfl
        have K63 : KL.getD 63 kany = kval v1 := by rw [hKL]; rfl
        have K64 : KL.getD 64 kany = kval (.int .i64 (i : Int)) := by rw [hKL]; rfl
        have K65 : KL.getD 65 kany = kval (slPtr v1 (i * 3)) := by rw [hKL]; rfl
        have K66 : KL.getD 66 kany = kval (slPtr v1 (i * 3 + 1)) := by rw [hKL]; rfl
        have K67 : KL.getD 67 kany = kval (.int .i64 (p.2.1 : Int)) := by rw [hKL]; rfl
        have K68 : KL.getD 68 kany = kval v1 := by rw [hKL]; rfl
        have K69 : KL.getD 69 kany = kval (.int .i64 (i : Int)) := by rw [hKL]; rfl
        have K70 : KL.getD 70 kany = kval (slPtr v1 (i * 3)) := by rw [hKL]; rfl
        have K71 : KL.getD 71 kany = kval (slPtr v1 (i * 3 + 1)) := by rw [hKL]; rfl
        have K72 : KL.getD 72 kany = kval (.int .i64 (p.2.1 : Int)) := by rw [hKL]; rfl
        have K73 : KL.getD 73 kany = kval v1 := by rw [hKL]; rfl
        have K74 : KL.getD 74 kany = kval (.int .i64 (i : Int)) := by rw [hKL]; rfl
        have K75 : KL.getD 75 kany = kval (slPtr v1 (i * 3)) := by rw [hKL]; rfl
        have K76 : KL.getD 76 kany = kval (slPtr v1 (i * 3 + 2)) := by rw [hKL]; rfl
        have K77 : KL.getD 77 kany = kval (.int .i64 (p.2.2 : Int)) := by rw [hKL]; rfl
        have K78 : KL.getD 78 kany = kval (.int .i64 ((p.2.1 + p.2.2 : Nat) : Int)) := by rw [hKL]; rfl
        have K79 : KL.getD 79 kany = kval (.string ⟨x.2.toArray⟩) := by rw [hKL]; rfl
        have K80 : KL.getD 80 kany = kval v := by rw [hKL]; rfl
        have K81 : KL.getD 81 kany = kval (.int .i64 (i : Int)) := by rw [hKL]; rfl
        have K82 : KL.getD 82 kany = kval (slPtr v (i * 2)) := by rw [hKL]; rfl
        have K83 : KL.getD 83 kany = kval (slPtr v (i * 2 + 1)) := by rw [hKL]; rfl
        have K84 : KL.getD 84 kany = kval (.string ⟨x.2.toArray⟩) := by rw [hKL]; rfl
        have K85 : KL.getD 85 kany = kval (.bool false) := by rw [hKL]; rfl
        have K86 : KL.getD 86 kany = kval (.bool false) := by rw [hKL]; rfl
        clear hKL
        refine wp_region_kd 176 (by kernel_rfl) (by kernel_rfl) (by kernel_rfl) hF17.size KL ?_ ?_
        · refine ⟨?_, ?_, ?_, ?_, ?_, ?_, ?_, ?_, ?_, ?_, ?_, ?_, ?_, ?_, ?_, ?_, ?_, ?_, ?_, ?_, ?_, ?_, ?_, ?_, ?_, ?_, ?_, ?_, ?_, ?_, ?_, ?_, ?_, ?_, ?_, ?_, ?_, ?_, ?_, ?_, ?_, ?_, ?_, ?_, ?_, ?_, ?_, ?_, ?_, ?_, ?_, ?_, ?_, ?_, ?_, ?_, ?_, ?_, ?_, ?_, ?_, ?_, ?_, ?_, ?_, ?_, ?_, ?_, ?_, ?_, ?_, ?_, ?_, ?_, ?_, ?_, ?_, ?_, ?_, ?_, ?_, ?_, ?_, ?_, ?_, ?_, ?_, trivial⟩
          · refine asks_mk fun a W hS hh hd => ⟨wanted_yes rfl, ?_⟩
            exact giv_run (run_mv rfl (eval_tmp (hh 12 _ rfl (hF17.at 12 rfl)))) K0
          · refine asks_mk fun a W hS hh hd => ⟨wanted_yes rfl, ?_⟩
            exact giv_run (run_nei rfl (eval_tmp (hd.val (j := 0) (s := 66) (by kernel_rfl) K0)) rfl (bne_eq_false_iff_eq.2 (by omega))) K1
          · refine asks_mk fun a W hS hh hd => ⟨wanted_yes rfl, ?_⟩
            exact giv_run (run_mv rfl (eval_tmp (hd.val (j := 1) (s := 67) (by kernel_rfl) K1))) K2
          · refine asks_mk fun a W hS hh hd => ⟨wanted_of (j := 2) (s := 68) (by kernel_rfl) (hd.val (j := 2) (s := 68) (by kernel_rfl) K2), ?_⟩
            exact giv_run (run_ldB rfl (eval_tmp (hh 11 _ rfl (hF17.at 11 rfl))) ((hM3.grow hS).at 0 rfl) Try.underlying29 rfl szBox rfl) K3
          · refine asks_mk fun a W hS hh hd => ⟨wanted_of (j := 2) (s := 68) (by kernel_rfl) (hd.val (j := 2) (s := 68) (by kernel_rfl) K2), ?_⟩
            exact giv_run (run_mv rfl (eval_tmp (hh 0 _ rfl (hF17.at 0 rfl)))) K4
          · refine asks_mk fun a W hS hh hd => ⟨wanted_of (j := 2) (s := 68) (by kernel_rfl) (hd.val (j := 2) (s := 68) (by kernel_rfl) K2), ?_⟩
            exact giv_run (run_mv rfl (eval_tmp (hh 10 _ rfl (hF17.at 10 rfl)))) K5
          · refine asks_mk fun a W hS hh hd => ⟨wanted_of (j := 2) (s := 68) (by kernel_rfl) (hd.val (j := 2) (s := 68) (by kernel_rfl) K2), ?_⟩
            exact giv_run (run_atP (i := i) rfl (eval_tmp (hd.val (j := 4) (s := 70) (by kernel_rfl) K4)) (eval_tmp (hd.val (j := 5) (s := 71) (by kernel_rfl) K5)) rfl (hV.below (hM3.grow hS).below) (by omega) elBox.un (by kernel_rfl)) K6
          · refine asks_mk fun a W hS hh hd => ⟨wanted_of (j := 2) (s := 68) (by kernel_rfl) (hd.val (j := 2) (s := 68) (by kernel_rfl) K2), ?_⟩
            exact giv_run (run_ldPS (ys := boxC x) rfl (eval_tmp (hd.val (j := 6) (s := 72) (by kernel_rfl) K6)) (hV.below (hM3.grow hS).below) (by omega) (fun j u hj => flat_at boxC_len hx j hj) (by kernel_rfl) (by kernel_rfl)) K7
          · refine asks_mk fun a W hS hh hd => ⟨wanted_of (j := 2) (s := 68) (by kernel_rfl) (hd.val (j := 2) (s := 68) (by kernel_rfl) K2), ?_⟩
            exact giv_run (run_neBox (by simp) rfl (eval_tmp (hd.val (j := 3) (s := 69) (by kernel_rfl) K3)) (eval_tmp (hd.val (j := 7) (s := 73) (by kernel_rfl) K7))) K8
          · refine asks_mk fun a W hS hh hd => ⟨wanted_yes rfl, ?_⟩
            exact giv_run (run_pick rfl (eval_tmp (hd.val (j := 2) (s := 68) (by kernel_rfl) K2)) rfl (eval_tmp (hd.val (j := 8) (s := 74) (by kernel_rfl) K8))) K9
          · refine asks_mk fun a W hS hh hd => ⟨wanted_yes rfl, ?_⟩
            exact giv_run (run_mv rfl (eval_tmp (hd.val (j := 9) (s := 75) (by kernel_rfl) K9))) K10
          · refine asks_mk fun a W hS hh hd => ⟨wanted_of (j := 10) (s := 76) (by kernel_rfl) (hd.val (j := 10) (s := 76) (by kernel_rfl) K10), ?_⟩
            exact giv_run (run_mv rfl (eval_tmp (hh 7 _ rfl (hF17.at 7 rfl)))) K11
          · refine asks_mk fun a W hS hh hd => ⟨wanted_of (j := 10) (s := 76) (by kernel_rfl) (hd.val (j := 10) (s := 76) (by kernel_rfl) K10), ?_⟩
            exact giv_run (run_mv rfl (eval_tmp (hh 10 _ rfl (hF17.at 10 rfl)))) K12
          · refine asks_mk fun a W hS hh hd => ⟨wanted_of (j := 10) (s := 76) (by kernel_rfl) (hd.val (j := 10) (s := 76) (by kernel_rfl) K10), ?_⟩
            exact giv_run (run_atP (i := i) rfl (eval_tmp (hd.val (j := 11) (s := 77) (by kernel_rfl) K11)) (eval_tmp (hd.val (j := 12) (s := 78) (by kernel_rfl) K12)) rfl (Sl.own (hO3.grow hS)) (by omega) elPlace.un (by kernel_rfl)) K13
          · refine asks_mk fun a W hS hh hd => ⟨wanted_of (j := 10) (s := 76) (by kernel_rfl) (hd.val (j := 10) (s := 76) (by kernel_rfl) K10), ?_⟩
            exact giv_run (run_fldP (m2 := 1) (s := 0) rfl (eval_tmp (hd.val (j := 13) (s := 79) (by kernel_rfl) K13)) (Sl.own (hO3.grow hS)) (by omega) Try.underlying39 rfl rfl (by kernel_rfl) (by decide)) K14
          · refine asks_mk fun a W hS hh hd => ⟨wanted_of (j := 10) (s := 76) (by kernel_rfl) (hd.val (j := 10) (s := 76) (by kernel_rfl) K10), ?_⟩
            exact giv_run (run_ldP rfl (eval_tmp (hd.val (j := 14) (s := 80) (by kernel_rfl) K14)) (Sl.own (hO3.grow hS)) (flat_at placeC_len hp 0 rfl) (by kernel_rfl)) K15
          · refine asks_mk fun a W hS hh hd => ⟨wanted_of (j := 10) (s := 76) (by kernel_rfl) (hd.val (j := 10) (s := 76) (by kernel_rfl) K10), ?_⟩
            exact giv_run (run_mv rfl (eval_tmp (hh 0 _ rfl (hF17.at 0 rfl)))) K16
          · refine asks_mk fun a W hS hh hd => ⟨wanted_of (j := 10) (s := 76) (by kernel_rfl) (hd.val (j := 10) (s := 76) (by kernel_rfl) K10), ?_⟩
            exact giv_run (run_mv rfl (eval_tmp (hh 10 _ rfl (hF17.at 10 rfl)))) K17
          · refine asks_mk fun a W hS hh hd => ⟨wanted_of (j := 10) (s := 76) (by kernel_rfl) (hd.val (j := 10) (s := 76) (by kernel_rfl) K10), ?_⟩
            exact giv_run (run_atP (i := i) rfl (eval_tmp (hd.val (j := 16) (s := 82) (by kernel_rfl) K16)) (eval_tmp (hd.val (j := 17) (s := 83) (by kernel_rfl) K17)) rfl (hV.below (hM3.grow hS).below) (by omega) elBox.un (by kernel_rfl)) K18
          · refine asks_mk fun a W hS hh hd => ⟨wanted_of (j := 10) (s := 76) (by kernel_rfl) (hd.val (j := 10) (s := 76) (by kernel_rfl) K10), ?_⟩
            exact giv_run (run_fldP (m2 := 1) (s := 0) rfl (eval_tmp (hd.val (j := 18) (s := 84) (by kernel_rfl) K18)) (hV.below (hM3.grow hS).below) (by omega) Try.underlying29 rfl rfl (by kernel_rfl) (by decide)) K19
          · refine asks_mk fun a W hS hh hd => ⟨wanted_of (j := 10) (s := 76) (by kernel_rfl) (hd.val (j := 10) (s := 76) (by kernel_rfl) K10), ?_⟩
            exact giv_run (run_ldP rfl (eval_tmp (hd.val (j := 19) (s := 85) (by kernel_rfl) K19)) (hV.below (hM3.grow hS).below) (flat_at boxC_len hx 0 rfl) (by kernel_rfl)) K20
          · refine asks_mk fun a W hS hh hd => ⟨wanted_of (j := 10) (s := 76) (by kernel_rfl) (hd.val (j := 10) (s := 76) (by kernel_rfl) K10), ?_⟩
            exact giv_run (run_nes rfl (eval_tmp (hd.val (j := 15) (s := 81) (by kernel_rfl) K15)) (eval_tmp (hd.val (j := 20) (s := 86) (by kernel_rfl) K20)) (by rw [hp1]; simp)) K21
          · refine asks_mk fun a W hS hh hd => ⟨wanted_yes rfl, ?_⟩
            exact giv_run (run_pick rfl (eval_tmp (hd.val (j := 10) (s := 76) (by kernel_rfl) K10)) rfl (eval_tmp (hd.val (j := 21) (s := 87) (by kernel_rfl) K21))) K22
          · refine asks_mk fun a W hS hh hd => ⟨wanted_yes rfl, ?_⟩
            exact giv_run (run_mv rfl (eval_tmp (hd.val (j := 22) (s := 88) (by kernel_rfl) K22))) K23
          · refine asks_mk fun a W hS hh hd => ⟨wanted_of (j := 23) (s := 89) (by kernel_rfl) (hd.val (j := 23) (s := 89) (by kernel_rfl) K23), ?_⟩
            exact giv_run (run_mv rfl (eval_tmp (hh 7 _ rfl (hF17.at 7 rfl)))) K24
          · refine asks_mk fun a W hS hh hd => ⟨wanted_of (j := 23) (s := 89) (by kernel_rfl) (hd.val (j := 23) (s := 89) (by kernel_rfl) K23), ?_⟩
            exact giv_run (run_mv rfl (eval_tmp (hh 10 _ rfl (hF17.at 10 rfl)))) K25
          · refine asks_mk fun a W hS hh hd => ⟨wanted_of (j := 23) (s := 89) (by kernel_rfl) (hd.val (j := 23) (s := 89) (by kernel_rfl) K23), ?_⟩
            exact giv_run (run_atP (i := i) rfl (eval_tmp (hd.val (j := 24) (s := 90) (by kernel_rfl) K24)) (eval_tmp (hd.val (j := 25) (s := 91) (by kernel_rfl) K25)) rfl (Sl.own (hO3.grow hS)) (by omega) elPlace.un (by kernel_rfl)) K26
          · refine asks_mk fun a W hS hh hd => ⟨wanted_of (j := 23) (s := 89) (by kernel_rfl) (hd.val (j := 23) (s := 89) (by kernel_rfl) K23), ?_⟩
            exact giv_run (run_fldP (m2 := 1) (s := 2) rfl (eval_tmp (hd.val (j := 26) (s := 92) (by kernel_rfl) K26)) (Sl.own (hO3.grow hS)) (by omega) Try.underlying39 rfl rfl (by kernel_rfl) (by decide)) K27
          · refine asks_mk fun a W hS hh hd => ⟨wanted_of (j := 23) (s := 89) (by kernel_rfl) (hd.val (j := 23) (s := 89) (by kernel_rfl) K23), ?_⟩
            exact giv_run (run_ldP rfl (eval_tmp (hd.val (j := 27) (s := 93) (by kernel_rfl) K27)) (Sl.own (hO3.grow hS)) (flat_at placeC_len hp 2 rfl) (by kernel_rfl)) K28
          · refine asks_mk fun a W hS hh hd => ⟨wanted_of (j := 23) (s := 89) (by kernel_rfl) (hd.val (j := 23) (s := 89) (by kernel_rfl) K23), ?_⟩
            exact giv_run (run_mv rfl (eval_tmp (hh 0 _ rfl (hF17.at 0 rfl)))) K29
          · refine asks_mk fun a W hS hh hd => ⟨wanted_of (j := 23) (s := 89) (by kernel_rfl) (hd.val (j := 23) (s := 89) (by kernel_rfl) K23), ?_⟩
            exact giv_run (run_mv rfl (eval_tmp (hh 10 _ rfl (hF17.at 10 rfl)))) K30
          · refine asks_mk fun a W hS hh hd => ⟨wanted_of (j := 23) (s := 89) (by kernel_rfl) (hd.val (j := 23) (s := 89) (by kernel_rfl) K23), ?_⟩
            exact giv_run (run_atP (i := i) rfl (eval_tmp (hd.val (j := 29) (s := 95) (by kernel_rfl) K29)) (eval_tmp (hd.val (j := 30) (s := 96) (by kernel_rfl) K30)) rfl (hV.below (hM3.grow hS).below) (by omega) elBox.un (by kernel_rfl)) K31
          · refine asks_mk fun a W hS hh hd => ⟨wanted_of (j := 23) (s := 89) (by kernel_rfl) (hd.val (j := 23) (s := 89) (by kernel_rfl) K23), ?_⟩
            exact giv_run (run_fldP (m2 := 1) (s := 1) rfl (eval_tmp (hd.val (j := 31) (s := 97) (by kernel_rfl) K31)) (hV.below (hM3.grow hS).below) (by omega) Try.underlying29 rfl rfl (by kernel_rfl) (by decide)) K32
          · refine asks_mk fun a W hS hh hd => ⟨wanted_of (j := 23) (s := 89) (by kernel_rfl) (hd.val (j := 23) (s := 89) (by kernel_rfl) K23), ?_⟩
            exact giv_run (run_ldP rfl (eval_tmp (hd.val (j := 32) (s := 98) (by kernel_rfl) K32)) (hV.below (hM3.grow hS).below) (flat_at boxC_len hx 1 rfl) (by kernel_rfl)) K33
          · refine asks_mk fun a W hS hh hd => ⟨wanted_of (j := 23) (s := 89) (by kernel_rfl) (hd.val (j := 23) (s := 89) (by kernel_rfl) K23), ?_⟩
            exact giv_run (run_len rfl (eval_tmp (hd.val (j := 33) (s := 99) (by kernel_rfl) K33)) rfl Try.underlying9) K34
          · refine asks_mk fun a W hS hh hd => ⟨wanted_of (j := 23) (s := 89) (by kernel_rfl) (hd.val (j := 23) (s := 89) (by kernel_rfl) K23), ?_⟩
            exact giv_run (run_nei rfl (eval_tmp (hd.val (j := 28) (s := 94) (by kernel_rfl) K28)) (eval_tmp (hd.val (j := 34) (s := 100) (by kernel_rfl) K34)) (bne_eq_false_iff_eq.2 (by omega))) K35
          · refine asks_mk fun a W hS hh hd => ⟨wanted_yes rfl, ?_⟩
            exact giv_run (run_pick rfl (eval_tmp (hd.val (j := 23) (s := 89) (by kernel_rfl) K23)) rfl (eval_tmp (hd.val (j := 35) (s := 101) (by kernel_rfl) K35))) K36
          · refine asks_mk fun a W hS hh hd => ⟨wanted_yes rfl, ?_⟩
            exact giv_run (run_mv rfl (eval_tmp (hd.val (j := 36) (s := 102) (by kernel_rfl) K36))) K37
          · refine asks_mk fun a W hS hh hd => ⟨wanted_of (j := 37) (s := 103) (by kernel_rfl) (hd.val (j := 37) (s := 103) (by kernel_rfl) K37), ?_⟩
            exact giv_run (run_mv rfl (eval_tmp (hh 7 _ rfl (hF17.at 7 rfl)))) K38
          · refine asks_mk fun a W hS hh hd => ⟨wanted_of (j := 37) (s := 103) (by kernel_rfl) (hd.val (j := 37) (s := 103) (by kernel_rfl) K37), ?_⟩
            exact giv_run (run_mv rfl (eval_tmp (hh 10 _ rfl (hF17.at 10 rfl)))) K39
          · refine asks_mk fun a W hS hh hd => ⟨wanted_of (j := 37) (s := 103) (by kernel_rfl) (hd.val (j := 37) (s := 103) (by kernel_rfl) K37), ?_⟩
            exact giv_run (run_atP (i := i) rfl (eval_tmp (hd.val (j := 38) (s := 104) (by kernel_rfl) K38)) (eval_tmp (hd.val (j := 39) (s := 105) (by kernel_rfl) K39)) rfl (Sl.own (hO3.grow hS)) (by omega) elPlace.un (by kernel_rfl)) K40
          · refine asks_mk fun a W hS hh hd => ⟨wanted_of (j := 37) (s := 103) (by kernel_rfl) (hd.val (j := 37) (s := 103) (by kernel_rfl) K37), ?_⟩
            exact giv_run (run_fldP (m2 := 1) (s := 1) rfl (eval_tmp (hd.val (j := 40) (s := 106) (by kernel_rfl) K40)) (Sl.own (hO3.grow hS)) (by omega) Try.underlying39 rfl rfl (by kernel_rfl) (by decide)) K41
          · refine asks_mk fun a W hS hh hd => ⟨wanted_of (j := 37) (s := 103) (by kernel_rfl) (hd.val (j := 37) (s := 103) (by kernel_rfl) K37), ?_⟩
            exact giv_run (run_ldP rfl (eval_tmp (hd.val (j := 41) (s := 107) (by kernel_rfl) K41)) (Sl.own (hO3.grow hS)) (flat_at placeC_len hp 1 rfl) (by kernel_rfl)) K42
          · refine asks_mk fun a W hS hh hd => ⟨wanted_of (j := 37) (s := 103) (by kernel_rfl) (hd.val (j := 37) (s := 103) (by kernel_rfl) K37), ?_⟩
            exact giv_run (run_lss rfl (eval_tmp (hd.val (j := 42) (s := 108) (by kernel_rfl) K42)) rfl (decide_eq_false (by omega))) K43
          · refine asks_mk fun a W hS hh hd => ⟨wanted_yes rfl, ?_⟩
            exact giv_run (run_pick rfl (eval_tmp (hd.val (j := 37) (s := 103) (by kernel_rfl) K37)) rfl (eval_tmp (hd.val (j := 43) (s := 109) (by kernel_rfl) K43))) K44
          · refine asks_mk fun a W hS hh hd => ⟨wanted_yes rfl, ?_⟩
            exact giv_run (run_mv rfl (eval_tmp (hd.val (j := 44) (s := 110) (by kernel_rfl) K44))) K45
          · refine asks_mk fun a W hS hh hd => ⟨wanted_of (j := 45) (s := 111) (by kernel_rfl) (hd.val (j := 45) (s := 111) (by kernel_rfl) K45), ?_⟩
            exact giv_run (run_mv rfl (eval_tmp (hh 7 _ rfl (hF17.at 7 rfl)))) K46
          · refine asks_mk fun a W hS hh hd => ⟨wanted_of (j := 45) (s := 111) (by kernel_rfl) (hd.val (j := 45) (s := 111) (by kernel_rfl) K45), ?_⟩
            exact giv_run (run_mv rfl (eval_tmp (hh 10 _ rfl (hF17.at 10 rfl)))) K47
          · refine asks_mk fun a W hS hh hd => ⟨wanted_of (j := 45) (s := 111) (by kernel_rfl) (hd.val (j := 45) (s := 111) (by kernel_rfl) K45), ?_⟩
            exact giv_run (run_atP (i := i) rfl (eval_tmp (hd.val (j := 46) (s := 112) (by kernel_rfl) K46)) (eval_tmp (hd.val (j := 47) (s := 113) (by kernel_rfl) K47)) rfl (Sl.own (hO3.grow hS)) (by omega) elPlace.un (by kernel_rfl)) K48
          · refine asks_mk fun a W hS hh hd => ⟨wanted_of (j := 45) (s := 111) (by kernel_rfl) (hd.val (j := 45) (s := 111) (by kernel_rfl) K45), ?_⟩
            exact giv_run (run_fldP (m2 := 1) (s := 1) rfl (eval_tmp (hd.val (j := 48) (s := 114) (by kernel_rfl) K48)) (Sl.own (hO3.grow hS)) (by omega) Try.underlying39 rfl rfl (by kernel_rfl) (by decide)) K49
          · refine asks_mk fun a W hS hh hd => ⟨wanted_of (j := 45) (s := 111) (by kernel_rfl) (hd.val (j := 45) (s := 111) (by kernel_rfl) K45), ?_⟩
            exact giv_run (run_ldP rfl (eval_tmp (hd.val (j := 49) (s := 115) (by kernel_rfl) K49)) (Sl.own (hO3.grow hS)) (flat_at placeC_len hp 1 rfl) (by kernel_rfl)) K50
          · refine asks_mk fun a W hS hh hd => ⟨wanted_of (j := 45) (s := 111) (by kernel_rfl) (hd.val (j := 45) (s := 111) (by kernel_rfl) K45), ?_⟩
            exact giv_run (run_mv rfl (eval_tmp (hh 7 _ rfl (hF17.at 7 rfl)))) K51
          · refine asks_mk fun a W hS hh hd => ⟨wanted_of (j := 45) (s := 111) (by kernel_rfl) (hd.val (j := 45) (s := 111) (by kernel_rfl) K45), ?_⟩
            exact giv_run (run_mv rfl (eval_tmp (hh 10 _ rfl (hF17.at 10 rfl)))) K52
          · refine asks_mk fun a W hS hh hd => ⟨wanted_of (j := 45) (s := 111) (by kernel_rfl) (hd.val (j := 45) (s := 111) (by kernel_rfl) K45), ?_⟩
            exact giv_run (run_atP (i := i) rfl (eval_tmp (hd.val (j := 51) (s := 117) (by kernel_rfl) K51)) (eval_tmp (hd.val (j := 52) (s := 118) (by kernel_rfl) K52)) rfl (Sl.own (hO3.grow hS)) (by omega) elPlace.un (by kernel_rfl)) K53
          · refine asks_mk fun a W hS hh hd => ⟨wanted_of (j := 45) (s := 111) (by kernel_rfl) (hd.val (j := 45) (s := 111) (by kernel_rfl) K45), ?_⟩
            exact giv_run (run_fldP (m2 := 1) (s := 2) rfl (eval_tmp (hd.val (j := 53) (s := 119) (by kernel_rfl) K53)) (Sl.own (hO3.grow hS)) (by omega) Try.underlying39 rfl rfl (by kernel_rfl) (by decide)) K54
          · refine asks_mk fun a W hS hh hd => ⟨wanted_of (j := 45) (s := 111) (by kernel_rfl) (hd.val (j := 45) (s := 111) (by kernel_rfl) K45), ?_⟩
            exact giv_run (run_ldP rfl (eval_tmp (hd.val (j := 54) (s := 120) (by kernel_rfl) K54)) (Sl.own (hO3.grow hS)) (flat_at placeC_len hp 2 rfl) (by kernel_rfl)) K55
          · refine asks_mk fun a W hS hh hd => ⟨wanted_of (j := 45) (s := 111) (by kernel_rfl) (hd.val (j := 45) (s := 111) (by kernel_rfl) K45), ?_⟩
            exact giv_run (run_add (r := ((p.2.1 + p.2.2 : Nat) : Int)) rfl (eval_tmp (hd.val (j := 50) (s := 116) (by kernel_rfl) K50)) (eval_tmp (hd.val (j := 55) (s := 121) (by kernel_rfl) K55)) (by rw [IntKind.wrap_i64]; omega)) K56
          · refine asks_mk fun a W hS hh hd => ⟨wanted_of (j := 45) (s := 111) (by kernel_rfl) (hd.val (j := 45) (s := 111) (by kernel_rfl) K45), ?_⟩
            exact giv_run (run_mv rfl (eval_tmp (hh 5 _ rfl (hF17.at 5 rfl)))) K57
          · refine asks_mk fun a W hS hh hd => ⟨wanted_of (j := 45) (s := 111) (by kernel_rfl) (hd.val (j := 45) (s := 111) (by kernel_rfl) K45), ?_⟩
            exact giv_run (run_len rfl (eval_tmp (hd.val (j := 57) (s := 123) (by kernel_rfl) K57)) rfl Try.underlying9) K58
          · refine asks_mk fun a W hS hh hd => ⟨wanted_of (j := 45) (s := 111) (by kernel_rfl) (hd.val (j := 45) (s := 111) (by kernel_rfl) K45), ?_⟩
            exact giv_run (run_gtr rfl (eval_tmp (hd.val (j := 56) (s := 122) (by kernel_rfl) K56)) (eval_tmp (hd.val (j := 58) (s := 124) (by kernel_rfl) K58)) (decide_eq_false (by omega))) K59
          · refine asks_mk fun a W hS hh hd => ⟨wanted_yes rfl, ?_⟩
            exact giv_run (run_pick rfl (eval_tmp (hd.val (j := 45) (s := 111) (by kernel_rfl) K45)) rfl (eval_tmp (hd.val (j := 59) (s := 125) (by kernel_rfl) K59))) K60
          · refine asks_mk fun a W hS hh hd => ⟨wanted_yes rfl, ?_⟩
            exact giv_run (run_mv rfl (eval_tmp (hd.val (j := 60) (s := 126) (by kernel_rfl) K60))) K61
          · refine asks_mk fun a W hS hh hd => ⟨wanted_of (j := 61) (s := 127) (by kernel_rfl) (hd.val (j := 61) (s := 127) (by kernel_rfl) K61), ?_⟩
            exact giv_run (run_mv rfl (eval_tmp (hh 5 _ rfl (hF17.at 5 rfl)))) K62
          · refine asks_mk fun a W hS hh hd => ⟨wanted_of (j := 61) (s := 127) (by kernel_rfl) (hd.val (j := 61) (s := 127) (by kernel_rfl) K61), ?_⟩
            exact giv_run (run_mv rfl (eval_tmp (hh 7 _ rfl (hF17.at 7 rfl)))) K63
          · refine asks_mk fun a W hS hh hd => ⟨wanted_of (j := 61) (s := 127) (by kernel_rfl) (hd.val (j := 61) (s := 127) (by kernel_rfl) K61), ?_⟩
            exact giv_run (run_mv rfl (eval_tmp (hh 10 _ rfl (hF17.at 10 rfl)))) K64
          · refine asks_mk fun a W hS hh hd => ⟨wanted_of (j := 61) (s := 127) (by kernel_rfl) (hd.val (j := 61) (s := 127) (by kernel_rfl) K61), ?_⟩
            exact giv_run (run_atP (i := i) rfl (eval_tmp (hd.val (j := 63) (s := 129) (by kernel_rfl) K63)) (eval_tmp (hd.val (j := 64) (s := 130) (by kernel_rfl) K64)) rfl (Sl.own (hO3.grow hS)) (by omega) elPlace.un (by kernel_rfl)) K65
          · refine asks_mk fun a W hS hh hd => ⟨wanted_of (j := 61) (s := 127) (by kernel_rfl) (hd.val (j := 61) (s := 127) (by kernel_rfl) K61), ?_⟩
            exact giv_run (run_fldP (m2 := 1) (s := 1) rfl (eval_tmp (hd.val (j := 65) (s := 131) (by kernel_rfl) K65)) (Sl.own (hO3.grow hS)) (by omega) Try.underlying39 rfl rfl (by kernel_rfl) (by decide)) K66
          · refine asks_mk fun a W hS hh hd => ⟨wanted_of (j := 61) (s := 127) (by kernel_rfl) (hd.val (j := 61) (s := 127) (by kernel_rfl) K61), ?_⟩
            exact giv_run (run_ldP rfl (eval_tmp (hd.val (j := 66) (s := 132) (by kernel_rfl) K66)) (Sl.own (hO3.grow hS)) (flat_at placeC_len hp 1 rfl) (by kernel_rfl)) K67
          · refine asks_mk fun a W hS hh hd => ⟨wanted_of (j := 61) (s := 127) (by kernel_rfl) (hd.val (j := 61) (s := 127) (by kernel_rfl) K61), ?_⟩
            exact giv_run (run_mv rfl (eval_tmp (hh 7 _ rfl (hF17.at 7 rfl)))) K68
          · refine asks_mk fun a W hS hh hd => ⟨wanted_of (j := 61) (s := 127) (by kernel_rfl) (hd.val (j := 61) (s := 127) (by kernel_rfl) K61), ?_⟩
            exact giv_run (run_mv rfl (eval_tmp (hh 10 _ rfl (hF17.at 10 rfl)))) K69
          · refine asks_mk fun a W hS hh hd => ⟨wanted_of (j := 61) (s := 127) (by kernel_rfl) (hd.val (j := 61) (s := 127) (by kernel_rfl) K61), ?_⟩
            exact giv_run (run_atP (i := i) rfl (eval_tmp (hd.val (j := 68) (s := 134) (by kernel_rfl) K68)) (eval_tmp (hd.val (j := 69) (s := 135) (by kernel_rfl) K69)) rfl (Sl.own (hO3.grow hS)) (by omega) elPlace.un (by kernel_rfl)) K70
          · refine asks_mk fun a W hS hh hd => ⟨wanted_of (j := 61) (s := 127) (by kernel_rfl) (hd.val (j := 61) (s := 127) (by kernel_rfl) K61), ?_⟩
            exact giv_run (run_fldP (m2 := 1) (s := 1) rfl (eval_tmp (hd.val (j := 70) (s := 136) (by kernel_rfl) K70)) (Sl.own (hO3.grow hS)) (by omega) Try.underlying39 rfl rfl (by kernel_rfl) (by decide)) K71
          · refine asks_mk fun a W hS hh hd => ⟨wanted_of (j := 61) (s := 127) (by kernel_rfl) (hd.val (j := 61) (s := 127) (by kernel_rfl) K61), ?_⟩
            exact giv_run (run_ldP rfl (eval_tmp (hd.val (j := 71) (s := 137) (by kernel_rfl) K71)) (Sl.own (hO3.grow hS)) (flat_at placeC_len hp 1 rfl) (by kernel_rfl)) K72
          · refine asks_mk fun a W hS hh hd => ⟨wanted_of (j := 61) (s := 127) (by kernel_rfl) (hd.val (j := 61) (s := 127) (by kernel_rfl) K61), ?_⟩
            exact giv_run (run_mv rfl (eval_tmp (hh 7 _ rfl (hF17.at 7 rfl)))) K73
          · refine asks_mk fun a W hS hh hd => ⟨wanted_of (j := 61) (s := 127) (by kernel_rfl) (hd.val (j := 61) (s := 127) (by kernel_rfl) K61), ?_⟩
            exact giv_run (run_mv rfl (eval_tmp (hh 10 _ rfl (hF17.at 10 rfl)))) K74
          · refine asks_mk fun a W hS hh hd => ⟨wanted_of (j := 61) (s := 127) (by kernel_rfl) (hd.val (j := 61) (s := 127) (by kernel_rfl) K61), ?_⟩
            exact giv_run (run_atP (i := i) rfl (eval_tmp (hd.val (j := 73) (s := 139) (by kernel_rfl) K73)) (eval_tmp (hd.val (j := 74) (s := 140) (by kernel_rfl) K74)) rfl (Sl.own (hO3.grow hS)) (by omega) elPlace.un (by kernel_rfl)) K75
          · refine asks_mk fun a W hS hh hd => ⟨wanted_of (j := 61) (s := 127) (by kernel_rfl) (hd.val (j := 61) (s := 127) (by kernel_rfl) K61), ?_⟩
            exact giv_run (run_fldP (m2 := 1) (s := 2) rfl (eval_tmp (hd.val (j := 75) (s := 141) (by kernel_rfl) K75)) (Sl.own (hO3.grow hS)) (by omega) Try.underlying39 rfl rfl (by kernel_rfl) (by decide)) K76
          · refine asks_mk fun a W hS hh hd => ⟨wanted_of (j := 61) (s := 127) (by kernel_rfl) (hd.val (j := 61) (s := 127) (by kernel_rfl) K61), ?_⟩
            exact giv_run (run_ldP rfl (eval_tmp (hd.val (j := 76) (s := 142) (by kernel_rfl) K76)) (Sl.own (hO3.grow hS)) (flat_at placeC_len hp 2 rfl) (by kernel_rfl)) K77
          · refine asks_mk fun a W hS hh hd => ⟨wanted_of (j := 61) (s := 127) (by kernel_rfl) (hd.val (j := 61) (s := 127) (by kernel_rfl) K61), ?_⟩
            exact giv_run (run_add (r := ((p.2.1 + p.2.2 : Nat) : Int)) rfl (eval_tmp (hd.val (j := 72) (s := 138) (by kernel_rfl) K72)) (eval_tmp (hd.val (j := 77) (s := 143) (by kernel_rfl) K77)) (by rw [IntKind.wrap_i64]; omega)) K78
          · refine asks_mk fun a W hS hh hd => ⟨wanted_of (j := 61) (s := 127) (by kernel_rfl) (hd.val (j := 61) (s := 127) (by kernel_rfl) K61), ?_⟩
            exact giv_run (run_sMidE (m := p.2.1) (m2 := (p.2.1 + p.2.2)) hcut rfl (eval_tmp (hd.val (j := 62) (s := 128) (by kernel_rfl) K62)) (eval_tmp (hd.val (j := 67) (s := 133) (by kernel_rfl) K67)) (eval_tmp (hd.val (j := 78) (s := 144) (by kernel_rfl) K78)) Try.underlying9 rfl rfl (by omega) (by omega)) K79
          · refine asks_mk fun a W hS hh hd => ⟨wanted_of (j := 61) (s := 127) (by kernel_rfl) (hd.val (j := 61) (s := 127) (by kernel_rfl) K61), ?_⟩
            exact giv_run (run_mv rfl (eval_tmp (hh 0 _ rfl (hF17.at 0 rfl)))) K80
          · refine asks_mk fun a W hS hh hd => ⟨wanted_of (j := 61) (s := 127) (by kernel_rfl) (hd.val (j := 61) (s := 127) (by kernel_rfl) K61), ?_⟩
            exact giv_run (run_mv rfl (eval_tmp (hh 10 _ rfl (hF17.at 10 rfl)))) K81
          · refine asks_mk fun a W hS hh hd => ⟨wanted_of (j := 61) (s := 127) (by kernel_rfl) (hd.val (j := 61) (s := 127) (by kernel_rfl) K61), ?_⟩
            exact giv_run (run_atP (i := i) rfl (eval_tmp (hd.val (j := 80) (s := 146) (by kernel_rfl) K80)) (eval_tmp (hd.val (j := 81) (s := 147) (by kernel_rfl) K81)) rfl (hV.below (hM3.grow hS).below) (by omega) elBox.un (by kernel_rfl)) K82
          · refine asks_mk fun a W hS hh hd => ⟨wanted_of (j := 61) (s := 127) (by kernel_rfl) (hd.val (j := 61) (s := 127) (by kernel_rfl) K61), ?_⟩
            exact giv_run (run_fldP (m2 := 1) (s := 1) rfl (eval_tmp (hd.val (j := 82) (s := 148) (by kernel_rfl) K82)) (hV.below (hM3.grow hS).below) (by omega) Try.underlying29 rfl rfl (by kernel_rfl) (by decide)) K83
          · refine asks_mk fun a W hS hh hd => ⟨wanted_of (j := 61) (s := 127) (by kernel_rfl) (hd.val (j := 61) (s := 127) (by kernel_rfl) K61), ?_⟩
            exact giv_run (run_ldP rfl (eval_tmp (hd.val (j := 83) (s := 149) (by kernel_rfl) K83)) (hV.below (hM3.grow hS).below) (flat_at boxC_len hx 1 rfl) (by kernel_rfl)) K84
          · refine asks_mk fun a W hS hh hd => ⟨wanted_of (j := 61) (s := 127) (by kernel_rfl) (hd.val (j := 61) (s := 127) (by kernel_rfl) K61), ?_⟩
            exact giv_run (run_nes rfl (eval_tmp (hd.val (j := 79) (s := 145) (by kernel_rfl) K79)) (eval_tmp (hd.val (j := 84) (s := 150) (by kernel_rfl) K84)) (by simp)) K85
          · refine asks_mk fun a W hS hh hd => ⟨wanted_yes rfl, ?_⟩
            exact giv_run (run_pick rfl (eval_tmp (hd.val (j := 61) (s := 127) (by kernel_rfl) K61)) rfl (eval_tmp (hd.val (j := 85) (s := 151) (by kernel_rfl) K85))) K86
        · intro a18 w5 hb5 hK
          have e0 := hK.val (i := 0) (s := 66) (by kernel_rfl) K0
          have e1 := hK.val (i := 1) (s := 67) (by kernel_rfl) K1
          have e2 := hK.val (i := 2) (s := 68) (by kernel_rfl) K2
          have e3 := hK.val (i := 3) (s := 69) (by kernel_rfl) K3
          have e4 := hK.val (i := 4) (s := 70) (by kernel_rfl) K4
          have e5 := hK.val (i := 5) (s := 71) (by kernel_rfl) K5
          have e6 := hK.val (i := 6) (s := 72) (by kernel_rfl) K6
          have e7 := hK.val (i := 7) (s := 73) (by kernel_rfl) K7
          have e8 := hK.val (i := 8) (s := 74) (by kernel_rfl) K8
          have e9 := hK.val (i := 9) (s := 75) (by kernel_rfl) K9
          have e10 := hK.val (i := 10) (s := 76) (by kernel_rfl) K10
          have e11 := hK.val (i := 11) (s := 77) (by kernel_rfl) K11
          have e12 := hK.val (i := 12) (s := 78) (by kernel_rfl) K12
          have e13 := hK.val (i := 13) (s := 79) (by kernel_rfl) K13
          have e14 := hK.val (i := 14) (s := 80) (by kernel_rfl) K14
          have e15 := hK.val (i := 15) (s := 81) (by kernel_rfl) K15
          have e16 := hK.val (i := 16) (s := 82) (by kernel_rfl) K16
          have e17 := hK.val (i := 17) (s := 83) (by kernel_rfl) K17
          have e18 := hK.val (i := 18) (s := 84) (by kernel_rfl) K18
          have e19 := hK.val (i := 19) (s := 85) (by kernel_rfl) K19
          have e20 := hK.val (i := 20) (s := 86) (by kernel_rfl) K20
          have e21 := hK.val (i := 21) (s := 87) (by kernel_rfl) K21
          have e22 := hK.val (i := 22) (s := 88) (by kernel_rfl) K22
          have e23 := hK.val (i := 23) (s := 89) (by kernel_rfl) K23
          have e24 := hK.val (i := 24) (s := 90) (by kernel_rfl) K24
          have e25 := hK.val (i := 25) (s := 91) (by kernel_rfl) K25
          have e26 := hK.val (i := 26) (s := 92) (by kernel_rfl) K26
          have e27 := hK.val (i := 27) (s := 93) (by kernel_rfl) K27
          have e28 := hK.val (i := 28) (s := 94) (by kernel_rfl) K28
          have e29 := hK.val (i := 29) (s := 95) (by kernel_rfl) K29
          have e30 := hK.val (i := 30) (s := 96) (by kernel_rfl) K30
          have e31 := hK.val (i := 31) (s := 97) (by kernel_rfl) K31
          have e32 := hK.val (i := 32) (s := 98) (by kernel_rfl) K32
          have e33 := hK.val (i := 33) (s := 99) (by kernel_rfl) K33
          have e34 := hK.val (i := 34) (s := 100) (by kernel_rfl) K34
          have e35 := hK.val (i := 35) (s := 101) (by kernel_rfl) K35
          have e36 := hK.val (i := 36) (s := 102) (by kernel_rfl) K36
          have e37 := hK.val (i := 37) (s := 103) (by kernel_rfl) K37
          have e38 := hK.val (i := 38) (s := 104) (by kernel_rfl) K38
          have e39 := hK.val (i := 39) (s := 105) (by kernel_rfl) K39
          have e40 := hK.val (i := 40) (s := 106) (by kernel_rfl) K40
          have e41 := hK.val (i := 41) (s := 107) (by kernel_rfl) K41
          have e42 := hK.val (i := 42) (s := 108) (by kernel_rfl) K42
          have e43 := hK.val (i := 43) (s := 109) (by kernel_rfl) K43
          have e44 := hK.val (i := 44) (s := 110) (by kernel_rfl) K44
          have e45 := hK.val (i := 45) (s := 111) (by kernel_rfl) K45
          have e46 := hK.val (i := 46) (s := 112) (by kernel_rfl) K46
          have e47 := hK.val (i := 47) (s := 113) (by kernel_rfl) K47
          have e48 := hK.val (i := 48) (s := 114) (by kernel_rfl) K48
          have e49 := hK.val (i := 49) (s := 115) (by kernel_rfl) K49
          have e50 := hK.val (i := 50) (s := 116) (by kernel_rfl) K50
          have e51 := hK.val (i := 51) (s := 117) (by kernel_rfl) K51
          have e52 := hK.val (i := 52) (s := 118) (by kernel_rfl) K52
          have e53 := hK.val (i := 53) (s := 119) (by kernel_rfl) K53
          have e54 := hK.val (i := 54) (s := 120) (by kernel_rfl) K54
          have e55 := hK.val (i := 55) (s := 121) (by kernel_rfl) K55
          have e56 := hK.val (i := 56) (s := 122) (by kernel_rfl) K56
          have e57 := hK.val (i := 57) (s := 123) (by kernel_rfl) K57
          have e58 := hK.val (i := 58) (s := 124) (by kernel_rfl) K58
          have e59 := hK.val (i := 59) (s := 125) (by kernel_rfl) K59
          have e60 := hK.val (i := 60) (s := 126) (by kernel_rfl) K60
          have e61 := hK.val (i := 61) (s := 127) (by kernel_rfl) K61
          have e62 := hK.val (i := 62) (s := 128) (by kernel_rfl) K62
          have e63 := hK.val (i := 63) (s := 129) (by kernel_rfl) K63
          have e64 := hK.val (i := 64) (s := 130) (by kernel_rfl) K64
          have e65 := hK.val (i := 65) (s := 131) (by kernel_rfl) K65
          have e66 := hK.val (i := 66) (s := 132) (by kernel_rfl) K66
          have e67 := hK.val (i := 67) (s := 133) (by kernel_rfl) K67
          have e68 := hK.val (i := 68) (s := 134) (by kernel_rfl) K68
          have e69 := hK.val (i := 69) (s := 135) (by kernel_rfl) K69
          have e70 := hK.val (i := 70) (s := 136) (by kernel_rfl) K70
          have e71 := hK.val (i := 71) (s := 137) (by kernel_rfl) K71
          have e72 := hK.val (i := 72) (s := 138) (by kernel_rfl) K72
          have e73 := hK.val (i := 73) (s := 139) (by kernel_rfl) K73
          have e74 := hK.val (i := 74) (s := 140) (by kernel_rfl) K74
          have e75 := hK.val (i := 75) (s := 141) (by kernel_rfl) K75
          have e76 := hK.val (i := 76) (s := 142) (by kernel_rfl) K76
          have e77 := hK.val (i := 77) (s := 143) (by kernel_rfl) K77
          have e78 := hK.val (i := 78) (s := 144) (by kernel_rfl) K78
          have e79 := hK.val (i := 79) (s := 145) (by kernel_rfl) K79
          have e80 := hK.val (i := 80) (s := 146) (by kernel_rfl) K80
          have e81 := hK.val (i := 81) (s := 147) (by kernel_rfl) K81
          have e82 := hK.val (i := 82) (s := 148) (by kernel_rfl) K82
          have e83 := hK.val (i := 83) (s := 149) (by kernel_rfl) K83
          have e84 := hK.val (i := 84) (s := 150) (by kernel_rfl) K84
          have e85 := hK.val (i := 85) (s := 151) (by kernel_rfl) K85
          have e86 := hK.val (i := 86) (s := 152) (by kernel_rfl) K86
          have hF18 : Fr a18 176 [(0, v), (1, (.string ⟨m.toArray⟩)), (5, (.string ⟨B.toArray⟩)), (7, v1), (9, (.bool false)), (10, (.int .i64 (i : Int))), (11, (.pointer (some ⟨g3, 0, none⟩))), (50, (.int .i64 (i : Int))), (51, v), (52, (.int .i64 (l.length : Int))), (53, (.bool true)), (56, (.tuple #[(.agg #[.string ⟨x.1.toArray⟩, .string ⟨x.2.toArray⟩]), (.int .i64 0)])), (57, (.string ⟨B.toArray⟩)), (58, v), (59, (.int .i64 (i : Int))), (60, (slPtr v (i * 2))), (61, (slPtr v (i * 2 + 0))), (62, (.string ⟨x.1.toArray⟩)), (63, (.tuple #[(.agg #[.string ⟨x.1.toArray⟩, .string ⟨x.2.toArray⟩]), (.int .i64 0)])), (64, (.agg #[.string ⟨x.1.toArray⟩, .string ⟨x.2.toArray⟩])), (65, (.int .i64 0)), (152, (.bool false))] := (hK.fr hF17 [(.int .i64 0), (.bool false), (.bool false), (.agg #[.string ⟨x.1.toArray⟩, .string ⟨x.2.toArray⟩]), v, (.int .i64 (i : Int)), (slPtr v (i * 2)), (.agg #[.string ⟨x.1.toArray⟩, .string ⟨x.2.toArray⟩]), (.bool false), (.bool false), (.bool false), v1, (.int .i64 (i : Int)), (slPtr v1 (i * 3)), (slPtr v1 (i * 3 + 0)), (.string ⟨p.1.toArray⟩), v, (.int .i64 (i : Int)), (slPtr v (i * 2)), (slPtr v (i * 2 + 0)), (.string ⟨x.1.toArray⟩), (.bool false), (.bool false), (.bool false), v1, (.int .i64 (i : Int)), (slPtr v1 (i * 3)), (slPtr v1 (i * 3 + 2)), (.int .i64 (p.2.2 : Int)), v, (.int .i64 (i : Int)), (slPtr v (i * 2)), (slPtr v (i * 2 + 1)), (.string ⟨x.2.toArray⟩), (.int .i64 (x.2.length : Int)), (.bool false), (.bool false), (.bool false), v1, (.int .i64 (i : Int)), (slPtr v1 (i * 3)), (slPtr v1 (i * 3 + 1)), (.int .i64 (p.2.1 : Int)), (.bool false), (.bool false), (.bool false), v1, (.int .i64 (i : Int)), (slPtr v1 (i * 3)), (slPtr v1 (i * 3 + 1)), (.int .i64 (p.2.1 : Int)), v1, (.int .i64 (i : Int)), (slPtr v1 (i * 3)), (slPtr v1 (i * 3 + 2)), (.int .i64 (p.2.2 : Int)), (.int .i64 ((p.2.1 + p.2.2 : Nat) : Int)), (.string ⟨B.toArray⟩), (.int .i64 (B.length : Int)), (.bool false), (.bool false), (.bool false), (.string ⟨B.toArray⟩), v1, (.int .i64 (i : Int)), (slPtr v1 (i * 3)), (slPtr v1 (i * 3 + 1)), (.int .i64 (p.2.1 : Int)), v1, (.int .i64 (i : Int)), (slPtr v1 (i * 3)), (slPtr v1 (i * 3 + 1)), (.int .i64 (p.2.1 : Int)), v1, (.int .i64 (i : Int)), (slPtr v1 (i * 3)), (slPtr v1 (i * 3 + 2)), (.int .i64 (p.2.2 : Int)), (.int .i64 ((p.2.1 + p.2.2 : Nat) : Int)), (.string ⟨x.2.toArray⟩), v, (.int .i64 (i : Int)), (slPtr v (i * 2)), (slPtr v (i * 2 + 1)), (.string ⟨x.2.toArray⟩), (.bool false), (.bool false)] ⟨e0, e1, e2, e3, e4, e5, e6, e7, e8, e9, e10, e11, e12, e13, e14, e15, e16, e17, e18, e19, e20, e21, e22, e23, e24, e25, e26, e27, e28, e29, e30, e31, e32, e33, e34, e35, e36, e37, e38, e39, e40, e41, e42, e43, e44, e45, e46, e47, e48, e49, e50, e51, e52, e53, e54, e55, e56, e57, e58, e59, e60, e61, e62, e63, e64, e65, e66, e67, e68, e69, e70, e71, e72, e73, e74, e75, e76, e77, e78, e79, e80, e81, e82, e83, e84, e85, e86, trivial⟩).sub ⟨rfl, rfl, rfl, rfl, rfl, rfl, rfl, rfl, rfl, rfl, rfl, rfl, rfl, rfl, rfl, rfl, rfl, rfl, rfl, rfl, rfl, rfl, trivial⟩
          have hM4 := hM3.grow hb5
          have hO4 := hO3.grow hb5
          clear hK K0 e0 K1 e1 K2 e2 K3 e3 K4 e4 K5 e5 K6 e6 K7 e7 K8 e8 K9 e9 K10 e10 K11 e11 K12 e12 K13 e13 K14 e14 K15 e15 K16 e16 K17 e17 K18 e18 K19 e19 K20 e20 K21 e21 K22 e22 K23 e23 K24 e24 K25 e25 K26 e26 K27 e27 K28 e28 K29 e29 K30 e30 K31 e31 K32 e32 K33 e33 K34 e34 K35 e35 K36 e36 K37 e37 K38 e38 K39 e39 K40 e40 K41 e41 K42 e42 K43 e43 K44 e44 K45 e45 K46 e46 K47 e47 K48 e48 K49 e49 K50 e50 K51 e51 K52 e52 K53 e53 K54 e54 K55 e55 K56 e56 K57 e57 K58 e58 K59 e59 K60 e60 K61 e61 K62 e62 K63 e63 K64 e64 K65 e65 K66 e66 K67 e67 K68 e68 K69 e69 K70 e70 K71 e71 K72 e72 K73 e73 K74 e74 K75 e75 K76 e76 K77 e77 K78 e78 K79 e79 K80 e80 K81 e81 K82 e82 K83 e83 K84 e84 K85 e85 K86 e86
          clear hF17 hM3
          refine nx ?_
          refine wp_cond_false (hF18.ev 152 rfl) ?_
          refine wp_skip ?_
          refine nx ?_
          refine wp_region_lit ?_
          refine sq (v := (.bool false)) hF18 (wantedS rfl) (run_mv rfl (hF18.ev 9 rfl)) rfl (by decide) fun a19 hF19 => ?_
          refine sq (v := (.bool false)) hF19 (wantedS rfl) (run_mv rfl (hF19.ev 153 rfl)) rfl (by decide) fun a20 hF20 => ?_
          refine sq (v := v) hF20 (wantedG hF20 rfl rfl rfl rfl rfl) (run_mv rfl (hF20.ev 0 rfl)) rfl (by decide) fun a21 hF21 => ?_
          refine sq (v := (.int .i64 (i : Int))) hF21 (wantedG hF21 rfl rfl rfl rfl rfl) (run_mv rfl (hF21.ev 10 rfl)) rfl (by decide) fun a22 hF22 => ?_
          refine sq (v := (slPtr v (i * 2))) hF22 (wantedG hF22 rfl rfl rfl rfl rfl) (run_atP (i := i) rfl (hF22.ev 155 rfl) (hF22.ev 156 rfl) rfl (hV.below hM4.below) (by omega) elBox.un (by kernel_rfl)) rfl (by decide) fun a23 hF23 => ?_
          refine sq (v := (slPtr v (i * 2 + 0))) hF23 (wantedG hF23 rfl rfl rfl rfl rfl) (run_fldP (m2 := 1) (s := 0) rfl (hF23.ev 157 rfl) (hV.below hM4.below) (by omega) Try.underlying29 rfl rfl (by kernel_rfl) (by decide)) rfl (by decide) fun a24 hF24 => ?_
          refine sq (v := (.string ⟨x.1.toArray⟩)) hF24 (wantedG hF24 rfl rfl rfl rfl rfl) (run_ldP rfl (hF24.ev 158 rfl) (hV.below hM4.below) (flat_at boxC_len hx 0 rfl) (by kernel_rfl)) rfl (by decide) fun a25 hF25 => ?_
          refine sq (v := (.string ⟨m.toArray⟩)) hF25 (wantedG hF25 rfl rfl rfl rfl rfl) (run_mv rfl (hF25.ev 1 rfl)) rfl (by decide) fun a26 hF26 => ?_
          refine sq (v := (.bool true)) hF26 (wantedG hF26 rfl rfl rfl rfl rfl) (run_eqs rfl (hF26.ev 159 rfl) (hF26.ev 160 rfl) (beq_iff_eq.2 hxm)) rfl (by decide) fun a27 hF27 => ?_
          refine sq (v := (.bool true)) hF27 (wantedS rfl) (run_pick rfl (hF27.ev 154 rfl) rfl (hF27.ev 161 rfl)) rfl (by decide) fun a28 hF28 => ?_
          refine sq (v := (.bool true)) hF28 (wantedS rfl) (run_as rfl (hF28.ev 162 rfl)) rfl (by decide) fun a29 hF29 => ?_
          refine sqEnd ?_
          clear hF18 hF19 hF20 hF21 hF22 hF23 hF24 hF25 hF26 hF27 hF28
          refine bkEnd ?_
          refine nx ?_
          refine wp_region_lit ?_
          refine sq (v := (.int .i64 (i : Int))) hF29 (wantedS rfl) (run_mv rfl (hF29.ev 10 rfl)) rfl (by decide) fun a30 hF30 => ?_
          refine sq (v := (.int .i64 ((i + 1 : Nat) : Int))) hF30 (wantedS rfl) (run_add (r := ((i + 1 : Nat) : Int)) rfl (hF30.ev 54 rfl) rfl (by rw [IntKind.wrap_i64]; omega)) rfl (by decide) fun a31 hF31 => ?_
          refine sq (v := (.int .i64 ((i + 1 : Nat) : Int))) hF31 (wantedS rfl) (run_as rfl (hF31.ev 55 rfl)) rfl (by decide) fun a32 hF32 => ?_
          refine sqEnd ?_
          clear hF29 hF30 hF31
          refine nx ?_
          exact ⟨_, by omega, i + 1, true, by omega, rfl, by rw [hms, contains_snoc, ← hb, beq_iff_eq.2 hxm]; rfl, hO4.sub (.cons _ .slnil), hF32.sub ⟨rfl, rfl, rfl, rfl, rfl, rfl, trivial⟩, hM4.sub (.cons _ .slnil)⟩
      · skip
        refine wp_seq ?_
        refine wp_seq ?_
        refine wp_region_lit ?_
        refine sq (v := (.int .i64 (i : Int))) hF0 (wantedS rfl) (run_mv rfl (hF0.ev 10 rfl)) rfl (by decide) fun a1 hF1 => ?_
        refine sq (v := v) hF1 (wantedS rfl) (run_mv rfl (hF1.ev 0 rfl)) rfl (by decide) fun a2 hF2 => ?_
        refine sq (v := (.int .i64 (l.length : Int))) hF2 (wantedS rfl) (run_lenS rfl (hF2.ev 51 rfl) (hV.below hM0.below) rfl Try.underlying22) rfl (by decide) fun a3 hF3 => ?_
        refine sq (v := (.bool true)) hF3 (wantedS rfl) (run_lss rfl (hF3.ev 50 rfl) (hF3.ev 52 rfl) (decide_eq_true (by omega))) rfl (by decide) fun a4 hF4 => ?_
        refine sqEnd ?_
        clear hF0 hF1 hF2 hF3
        refine nx ?_
        refine wp_cond_true (hF4.ev 53 rfl) ?_
        refine wp_skip ?_
        refine nx ?_
        refine wp_seq ?_
        refine wp_block ?_
        refine wp_seq ?_
        refine wp_region_lit ?_
        refine sq (v := (.string ⟨B.toArray⟩)) hF4 (wantedS rfl) (run_mv rfl (hF4.ev 5 rfl)) rfl (by decide) fun a5 hF5 => ?_
        refine sq (v := v) hF5 (wantedS rfl) (run_mv rfl (hF5.ev 0 rfl)) rfl (by decide) fun a6 hF6 => ?_
        refine sq (v := (.int .i64 (i : Int))) hF6 (wantedS rfl) (run_mv rfl (hF6.ev 10 rfl)) rfl (by decide) fun a7 hF7 => ?_
        refine sq (v := (slPtr v (i * 2))) hF7 (wantedS rfl) (run_atP (i := i) rfl (hF7.ev 58 rfl) (hF7.ev 59 rfl) rfl (hV.below hM0.below) (by omega) elBox.un (by kernel_rfl)) rfl (by decide) fun a8 hF8 => ?_
        refine sq (v := (slPtr v (i * 2 + 0))) hF8 (wantedS rfl) (run_fldP (m2 := 1) (s := 0) rfl (hF8.ev 60 rfl) (hV.below hM0.below) (by omega) Try.underlying29 rfl rfl (by kernel_rfl) (by decide)) rfl (by decide) fun a9 hF9 => ?_
        refine sq (v := (.string ⟨x.1.toArray⟩)) hF9 (wantedS rfl) (run_ldP rfl (hF9.ev 61 rfl) (hV.below hM0.below) (flat_at boxC_len hx 0 rfl) (by kernel_rfl)) rfl (by decide) fun a10 hF10 => ?_
        refine sqC (v := (.tuple #[(.agg #[.string ⟨x.1.toArray⟩, .string ⟨x.2.toArray⟩]), (.int .i64 0)])) hF10 hM0 (wantedS rfl) (run_call rfl Try.func11 (by kernel_rfl) rfl (mapE2 (hF10.ev 57 rfl) (hF10.ev 62 rfl))) rfl (by decide) (by have h := ptake_any B x.1 w1 (by omega); rw [takeS_some hof (find_own hnd hx)] at h; exact h) fun a11 w2 hb2 hF11 hM1 => ?_
        have hO1 := hO0.grow hb2
        refine sq (v := (.tuple #[(.agg #[.string ⟨x.1.toArray⟩, .string ⟨x.2.toArray⟩]), (.int .i64 0)])) hF11 (wantedS rfl) (run_mv rfl (hF11.ev 63 rfl)) rfl (by decide) fun a12 hF12 => ?_
        refine sq (v := (.agg #[.string ⟨x.1.toArray⟩, .string ⟨x.2.toArray⟩])) hF12 (wantedS rfl) (run_ext rfl (hF12.ev 56 rfl) rfl) rfl (by decide) fun a13 hF13 => ?_
        refine sq (v := (.int .i64 0)) hF13 (wantedS rfl) (run_ext rfl (hF13.ev 56 rfl) rfl) rfl (by decide) fun a14 hF14 => ?_
        refine sqNew (cs := #[.string ⟨List.toArray []⟩, .string ⟨List.toArray []⟩]) (t := 29) hF14 hM1 (wantedS rfl) (run_alloc rfl (by kernel_rfl)) rfl (by decide) fun g4 a15 w3 hgg4 hb3 hF15 hM2 => ?_
        have hO2 := hO1.add (S := isB 29 (#[.string ⟨List.toArray []⟩, .string ⟨List.toArray []⟩])) hb3 hgg4
        refine sqStoreG (i := 0) hF15 hM2 rfl rfl rfl (hF15.ev 11 rfl) (hF15.ev 64 rfl) rfl szBox rfl rfl (arr_one rfl) fun a16 w4 hgr4 hF16 hM3 => ?_
        have hO3 := hO2.upd 0 (S2 := isB 29 (#[.string ⟨x.1.toArray⟩, .string ⟨x.2.toArray⟩])) rfl hgr4
        refine sq (v := (.int .i64 0)) hF16 (wantedS rfl) (run_as rfl (hF16.ev 65 rfl)) rfl (by decide) fun a17 hF17 => ?_
        refine sqEnd ?_
        clear hF4 hF5 hF6 hF7 hF8 hF9 hF10 hF11 hF12 hF13 hF14 hF15 hF16 hM0 hM1 hM2
        refine nx ?_
        refine wp_seq ?_
        refine wp_seq ?_
        obtain ⟨KL, hKL⟩ : ∃ KL, KL = [kval (.int .i64 0), kval (.bool false), kval (.bool false), kval (.agg #[.string ⟨x.1.toArray⟩, .string ⟨x.2.toArray⟩]), kval v, kval (.int .i64 (i : Int)), kval (slPtr v (i * 2)), kval (.agg #[.string ⟨x.1.toArray⟩, .string ⟨x.2.toArray⟩]), kval (.bool false), kval (.bool false), kval (.bool false), kval v1, kval (.int .i64 (i : Int)), kval (slPtr v1 (i * 3)), kval (slPtr v1 (i * 3 + 0)), kval (.string ⟨p.1.toArray⟩), kval v, kval (.int .i64 (i : Int)), kval (slPtr v (i * 2)), kval (slPtr v (i * 2 + 0)), kval (.string ⟨x.1.toArray⟩), kval (.bool false), kval (.bool false), kval (.bool false), kval v1, kval (.int .i64 (i : Int)), kval (slPtr v1 (i * 3)), kval (slPtr v1 (i * 3 + 2)), kval (.int .i64 (p.2.2 : Int)), kval v, kval (.int .i64 (i : Int)), kval (slPtr v (i * 2)), kval (slPtr v (i * 2 + 1)), kval (.string ⟨x.2.toArray⟩), kval (.int .i64 (x.2.length : Int)), kval (.bool false), kval (.bool false), kval (.bool false), kval v1, kval (.int .i64 (i : Int)), kval (slPtr v1 (i * 3)), kval (slPtr v1 (i * 3 + 1)), kval (.int .i64 (p.2.1 : Int)), kval (.bool false), kval (.bool false), kval (.bool false), kval v1, kval (.int .i64 (i : Int)), kval (slPtr v1 (i * 3)), kval (slPtr v1 (i * 3 + 1)), kval (.int .i64 (p.2.1 : Int)), kval v1, kval (.int .i64 (i : Int)), kval (slPtr v1 (i * 3)), kval (slPtr v1 (i * 3 + 2)), kval (.int .i64 (p.2.2 : Int)), kval (.int .i64 ((p.2.1 + p.2.2 : Nat) : Int)), kval (.string ⟨B.toArray⟩), kval (.int .i64 (B.length : Int)), kval (.bool false), kval (.bool false), kval (.bool false), kval (.string ⟨B.toArray⟩), kval v1, kval (.int .i64 (i : Int)), kval (slPtr v1 (i * 3)), kval (slPtr v1 (i * 3 + 1)), kval (.int .i64 (p.2.1 : Int)), kval v1, kval (.int .i64 (i : Int)), kval (slPtr v1 (i * 3)), kval (slPtr v1 (i * 3 + 1)), kval (.int .i64 (p.2.1 : Int)), kval v1, kval (.int .i64 (i : Int)), kval (slPtr v1 (i * 3)), kval (slPtr v1 (i * 3 + 2)), kval (.int .i64 (p.2.2 : Int)), kval (.int .i64 ((p.2.1 + p.2.2 : Nat) : Int)), kval (.string ⟨x.2.toArray⟩), kval v, kval (.int .i64 (i : Int)), kval (slPtr v (i * 2)), kval (slPtr v (i * 2 + 1)), kval (.string ⟨x.2.toArray⟩), kval (.bool false), kval (.bool false)] := ⟨_, rfl⟩
        have K0 : KL.getD 0 kany = kval (.int .i64 0) := by rw [hKL]; rfl
        have K1 : KL.getD 1 kany = kval (.bool false) := by rw [hKL]; rfl
        have K2 : KL.getD 2 kany = kval (.bool false) := by rw [hKL]; rfl
        have K3 : KL.getD 3 kany = kval (.agg #[.string ⟨x.1.toArray⟩, .string ⟨x.2.toArray⟩]) := by rw [hKL]; rfl
        have K4 : KL.getD 4 kany = kval v := by rw [hKL]; rfl
        have K5 : KL.getD 5 kany = kval (.int .i64 (i : Int)) := by rw [hKL]; rfl
        have K6 : KL.getD 6 kany = kval (slPtr v (i * 2)) := by rw [hKL]; rfl
        have K7 : KL.getD 7 kany = kval (.agg #[.string ⟨x.1.toArray⟩, .string ⟨x.2.toArray⟩]) := by rw [hKL]; rfl
        have K8 : KL.getD 8 kany = kval (.bool false) := by rw [hKL]; rfl
        have K9 : KL.getD 9 kany = kval (.bool false) := by rw [hKL]; rfl
        have K10 : KL.getD 10 kany = kval (.bool false) := by rw [hKL]; rfl
        have K11 : KL.getD 11 kany = kval v1 := by rw [hKL]; rfl
        have K12 : KL.getD 12 kany = kval (.int .i64 (i : Int)) := by rw [hKL]; rfl
        have K13 : KL.getD 13 kany = kval (slPtr v1 (i * 3)) := by rw [hKL]; rfl
        have K14 : KL.getD 14 kany = kval (slPtr v1 (i * 3 + 0)) := by rw [hKL]; rfl
        have K15 : KL.getD 15 kany = kval (.string ⟨p.1.toArray⟩) := by rw [hKL]; rfl
        have K16 : KL.getD 16 kany = kval v := by rw [hKL]; rfl
        have K17 : KL.getD 17 kany = kval (.int .i64 (i : Int)) := by rw [hKL]; rfl
        have K18 : KL.getD 18 kany = kval (slPtr v (i * 2)) := by rw [hKL]; rfl
        have K19 : KL.getD 19 kany = kval (slPtr v (i * 2 + 0)) := by rw [hKL]; rfl
        have K20 : KL.getD 20 kany = kval (.string ⟨x.1.toArray⟩) := by rw [hKL]; rfl
        have K21 : KL.getD 21 kany = kval (.bool false) := by rw [hKL]; rfl
        have K22 : KL.getD 22 kany = kval (.bool false) := by rw [hKL]; rfl
        have K23 : KL.getD 23 kany = kval (.bool false) := by rw [hKL]; rfl
        have K24 : KL.getD 24 kany = kval v1 := by rw [hKL]; rfl
        have K25 : KL.getD 25 kany = kval (.int .i64 (i : Int)) := by rw [hKL]; rfl
        have K26 : KL.getD 26 kany = kval (slPtr v1 (i * 3)) := by rw [hKL]; rfl
        have K27 : KL.getD 27 kany = kval (slPtr v1 (i * 3 + 2)) := by rw [hKL]; rfl
        have K28 : KL.getD 28 kany = kval (.int .i64 (p.2.2 : Int)) := by rw [hKL]; rfl
        have K29 : KL.getD 29 kany = kval v := by rw [hKL]; rfl
        have K30 : KL.getD 30 kany = kval (.int .i64 (i : Int)) := by rw [hKL]; rfl
        have K31 : KL.getD 31 kany = kval (slPtr v (i * 2)) := by rw [hKL]; rfl
        have K32 : KL.getD 32 kany = kval (slPtr v (i * 2 + 1)) := by rw [hKL]; rfl
        have K33 : KL.getD 33 kany = kval (.string ⟨x.2.toArray⟩) := by rw [hKL]; rfl
        have K34 : KL.getD 34 kany = kval (.int .i64 (x.2.length : Int)) := by rw [hKL]; rfl
        have K35 : KL.getD 35 kany = kval (.bool false) := by rw [hKL]; rfl
        have K36 : KL.getD 36 kany = kval (.bool false) := by rw [hKL]; rfl
        have K37 : KL.getD 37 kany = kval (.bool false) := by rw [hKL]; rfl
        have K38 : KL.getD 38 kany = kval v1 := by rw [hKL]; rfl
        have K39 : KL.getD 39 kany = kval (.int .i64 (i : Int)) := by rw [hKL]; rfl
        have K40 : KL.getD 40 kany = kval (slPtr v1 (i * 3)) := by rw [hKL]; rfl
        have K41 : KL.getD 41 kany = kval (slPtr v1 (i * 3 + 1)) := by rw [hKL]; rfl
        have K42 : KL.getD 42 kany = kval (.int .i64 (p.2.1 : Int)) := by rw [hKL]; rfl
        have K43 : KL.getD 43 kany = kval (.bool false) := by rw [hKL]; rfl
        have K44 : KL.getD 44 kany = kval (.bool false) := by rw [hKL]; rfl
        have K45 : KL.getD 45 kany = kval (.bool false) := by rw [hKL]; rfl
        have K46 : KL.getD 46 kany = kval v1 := by rw [hKL]; rfl
        have K47 : KL.getD 47 kany = kval (.int .i64 (i : Int)) := by rw [hKL]; rfl
        have K48 : KL.getD 48 kany = kval (slPtr v1 (i * 3)) := by rw [hKL]; rfl
        have K49 : KL.getD 49 kany = kval (slPtr v1 (i * 3 + 1)) := by rw [hKL]; rfl
        have K50 : KL.getD 50 kany = kval (.int .i64 (p.2.1 : Int)) := by rw [hKL]; rfl
        have K51 : KL.getD 51 kany = kval v1 := by rw [hKL]; rfl
        have K52 : KL.getD 52 kany = kval (.int .i64 (i : Int)) := by rw [hKL]; rfl
        have K53 : KL.getD 53 kany = kval (slPtr v1 (i * 3)) := by rw [hKL]; rfl
        have K54 : KL.getD 54 kany = kval (slPtr v1 (i * 3 + 2)) := by rw [hKL]; rfl
        have K55 : KL.getD 55 kany = kval (.int .i64 (p.2.2 : Int)) := by rw [hKL]; rfl
        have K56 : KL.getD 56 kany = kval (.int .i64 ((p.2.1 + p.2.2 : Nat) : Int)) := by rw [hKL]; rfl
        have K57 : KL.getD 57 kany = kval (.string ⟨B.toArray⟩) := by rw [hKL]; rfl
        have K58 : KL.getD 58 kany = kval (.int .i64 (B.length : Int)) := by rw [hKL]; rfl
        have K59 : KL.getD 59 kany = kval (.bool false) := by rw [hKL]; rfl
        have K60 : KL.getD 60 kany = kval (.bool false) := by rw [hKL]; rfl
        have K61 : KL.getD 61 kany = kval (.bool false) := by rw [hKL]; rfl
        have K62 : KL.getD 62 kany = kval (.string ⟨B.toArray⟩) := by rw [hKL]; rfl
        have K63 : KL.getD 63 kany = kval v1 := by rw [hKL]; rfl
        have K64 : KL.getD 64 kany = kval (.int .i64 (i : Int)) := by rw [hKL]; rfl
        have K65 : KL.getD 65 kany = kval (slPtr v1 (i * 3)) := by rw [hKL]; rfl
        have K66 : KL.getD 66 kany = kval (slPtr v1 (i * 3 + 1)) := by rw [hKL]; rfl
        have K67 : KL.getD 67 kany = kval (.int .i64 (p.2.1 : Int)) := by rw [hKL]; rfl
        have K68 : KL.getD 68 kany = kval v1 := by rw [hKL]; rfl
        have K69 : KL.getD 69 kany = kval (.int .i64 (i : Int)) := by rw [hKL]; rfl
        have K70 : KL.getD 70 kany = kval (slPtr v1 (i * 3)) := by rw [hKL]; rfl
        have K71 : KL.getD 71 kany = kval (slPtr v1 (i * 3 + 1)) := by rw [hKL]; rfl
        have K72 : KL.getD 72 kany = kval (.int .i64 (p.2.1 : Int)) := by rw [hKL]; rfl
        have K73 : KL.getD 73 kany = kval v1 := by rw [hKL]; rfl
        have K74 : KL.getD 74 kany = kval (.int .i64 (i : Int)) := by rw [hKL]; rfl
        have K75 : KL.getD 75 kany = kval (slPtr v1 (i * 3)) := by rw [hKL]; rfl
        have K76 : KL.getD 76 kany = kval (slPtr v1 (i * 3 + 2)) := by rw [hKL]; rfl
        have K77 : KL.getD 77 kany = kval (.int .i64 (p.2.2 : Int)) := by rw [hKL]; rfl
        have K78 : KL.getD 78 kany = kval (.int .i64 ((p.2.1 + p.2.2 : Nat) : Int)) := by rw [hKL]; rfl
        have K79 : KL.getD 79 kany = kval (.string ⟨x.2.toArray⟩) := by rw [hKL]; rfl
        have K80 : KL.getD 80 kany = kval v := by rw [hKL]; rfl
        have K81 : KL.getD 81 kany = kval (.int .i64 (i : Int)) := by rw [hKL]; rfl
        have K82 : KL.getD 82 kany = kval (slPtr v (i * 2)) := by rw [hKL]; rfl
        have K83 : KL.getD 83 kany = kval (slPtr v (i * 2 + 1)) := by rw [hKL]; rfl
        have K84 : KL.getD 84 kany = kval (.string ⟨x.2.toArray⟩) := by rw [hKL]; rfl
        have K85 : KL.getD 85 kany = kval (.bool false) := by rw [hKL]; rfl
        have K86 : KL.getD 86 kany = kval (.bool false) := by rw [hKL]; rfl
        clear hKL
        refine wp_region_kd 176 (by kernel_rfl) (by kernel_rfl) (by kernel_rfl) hF17.size KL ?_ ?_
        · refine ⟨?_, ?_, ?_, ?_, ?_, ?_, ?_, ?_, ?_, ?_, ?_, ?_, ?_, ?_, ?_, ?_, ?_, ?_, ?_, ?_, ?_, ?_, ?_, ?_, ?_, ?_, ?_, ?_, ?_, ?_, ?_, ?_, ?_, ?_, ?_, ?_, ?_, ?_, ?_, ?_, ?_, ?_, ?_, ?_, ?_, ?_, ?_, ?_, ?_, ?_, ?_, ?_, ?_, ?_, ?_, ?_, ?_, ?_, ?_, ?_, ?_, ?_, ?_, ?_, ?_, ?_, ?_, ?_, ?_, ?_, ?_, ?_, ?_, ?_, ?_, ?_, ?_, ?_, ?_, ?_, ?_, ?_, ?_, ?_, ?_, ?_, ?_, trivial⟩
          · refine asks_mk fun a W hS hh hd => ⟨wanted_yes rfl, ?_⟩
            exact giv_run (run_mv rfl (eval_tmp (hh 12 _ rfl (hF17.at 12 rfl)))) K0
          · refine asks_mk fun a W hS hh hd => ⟨wanted_yes rfl, ?_⟩
            exact giv_run (run_nei rfl (eval_tmp (hd.val (j := 0) (s := 66) (by kernel_rfl) K0)) rfl (bne_eq_false_iff_eq.2 (by omega))) K1
          · refine asks_mk fun a W hS hh hd => ⟨wanted_yes rfl, ?_⟩
            exact giv_run (run_mv rfl (eval_tmp (hd.val (j := 1) (s := 67) (by kernel_rfl) K1))) K2
          · refine asks_mk fun a W hS hh hd => ⟨wanted_of (j := 2) (s := 68) (by kernel_rfl) (hd.val (j := 2) (s := 68) (by kernel_rfl) K2), ?_⟩
            exact giv_run (run_ldB rfl (eval_tmp (hh 11 _ rfl (hF17.at 11 rfl))) ((hM3.grow hS).at 0 rfl) Try.underlying29 rfl szBox rfl) K3
          · refine asks_mk fun a W hS hh hd => ⟨wanted_of (j := 2) (s := 68) (by kernel_rfl) (hd.val (j := 2) (s := 68) (by kernel_rfl) K2), ?_⟩
            exact giv_run (run_mv rfl (eval_tmp (hh 0 _ rfl (hF17.at 0 rfl)))) K4
          · refine asks_mk fun a W hS hh hd => ⟨wanted_of (j := 2) (s := 68) (by kernel_rfl) (hd.val (j := 2) (s := 68) (by kernel_rfl) K2), ?_⟩
            exact giv_run (run_mv rfl (eval_tmp (hh 10 _ rfl (hF17.at 10 rfl)))) K5
          · refine asks_mk fun a W hS hh hd => ⟨wanted_of (j := 2) (s := 68) (by kernel_rfl) (hd.val (j := 2) (s := 68) (by kernel_rfl) K2), ?_⟩
            exact giv_run (run_atP (i := i) rfl (eval_tmp (hd.val (j := 4) (s := 70) (by kernel_rfl) K4)) (eval_tmp (hd.val (j := 5) (s := 71) (by kernel_rfl) K5)) rfl (hV.below (hM3.grow hS).below) (by omega) elBox.un (by kernel_rfl)) K6
          · refine asks_mk fun a W hS hh hd => ⟨wanted_of (j := 2) (s := 68) (by kernel_rfl) (hd.val (j := 2) (s := 68) (by kernel_rfl) K2), ?_⟩
            exact giv_run (run_ldPS (ys := boxC x) rfl (eval_tmp (hd.val (j := 6) (s := 72) (by kernel_rfl) K6)) (hV.below (hM3.grow hS).below) (by omega) (fun j u hj => flat_at boxC_len hx j hj) (by kernel_rfl) (by kernel_rfl)) K7
          · refine asks_mk fun a W hS hh hd => ⟨wanted_of (j := 2) (s := 68) (by kernel_rfl) (hd.val (j := 2) (s := 68) (by kernel_rfl) K2), ?_⟩
            exact giv_run (run_neBox (by simp) rfl (eval_tmp (hd.val (j := 3) (s := 69) (by kernel_rfl) K3)) (eval_tmp (hd.val (j := 7) (s := 73) (by kernel_rfl) K7))) K8
          · refine asks_mk fun a W hS hh hd => ⟨wanted_yes rfl, ?_⟩
            exact giv_run (run_pick rfl (eval_tmp (hd.val (j := 2) (s := 68) (by kernel_rfl) K2)) rfl (eval_tmp (hd.val (j := 8) (s := 74) (by kernel_rfl) K8))) K9
          · refine asks_mk fun a W hS hh hd => ⟨wanted_yes rfl, ?_⟩
            exact giv_run (run_mv rfl (eval_tmp (hd.val (j := 9) (s := 75) (by kernel_rfl) K9))) K10
          · refine asks_mk fun a W hS hh hd => ⟨wanted_of (j := 10) (s := 76) (by kernel_rfl) (hd.val (j := 10) (s := 76) (by kernel_rfl) K10), ?_⟩
            exact giv_run (run_mv rfl (eval_tmp (hh 7 _ rfl (hF17.at 7 rfl)))) K11
          · refine asks_mk fun a W hS hh hd => ⟨wanted_of (j := 10) (s := 76) (by kernel_rfl) (hd.val (j := 10) (s := 76) (by kernel_rfl) K10), ?_⟩
            exact giv_run (run_mv rfl (eval_tmp (hh 10 _ rfl (hF17.at 10 rfl)))) K12
          · refine asks_mk fun a W hS hh hd => ⟨wanted_of (j := 10) (s := 76) (by kernel_rfl) (hd.val (j := 10) (s := 76) (by kernel_rfl) K10), ?_⟩
            exact giv_run (run_atP (i := i) rfl (eval_tmp (hd.val (j := 11) (s := 77) (by kernel_rfl) K11)) (eval_tmp (hd.val (j := 12) (s := 78) (by kernel_rfl) K12)) rfl (Sl.own (hO3.grow hS)) (by omega) elPlace.un (by kernel_rfl)) K13
          · refine asks_mk fun a W hS hh hd => ⟨wanted_of (j := 10) (s := 76) (by kernel_rfl) (hd.val (j := 10) (s := 76) (by kernel_rfl) K10), ?_⟩
            exact giv_run (run_fldP (m2 := 1) (s := 0) rfl (eval_tmp (hd.val (j := 13) (s := 79) (by kernel_rfl) K13)) (Sl.own (hO3.grow hS)) (by omega) Try.underlying39 rfl rfl (by kernel_rfl) (by decide)) K14
          · refine asks_mk fun a W hS hh hd => ⟨wanted_of (j := 10) (s := 76) (by kernel_rfl) (hd.val (j := 10) (s := 76) (by kernel_rfl) K10), ?_⟩
            exact giv_run (run_ldP rfl (eval_tmp (hd.val (j := 14) (s := 80) (by kernel_rfl) K14)) (Sl.own (hO3.grow hS)) (flat_at placeC_len hp 0 rfl) (by kernel_rfl)) K15
          · refine asks_mk fun a W hS hh hd => ⟨wanted_of (j := 10) (s := 76) (by kernel_rfl) (hd.val (j := 10) (s := 76) (by kernel_rfl) K10), ?_⟩
            exact giv_run (run_mv rfl (eval_tmp (hh 0 _ rfl (hF17.at 0 rfl)))) K16
          · refine asks_mk fun a W hS hh hd => ⟨wanted_of (j := 10) (s := 76) (by kernel_rfl) (hd.val (j := 10) (s := 76) (by kernel_rfl) K10), ?_⟩
            exact giv_run (run_mv rfl (eval_tmp (hh 10 _ rfl (hF17.at 10 rfl)))) K17
          · refine asks_mk fun a W hS hh hd => ⟨wanted_of (j := 10) (s := 76) (by kernel_rfl) (hd.val (j := 10) (s := 76) (by kernel_rfl) K10), ?_⟩
            exact giv_run (run_atP (i := i) rfl (eval_tmp (hd.val (j := 16) (s := 82) (by kernel_rfl) K16)) (eval_tmp (hd.val (j := 17) (s := 83) (by kernel_rfl) K17)) rfl (hV.below (hM3.grow hS).below) (by omega) elBox.un (by kernel_rfl)) K18
          · refine asks_mk fun a W hS hh hd => ⟨wanted_of (j := 10) (s := 76) (by kernel_rfl) (hd.val (j := 10) (s := 76) (by kernel_rfl) K10), ?_⟩
            exact giv_run (run_fldP (m2 := 1) (s := 0) rfl (eval_tmp (hd.val (j := 18) (s := 84) (by kernel_rfl) K18)) (hV.below (hM3.grow hS).below) (by omega) Try.underlying29 rfl rfl (by kernel_rfl) (by decide)) K19
          · refine asks_mk fun a W hS hh hd => ⟨wanted_of (j := 10) (s := 76) (by kernel_rfl) (hd.val (j := 10) (s := 76) (by kernel_rfl) K10), ?_⟩
            exact giv_run (run_ldP rfl (eval_tmp (hd.val (j := 19) (s := 85) (by kernel_rfl) K19)) (hV.below (hM3.grow hS).below) (flat_at boxC_len hx 0 rfl) (by kernel_rfl)) K20
          · refine asks_mk fun a W hS hh hd => ⟨wanted_of (j := 10) (s := 76) (by kernel_rfl) (hd.val (j := 10) (s := 76) (by kernel_rfl) K10), ?_⟩
            exact giv_run (run_nes rfl (eval_tmp (hd.val (j := 15) (s := 81) (by kernel_rfl) K15)) (eval_tmp (hd.val (j := 20) (s := 86) (by kernel_rfl) K20)) (by rw [hp1]; simp)) K21
          · refine asks_mk fun a W hS hh hd => ⟨wanted_yes rfl, ?_⟩
            exact giv_run (run_pick rfl (eval_tmp (hd.val (j := 10) (s := 76) (by kernel_rfl) K10)) rfl (eval_tmp (hd.val (j := 21) (s := 87) (by kernel_rfl) K21))) K22
          · refine asks_mk fun a W hS hh hd => ⟨wanted_yes rfl, ?_⟩
            exact giv_run (run_mv rfl (eval_tmp (hd.val (j := 22) (s := 88) (by kernel_rfl) K22))) K23
          · refine asks_mk fun a W hS hh hd => ⟨wanted_of (j := 23) (s := 89) (by kernel_rfl) (hd.val (j := 23) (s := 89) (by kernel_rfl) K23), ?_⟩
            exact giv_run (run_mv rfl (eval_tmp (hh 7 _ rfl (hF17.at 7 rfl)))) K24
          · refine asks_mk fun a W hS hh hd => ⟨wanted_of (j := 23) (s := 89) (by kernel_rfl) (hd.val (j := 23) (s := 89) (by kernel_rfl) K23), ?_⟩
            exact giv_run (run_mv rfl (eval_tmp (hh 10 _ rfl (hF17.at 10 rfl)))) K25
          · refine asks_mk fun a W hS hh hd => ⟨wanted_of (j := 23) (s := 89) (by kernel_rfl) (hd.val (j := 23) (s := 89) (by kernel_rfl) K23), ?_⟩
            exact giv_run (run_atP (i := i) rfl (eval_tmp (hd.val (j := 24) (s := 90) (by kernel_rfl) K24)) (eval_tmp (hd.val (j := 25) (s := 91) (by kernel_rfl) K25)) rfl (Sl.own (hO3.grow hS)) (by omega) elPlace.un (by kernel_rfl)) K26
          · refine asks_mk fun a W hS hh hd => ⟨wanted_of (j := 23) (s := 89) (by kernel_rfl) (hd.val (j := 23) (s := 89) (by kernel_rfl) K23), ?_⟩
            exact giv_run (run_fldP (m2 := 1) (s := 2) rfl (eval_tmp (hd.val (j := 26) (s := 92) (by kernel_rfl) K26)) (Sl.own (hO3.grow hS)) (by omega) Try.underlying39 rfl rfl (by kernel_rfl) (by decide)) K27
          · refine asks_mk fun a W hS hh hd => ⟨wanted_of (j := 23) (s := 89) (by kernel_rfl) (hd.val (j := 23) (s := 89) (by kernel_rfl) K23), ?_⟩
            exact giv_run (run_ldP rfl (eval_tmp (hd.val (j := 27) (s := 93) (by kernel_rfl) K27)) (Sl.own (hO3.grow hS)) (flat_at placeC_len hp 2 rfl) (by kernel_rfl)) K28
          · refine asks_mk fun a W hS hh hd => ⟨wanted_of (j := 23) (s := 89) (by kernel_rfl) (hd.val (j := 23) (s := 89) (by kernel_rfl) K23), ?_⟩
            exact giv_run (run_mv rfl (eval_tmp (hh 0 _ rfl (hF17.at 0 rfl)))) K29
          · refine asks_mk fun a W hS hh hd => ⟨wanted_of (j := 23) (s := 89) (by kernel_rfl) (hd.val (j := 23) (s := 89) (by kernel_rfl) K23), ?_⟩
            exact giv_run (run_mv rfl (eval_tmp (hh 10 _ rfl (hF17.at 10 rfl)))) K30
          · refine asks_mk fun a W hS hh hd => ⟨wanted_of (j := 23) (s := 89) (by kernel_rfl) (hd.val (j := 23) (s := 89) (by kernel_rfl) K23), ?_⟩
            exact giv_run (run_atP (i := i) rfl (eval_tmp (hd.val (j := 29) (s := 95) (by kernel_rfl) K29)) (eval_tmp (hd.val (j := 30) (s := 96) (by kernel_rfl) K30)) rfl (hV.below (hM3.grow hS).below) (by omega) elBox.un (by kernel_rfl)) K31
          · refine asks_mk fun a W hS hh hd => ⟨wanted_of (j := 23) (s := 89) (by kernel_rfl) (hd.val (j := 23) (s := 89) (by kernel_rfl) K23), ?_⟩
            exact giv_run (run_fldP (m2 := 1) (s := 1) rfl (eval_tmp (hd.val (j := 31) (s := 97) (by kernel_rfl) K31)) (hV.below (hM3.grow hS).below) (by omega) Try.underlying29 rfl rfl (by kernel_rfl) (by decide)) K32
          · refine asks_mk fun a W hS hh hd => ⟨wanted_of (j := 23) (s := 89) (by kernel_rfl) (hd.val (j := 23) (s := 89) (by kernel_rfl) K23), ?_⟩
            exact giv_run (run_ldP rfl (eval_tmp (hd.val (j := 32) (s := 98) (by kernel_rfl) K32)) (hV.below (hM3.grow hS).below) (flat_at boxC_len hx 1 rfl) (by kernel_rfl)) K33
          · refine asks_mk fun a W hS hh hd => ⟨wanted_of (j := 23) (s := 89) (by kernel_rfl) (hd.val (j := 23) (s := 89) (by kernel_rfl) K23), ?_⟩
            exact giv_run (run_len rfl (eval_tmp (hd.val (j := 33) (s := 99) (by kernel_rfl) K33)) rfl Try.underlying9) K34
          · refine asks_mk fun a W hS hh hd => ⟨wanted_of (j := 23) (s := 89) (by kernel_rfl) (hd.val (j := 23) (s := 89) (by kernel_rfl) K23), ?_⟩
            exact giv_run (run_nei rfl (eval_tmp (hd.val (j := 28) (s := 94) (by kernel_rfl) K28)) (eval_tmp (hd.val (j := 34) (s := 100) (by kernel_rfl) K34)) (bne_eq_false_iff_eq.2 (by omega))) K35
          · refine asks_mk fun a W hS hh hd => ⟨wanted_yes rfl, ?_⟩
            exact giv_run (run_pick rfl (eval_tmp (hd.val (j := 23) (s := 89) (by kernel_rfl) K23)) rfl (eval_tmp (hd.val (j := 35) (s := 101) (by kernel_rfl) K35))) K36
          · refine asks_mk fun a W hS hh hd => ⟨wanted_yes rfl, ?_⟩
            exact giv_run (run_mv rfl (eval_tmp (hd.val (j := 36) (s := 102) (by kernel_rfl) K36))) K37
          · refine asks_mk fun a W hS hh hd => ⟨wanted_of (j := 37) (s := 103) (by kernel_rfl) (hd.val (j := 37) (s := 103) (by kernel_rfl) K37), ?_⟩
            exact giv_run (run_mv rfl (eval_tmp (hh 7 _ rfl (hF17.at 7 rfl)))) K38
          · refine asks_mk fun a W hS hh hd => ⟨wanted_of (j := 37) (s := 103) (by kernel_rfl) (hd.val (j := 37) (s := 103) (by kernel_rfl) K37), ?_⟩
            exact giv_run (run_mv rfl (eval_tmp (hh 10 _ rfl (hF17.at 10 rfl)))) K39
          · refine asks_mk fun a W hS hh hd => ⟨wanted_of (j := 37) (s := 103) (by kernel_rfl) (hd.val (j := 37) (s := 103) (by kernel_rfl) K37), ?_⟩
            exact giv_run (run_atP (i := i) rfl (eval_tmp (hd.val (j := 38) (s := 104) (by kernel_rfl) K38)) (eval_tmp (hd.val (j := 39) (s := 105) (by kernel_rfl) K39)) rfl (Sl.own (hO3.grow hS)) (by omega) elPlace.un (by kernel_rfl)) K40
          · refine asks_mk fun a W hS hh hd => ⟨wanted_of (j := 37) (s := 103) (by kernel_rfl) (hd.val (j := 37) (s := 103) (by kernel_rfl) K37), ?_⟩
            exact giv_run (run_fldP (m2 := 1) (s := 1) rfl (eval_tmp (hd.val (j := 40) (s := 106) (by kernel_rfl) K40)) (Sl.own (hO3.grow hS)) (by omega) Try.underlying39 rfl rfl (by kernel_rfl) (by decide)) K41
          · refine asks_mk fun a W hS hh hd => ⟨wanted_of (j := 37) (s := 103) (by kernel_rfl) (hd.val (j := 37) (s := 103) (by kernel_rfl) K37), ?_⟩
            exact giv_run (run_ldP rfl (eval_tmp (hd.val (j := 41) (s := 107) (by kernel_rfl) K41)) (Sl.own (hO3.grow hS)) (flat_at placeC_len hp 1 rfl) (by kernel_rfl)) K42
          · refine asks_mk fun a W hS hh hd => ⟨wanted_of (j := 37) (s := 103) (by kernel_rfl) (hd.val (j := 37) (s := 103) (by kernel_rfl) K37), ?_⟩
            exact giv_run (run_lss rfl (eval_tmp (hd.val (j := 42) (s := 108) (by kernel_rfl) K42)) rfl (decide_eq_false (by omega))) K43
          · refine asks_mk fun a W hS hh hd => ⟨wanted_yes rfl, ?_⟩
            exact giv_run (run_pick rfl (eval_tmp (hd.val (j := 37) (s := 103) (by kernel_rfl) K37)) rfl (eval_tmp (hd.val (j := 43) (s := 109) (by kernel_rfl) K43))) K44
          · refine asks_mk fun a W hS hh hd => ⟨wanted_yes rfl, ?_⟩
            exact giv_run (run_mv rfl (eval_tmp (hd.val (j := 44) (s := 110) (by kernel_rfl) K44))) K45
          · refine asks_mk fun a W hS hh hd => ⟨wanted_of (j := 45) (s := 111) (by kernel_rfl) (hd.val (j := 45) (s := 111) (by kernel_rfl) K45), ?_⟩
            exact giv_run (run_mv rfl (eval_tmp (hh 7 _ rfl (hF17.at 7 rfl)))) K46
          · refine asks_mk fun a W hS hh hd => ⟨wanted_of (j := 45) (s := 111) (by kernel_rfl) (hd.val (j := 45) (s := 111) (by kernel_rfl) K45), ?_⟩
            exact giv_run (run_mv rfl (eval_tmp (hh 10 _ rfl (hF17.at 10 rfl)))) K47
          · refine asks_mk fun a W hS hh hd => ⟨wanted_of (j := 45) (s := 111) (by kernel_rfl) (hd.val (j := 45) (s := 111) (by kernel_rfl) K45), ?_⟩
            exact giv_run (run_atP (i := i) rfl (eval_tmp (hd.val (j := 46) (s := 112) (by kernel_rfl) K46)) (eval_tmp (hd.val (j := 47) (s := 113) (by kernel_rfl) K47)) rfl (Sl.own (hO3.grow hS)) (by omega) elPlace.un (by kernel_rfl)) K48
          · refine asks_mk fun a W hS hh hd => ⟨wanted_of (j := 45) (s := 111) (by kernel_rfl) (hd.val (j := 45) (s := 111) (by kernel_rfl) K45), ?_⟩
            exact giv_run (run_fldP (m2 := 1) (s := 1) rfl (eval_tmp (hd.val (j := 48) (s := 114) (by kernel_rfl) K48)) (Sl.own (hO3.grow hS)) (by omega) Try.underlying39 rfl rfl (by kernel_rfl) (by decide)) K49
          · refine asks_mk fun a W hS hh hd => ⟨wanted_of (j := 45) (s := 111) (by kernel_rfl) (hd.val (j := 45) (s := 111) (by kernel_rfl) K45), ?_⟩
            exact giv_run (run_ldP rfl (eval_tmp (hd.val (j := 49) (s := 115) (by kernel_rfl) K49)) (Sl.own (hO3.grow hS)) (flat_at placeC_len hp 1 rfl) (by kernel_rfl)) K50
          · refine asks_mk fun a W hS hh hd => ⟨wanted_of (j := 45) (s := 111) (by kernel_rfl) (hd.val (j := 45) (s := 111) (by kernel_rfl) K45), ?_⟩
            exact giv_run (run_mv rfl (eval_tmp (hh 7 _ rfl (hF17.at 7 rfl)))) K51
          · refine asks_mk fun a W hS hh hd => ⟨wanted_of (j := 45) (s := 111) (by kernel_rfl) (hd.val (j := 45) (s := 111) (by kernel_rfl) K45), ?_⟩
            exact giv_run (run_mv rfl (eval_tmp (hh 10 _ rfl (hF17.at 10 rfl)))) K52
          · refine asks_mk fun a W hS hh hd => ⟨wanted_of (j := 45) (s := 111) (by kernel_rfl) (hd.val (j := 45) (s := 111) (by kernel_rfl) K45), ?_⟩
            exact giv_run (run_atP (i := i) rfl (eval_tmp (hd.val (j := 51) (s := 117) (by kernel_rfl) K51)) (eval_tmp (hd.val (j := 52) (s := 118) (by kernel_rfl) K52)) rfl (Sl.own (hO3.grow hS)) (by omega) elPlace.un (by kernel_rfl)) K53
          · refine asks_mk fun a W hS hh hd => ⟨wanted_of (j := 45) (s := 111) (by kernel_rfl) (hd.val (j := 45) (s := 111) (by kernel_rfl) K45), ?_⟩
            exact giv_run (run_fldP (m2 := 1) (s := 2) rfl (eval_tmp (hd.val (j := 53) (s := 119) (by kernel_rfl) K53)) (Sl.own (hO3.grow hS)) (by omega) Try.underlying39 rfl rfl (by kernel_rfl) (by decide)) K54
          · refine asks_mk fun a W hS hh hd => ⟨wanted_of (j := 45) (s := 111) (by kernel_rfl) (hd.val (j := 45) (s := 111) (by kernel_rfl) K45), ?_⟩
            exact giv_run (run_ldP rfl (eval_tmp (hd.val (j := 54) (s := 120) (by kernel_rfl) K54)) (Sl.own (hO3.grow hS)) (flat_at placeC_len hp 2 rfl) (by kernel_rfl)) K55
          · refine asks_mk fun a W hS hh hd => ⟨wanted_of (j := 45) (s := 111) (by kernel_rfl) (hd.val (j := 45) (s := 111) (by kernel_rfl) K45), ?_⟩
            exact giv_run (run_add (r := ((p.2.1 + p.2.2 : Nat) : Int)) rfl (eval_tmp (hd.val (j := 50) (s := 116) (by kernel_rfl) K50)) (eval_tmp (hd.val (j := 55) (s := 121) (by kernel_rfl) K55)) (by rw [IntKind.wrap_i64]; omega)) K56
          · refine asks_mk fun a W hS hh hd => ⟨wanted_of (j := 45) (s := 111) (by kernel_rfl) (hd.val (j := 45) (s := 111) (by kernel_rfl) K45), ?_⟩
            exact giv_run (run_mv rfl (eval_tmp (hh 5 _ rfl (hF17.at 5 rfl)))) K57
          · refine asks_mk fun a W hS hh hd => ⟨wanted_of (j := 45) (s := 111) (by kernel_rfl) (hd.val (j := 45) (s := 111) (by kernel_rfl) K45), ?_⟩
            exact giv_run (run_len rfl (eval_tmp (hd.val (j := 57) (s := 123) (by kernel_rfl) K57)) rfl Try.underlying9) K58
          · refine asks_mk fun a W hS hh hd => ⟨wanted_of (j := 45) (s := 111) (by kernel_rfl) (hd.val (j := 45) (s := 111) (by kernel_rfl) K45), ?_⟩
            exact giv_run (run_gtr rfl (eval_tmp (hd.val (j := 56) (s := 122) (by kernel_rfl) K56)) (eval_tmp (hd.val (j := 58) (s := 124) (by kernel_rfl) K58)) (decide_eq_false (by omega))) K59
          · refine asks_mk fun a W hS hh hd => ⟨wanted_yes rfl, ?_⟩
            exact giv_run (run_pick rfl (eval_tmp (hd.val (j := 45) (s := 111) (by kernel_rfl) K45)) rfl (eval_tmp (hd.val (j := 59) (s := 125) (by kernel_rfl) K59))) K60
          · refine asks_mk fun a W hS hh hd => ⟨wanted_yes rfl, ?_⟩
            exact giv_run (run_mv rfl (eval_tmp (hd.val (j := 60) (s := 126) (by kernel_rfl) K60))) K61
          · refine asks_mk fun a W hS hh hd => ⟨wanted_of (j := 61) (s := 127) (by kernel_rfl) (hd.val (j := 61) (s := 127) (by kernel_rfl) K61), ?_⟩
            exact giv_run (run_mv rfl (eval_tmp (hh 5 _ rfl (hF17.at 5 rfl)))) K62
          · refine asks_mk fun a W hS hh hd => ⟨wanted_of (j := 61) (s := 127) (by kernel_rfl) (hd.val (j := 61) (s := 127) (by kernel_rfl) K61), ?_⟩
            exact giv_run (run_mv rfl (eval_tmp (hh 7 _ rfl (hF17.at 7 rfl)))) K63
          · refine asks_mk fun a W hS hh hd => ⟨wanted_of (j := 61) (s := 127) (by kernel_rfl) (hd.val (j := 61) (s := 127) (by kernel_rfl) K61), ?_⟩
            exact giv_run (run_mv rfl (eval_tmp (hh 10 _ rfl (hF17.at 10 rfl)))) K64
          · refine asks_mk fun a W hS hh hd => ⟨wanted_of (j := 61) (s := 127) (by kernel_rfl) (hd.val (j := 61) (s := 127) (by kernel_rfl) K61), ?_⟩
            exact giv_run (run_atP (i := i) rfl (eval_tmp (hd.val (j := 63) (s := 129) (by kernel_rfl) K63)) (eval_tmp (hd.val (j := 64) (s := 130) (by kernel_rfl) K64)) rfl (Sl.own (hO3.grow hS)) (by omega) elPlace.un (by kernel_rfl)) K65
          · refine asks_mk fun a W hS hh hd => ⟨wanted_of (j := 61) (s := 127) (by kernel_rfl) (hd.val (j := 61) (s := 127) (by kernel_rfl) K61), ?_⟩
            exact giv_run (run_fldP (m2 := 1) (s := 1) rfl (eval_tmp (hd.val (j := 65) (s := 131) (by kernel_rfl) K65)) (Sl.own (hO3.grow hS)) (by omega) Try.underlying39 rfl rfl (by kernel_rfl) (by decide)) K66
          · refine asks_mk fun a W hS hh hd => ⟨wanted_of (j := 61) (s := 127) (by kernel_rfl) (hd.val (j := 61) (s := 127) (by kernel_rfl) K61), ?_⟩
            exact giv_run (run_ldP rfl (eval_tmp (hd.val (j := 66) (s := 132) (by kernel_rfl) K66)) (Sl.own (hO3.grow hS)) (flat_at placeC_len hp 1 rfl) (by kernel_rfl)) K67
          · refine asks_mk fun a W hS hh hd => ⟨wanted_of (j := 61) (s := 127) (by kernel_rfl) (hd.val (j := 61) (s := 127) (by kernel_rfl) K61), ?_⟩
            exact giv_run (run_mv rfl (eval_tmp (hh 7 _ rfl (hF17.at 7 rfl)))) K68
          · refine asks_mk fun a W hS hh hd => ⟨wanted_of (j := 61) (s := 127) (by kernel_rfl) (hd.val (j := 61) (s := 127) (by kernel_rfl) K61), ?_⟩
            exact giv_run (run_mv rfl (eval_tmp (hh 10 _ rfl (hF17.at 10 rfl)))) K69
          · refine asks_mk fun a W hS hh hd => ⟨wanted_of (j := 61) (s := 127) (by kernel_rfl) (hd.val (j := 61) (s := 127) (by kernel_rfl) K61), ?_⟩
            exact giv_run (run_atP (i := i) rfl (eval_tmp (hd.val (j := 68) (s := 134) (by kernel_rfl) K68)) (eval_tmp (hd.val (j := 69) (s := 135) (by kernel_rfl) K69)) rfl (Sl.own (hO3.grow hS)) (by omega) elPlace.un (by kernel_rfl)) K70
          · refine asks_mk fun a W hS hh hd => ⟨wanted_of (j := 61) (s := 127) (by kernel_rfl) (hd.val (j := 61) (s := 127) (by kernel_rfl) K61), ?_⟩
            exact giv_run (run_fldP (m2 := 1) (s := 1) rfl (eval_tmp (hd.val (j := 70) (s := 136) (by kernel_rfl) K70)) (Sl.own (hO3.grow hS)) (by omega) Try.underlying39 rfl rfl (by kernel_rfl) (by decide)) K71
          · refine asks_mk fun a W hS hh hd => ⟨wanted_of (j := 61) (s := 127) (by kernel_rfl) (hd.val (j := 61) (s := 127) (by kernel_rfl) K61), ?_⟩
            exact giv_run (run_ldP rfl (eval_tmp (hd.val (j := 71) (s := 137) (by kernel_rfl) K71)) (Sl.own (hO3.grow hS)) (flat_at placeC_len hp 1 rfl) (by kernel_rfl)) K72
          · refine asks_mk fun a W hS hh hd => ⟨wanted_of (j := 61) (s := 127) (by kernel_rfl) (hd.val (j := 61) (s := 127) (by kernel_rfl) K61), ?_⟩
            exact giv_run (run_mv rfl (eval_tmp (hh 7 _ rfl (hF17.at 7 rfl)))) K73
          · refine asks_mk fun a W hS hh hd => ⟨wanted_of (j := 61) (s := 127) (by kernel_rfl) (hd.val (j := 61) (s := 127) (by kernel_rfl) K61), ?_⟩
            exact giv_run (run_mv rfl (eval_tmp (hh 10 _ rfl (hF17.at 10 rfl)))) K74
          · refine asks_mk fun a W hS hh hd => ⟨wanted_of (j := 61) (s := 127) (by kernel_rfl) (hd.val (j := 61) (s := 127) (by kernel_rfl) K61), ?_⟩
            exact giv_run (run_atP (i := i) rfl (eval_tmp (hd.val (j := 73) (s := 139) (by kernel_rfl) K73)) (eval_tmp (hd.val (j := 74) (s := 140) (by kernel_rfl) K74)) rfl (Sl.own (hO3.grow hS)) (by omega) elPlace.un (by kernel_rfl)) K75
          · refine asks_mk fun a W hS hh hd => ⟨wanted_of (j := 61) (s := 127) (by kernel_rfl) (hd.val (j := 61) (s := 127) (by kernel_rfl) K61), ?_⟩
            exact giv_run (run_fldP (m2 := 1) (s := 2) rfl (eval_tmp (hd.val (j := 75) (s := 141) (by kernel_rfl) K75)) (Sl.own (hO3.grow hS)) (by omega) Try.underlying39 rfl rfl (by kernel_rfl) (by decide)) K76
          · refine asks_mk fun a W hS hh hd => ⟨wanted_of (j := 61) (s := 127) (by kernel_rfl) (hd.val (j := 61) (s := 127) (by kernel_rfl) K61), ?_⟩
            exact giv_run (run_ldP rfl (eval_tmp (hd.val (j := 76) (s := 142) (by kernel_rfl) K76)) (Sl.own (hO3.grow hS)) (flat_at placeC_len hp 2 rfl) (by kernel_rfl)) K77
          · refine asks_mk fun a W hS hh hd => ⟨wanted_of (j := 61) (s := 127) (by kernel_rfl) (hd.val (j := 61) (s := 127) (by kernel_rfl) K61), ?_⟩
            exact giv_run (run_add (r := ((p.2.1 + p.2.2 : Nat) : Int)) rfl (eval_tmp (hd.val (j := 72) (s := 138) (by kernel_rfl) K72)) (eval_tmp (hd.val (j := 77) (s := 143) (by kernel_rfl) K77)) (by rw [IntKind.wrap_i64]; omega)) K78
          · refine asks_mk fun a W hS hh hd => ⟨wanted_of (j := 61) (s := 127) (by kernel_rfl) (hd.val (j := 61) (s := 127) (by kernel_rfl) K61), ?_⟩
            exact giv_run (run_sMidE (m := p.2.1) (m2 := (p.2.1 + p.2.2)) hcut rfl (eval_tmp (hd.val (j := 62) (s := 128) (by kernel_rfl) K62)) (eval_tmp (hd.val (j := 67) (s := 133) (by kernel_rfl) K67)) (eval_tmp (hd.val (j := 78) (s := 144) (by kernel_rfl) K78)) Try.underlying9 rfl rfl (by omega) (by omega)) K79
          · refine asks_mk fun a W hS hh hd => ⟨wanted_of (j := 61) (s := 127) (by kernel_rfl) (hd.val (j := 61) (s := 127) (by kernel_rfl) K61), ?_⟩
            exact giv_run (run_mv rfl (eval_tmp (hh 0 _ rfl (hF17.at 0 rfl)))) K80
          · refine asks_mk fun a W hS hh hd => ⟨wanted_of (j := 61) (s := 127) (by kernel_rfl) (hd.val (j := 61) (s := 127) (by kernel_rfl) K61), ?_⟩
            exact giv_run (run_mv rfl (eval_tmp (hh 10 _ rfl (hF17.at 10 rfl)))) K81
          · refine asks_mk fun a W hS hh hd => ⟨wanted_of (j := 61) (s := 127) (by kernel_rfl) (hd.val (j := 61) (s := 127) (by kernel_rfl) K61), ?_⟩
            exact giv_run (run_atP (i := i) rfl (eval_tmp (hd.val (j := 80) (s := 146) (by kernel_rfl) K80)) (eval_tmp (hd.val (j := 81) (s := 147) (by kernel_rfl) K81)) rfl (hV.below (hM3.grow hS).below) (by omega) elBox.un (by kernel_rfl)) K82
          · refine asks_mk fun a W hS hh hd => ⟨wanted_of (j := 61) (s := 127) (by kernel_rfl) (hd.val (j := 61) (s := 127) (by kernel_rfl) K61), ?_⟩
            exact giv_run (run_fldP (m2 := 1) (s := 1) rfl (eval_tmp (hd.val (j := 82) (s := 148) (by kernel_rfl) K82)) (hV.below (hM3.grow hS).below) (by omega) Try.underlying29 rfl rfl (by kernel_rfl) (by decide)) K83
          · refine asks_mk fun a W hS hh hd => ⟨wanted_of (j := 61) (s := 127) (by kernel_rfl) (hd.val (j := 61) (s := 127) (by kernel_rfl) K61), ?_⟩
            exact giv_run (run_ldP rfl (eval_tmp (hd.val (j := 83) (s := 149) (by kernel_rfl) K83)) (hV.below (hM3.grow hS).below) (flat_at boxC_len hx 1 rfl) (by kernel_rfl)) K84
          · refine asks_mk fun a W hS hh hd => ⟨wanted_of (j := 61) (s := 127) (by kernel_rfl) (hd.val (j := 61) (s := 127) (by kernel_rfl) K61), ?_⟩
            exact giv_run (run_nes rfl (eval_tmp (hd.val (j := 79) (s := 145) (by kernel_rfl) K79)) (eval_tmp (hd.val (j := 84) (s := 150) (by kernel_rfl) K84)) (by simp)) K85
          · refine asks_mk fun a W hS hh hd => ⟨wanted_yes rfl, ?_⟩
            exact giv_run (run_pick rfl (eval_tmp (hd.val (j := 61) (s := 127) (by kernel_rfl) K61)) rfl (eval_tmp (hd.val (j := 85) (s := 151) (by kernel_rfl) K85))) K86
        · intro a18 w5 hb5 hK
          have e0 := hK.val (i := 0) (s := 66) (by kernel_rfl) K0
          have e1 := hK.val (i := 1) (s := 67) (by kernel_rfl) K1
          have e2 := hK.val (i := 2) (s := 68) (by kernel_rfl) K2
          have e3 := hK.val (i := 3) (s := 69) (by kernel_rfl) K3
          have e4 := hK.val (i := 4) (s := 70) (by kernel_rfl) K4
          have e5 := hK.val (i := 5) (s := 71) (by kernel_rfl) K5
          have e6 := hK.val (i := 6) (s := 72) (by kernel_rfl) K6
          have e7 := hK.val (i := 7) (s := 73) (by kernel_rfl) K7
          have e8 := hK.val (i := 8) (s := 74) (by kernel_rfl) K8
          have e9 := hK.val (i := 9) (s := 75) (by kernel_rfl) K9
          have e10 := hK.val (i := 10) (s := 76) (by kernel_rfl) K10
          have e11 := hK.val (i := 11) (s := 77) (by kernel_rfl) K11
          have e12 := hK.val (i := 12) (s := 78) (by kernel_rfl) K12
          have e13 := hK.val (i := 13) (s := 79) (by kernel_rfl) K13
          have e14 := hK.val (i := 14) (s := 80) (by kernel_rfl) K14
          have e15 := hK.val (i := 15) (s := 81) (by kernel_rfl) K15
          have e16 := hK.val (i := 16) (s := 82) (by kernel_rfl) K16
          have e17 := hK.val (i := 17) (s := 83) (by kernel_rfl) K17
          have e18 := hK.val (i := 18) (s := 84) (by kernel_rfl) K18
          have e19 := hK.val (i := 19) (s := 85) (by kernel_rfl) K19
          have e20 := hK.val (i := 20) (s := 86) (by kernel_rfl) K20
          have e21 := hK.val (i := 21) (s := 87) (by kernel_rfl) K21
          have e22 := hK.val (i := 22) (s := 88) (by kernel_rfl) K22
          have e23 := hK.val (i := 23) (s := 89) (by kernel_rfl) K23
          have e24 := hK.val (i := 24) (s := 90) (by kernel_rfl) K24
          have e25 := hK.val (i := 25) (s := 91) (by kernel_rfl) K25
          have e26 := hK.val (i := 26) (s := 92) (by kernel_rfl) K26
          have e27 := hK.val (i := 27) (s := 93) (by kernel_rfl) K27
          have e28 := hK.val (i := 28) (s := 94) (by kernel_rfl) K28
          have e29 := hK.val (i := 29) (s := 95) (by kernel_rfl) K29
          have e30 := hK.val (i := 30) (s := 96) (by kernel_rfl) K30
          have e31 := hK.val (i := 31) (s := 97) (by kernel_rfl) K31
          have e32 := hK.val (i := 32) (s := 98) (by kernel_rfl) K32
          have e33 := hK.val (i := 33) (s := 99) (by kernel_rfl) K33
          have e34 := hK.val (i := 34) (s := 100) (by kernel_rfl) K34
          have e35 := hK.val (i := 35) (s := 101) (by kernel_rfl) K35
          have e36 := hK.val (i := 36) (s := 102) (by kernel_rfl) K36
          have e37 := hK.val (i := 37) (s := 103) (by kernel_rfl) K37
          have e38 := hK.val (i := 38) (s := 104) (by kernel_rfl) K38
          have e39 := hK.val (i := 39) (s := 105) (by kernel_rfl) K39
          have e40 := hK.val (i := 40) (s := 106) (by kernel_rfl) K40
          have e41 := hK.val (i := 41) (s := 107) (by kernel_rfl) K41
          have e42 := hK.val (i := 42) (s := 108) (by kernel_rfl) K42
          have e43 := hK.val (i := 43) (s := 109) (by kernel_rfl) K43
          have e44 := hK.val (i := 44) (s := 110) (by kernel_rfl) K44
          have e45 := hK.val (i := 45) (s := 111) (by kernel_rfl) K45
          have e46 := hK.val (i := 46) (s := 112) (by kernel_rfl) K46
          have e47 := hK.val (i := 47) (s := 113) (by kernel_rfl) K47
          have e48 := hK.val (i := 48) (s := 114) (by kernel_rfl) K48
          have e49 := hK.val (i := 49) (s := 115) (by kernel_rfl) K49
          have e50 := hK.val (i := 50) (s := 116) (by kernel_rfl) K50
          have e51 := hK.val (i := 51) (s := 117) (by kernel_rfl) K51
          have e52 := hK.val (i := 52) (s := 118) (by kernel_rfl) K52
          have e53 := hK.val (i := 53) (s := 119) (by kernel_rfl) K53
          have e54 := hK.val (i := 54) (s := 120) (by kernel_rfl) K54
          have e55 := hK.val (i := 55) (s := 121) (by kernel_rfl) K55
          have e56 := hK.val (i := 56) (s := 122) (by kernel_rfl) K56
          have e57 := hK.val (i := 57) (s := 123) (by kernel_rfl) K57
          have e58 := hK.val (i := 58) (s := 124) (by kernel_rfl) K58
          have e59 := hK.val (i := 59) (s := 125) (by kernel_rfl) K59
          have e60 := hK.val (i := 60) (s := 126) (by kernel_rfl) K60
          have e61 := hK.val (i := 61) (s := 127) (by kernel_rfl) K61
          have e62 := hK.val (i := 62) (s := 128) (by kernel_rfl) K62
          have e63 := hK.val (i := 63) (s := 129) (by kernel_rfl) K63
          have e64 := hK.val (i := 64) (s := 130) (by kernel_rfl) K64
          have e65 := hK.val (i := 65) (s := 131) (by kernel_rfl) K65
          have e66 := hK.val (i := 66) (s := 132) (by kernel_rfl) K66
          have e67 := hK.val (i := 67) (s := 133) (by kernel_rfl) K67
          have e68 := hK.val (i := 68) (s := 134) (by kernel_rfl) K68
          have e69 := hK.val (i := 69) (s := 135) (by kernel_rfl) K69
          have e70 := hK.val (i := 70) (s := 136) (by kernel_rfl) K70
          have e71 := hK.val (i := 71) (s := 137) (by kernel_rfl) K71
          have e72 := hK.val (i := 72) (s := 138) (by kernel_rfl) K72
          have e73 := hK.val (i := 73) (s := 139) (by kernel_rfl) K73
          have e74 := hK.val (i := 74) (s := 140) (by kernel_rfl) K74
          have e75 := hK.val (i := 75) (s := 141) (by kernel_rfl) K75
          have e76 := hK.val (i := 76) (s := 142) (by kernel_rfl) K76
          have e77 := hK.val (i := 77) (s := 143) (by kernel_rfl) K77
          have e78 := hK.val (i := 78) (s := 144) (by kernel_rfl) K78
          have e79 := hK.val (i := 79) (s := 145) (by kernel_rfl) K79
          have e80 := hK.val (i := 80) (s := 146) (by kernel_rfl) K80
          have e81 := hK.val (i := 81) (s := 147) (by kernel_rfl) K81
          have e82 := hK.val (i := 82) (s := 148) (by kernel_rfl) K82
          have e83 := hK.val (i := 83) (s := 149) (by kernel_rfl) K83
          have e84 := hK.val (i := 84) (s := 150) (by kernel_rfl) K84
          have e85 := hK.val (i := 85) (s := 151) (by kernel_rfl) K85
          have e86 := hK.val (i := 86) (s := 152) (by kernel_rfl) K86
          have hF18 : Fr a18 176 [(0, v), (1, (.string ⟨m.toArray⟩)), (5, (.string ⟨B.toArray⟩)), (7, v1), (9, (.bool false)), (10, (.int .i64 (i : Int))), (11, (.pointer (some ⟨g4, 0, none⟩))), (50, (.int .i64 (i : Int))), (51, v), (52, (.int .i64 (l.length : Int))), (53, (.bool true)), (56, (.tuple #[(.agg #[.string ⟨x.1.toArray⟩, .string ⟨x.2.toArray⟩]), (.int .i64 0)])), (57, (.string ⟨B.toArray⟩)), (58, v), (59, (.int .i64 (i : Int))), (60, (slPtr v (i * 2))), (61, (slPtr v (i * 2 + 0))), (62, (.string ⟨x.1.toArray⟩)), (63, (.tuple #[(.agg #[.string ⟨x.1.toArray⟩, .string ⟨x.2.toArray⟩]), (.int .i64 0)])), (64, (.agg #[.string ⟨x.1.toArray⟩, .string ⟨x.2.toArray⟩])), (65, (.int .i64 0)), (152, (.bool false))] := (hK.fr hF17 [(.int .i64 0), (.bool false), (.bool false), (.agg #[.string ⟨x.1.toArray⟩, .string ⟨x.2.toArray⟩]), v, (.int .i64 (i : Int)), (slPtr v (i * 2)), (.agg #[.string ⟨x.1.toArray⟩, .string ⟨x.2.toArray⟩]), (.bool false), (.bool false), (.bool false), v1, (.int .i64 (i : Int)), (slPtr v1 (i * 3)), (slPtr v1 (i * 3 + 0)), (.string ⟨p.1.toArray⟩), v, (.int .i64 (i : Int)), (slPtr v (i * 2)), (slPtr v (i * 2 + 0)), (.string ⟨x.1.toArray⟩), (.bool false), (.bool false), (.bool false), v1, (.int .i64 (i : Int)), (slPtr v1 (i * 3)), (slPtr v1 (i * 3 + 2)), (.int .i64 (p.2.2 : Int)), v, (.int .i64 (i : Int)), (slPtr v (i * 2)), (slPtr v (i * 2 + 1)), (.string ⟨x.2.toArray⟩), (.int .i64 (x.2.length : Int)), (.bool false), (.bool false), (.bool false), v1, (.int .i64 (i : Int)), (slPtr v1 (i * 3)), (slPtr v1 (i * 3 + 1)), (.int .i64 (p.2.1 : Int)), (.bool false), (.bool false), (.bool false), v1, (.int .i64 (i : Int)), (slPtr v1 (i * 3)), (slPtr v1 (i * 3 + 1)), (.int .i64 (p.2.1 : Int)), v1, (.int .i64 (i : Int)), (slPtr v1 (i * 3)), (slPtr v1 (i * 3 + 2)), (.int .i64 (p.2.2 : Int)), (.int .i64 ((p.2.1 + p.2.2 : Nat) : Int)), (.string ⟨B.toArray⟩), (.int .i64 (B.length : Int)), (.bool false), (.bool false), (.bool false), (.string ⟨B.toArray⟩), v1, (.int .i64 (i : Int)), (slPtr v1 (i * 3)), (slPtr v1 (i * 3 + 1)), (.int .i64 (p.2.1 : Int)), v1, (.int .i64 (i : Int)), (slPtr v1 (i * 3)), (slPtr v1 (i * 3 + 1)), (.int .i64 (p.2.1 : Int)), v1, (.int .i64 (i : Int)), (slPtr v1 (i * 3)), (slPtr v1 (i * 3 + 2)), (.int .i64 (p.2.2 : Int)), (.int .i64 ((p.2.1 + p.2.2 : Nat) : Int)), (.string ⟨x.2.toArray⟩), v, (.int .i64 (i : Int)), (slPtr v (i * 2)), (slPtr v (i * 2 + 1)), (.string ⟨x.2.toArray⟩), (.bool false), (.bool false)] ⟨e0, e1, e2, e3, e4, e5, e6, e7, e8, e9, e10, e11, e12, e13, e14, e15, e16, e17, e18, e19, e20, e21, e22, e23, e24, e25, e26, e27, e28, e29, e30, e31, e32, e33, e34, e35, e36, e37, e38, e39, e40, e41, e42, e43, e44, e45, e46, e47, e48, e49, e50, e51, e52, e53, e54, e55, e56, e57, e58, e59, e60, e61, e62, e63, e64, e65, e66, e67, e68, e69, e70, e71, e72, e73, e74, e75, e76, e77, e78, e79, e80, e81, e82, e83, e84, e85, e86, trivial⟩).sub ⟨rfl, rfl, rfl, rfl, rfl, rfl, rfl, rfl, rfl, rfl, rfl, rfl, rfl, rfl, rfl, rfl, rfl, rfl, rfl, rfl, rfl, rfl, trivial⟩
          have hM4 := hM3.grow hb5
          have hO4 := hO3.grow hb5
          clear hK K0 e0 K1 e1 K2 e2 K3 e3 K4 e4 K5 e5 K6 e6 K7 e7 K8 e8 K9 e9 K10 e10 K11 e11 K12 e12 K13 e13 K14 e14 K15 e15 K16 e16 K17 e17 K18 e18 K19 e19 K20 e20 K21 e21 K22 e22 K23 e23 K24 e24 K25 e25 K26 e26 K27 e27 K28 e28 K29 e29 K30 e30 K31 e31 K32 e32 K33 e33 K34 e34 K35 e35 K36 e36 K37 e37 K38 e38 K39 e39 K40 e40 K41 e41 K42 e42 K43 e43 K44 e44 K45 e45 K46 e46 K47 e47 K48 e48 K49 e49 K50 e50 K51 e51 K52 e52 K53 e53 K54 e54 K55 e55 K56 e56 K57 e57 K58 e58 K59 e59 K60 e60 K61 e61 K62 e62 K63 e63 K64 e64 K65 e65 K66 e66 K67 e67 K68 e68 K69 e69 K70 e70 K71 e71 K72 e72 K73 e73 K74 e74 K75 e75 K76 e76 K77 e77 K78 e78 K79 e79 K80 e80 K81 e81 K82 e82 K83 e83 K84 e84 K85 e85 K86 e86
          clear hF17 hM3
          refine nx ?_
          refine wp_cond_false (hF18.ev 152 rfl) ?_
          refine wp_skip ?_
          refine nx ?_
          refine wp_region_lit ?_
          refine sq (v := (.bool false)) hF18 (wantedS rfl) (run_mv rfl (hF18.ev 9 rfl)) rfl (by decide) fun a19 hF19 => ?_
          refine sq (v := (.bool false)) hF19 (wantedS rfl) (run_mv rfl (hF19.ev 153 rfl)) rfl (by decide) fun a20 hF20 => ?_
          refine sq (v := v) hF20 (wantedG hF20 rfl rfl rfl rfl rfl) (run_mv rfl (hF20.ev 0 rfl)) rfl (by decide) fun a21 hF21 => ?_
          refine sq (v := (.int .i64 (i : Int))) hF21 (wantedG hF21 rfl rfl rfl rfl rfl) (run_mv rfl (hF21.ev 10 rfl)) rfl (by decide) fun a22 hF22 => ?_
          refine sq (v := (slPtr v (i * 2))) hF22 (wantedG hF22 rfl rfl rfl rfl rfl) (run_atP (i := i) rfl (hF22.ev 155 rfl) (hF22.ev 156 rfl) rfl (hV.below hM4.below) (by omega) elBox.un (by kernel_rfl)) rfl (by decide) fun a23 hF23 => ?_
          refine sq (v := (slPtr v (i * 2 + 0))) hF23 (wantedG hF23 rfl rfl rfl rfl rfl) (run_fldP (m2 := 1) (s := 0) rfl (hF23.ev 157 rfl) (hV.below hM4.below) (by omega) Try.underlying29 rfl rfl (by kernel_rfl) (by decide)) rfl (by decide) fun a24 hF24 => ?_
          refine sq (v := (.string ⟨x.1.toArray⟩)) hF24 (wantedG hF24 rfl rfl rfl rfl rfl) (run_ldP rfl (hF24.ev 158 rfl) (hV.below hM4.below) (flat_at boxC_len hx 0 rfl) (by kernel_rfl)) rfl (by decide) fun a25 hF25 => ?_
          refine sq (v := (.string ⟨m.toArray⟩)) hF25 (wantedG hF25 rfl rfl rfl rfl rfl) (run_mv rfl (hF25.ev 1 rfl)) rfl (by decide) fun a26 hF26 => ?_
          refine sq (v := (.bool false)) hF26 (wantedG hF26 rfl rfl rfl rfl rfl) (run_eqs rfl (hF26.ev 159 rfl) (hF26.ev 160 rfl) (beq_eq_false_iff_ne.2 hxm)) rfl (by decide) fun a27 hF27 => ?_
          refine sq (v := (.bool false)) hF27 (wantedS rfl) (run_pick rfl (hF27.ev 154 rfl) rfl (hF27.ev 161 rfl)) rfl (by decide) fun a28 hF28 => ?_
          refine sq (v := (.bool false)) hF28 (wantedS rfl) (run_as rfl (hF28.ev 162 rfl)) rfl (by decide) fun a29 hF29 => ?_
          refine sqEnd ?_
          clear hF18 hF19 hF20 hF21 hF22 hF23 hF24 hF25 hF26 hF27 hF28
          refine bkEnd ?_
          refine nx ?_
          refine wp_region_lit ?_
          refine sq (v := (.int .i64 (i : Int))) hF29 (wantedS rfl) (run_mv rfl (hF29.ev 10 rfl)) rfl (by decide) fun a30 hF30 => ?_
          refine sq (v := (.int .i64 ((i + 1 : Nat) : Int))) hF30 (wantedS rfl) (run_add (r := ((i + 1 : Nat) : Int)) rfl (hF30.ev 54 rfl) rfl (by rw [IntKind.wrap_i64]; omega)) rfl (by decide) fun a31 hF31 => ?_
          refine sq (v := (.int .i64 ((i + 1 : Nat) : Int))) hF31 (wantedS rfl) (run_as rfl (hF31.ev 55 rfl)) rfl (by decide) fun a32 hF32 => ?_
          refine sqEnd ?_
          clear hF29 hF30 hF31
          refine nx ?_
          exact ⟨_, by omega, i + 1, false, by omega, rfl, by rw [hms, contains_snoc, ← hb, beq_eq_false_iff_ne.2 hxm]; rfl, hO4.sub (.cons _ .slnil), hF32.sub ⟨rfl, rfl, rfl, rfl, rfl, rfl, trivial⟩, hM4.sub (.cons _ .slnil)⟩
  · have hie : i = l.length := by omega
    rw [hie, List.take_length, ← find_has] at hb
    cases hfd : (l.find? fun y => y.1 == m) with
    | none =>
      rw [hfd] at hb
      have ht := takeS_miss hof hfd
      have ht2 : (takeS B m).2 = 9 := by rw [ht]
      have hbf : b = false := hb
      subst hbf
      refine wp_seq ?_
      refine wp_seq ?_
      refine wp_region_lit ?_
      refine sq (v := (.int .i64 (i : Int))) hF0 (wantedS rfl) (run_mv rfl (hF0.ev 10 rfl)) rfl (by decide) fun a1 hF1 => ?_
      refine sq (v := v) hF1 (wantedS rfl) (run_mv rfl (hF1.ev 0 rfl)) rfl (by decide) fun a2 hF2 => ?_
      refine sq (v := (.int .i64 (l.length : Int))) hF2 (wantedS rfl) (run_lenS rfl (hF2.ev 51 rfl) (hV.below hM0.below) rfl Try.underlying22) rfl (by decide) fun a3 hF3 => ?_
      refine sq (v := (.bool false)) hF3 (wantedS rfl) (run_lss rfl (hF3.ev 50 rfl) (hF3.ev 52 rfl) (decide_eq_false (by omega))) rfl (by decide) fun a4 hF4 => ?_
      refine sqEnd ?_
      clear hF0 hF1 hF2 hF3
      refine nx ?_
      refine wp_cond_false (hF4.ev 53 rfl) ?_
      refine wp_exit ?_
      refine nxExit ?_
      refine nxExit ?_
      refine bkHere ?_
      refine nx ?_
      refine wp_seq ?_
      refine wp_region_lit ?_
      refine sq (v := (.string ⟨B.toArray⟩)) hF4 (wantedS rfl) (run_mv rfl (hF4.ev 5 rfl)) rfl (by decide) fun a5 hF5 => ?_
      refine sq (v := (.string ⟨m.toArray⟩)) hF5 (wantedS rfl) (run_mv rfl (hF5.ev 1 rfl)) rfl (by decide) fun a6 hF6 => ?_
      refine sqC (v := (.tuple #[(.agg #[.string ⟨((takeS B m).1.1).toArray⟩, .string ⟨((takeS B m).1.2).toArray⟩]), (.int .i64 ((takeS B m).2))])) hF6 hM0 (wantedS rfl) (run_call rfl Try.func11 (by kernel_rfl) rfl (mapE2 (hF6.ev 164 rfl) (hF6.ev 165 rfl))) rfl (by decide) (ptake_any B m w1 (by omega)) fun a7 w2 hb2 hF7 hM1 => ?_
      have hO1 := hO0.grow hb2
      refine sq (v := (.tuple #[(.agg #[.string ⟨((takeS B m).1.1).toArray⟩, .string ⟨((takeS B m).1.2).toArray⟩]), (.int .i64 ((takeS B m).2))])) hF7 (wantedS rfl) (run_mv rfl (hF7.ev 166 rfl)) rfl (by decide) fun a8 hF8 => ?_
      refine sq (v := (.agg #[.string ⟨((takeS B m).1.1).toArray⟩, .string ⟨((takeS B m).1.2).toArray⟩])) hF8 (wantedS rfl) (run_ext rfl (hF8.ev 163 rfl) rfl) rfl (by decide) fun a9 hF9 => ?_
      refine sq (v := (.int .i64 ((takeS B m).2))) hF9 (wantedS rfl) (run_ext rfl (hF9.ev 163 rfl) rfl) rfl (by decide) fun a10 hF10 => ?_
      refine sqNew (cs := #[.string ⟨List.toArray []⟩, .string ⟨List.toArray []⟩]) (t := 29) hF10 hM1 (wantedS rfl) (run_alloc rfl (by kernel_rfl)) rfl (by decide) fun g5 a11 w3 hgg5 hb3 hF11 hM2 => ?_
      have hO2 := hO1.add (S := isB 29 (#[.string ⟨List.toArray []⟩, .string ⟨List.toArray []⟩])) hb3 hgg5
      refine sqStoreG (i := 0) hF11 hM2 rfl rfl rfl (hF11.ev 13 rfl) (hF11.ev 167 rfl) rfl szBox rfl rfl (arr_one rfl) fun a12 w4 hgr4 hF12 hM3 => ?_
      have hO3 := hO2.upd 0 (S2 := isB 29 (#[.string ⟨((takeS B m).1.1).toArray⟩, .string ⟨((takeS B m).1.2).toArray⟩])) rfl hgr4
      refine sq (v := (.int .i64 ((takeS B m).2))) hF12 (wantedS rfl) (run_as rfl (hF12.ev 168 rfl)) rfl (by decide) fun a13 hF13 => ?_
      refine sqEnd ?_
      clear hF4 hF5 hF6 hF7 hF8 hF9 hF10 hF11 hF12 hM0 hM1 hM2
      refine nx ?_
      refine wp_seq ?_
      refine wp_region_lit ?_
      refine sq (v := (.int .i64 ((takeS B m).2))) hF13 (wantedS rfl) (run_mv rfl (hF13.ev 14 rfl)) rfl (by decide) fun a14 hF14 => ?_
      refine sq (v := (.bool false)) hF14 (wantedS rfl) (run_eqi rfl (hF14.ev 169 rfl) rfl (beq_eq_false_iff_ne.2 (by omega))) rfl (by decide) fun a15 hF15 => ?_
      refine sq (v := (.bool false)) hF15 (wantedS rfl) (run_mv rfl (hF15.ev 9 rfl)) rfl (by decide) fun a16 hF16 => ?_
      refine sq (v := (.bool true)) hF16 (wantedS rfl) (run_eqb rfl (hF16.ev 170 rfl) (hF16.ev 171 rfl) Try.underlying4 (beq_self_eq_true _)) rfl (by decide) fun a17 hF17 => ?_
      refine sq (v := (.bool true)) hF17 (wantedS rfl) (run_mv rfl (hF17.ev 172 rfl)) rfl (by decide) fun a18 hF18 => ?_
      refine sqC (v := (.bool true)) hF18 hM3 (wantedG hF18 rfl rfl rfl rfl rfl) (run_call rfl Try.func7 (by kernel_rfl) rfl (mapE0 )) rfl (by decide) (awake40_any w4) fun a19 w5 hb5 hF19 hM4 => ?_
      have hO4 := hO3.grow hb5
      refine sq (v := (.bool true)) hF19 (wantedS rfl) (run_pick rfl (hF19.ev 173 rfl) (hF19.ev 174 rfl) rfl) rfl (by decide) fun a20 hF20 => ?_
      refine sq (v := (.bool true)) hF20 (wantedS rfl) (run_as rfl (hF20.ev 175 rfl)) rfl (by decide) fun a21 hF21 => ?_
      refine sqEnd ?_
      clear hF13 hF14 hF15 hF16 hF17 hF18 hF19 hF20 hM3
      refine nx ?_
      refine wp_ret ?_
      exact ret1 hF21 rfl rfl ⟨rfl, hM4.below⟩
    | some x =>
      rw [hfd] at hb
      have ht := takeS_some hof hfd
      have ht2 : (takeS B m).2 = 0 := by rw [ht]
      have hbt : b = true := hb
      subst hbt
      refine wp_seq ?_
      refine wp_seq ?_
      refine wp_region_lit ?_
      refine sq (v := (.int .i64 (i : Int))) hF0 (wantedS rfl) (run_mv rfl (hF0.ev 10 rfl)) rfl (by decide) fun a1 hF1 => ?_
      refine sq (v := v) hF1 (wantedS rfl) (run_mv rfl (hF1.ev 0 rfl)) rfl (by decide) fun a2 hF2 => ?_
      refine sq (v := (.int .i64 (l.length : Int))) hF2 (wantedS rfl) (run_lenS rfl (hF2.ev 51 rfl) (hV.below hM0.below) rfl Try.underlying22) rfl (by decide) fun a3 hF3 => ?_
      refine sq (v := (.bool false)) hF3 (wantedS rfl) (run_lss rfl (hF3.ev 50 rfl) (hF3.ev 52 rfl) (decide_eq_false (by omega))) rfl (by decide) fun a4 hF4 => ?_
      refine sqEnd ?_
      clear hF0 hF1 hF2 hF3
      refine nx ?_
      refine wp_cond_false (hF4.ev 53 rfl) ?_
      refine wp_exit ?_
      refine nxExit ?_
      refine nxExit ?_
      refine bkHere ?_
      refine nx ?_
      refine wp_seq ?_
      refine wp_region_lit ?_
      refine sq (v := (.string ⟨B.toArray⟩)) hF4 (wantedS rfl) (run_mv rfl (hF4.ev 5 rfl)) rfl (by decide) fun a5 hF5 => ?_
      refine sq (v := (.string ⟨m.toArray⟩)) hF5 (wantedS rfl) (run_mv rfl (hF5.ev 1 rfl)) rfl (by decide) fun a6 hF6 => ?_
      refine sqC (v := (.tuple #[(.agg #[.string ⟨((takeS B m).1.1).toArray⟩, .string ⟨((takeS B m).1.2).toArray⟩]), (.int .i64 ((takeS B m).2))])) hF6 hM0 (wantedS rfl) (run_call rfl Try.func11 (by kernel_rfl) rfl (mapE2 (hF6.ev 164 rfl) (hF6.ev 165 rfl))) rfl (by decide) (ptake_any B m w1 (by omega)) fun a7 w2 hb2 hF7 hM1 => ?_
      have hO1 := hO0.grow hb2
      refine sq (v := (.tuple #[(.agg #[.string ⟨((takeS B m).1.1).toArray⟩, .string ⟨((takeS B m).1.2).toArray⟩]), (.int .i64 ((takeS B m).2))])) hF7 (wantedS rfl) (run_mv rfl (hF7.ev 166 rfl)) rfl (by decide) fun a8 hF8 => ?_
      refine sq (v := (.agg #[.string ⟨((takeS B m).1.1).toArray⟩, .string ⟨((takeS B m).1.2).toArray⟩])) hF8 (wantedS rfl) (run_ext rfl (hF8.ev 163 rfl) rfl) rfl (by decide) fun a9 hF9 => ?_
      refine sq (v := (.int .i64 ((takeS B m).2))) hF9 (wantedS rfl) (run_ext rfl (hF9.ev 163 rfl) rfl) rfl (by decide) fun a10 hF10 => ?_
      refine sqNew (cs := #[.string ⟨List.toArray []⟩, .string ⟨List.toArray []⟩]) (t := 29) hF10 hM1 (wantedS rfl) (run_alloc rfl (by kernel_rfl)) rfl (by decide) fun g6 a11 w3 hgg6 hb3 hF11 hM2 => ?_
      have hO2 := hO1.add (S := isB 29 (#[.string ⟨List.toArray []⟩, .string ⟨List.toArray []⟩])) hb3 hgg6
      refine sqStoreG (i := 0) hF11 hM2 rfl rfl rfl (hF11.ev 13 rfl) (hF11.ev 167 rfl) rfl szBox rfl rfl (arr_one rfl) fun a12 w4 hgr4 hF12 hM3 => ?_
      have hO3 := hO2.upd 0 (S2 := isB 29 (#[.string ⟨((takeS B m).1.1).toArray⟩, .string ⟨((takeS B m).1.2).toArray⟩])) rfl hgr4
      refine sq (v := (.int .i64 ((takeS B m).2))) hF12 (wantedS rfl) (run_as rfl (hF12.ev 168 rfl)) rfl (by decide) fun a13 hF13 => ?_
      refine sqEnd ?_
      clear hF4 hF5 hF6 hF7 hF8 hF9 hF10 hF11 hF12 hM0 hM1 hM2
      refine nx ?_
      refine wp_seq ?_
      refine wp_region_lit ?_
      refine sq (v := (.int .i64 ((takeS B m).2))) hF13 (wantedS rfl) (run_mv rfl (hF13.ev 14 rfl)) rfl (by decide) fun a14 hF14 => ?_
      refine sq (v := (.bool true)) hF14 (wantedS rfl) (run_eqi rfl (hF14.ev 169 rfl) rfl (beq_iff_eq.2 (by omega))) rfl (by decide) fun a15 hF15 => ?_
      refine sq (v := (.bool true)) hF15 (wantedS rfl) (run_mv rfl (hF15.ev 9 rfl)) rfl (by decide) fun a16 hF16 => ?_
      refine sq (v := (.bool true)) hF16 (wantedS rfl) (run_eqb rfl (hF16.ev 170 rfl) (hF16.ev 171 rfl) Try.underlying4 (beq_self_eq_true _)) rfl (by decide) fun a17 hF17 => ?_
      refine sq (v := (.bool true)) hF17 (wantedS rfl) (run_mv rfl (hF17.ev 172 rfl)) rfl (by decide) fun a18 hF18 => ?_
      refine sqC (v := (.bool true)) hF18 hM3 (wantedG hF18 rfl rfl rfl rfl rfl) (run_call rfl Try.func7 (by kernel_rfl) rfl (mapE0 )) rfl (by decide) (awake40_any w4) fun a19 w5 hb5 hF19 hM4 => ?_
      have hO4 := hO3.grow hb5
      refine sq (v := (.bool true)) hF19 (wantedS rfl) (run_pick rfl (hF19.ev 173 rfl) (hF19.ev 174 rfl) rfl) rfl (by decide) fun a20 hF20 => ?_
      refine sq (v := (.bool true)) hF20 (wantedS rfl) (run_as rfl (hF20.ev 175 rfl)) rfl (by decide) fun a21 hF21 => ?_
      refine sqEnd ?_
      clear hF13 hF14 hF15 hF16 hF17 hF18 hF19 hF20 hM3
      refine nx ?_
      refine wp_ret ?_
      exact ret1 hF21 rfl rfl ⟨rfl, hM4.below⟩
end Go.Proofs.Ytnkklogkjnfjgaa
