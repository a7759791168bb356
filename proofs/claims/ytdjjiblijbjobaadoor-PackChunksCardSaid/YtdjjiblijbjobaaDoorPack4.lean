/- The walks of pack.Of and Take. Printed by gen_pack4.py. -/
import Derived.Test.YtdjjiblijbjobaaDoorPack2
import Derived.Test.YtdjjiblijbjobaaDoorPackT
namespace Go.Proofs.YtdjjiblijbjobaaDoor
open Go.RowKit

theorem elPlace : ElT Tryd.prog 86 91 3 32 := by
  obtain ⟨i, h1, h2, h3, h4⟩ := info_parts (show (Tryd.prog.info? 91).map (fun i => (i.zero, i.size, i.bytes)) = some (some (.agg #[.string ⟨#[]⟩, .int .i64 0, .int .i64 0]), 3, 32) by kernel_rfl)
  exact ⟨Tryd.underlying86, ⟨i, _, h1, h2, h3, h4, rfl⟩, by decide⟩
theorem szPlace : (Tryd.prog.info? 91).map (·.size) = some 3 := by kernel_rfl
theorem run_places1 {a : Act} {op : Oper} {w : World} {x : Operand} {s : ByteArray} {i j : Int} (ho : op.op = .buildSlice 86 1 #[(0, x)]) (hx : a.eval x = .agg #[.string s, .int .i64 i, .int .i64 j]) :
    (execOp a.eval op).run Tryd.prog w = .ok (.value (.slice (some ⟨w.heap.size, 0, none⟩) 1 1)) (w.alloc (.cells #[.string s, .int .i64 i, .int .i64 j] 91)) := by
  unfold execOp
  simp only [ho, List.map_toArray, List.map_cons, List.map_nil, hx]
  go_simp
theorem ntexts_err {b : List UInt8} {e : Int} (h : textsS b = .error e) (w : World) (hb : b.length < 2 ^ 42) : Calls Tryd.prog 85 #[.string ⟨b.toArray⟩] w fun x w' => x = .returned (.tuple #[.slice none 0 0, .int .i64 e]) ∧ Below w.heap.size w w' :=
  (ntexts_any b w hb).mono fun x w' ⟨u, h1, h2, h3⟩ => by unfold TxR at h2; rw [h] at h2; subst h2; exact ⟨h1, h3⟩
theorem ntexts_ok {b : List UInt8} {X : List (List UInt8)} (h : textsS b = .ok X) (w : World) (hb : b.length < 2 ^ 42) : Calls Tryd.prog 85 #[.string ⟨b.toArray⟩] w fun x w' => ∃ u, x = .returned u ∧ (∃ v, u = .tuple #[v, .int .i64 0] ∧ w'.ownsRow w.heap.size 9 1 v X.length (X.map tx)) ∧ Below w.heap.size w w' :=
  (ntexts_any b w hb).mono fun x w' ⟨u, h1, h2, h3⟩ => by unfold TxR at h2; rw [h] at h2; exact ⟨u, h1, h2, h3⟩
/-- what Of hands back. -/
def OfR (b : List UInt8) (base : Nat) (u : Value) (w : World) : Prop := match ofS b with
  | some l => ∃ v, u = .tuple #[v, .int .i64 0] ∧ w.ownsRow base 91 3 v (placesS l).length ((placesS l).flatMap placeC)
  | none => ∃ v, u = .tuple #[v, .int .i64 3] ∧ w.ownsRow base 91 3 v 0 []
theorem texts_at {l : List Bx} {k : Nat} {x : Bx} (hx : l[k]? = some x) : (hibp :: textsB l)[1 + 2 * k]? = some x.1 ∧ (hibp :: textsB l)[1 + 2 * k + 1]? = some x.2 := by
  rw [show 1 + 2 * k = (2 * k) + 1 by omega, List.getElem?_cons_succ, List.getElem?_cons_succ]
  induction l generalizing k with
  | nil => simp at hx
  | cons b l ih =>
    have h : textsB (b :: l) = b.1 :: b.2 :: textsB l := rfl
    rw [h]
    cases k with
    | zero => simp only [List.getElem?_cons_zero, Option.some.injEq] at hx; subst hx; exact ⟨rfl, rfl⟩
    | succ k =>
      rw [List.getElem?_cons_succ] at hx
      have := ih hx
      rw [show 2 * (k + 1) = 2 * k + 1 + 1 by omega, List.getElem?_cons_succ, List.getElem?_cons_succ, show 2 * k + 1 + 1 + 1 = (2 * k + 1) + 1 + 1 by omega, List.getElem?_cons_succ, List.getElem?_cons_succ]
      exact this
theorem rowS_ge : ∀ l : List (List UInt8), l.length ≤ (rowS l).length
  | [] => Nat.le_refl _
  | s :: l => by
    have h := lenB_pos s.length
    have := rowS_ge l
    rw [rowS_cons, List.length_cons, List.length_append, List.length_append]; omega
theorem own_none (w : World) (base : Nat) (e : TypeId) (size : Nat) : w.ownsRow base e size (.slice none 0 0) 0 [] := ⟨by simp, .inl ⟨rfl, rfl⟩⟩
set_option maxRecDepth 100000 in
set_option maxHeartbeats 1000000 in
theorem pof_any (b : List UInt8) (w : World) (hb : b.length < 2 ^ 42) : Calls Tryd.prog 58 #[.string ⟨b.toArray⟩] w fun e w' => ∃ u, e = .returned u ∧ OfR b w.heap.size u w' ∧ Below w.heap.size w w' := by
  by_cases hlong : 65536 < b.length
  · have hno := ofS_long hlong
    refine walk_enter Tryd.func58 rfl rfl rfl fun a0 F0 => ?_
    have M0 := Mem.new w
    refine wsl ?_
    refine sr (v := (.slice none 0 0)) F0 (run_as rfl rfl) rfl rfl rfl fun a1 F1 => ?_
    refine sr (v := (.int .i64 0)) F1 (run_as rfl rfl) rfl rfl rfl fun a2 F2 => ?_
    refine sn ?_
    clear F0 F1
    refine wp_seq ?_
    refine wsl ?_
    refine mvS F2 rfl rfl rfl rfl rfl fun a3 F3 => ?_
    refine sr F3 (run_len rfl (F3.ev 12 rfl) rfl Tryd.underlying9) rfl rfl rfl fun a4 F4 => ?_
    refine sr (v := (.bool true)) F4 (run_gtr rfl (F4.ev 13 rfl) rfl (decide_eq_true (by omega))) rfl rfl rfl fun a5 F5 => ?_
    refine sn ?_
    clear F2 F3 F4
    refine wp_cond_true (F5.ev 14 rfl) ?_
    refine wsl ?_
    refine sr (v := (.slice none 0 0)) F5 (run_as rfl rfl) rfl rfl rfl fun a6 F6 => ?_
    refine sr (v := (.int .i64 3)) F6 (run_as rfl rfl) rfl rfl rfl fun a7 F7 => ?_
    refine sn ?_
    clear F5 F6
    refine wp_ret ?_
    refine nxRet ?_
    exact ret2 F7 rfl rfl rfl ⟨_, rfl, by unfold OfR; rw [hno]; exact ⟨_, rfl, own_none _ _ _ _⟩, M0.below⟩
  cases hT : textsS b with
  | error e =>
    have hno := ofS_err hT
    have he := textsS_err b.length b e (Nat.le_refl _) hT
    refine walk_enter Tryd.func58 rfl rfl rfl fun a0 F0 => ?_
    have M0 := Mem.new w
    refine wsl ?_
    refine sr (v := (.slice none 0 0)) F0 (run_as rfl rfl) rfl rfl rfl fun a1 F1 => ?_
    refine sr (v := (.int .i64 0)) F1 (run_as rfl rfl) rfl rfl rfl fun a2 F2 => ?_
    refine sn ?_
    clear F0 F1
    refine wp_seq ?_
    refine wsl ?_
    refine mvS F2 rfl rfl rfl rfl rfl fun a3 F3 => ?_
    refine sr F3 (run_len rfl (F3.ev 12 rfl) rfl Tryd.underlying9) rfl rfl rfl fun a4 F4 => ?_
    refine sr (v := (.bool false)) F4 (run_gtr rfl (F4.ev 13 rfl) rfl (decide_eq_false (by omega))) rfl rfl rfl fun a5 F5 => ?_
    refine sn ?_
    clear F2 F3 F4
    refine cfs (F5.ev 14 rfl) ?_
    refine wsl ?_
    refine mvS F5 rfl rfl rfl rfl rfl fun a6 F6 => ?_
    refine sqC (v := (.tuple #[(.slice none 0 0), (.int .i64 e)])) F6 M0 (wantedS rfl) (run_call rfl Tryd.func85 (by kernel_rfl) rfl (mapE1 (F6.ev 16 rfl))) rfl (by decide) (ntexts_err hT w (by omega)) fun a7 w1 hb1 F7 M1 => ?_
    refine mvS F7 rfl rfl rfl rfl rfl fun a8 F8 => ?_
    refine sr (v := (.slice none 0 0)) F8 (run_ext rfl (F8.ev 15 rfl) rfl) rfl rfl rfl fun a9 F9 => ?_
    refine sr (v := (.int .i64 e)) F9 (run_ext rfl (F9.ev 15 rfl) rfl) rfl rfl rfl fun a10 F10 => ?_
    refine asS F10 rfl rfl rfl rfl rfl fun a11 F11 => ?_
    refine asS F11 rfl rfl rfl rfl rfl fun a12 F12 => ?_
    refine sn ?_
    clear F5 F6 F7 F8 F9 F10 F11 M0
    refine wp_seq ?_
    refine wsl ?_
    refine mvS F12 rfl rfl rfl rfl rfl fun a13 F13 => ?_
    refine sr (v := (.bool true)) F13 (run_nei rfl (F13.ev 20 rfl) rfl (bne_iff_ne.2 (by omega))) rfl rfl rfl fun a14 F14 => ?_
    refine mvS F14 rfl rfl rfl rfl rfl fun a15 F15 => ?_
    refine sqSkip F15 (unwantedG F15 rfl rfl rfl rfl rfl) rfl (by decide) fun a16 F16 => ?_
    refine sqSkip F16 (unwantedG F16 rfl rfl rfl rfl rfl) rfl (by decide) fun a17 F17 => ?_
    refine sqSkip F17 (unwantedG F17 rfl rfl rfl rfl rfl) rfl (by decide) fun a18 F18 => ?_
    refine sr (v := (.bool true)) F18 (run_pick rfl (F18.ev 22 rfl) rfl (F18.ev 25 rfl)) rfl rfl rfl fun a19 F19 => ?_
    refine mvS F19 rfl rfl rfl rfl rfl fun a20 F20 => ?_
    refine sqSkip F20 (unwantedG F20 rfl rfl rfl rfl rfl) rfl (by decide) fun a21 F21 => ?_
    refine sqSkip F21 (unwantedG F21 rfl rfl rfl rfl rfl) rfl (by decide) fun a22 F22 => ?_
    refine sqSkip F22 (unwantedG F22 rfl rfl rfl rfl rfl) rfl (by decide) fun a23 F23 => ?_
    refine sqSkip F23 (unwantedG F23 rfl rfl rfl rfl rfl) rfl (by decide) fun a24 F24 => ?_
    refine sr (v := (.bool true)) F24 (run_pick rfl (F24.ev 27 rfl) rfl (F24.ev 31 rfl)) rfl rfl rfl fun a25 F25 => ?_
    refine mvS F25 rfl rfl rfl rfl rfl fun a26 F26 => ?_
    refine sqSkip F26 (unwantedG F26 rfl rfl rfl rfl rfl) rfl (by decide) fun a27 F27 => ?_
    refine sqSkip F27 (unwantedG F27 rfl rfl rfl rfl rfl) rfl (by decide) fun a28 F28 => ?_
    refine sqSkip F28 (unwantedG F28 rfl rfl rfl rfl rfl) rfl (by decide) fun a29 F29 => ?_
    refine sqSkip F29 (unwantedG F29 rfl rfl rfl rfl rfl) rfl (by decide) fun a30 F30 => ?_
    refine sr (v := (.bool true)) F30 (run_pick rfl (F30.ev 33 rfl) rfl (F30.ev 37 rfl)) rfl rfl rfl fun a31 F31 => ?_
    refine sn ?_
    clear F12 F13 F14 F15 F16 F17 F18 F19 F20 F21 F22 F23 F24 F25 F26 F27 F28 F29 F30
    refine wp_cond_true (F31.ev 38 rfl) ?_
    refine wsl ?_
    refine sr (v := (.slice none 0 0)) F31 (run_as rfl rfl) rfl rfl rfl fun a32 F32 => ?_
    refine sr (v := (.int .i64 3)) F32 (run_as rfl rfl) rfl rfl rfl fun a33 F33 => ?_
    refine sn ?_
    clear F31 F32
    refine wp_ret ?_
    refine nxRet ?_
    exact ret2 F33 rfl rfl rfl ⟨_, rfl, by unfold OfR; rw [hno]; exact ⟨_, rfl, own_none _ _ _ _⟩, M1.below⟩
  | ok X =>
  by_cases h3 : X.length < 3
  · have hno := ofS_no hT (.inl h3)
    refine walk_enter Tryd.func58 rfl rfl rfl fun a0 F0 => ?_
    have M0 := Mem.new w
    refine wsl ?_
    refine sr (v := (.slice none 0 0)) F0 (run_as rfl rfl) rfl rfl rfl fun a1 F1 => ?_
    refine sr (v := (.int .i64 0)) F1 (run_as rfl rfl) rfl rfl rfl fun a2 F2 => ?_
    refine sn ?_
    clear F0 F1
    refine wp_seq ?_
    refine wsl ?_
    refine mvS F2 rfl rfl rfl rfl rfl fun a3 F3 => ?_
    refine sr F3 (run_len rfl (F3.ev 12 rfl) rfl Tryd.underlying9) rfl rfl rfl fun a4 F4 => ?_
    refine sr (v := (.bool false)) F4 (run_gtr rfl (F4.ev 13 rfl) rfl (decide_eq_false (by omega))) rfl rfl rfl fun a5 F5 => ?_
    refine sn ?_
    clear F2 F3 F4
    refine cfs (F5.ev 14 rfl) ?_
    refine wsl ?_
    refine mvS F5 rfl rfl rfl rfl rfl fun a6 F6 => ?_
    refine sqT (T := fun u wx => (∃ v, u = .tuple #[v, .int .i64 0] ∧ wx.ownsRow w.heap.size 9 1 v X.length (X.map tx)) ∧ Below w.heap.size w wx) F6 (wantedS rfl) (run_call rfl Tryd.func85 (by kernel_rfl) rfl (mapE1 (F6.ev 16 rfl))) rfl (by decide) (ntexts_ok hT w (by omega)) fun u0 a7 w1 hT1 F7 => ?_
    obtain ⟨⟨v1, rfl, hr1⟩, hb1⟩ := hT1
    have hO1 := OwnR.ofCall M0 hr1
    have M1 := M0.grow hb1
    refine mvS F7 rfl rfl rfl rfl rfl fun a8 F8 => ?_
    refine sr (v := v1) F8 (run_ext rfl (F8.ev 15 rfl) rfl) rfl rfl rfl fun a9 F9 => ?_
    refine sr (v := (.int .i64 0)) F9 (run_ext rfl (F9.ev 15 rfl) rfl) rfl rfl rfl fun a10 F10 => ?_
    refine asS F10 rfl rfl rfl rfl rfl fun a11 F11 => ?_
    refine asS F11 rfl rfl rfl rfl rfl fun a12 F12 => ?_
    refine sn ?_
    clear F5 F6 F7 F8 F9 F10 F11 M0
    refine wp_seq ?_
    refine wsl ?_
    refine mvS F12 rfl rfl rfl rfl rfl fun a13 F13 => ?_
    refine sr (v := (.bool false)) F13 (run_nei rfl (F13.ev 20 rfl) rfl (bne_eq_false_iff_eq.2 (by omega))) rfl rfl rfl fun a14 F14 => ?_
    refine mvS F14 rfl rfl rfl rfl rfl fun a15 F15 => ?_
    refine sq (v := v1) F15 (wantedG F15 rfl rfl rfl rfl rfl) (run_mv rfl (F15.ev 4 rfl)) rfl (by decide) fun a16 F16 => ?_
    refine sq (v := (.int .i64 (X.length : Int))) F16 (wantedG F16 rfl rfl rfl rfl rfl) (run_lenS rfl (F16.ev 23 rfl) (Sl.own hO1) rfl Tryd.underlying23) rfl (by decide) fun a17 F17 => ?_
    refine sq (v := (.bool true)) F17 (wantedG F17 rfl rfl rfl rfl rfl) (run_lss rfl (F17.ev 24 rfl) rfl (decide_eq_true (by omega))) rfl (by decide) fun a18 F18 => ?_
    refine sr (v := (.bool true)) F18 (run_pick rfl (F18.ev 22 rfl) rfl (F18.ev 25 rfl)) rfl rfl rfl fun a19 F19 => ?_
    refine mvS F19 rfl rfl rfl rfl rfl fun a20 F20 => ?_
    refine sqSkip F20 (unwantedG F20 rfl rfl rfl rfl rfl) rfl (by decide) fun a21 F21 => ?_
    refine sqSkip F21 (unwantedG F21 rfl rfl rfl rfl rfl) rfl (by decide) fun a22 F22 => ?_
    refine sqSkip F22 (unwantedG F22 rfl rfl rfl rfl rfl) rfl (by decide) fun a23 F23 => ?_
    refine sqSkip F23 (unwantedG F23 rfl rfl rfl rfl rfl) rfl (by decide) fun a24 F24 => ?_
    refine sr (v := (.bool true)) F24 (run_pick rfl (F24.ev 27 rfl) rfl (F24.ev 31 rfl)) rfl rfl rfl fun a25 F25 => ?_
    refine mvS F25 rfl rfl rfl rfl rfl fun a26 F26 => ?_
    refine sqSkip F26 (unwantedG F26 rfl rfl rfl rfl rfl) rfl (by decide) fun a27 F27 => ?_
    refine sqSkip F27 (unwantedG F27 rfl rfl rfl rfl rfl) rfl (by decide) fun a28 F28 => ?_
    refine sqSkip F28 (unwantedG F28 rfl rfl rfl rfl rfl) rfl (by decide) fun a29 F29 => ?_
    refine sqSkip F29 (unwantedG F29 rfl rfl rfl rfl rfl) rfl (by decide) fun a30 F30 => ?_
    refine sr (v := (.bool true)) F30 (run_pick rfl (F30.ev 33 rfl) rfl (F30.ev 37 rfl)) rfl rfl rfl fun a31 F31 => ?_
    refine sn ?_
    clear F12 F13 F14 F15 F16 F17 F18 F19 F20 F21 F22 F23 F24 F25 F26 F27 F28 F29 F30
    refine wp_cond_true (F31.ev 38 rfl) ?_
    refine wsl ?_
    refine sr (v := (.slice none 0 0)) F31 (run_as rfl rfl) rfl rfl rfl fun a32 F32 => ?_
    refine sr (v := (.int .i64 3)) F32 (run_as rfl rfl) rfl rfl rfl fun a33 F33 => ?_
    refine sn ?_
    clear F31 F32
    refine wp_ret ?_
    refine nxRet ?_
    exact ret2 F33 rfl rfl rfl ⟨_, rfl, by unfold OfR; rw [hno]; exact ⟨_, rfl, own_none _ _ _ _⟩, M1.below⟩
  by_cases h2 : X.length % 2 = 0
  · have hno := ofS_no hT (.inr (.inl h2))
    refine walk_enter Tryd.func58 rfl rfl rfl fun a0 F0 => ?_
    have M0 := Mem.new w
    refine wsl ?_
    refine sr (v := (.slice none 0 0)) F0 (run_as rfl rfl) rfl rfl rfl fun a1 F1 => ?_
    refine sr (v := (.int .i64 0)) F1 (run_as rfl rfl) rfl rfl rfl fun a2 F2 => ?_
    refine sn ?_
    clear F0 F1
    refine wp_seq ?_
    refine wsl ?_
    refine mvS F2 rfl rfl rfl rfl rfl fun a3 F3 => ?_
    refine sr F3 (run_len rfl (F3.ev 12 rfl) rfl Tryd.underlying9) rfl rfl rfl fun a4 F4 => ?_
    refine sr (v := (.bool false)) F4 (run_gtr rfl (F4.ev 13 rfl) rfl (decide_eq_false (by omega))) rfl rfl rfl fun a5 F5 => ?_
    refine sn ?_
    clear F2 F3 F4
    refine cfs (F5.ev 14 rfl) ?_
    refine wsl ?_
    refine mvS F5 rfl rfl rfl rfl rfl fun a6 F6 => ?_
    refine sqT (T := fun u wx => (∃ v, u = .tuple #[v, .int .i64 0] ∧ wx.ownsRow w.heap.size 9 1 v X.length (X.map tx)) ∧ Below w.heap.size w wx) F6 (wantedS rfl) (run_call rfl Tryd.func85 (by kernel_rfl) rfl (mapE1 (F6.ev 16 rfl))) rfl (by decide) (ntexts_ok hT w (by omega)) fun u0 a7 w1 hT1 F7 => ?_
    obtain ⟨⟨v1, rfl, hr1⟩, hb1⟩ := hT1
    have hO1 := OwnR.ofCall M0 hr1
    have M1 := M0.grow hb1
    refine mvS F7 rfl rfl rfl rfl rfl fun a8 F8 => ?_
    refine sr (v := v1) F8 (run_ext rfl (F8.ev 15 rfl) rfl) rfl rfl rfl fun a9 F9 => ?_
    refine sr (v := (.int .i64 0)) F9 (run_ext rfl (F9.ev 15 rfl) rfl) rfl rfl rfl fun a10 F10 => ?_
    refine asS F10 rfl rfl rfl rfl rfl fun a11 F11 => ?_
    refine asS F11 rfl rfl rfl rfl rfl fun a12 F12 => ?_
    refine sn ?_
    clear F5 F6 F7 F8 F9 F10 F11 M0
    refine wp_seq ?_
    refine wsl ?_
    refine mvS F12 rfl rfl rfl rfl rfl fun a13 F13 => ?_
    refine sr (v := (.bool false)) F13 (run_nei rfl (F13.ev 20 rfl) rfl (bne_eq_false_iff_eq.2 (by omega))) rfl rfl rfl fun a14 F14 => ?_
    refine mvS F14 rfl rfl rfl rfl rfl fun a15 F15 => ?_
    refine sq (v := v1) F15 (wantedG F15 rfl rfl rfl rfl rfl) (run_mv rfl (F15.ev 4 rfl)) rfl (by decide) fun a16 F16 => ?_
    refine sq (v := (.int .i64 (X.length : Int))) F16 (wantedG F16 rfl rfl rfl rfl rfl) (run_lenS rfl (F16.ev 23 rfl) (Sl.own hO1) rfl Tryd.underlying23) rfl (by decide) fun a17 F17 => ?_
    refine sq (v := (.bool false)) F17 (wantedG F17 rfl rfl rfl rfl rfl) (run_lss rfl (F17.ev 24 rfl) rfl (decide_eq_false (by omega))) rfl (by decide) fun a18 F18 => ?_
    refine sr (v := (.bool false)) F18 (run_pick rfl (F18.ev 22 rfl) rfl (F18.ev 25 rfl)) rfl rfl rfl fun a19 F19 => ?_
    refine mvS F19 rfl rfl rfl rfl rfl fun a20 F20 => ?_
    refine sq (v := v1) F20 (wantedG F20 rfl rfl rfl rfl rfl) (run_mv rfl (F20.ev 4 rfl)) rfl (by decide) fun a21 F21 => ?_
    refine sq (v := (.int .i64 (X.length : Int))) F21 (wantedG F21 rfl rfl rfl rfl rfl) (run_lenS rfl (F21.ev 28 rfl) (Sl.own hO1) rfl Tryd.underlying23) rfl (by decide) fun a22 F22 => ?_
    refine sq (v := (.int .i64 ((X.length % 2 : Nat) : Int))) F22 (wantedG F22 rfl rfl rfl rfl rfl) (run_rem (r := ((X.length % 2 : Nat) : Int)) rfl (F22.ev 29 rfl) rfl (by omega) (by rw [Int.tmod_eq_emod_of_nonneg (by omega)]; try omega)) rfl (by decide) fun a23 F23 => ?_
    refine sq (v := (.bool true)) F23 (wantedG F23 rfl rfl rfl rfl rfl) (run_nei rfl (F23.ev 30 rfl) rfl (bne_iff_ne.2 (by omega))) rfl (by decide) fun a24 F24 => ?_
    refine sr (v := (.bool true)) F24 (run_pick rfl (F24.ev 27 rfl) rfl (F24.ev 31 rfl)) rfl rfl rfl fun a25 F25 => ?_
    refine mvS F25 rfl rfl rfl rfl rfl fun a26 F26 => ?_
    refine sqSkip F26 (unwantedG F26 rfl rfl rfl rfl rfl) rfl (by decide) fun a27 F27 => ?_
    refine sqSkip F27 (unwantedG F27 rfl rfl rfl rfl rfl) rfl (by decide) fun a28 F28 => ?_
    refine sqSkip F28 (unwantedG F28 rfl rfl rfl rfl rfl) rfl (by decide) fun a29 F29 => ?_
    refine sqSkip F29 (unwantedG F29 rfl rfl rfl rfl rfl) rfl (by decide) fun a30 F30 => ?_
    refine sr (v := (.bool true)) F30 (run_pick rfl (F30.ev 33 rfl) rfl (F30.ev 37 rfl)) rfl rfl rfl fun a31 F31 => ?_
    refine sn ?_
    clear F12 F13 F14 F15 F16 F17 F18 F19 F20 F21 F22 F23 F24 F25 F26 F27 F28 F29 F30
    refine wp_cond_true (F31.ev 38 rfl) ?_
    refine wsl ?_
    refine sr (v := (.slice none 0 0)) F31 (run_as rfl rfl) rfl rfl rfl fun a32 F32 => ?_
    refine sr (v := (.int .i64 3)) F32 (run_as rfl rfl) rfl rfl rfl fun a33 F33 => ?_
    refine sn ?_
    clear F31 F32
    refine wp_ret ?_
    refine nxRet ?_
    exact ret2 F33 rfl rfl rfl ⟨_, rfl, by unfold OfR; rw [hno]; exact ⟨_, rfl, own_none _ _ _ _⟩, M1.below⟩
  obtain ⟨y, hy⟩ : ∃ y, X[0]? = some y := ⟨X[0], by simp [show 0 < X.length by omega]⟩
  by_cases hh : y ≠ hibp
  · have hno := ofS_no hT (.inr (.inr (.inl (by rw [List.head?_eq_getElem?, hy]; intro e; injection e with e; exact hh e))))
    refine walk_enter Tryd.func58 rfl rfl rfl fun a0 F0 => ?_
    have M0 := Mem.new w
    refine wsl ?_
    refine sr (v := (.slice none 0 0)) F0 (run_as rfl rfl) rfl rfl rfl fun a1 F1 => ?_
    refine sr (v := (.int .i64 0)) F1 (run_as rfl rfl) rfl rfl rfl fun a2 F2 => ?_
    refine sn ?_
    clear F0 F1
    refine wp_seq ?_
    refine wsl ?_
    refine mvS F2 rfl rfl rfl rfl rfl fun a3 F3 => ?_
    refine sr F3 (run_len rfl (F3.ev 12 rfl) rfl Tryd.underlying9) rfl rfl rfl fun a4 F4 => ?_
    refine sr (v := (.bool false)) F4 (run_gtr rfl (F4.ev 13 rfl) rfl (decide_eq_false (by omega))) rfl rfl rfl fun a5 F5 => ?_
    refine sn ?_
    clear F2 F3 F4
    refine cfs (F5.ev 14 rfl) ?_
    refine wsl ?_
    refine mvS F5 rfl rfl rfl rfl rfl fun a6 F6 => ?_
    refine sqT (T := fun u wx => (∃ v, u = .tuple #[v, .int .i64 0] ∧ wx.ownsRow w.heap.size 9 1 v X.length (X.map tx)) ∧ Below w.heap.size w wx) F6 (wantedS rfl) (run_call rfl Tryd.func85 (by kernel_rfl) rfl (mapE1 (F6.ev 16 rfl))) rfl (by decide) (ntexts_ok hT w (by omega)) fun u0 a7 w1 hT1 F7 => ?_
    obtain ⟨⟨v1, rfl, hr1⟩, hb1⟩ := hT1
    have hO1 := OwnR.ofCall M0 hr1
    have M1 := M0.grow hb1
    refine mvS F7 rfl rfl rfl rfl rfl fun a8 F8 => ?_
    refine sr (v := v1) F8 (run_ext rfl (F8.ev 15 rfl) rfl) rfl rfl rfl fun a9 F9 => ?_
    refine sr (v := (.int .i64 0)) F9 (run_ext rfl (F9.ev 15 rfl) rfl) rfl rfl rfl fun a10 F10 => ?_
    refine asS F10 rfl rfl rfl rfl rfl fun a11 F11 => ?_
    refine asS F11 rfl rfl rfl rfl rfl fun a12 F12 => ?_
    refine sn ?_
    clear F5 F6 F7 F8 F9 F10 F11 M0
    refine wp_seq ?_
    refine wsl ?_
    refine mvS F12 rfl rfl rfl rfl rfl fun a13 F13 => ?_
    refine sr (v := (.bool false)) F13 (run_nei rfl (F13.ev 20 rfl) rfl (bne_eq_false_iff_eq.2 (by omega))) rfl rfl rfl fun a14 F14 => ?_
    refine mvS F14 rfl rfl rfl rfl rfl fun a15 F15 => ?_
    refine sq (v := v1) F15 (wantedG F15 rfl rfl rfl rfl rfl) (run_mv rfl (F15.ev 4 rfl)) rfl (by decide) fun a16 F16 => ?_
    refine sq (v := (.int .i64 (X.length : Int))) F16 (wantedG F16 rfl rfl rfl rfl rfl) (run_lenS rfl (F16.ev 23 rfl) (Sl.own hO1) rfl Tryd.underlying23) rfl (by decide) fun a17 F17 => ?_
    refine sq (v := (.bool false)) F17 (wantedG F17 rfl rfl rfl rfl rfl) (run_lss rfl (F17.ev 24 rfl) rfl (decide_eq_false (by omega))) rfl (by decide) fun a18 F18 => ?_
    refine sr (v := (.bool false)) F18 (run_pick rfl (F18.ev 22 rfl) rfl (F18.ev 25 rfl)) rfl rfl rfl fun a19 F19 => ?_
    refine mvS F19 rfl rfl rfl rfl rfl fun a20 F20 => ?_
    refine sq (v := v1) F20 (wantedG F20 rfl rfl rfl rfl rfl) (run_mv rfl (F20.ev 4 rfl)) rfl (by decide) fun a21 F21 => ?_
    refine sq (v := (.int .i64 (X.length : Int))) F21 (wantedG F21 rfl rfl rfl rfl rfl) (run_lenS rfl (F21.ev 28 rfl) (Sl.own hO1) rfl Tryd.underlying23) rfl (by decide) fun a22 F22 => ?_
    refine sq (v := (.int .i64 ((X.length % 2 : Nat) : Int))) F22 (wantedG F22 rfl rfl rfl rfl rfl) (run_rem (r := ((X.length % 2 : Nat) : Int)) rfl (F22.ev 29 rfl) rfl (by omega) (by rw [Int.tmod_eq_emod_of_nonneg (by omega)]; try omega)) rfl (by decide) fun a23 F23 => ?_
    refine sq (v := (.bool false)) F23 (wantedG F23 rfl rfl rfl rfl rfl) (run_nei rfl (F23.ev 30 rfl) rfl (bne_eq_false_iff_eq.2 (by omega))) rfl (by decide) fun a24 F24 => ?_
    refine sr (v := (.bool false)) F24 (run_pick rfl (F24.ev 27 rfl) rfl (F24.ev 31 rfl)) rfl rfl rfl fun a25 F25 => ?_
    refine mvS F25 rfl rfl rfl rfl rfl fun a26 F26 => ?_
    refine sq (v := v1) F26 (wantedG F26 rfl rfl rfl rfl rfl) (run_mv rfl (F26.ev 4 rfl)) rfl (by decide) fun a27 F27 => ?_
    refine sq (v := (slPtr v1 (0 * 1))) F27 (wantedG F27 rfl rfl rfl rfl rfl) (run_atP (i := 0) rfl (F27.ev 34 rfl) rfl rfl (Sl.own hO1) (by omega) elStr.un (by kernel_rfl)) rfl (by decide) fun a28 F28 => ?_
    refine sq (v := (.string ⟨y.toArray⟩)) F28 (wantedG F28 rfl rfl rfl rfl rfl) (run_ldP rfl (F28.ev 35 rfl) (Sl.own hO1) (map_at hy) (by kernel_rfl)) rfl (by decide) fun a29 F29 => ?_
    refine sq (v := (.bool true)) F29 (wantedG F29 rfl rfl rfl rfl rfl) (run_nes rfl (F29.ev 36 rfl) rfl (by rw [show (y == [104, 105, 98, 112]) = false from beq_eq_false_iff_ne.2 hh]; rfl)) rfl (by decide) fun a30 F30 => ?_
    refine sr (v := (.bool true)) F30 (run_pick rfl (F30.ev 33 rfl) rfl (F30.ev 37 rfl)) rfl rfl rfl fun a31 F31 => ?_
    refine sn ?_
    clear F12 F13 F14 F15 F16 F17 F18 F19 F20 F21 F22 F23 F24 F25 F26 F27 F28 F29 F30
    refine wp_cond_true (F31.ev 38 rfl) ?_
    refine wsl ?_
    refine sr (v := (.slice none 0 0)) F31 (run_as rfl rfl) rfl rfl rfl fun a32 F32 => ?_
    refine sr (v := (.int .i64 3)) F32 (run_as rfl rfl) rfl rfl rfl fun a33 F33 => ?_
    refine sn ?_
    clear F31 F32
    refine wp_ret ?_
    refine nxRet ?_
    exact ret2 F33 rfl rfl rfl ⟨_, rfl, by unfold OfR; rw [hno]; exact ⟨_, rfl, own_none _ _ _ _⟩, M1.below⟩
  replace hh : y = hibp := Classical.byContradiction hh
  have hsh := shape (X := X) (by omega) (by rw [List.head?_eq_getElem?, hy, hh])
  obtain ⟨l, hl⟩ : ∃ l, boxesOf X.tail = l := ⟨_, rfl⟩
  rw [hl] at hsh
  have hlen : X.length = 1 + 2 * l.length := by rw [hsh, List.length_cons, textsB_len]; omega
  have hbk := (textsS_back b.length b X (Nat.le_refl _) hT).1
  have hby : bytesS l = b := by unfold bytesS; rw [← hsh]; exact hbk
  have hXb : X.length ≤ b.length := by rw [← hbk]; exact rowS_ge X
  refine walk_enter Tryd.func58 rfl rfl rfl fun a0 F0 => ?_
  have M0 := Mem.new w
  refine wsl ?_
  refine sr (v := (.slice none 0 0)) F0 (run_as rfl rfl) rfl rfl rfl fun a1 F1 => ?_
  refine sr (v := (.int .i64 0)) F1 (run_as rfl rfl) rfl rfl rfl fun a2 F2 => ?_
  refine sn ?_
  clear F0 F1
  refine wp_seq ?_
  refine wsl ?_
  refine mvS F2 rfl rfl rfl rfl rfl fun a3 F3 => ?_
  refine sr F3 (run_len rfl (F3.ev 12 rfl) rfl Tryd.underlying9) rfl rfl rfl fun a4 F4 => ?_
  refine sr (v := (.bool false)) F4 (run_gtr rfl (F4.ev 13 rfl) rfl (decide_eq_false (by omega))) rfl rfl rfl fun a5 F5 => ?_
  refine sn ?_
  clear F2 F3 F4
  refine cfs (F5.ev 14 rfl) ?_
  refine wsl ?_
  refine mvS F5 rfl rfl rfl rfl rfl fun a6 F6 => ?_
  refine sqT (T := fun u wx => (∃ v, u = .tuple #[v, .int .i64 0] ∧ wx.ownsRow w.heap.size 9 1 v X.length (X.map tx)) ∧ Below w.heap.size w wx) F6 (wantedS rfl) (run_call rfl Tryd.func85 (by kernel_rfl) rfl (mapE1 (F6.ev 16 rfl))) rfl (by decide) (ntexts_ok hT w (by omega)) fun u0 a7 w1 hT1 F7 => ?_
  obtain ⟨⟨v1, rfl, hr1⟩, hb1⟩ := hT1
  have hO1 := OwnR.ofCall M0 hr1
  have M1 := M0.grow hb1
  refine mvS F7 rfl rfl rfl rfl rfl fun a8 F8 => ?_
  refine sr (v := v1) F8 (run_ext rfl (F8.ev 15 rfl) rfl) rfl rfl rfl fun a9 F9 => ?_
  refine sr (v := (.int .i64 0)) F9 (run_ext rfl (F9.ev 15 rfl) rfl) rfl rfl rfl fun a10 F10 => ?_
  refine asS F10 rfl rfl rfl rfl rfl fun a11 F11 => ?_
  refine asS F11 rfl rfl rfl rfl rfl fun a12 F12 => ?_
  refine sn ?_
  clear F5 F6 F7 F8 F9 F10 F11 M0
  refine wp_seq ?_
  refine wsl ?_
  refine mvS F12 rfl rfl rfl rfl rfl fun a13 F13 => ?_
  refine sr (v := (.bool false)) F13 (run_nei rfl (F13.ev 20 rfl) rfl (bne_eq_false_iff_eq.2 (by omega))) rfl rfl rfl fun a14 F14 => ?_
  refine mvS F14 rfl rfl rfl rfl rfl fun a15 F15 => ?_
  refine sq (v := v1) F15 (wantedG F15 rfl rfl rfl rfl rfl) (run_mv rfl (F15.ev 4 rfl)) rfl (by decide) fun a16 F16 => ?_
  refine sq (v := (.int .i64 (X.length : Int))) F16 (wantedG F16 rfl rfl rfl rfl rfl) (run_lenS rfl (F16.ev 23 rfl) (Sl.own hO1) rfl Tryd.underlying23) rfl (by decide) fun a17 F17 => ?_
  refine sq (v := (.bool false)) F17 (wantedG F17 rfl rfl rfl rfl rfl) (run_lss rfl (F17.ev 24 rfl) rfl (decide_eq_false (by omega))) rfl (by decide) fun a18 F18 => ?_
  refine sr (v := (.bool false)) F18 (run_pick rfl (F18.ev 22 rfl) rfl (F18.ev 25 rfl)) rfl rfl rfl fun a19 F19 => ?_
  refine mvS F19 rfl rfl rfl rfl rfl fun a20 F20 => ?_
  refine sq (v := v1) F20 (wantedG F20 rfl rfl rfl rfl rfl) (run_mv rfl (F20.ev 4 rfl)) rfl (by decide) fun a21 F21 => ?_
  refine sq (v := (.int .i64 (X.length : Int))) F21 (wantedG F21 rfl rfl rfl rfl rfl) (run_lenS rfl (F21.ev 28 rfl) (Sl.own hO1) rfl Tryd.underlying23) rfl (by decide) fun a22 F22 => ?_
  refine sq (v := (.int .i64 ((X.length % 2 : Nat) : Int))) F22 (wantedG F22 rfl rfl rfl rfl rfl) (run_rem (r := ((X.length % 2 : Nat) : Int)) rfl (F22.ev 29 rfl) rfl (by omega) (by rw [Int.tmod_eq_emod_of_nonneg (by omega)]; try omega)) rfl (by decide) fun a23 F23 => ?_
  refine sq (v := (.bool false)) F23 (wantedG F23 rfl rfl rfl rfl rfl) (run_nei rfl (F23.ev 30 rfl) rfl (bne_eq_false_iff_eq.2 (by omega))) rfl (by decide) fun a24 F24 => ?_
  refine sr (v := (.bool false)) F24 (run_pick rfl (F24.ev 27 rfl) rfl (F24.ev 31 rfl)) rfl rfl rfl fun a25 F25 => ?_
  refine mvS F25 rfl rfl rfl rfl rfl fun a26 F26 => ?_
  refine sq (v := v1) F26 (wantedG F26 rfl rfl rfl rfl rfl) (run_mv rfl (F26.ev 4 rfl)) rfl (by decide) fun a27 F27 => ?_
  refine sq (v := (slPtr v1 (0 * 1))) F27 (wantedG F27 rfl rfl rfl rfl rfl) (run_atP (i := 0) rfl (F27.ev 34 rfl) rfl rfl (Sl.own hO1) (by omega) elStr.un (by kernel_rfl)) rfl (by decide) fun a28 F28 => ?_
  refine sq (v := (.string ⟨y.toArray⟩)) F28 (wantedG F28 rfl rfl rfl rfl rfl) (run_ldP rfl (F28.ev 35 rfl) (Sl.own hO1) (map_at hy) (by kernel_rfl)) rfl (by decide) fun a29 F29 => ?_
  refine sq (v := (.bool false)) F29 (wantedG F29 rfl rfl rfl rfl rfl) (run_nes rfl (F29.ev 36 rfl) rfl (by rw [hh]; rfl)) rfl (by decide) fun a30 F30 => ?_
  refine sr (v := (.bool false)) F30 (run_pick rfl (F30.ev 33 rfl) rfl (F30.ev 37 rfl)) rfl rfl rfl fun a31 F31 => ?_
  refine sn ?_
  clear F12 F13 F14 F15 F16 F17 F18 F19 F20 F21 F22 F23 F24 F25 F26 F27 F28 F29 F30
  refine cfs (F31.ev 38 rfl) ?_
  refine wp_seq ?_
  obtain ⟨gt, ct, rfl, M2⟩ := hO1.toMem M1 (by omega)
  refine wp_region_lit ?_
  refine sqMakeSet F31 M2 rfl rfl (fun q hq => by cases hq) rfl (by decide) fun g2 a32 w2 hgg2 hb2 F32 M3 => ?_
  refine asS F32 rfl rfl rfl rfl rfl fun a33 F33 => ?_
  refine sn ?_
  clear F31 F32 M2
  refine wsl ?_
  refine sr (v := (.slice none 0 0)) F33 (run_as rfl rfl) rfl rfl rfl fun a34 F34 => ?_
  refine sn ?_
  clear F33
  refine wp_seq ?_
  have hrh : rowedS [104, 105, 98, 112] = (bytesS (l.take 0)).length := by unfold bytesS; rw [rowS_sum]; rfl
  refine wp_region_lit ?_
  refine sqC (v := (.int .i64 ((bytesS (l.take 0)).length : Int))) F34 M3 (wantedS rfl) (run_call rfl Tryd.func61 (by kernel_rfl) rfl (mapE1 rfl)) rfl (by decide) (by rw [← hrh]; exact rowed_any [104, 105, 98, 112] w2 (by decide)) fun a35 w3 hb3 F35 M4 => ?_
  refine asS F35 rfl rfl rfl rfl rfl fun a36 F36 => ?_
  refine sn ?_
  clear F34 F35 M3
  refine wp_seq ?_
  refine wsl ?_
  refine sr (v := (.int .i64 1)) F36 (run_as rfl rfl) rfl rfl rfl fun a37 F37 => ?_
  refine sn ?_
  clear F36
  refine wp_block ?_
  refine wkLoop (fun m a w2 => ∃ (k : Nat) (r : Value), k ≤ l.length ∧ m = l.length - k ∧ namesS l = namesF ((l.take k).map (·.1)) (l.drop k) ∧ OwnR w [(g2, isSet (((l.take k).map (·.1)))), (gt, isRow 9 1 X.length (X.map tx))] w2 91 3 r (placesTo l k).length ((placesTo l k).flatMap placeC) ∧ Fr a 81 [(4, .slice (some ⟨gt, 0, none⟩) X.length ct), (6, .map (some g2)), (7, r), (8, .int .i64 ((bytesS (l.take k)).length : Int)), (9, .int .i64 ((1 + 2 * k : Nat) : Int))] ∧ Mem w [(g2, isSet (((l.take k).map (·.1)))), (gt, isRow 9 1 X.length (X.map tx))] w2) l.length ⟨0, .slice none 0 0, Nat.zero_le _, rfl, rfl, OwnR.nil _ _ _ _ _, F37.sub ⟨rfl, rfl, rfl, rfl, rfl, trivial⟩, M4⟩ ?_
  rintro m a0 w1 ⟨k, r, hk, rfl, hnm, hO0, F0, M0⟩
  have hpl := placesTo_len l k hk
  have hml : ((l.take k).map (·.1)).length = k := by rw [List.length_map, List.length_take]; omega
  obtain ⟨nms, hnms⟩ : ∃ nms, (l.take k).map (·.1) = nms := ⟨_, rfl⟩
  rw [hnms] at hnm hO0 M0 hml
  by_cases hlt : k < l.length
  · obtain ⟨x, hx⟩ : ∃ x, l[k]? = some x := ⟨l[k], by simp [hlt]⟩
    obtain ⟨hx1, hx2⟩ := texts_at hx
    rw [← hsh] at hx1 hx2
    have hst := bytes_step l k hx
    obtain ⟨hc1, hc2, _⟩ := place_cut l k hx
    rw [hby] at hc2
    have hr1 : x.1.length ≤ rowedS x.1 := by unfold rowedS; omega
    have hr2 : x.2.length ≤ rowedS x.2 := by unfold rowedS; omega
    rw [namesF_step _ l k hx] at hnm
    by_cases hmay : mayS nms x.1 = 0
    · rw [if_pos hmay] at hnm
      refine wp_seq ?_
      refine wsl ?_
      refine mvS F0 rfl rfl rfl rfl rfl fun a1 F1 => ?_
      refine mvS F1 rfl rfl rfl rfl rfl fun a2 F2 => ?_
      refine sr F2 (run_lenS rfl (F2.ev 42 rfl) (slOfRow (c := ct) (M0.ob 1 rfl)) rfl Tryd.underlying23) rfl rfl rfl fun a3 F3 => ?_
      refine sr (v := (.bool true)) F3 (run_lss rfl (F3.ev 41 rfl) (F3.ev 43 rfl) (decide_eq_true (by omega))) rfl rfl rfl fun a4 F4 => ?_
      refine sn ?_
      clear F0 F1 F2 F3
      refine cts (F4.ev 44 rfl) ?_
      refine wp_seq ?_
      refine wp_block ?_
      refine wp_seq ?_
      obtain ⟨KL, hKL⟩ : ∃ KL, KL = [kval (.slice (some ⟨gt, 0, none⟩) X.length ct), kval (.int .i64 ((1 + 2 * k : Nat) : Int)), kval (slPtr (.slice (some ⟨gt, 0, none⟩) X.length ct) ((1 + 2 * k) * 1)), kval (.string ⟨x.1.toArray⟩), kval (.slice (some ⟨gt, 0, none⟩) X.length ct), kval (.int .i64 ((1 + 2 * k : Nat) : Int)), kval (.int .i64 ((1 + 2 * k + 1 : Nat) : Int)), kval (slPtr (.slice (some ⟨gt, 0, none⟩) X.length ct) ((1 + 2 * k + 1) * 1)), kval (.string ⟨x.2.toArray⟩), kval (.string ⟨x.1.toArray⟩), kval (.string ⟨x.2.toArray⟩)] := ⟨_, rfl⟩
      have K0 := getK hKL 0
      have K1 := getK hKL 1
      have K2 := getK hKL 2
      have K3 := getK hKL 3
      have K4 := getK hKL 4
      have K5 := getK hKL 5
      have K6 := getK hKL 6
      have K7 := getK hKL 7
      have K8 := getK hKL 8
      have K9 := getK hKL 9
      have K10 := getK hKL 10
      clear hKL
      refine wp_region_kd 81 (by kernel_rfl) (by kernel_rfl) (by kernel_rfl) F4.size KL ?_ ?_
      · refine ⟨?_, ?_, ?_, ?_, ?_, ?_, ?_, ?_, ?_, ?_, ?_, trivial⟩
        · exact asksY rfl fun a W hS hh hd => giv_run (run_mv rfl (eval_tmp (hh 4 _ rfl (F4.at 4 rfl)))) K0
        · exact asksY rfl fun a W hS hh hd => giv_run (run_mv rfl (eval_tmp (hh 9 _ rfl (F4.at 9 rfl)))) K1
        · exact asksY rfl fun a W hS hh hd => giv_run (run_atP (i := (1 + 2 * k)) rfl (eval_tmp (hd.vl 0 47 (by kernel_rfl) K0)) (eval_tmp (hd.vl 1 48 (by kernel_rfl) K1)) rfl (slOfRow (c := ct) ((M0.grow hS).ob 1 rfl)) (by omega) elStr.un (by kernel_rfl)) K2
        · exact asksY rfl fun a W hS hh hd => giv_run (run_ldP rfl (eval_tmp (hd.vl 2 49 (by kernel_rfl) K2)) (slOfRow (c := ct) ((M0.grow hS).ob 1 rfl)) (map_at hx1) (by kernel_rfl)) K3
        · exact asksY rfl fun a W hS hh hd => giv_run (run_mv rfl (eval_tmp (hh 4 _ rfl (F4.at 4 rfl)))) K4
        · exact asksY rfl fun a W hS hh hd => giv_run (run_mv rfl (eval_tmp (hh 9 _ rfl (F4.at 9 rfl)))) K5
        · exact asksY rfl fun a W hS hh hd => giv_run (run_add (r := ((1 + 2 * k + 1 : Nat) : Int)) rfl (eval_tmp (hd.vl 5 52 (by kernel_rfl) K5)) rfl (by rw [IntKind.wrap_i64]; omega)) K6
        · exact asksY rfl fun a W hS hh hd => giv_run (run_atP (i := (1 + 2 * k + 1)) rfl (eval_tmp (hd.vl 4 51 (by kernel_rfl) K4)) (eval_tmp (hd.vl 6 53 (by kernel_rfl) K6)) rfl (slOfRow (c := ct) ((M0.grow hS).ob 1 rfl)) (by omega) elStr.un (by kernel_rfl)) K7
        · exact asksY rfl fun a W hS hh hd => giv_run (run_ldP rfl (eval_tmp (hd.vl 7 54 (by kernel_rfl) K7)) (slOfRow (c := ct) ((M0.grow hS).ob 1 rfl)) (map_at hx2) (by kernel_rfl)) K8
        · exact asksY rfl fun a W hS hh hd => giv_run (run_as rfl (eval_tmp (hd.vl 3 50 (by kernel_rfl) K3))) K9
        · exact asksY rfl fun a W hS hh hd => giv_run (run_as rfl (eval_tmp (hd.vl 8 55 (by kernel_rfl) K8))) K10
      · intro a5 w2 hb2 hK
        have e0 := hK.vl 0 47 (by kernel_rfl) K0
        have e1 := hK.vl 1 48 (by kernel_rfl) K1
        have e2 := hK.vl 2 49 (by kernel_rfl) K2
        have e3 := hK.vl 3 50 (by kernel_rfl) K3
        have e4 := hK.vl 4 51 (by kernel_rfl) K4
        have e5 := hK.vl 5 52 (by kernel_rfl) K5
        have e6 := hK.vl 6 53 (by kernel_rfl) K6
        have e7 := hK.vl 7 54 (by kernel_rfl) K7
        have e8 := hK.vl 8 55 (by kernel_rfl) K8
        have e9 := hK.vl 9 10 (by kernel_rfl) K9
        have e10 := hK.vl 10 11 (by kernel_rfl) K10
        have F5 : Fr a5 81 [(4, (.slice (some ⟨gt, 0, none⟩) X.length ct)), (6, (.map (some g2))), (7, r), (8, (.int .i64 ((bytesS (l.take k)).length : Int))), (9, (.int .i64 ((1 + 2 * k : Nat) : Int))), (10, (.string ⟨x.1.toArray⟩)), (11, (.string ⟨x.2.toArray⟩)), (41, (.int .i64 ((1 + 2 * k : Nat) : Int))), (42, (.slice (some ⟨gt, 0, none⟩) X.length ct)), (43, (.int .i64 (X.length : Int))), (44, (.bool true))] := (hK.fr F4 [_, _, _, _, _, _, _, _, _, _, _] ⟨e0, e1, e2, e3, e4, e5, e6, e7, e8, e9, e10, trivial⟩).sub ⟨rfl, rfl, rfl, rfl, rfl, rfl, rfl, rfl, rfl, rfl, rfl, trivial⟩
        have M1 := M0.grow hb2
        have hO1 := hO0.grow hb2
        clear hK K0 e0 K1 e1 K2 e2 K3 e3 K4 e4 K5 e5 K6 e6 K7 e7 K8 e8 K9 e9 K10 e10
        clear F4 M0
        refine nx ?_
        refine wp_seq ?_
        refine wsl ?_
        refine mvS F5 rfl rfl rfl rfl rfl fun a6 F6 => ?_
        refine mvS F6 rfl rfl rfl rfl rfl fun a7 F7 => ?_
        refine sqC (v := (.int .i64 (mayS nms x.1))) F7 M1 (wantedS rfl) (run_call rfl Tryd.func60 (by kernel_rfl) rfl (mapE2 (F7.ev 56 rfl) (F7.ev 57 rfl))) rfl (by decide) (may_any g2 nms x.1 w2 (M1.ob 0 rfl) (by first | omega | decide | (simp; omega))) fun a8 w3 hb3 F8 M2 => ?_
        have hO2 := hO1.grow hb3
        refine sr (v := (.bool false)) F8 (run_nei rfl (F8.ev 58 rfl) rfl (bne_eq_false_iff_eq.2 (by omega))) rfl rfl rfl fun a9 F9 => ?_
        refine sn ?_
        clear F5 F6 F7 F8 M1
        refine cfs (F9.ev 59 rfl) ?_
        refine wsl ?_
        refine mvS F9 rfl rfl rfl rfl rfl fun a10 F10 => ?_
        refine mvS F10 rfl rfl rfl rfl rfl fun a11 F11 => ?_
        refine sqSetAdd (i := 0) F11 M2 rfl rfl rfl (F11.ev 60 rfl) (F11.ev 61 rfl) rfl rfl (by unfold maxLen; omega) (by unfold maxLen; omega) fun a12 w4 hgr4 F12 M3 => ?_
        have hO3 := hO2.upd 0 (S2 := isSet (nms ++ [x.1])) rfl hgr4
        refine sn ?_
        clear F9 F10 F11 M2
        refine wsl ?_
        refine mvS F12 rfl rfl rfl rfl rfl fun a13 F13 => ?_
        refine mvS F13 rfl rfl rfl rfl rfl fun a14 F14 => ?_
        refine sqC (v := (.int .i64 (rowedS x.1 : Int))) F14 M3 (wantedS rfl) (run_call rfl Tryd.func61 (by kernel_rfl) rfl (mapE1 (F14.ev 63 rfl))) rfl (by decide) (rowed_any x.1 w4 (by first | omega | decide | (simp; omega))) fun a15 w5 hb5 F15 M4 => ?_
        have hO4 := hO3.grow hb5
        refine mvS F15 rfl rfl rfl rfl rfl fun a16 F16 => ?_
        refine sqC (v := (.int .i64 (rowedS x.2 : Int))) F16 M4 (wantedS rfl) (run_call rfl Tryd.func61 (by kernel_rfl) rfl (mapE1 (F16.ev 65 rfl))) rfl (by decide) (rowed_any x.2 w5 (by first | omega | decide | (simp; omega))) fun a17 w6 hb6 F17 M5 => ?_
        have hO5 := hO4.grow hb6
        refine sr F17 (run_add (r := ((rowedS x.1 + rowedS x.2 : Nat) : Int)) rfl (F17.ev 64 rfl) (F17.ev 66 rfl) (by rw [IntKind.wrap_i64]; omega)) rfl rfl rfl fun a18 F18 => ?_
        refine sr F18 (run_add (r := (((bytesS (l.take k)).length + (rowedS x.1 + rowedS x.2) : Nat) : Int)) rfl (F18.ev 62 rfl) (F18.ev 67 rfl) (by rw [IntKind.wrap_i64]; omega)) rfl rfl rfl fun a19 F19 => ?_
        refine asS F19 rfl rfl rfl rfl rfl fun a20 F20 => ?_
        refine sn ?_
        clear F12 F13 F14 F15 F16 F17 F18 F19 M3 M4
        refine wp_region_lit ?_
        refine mvS F20 rfl rfl rfl rfl rfl fun a21 F21 => ?_
        refine mvS F21 rfl rfl rfl rfl rfl fun a22 F22 => ?_
        refine mvS F22 rfl rfl rfl rfl rfl fun a23 F23 => ?_
        refine mvS F23 rfl rfl rfl rfl rfl fun a24 F24 => ?_
        refine sr F24 (run_len rfl (F24.ev 72 rfl) rfl Tryd.underlying9) rfl rfl rfl fun a25 F25 => ?_
        refine sr F25 (run_sub (r := (((bytesS (l.take (k + 1))).length - x.2.length : Nat) : Int)) rfl (F25.ev 71 rfl) (F25.ev 73 rfl) (by rw [IntKind.wrap_i64, hst]; omega)) rfl rfl rfl fun a26 F26 => ?_
        refine mvS F26 rfl rfl rfl rfl rfl fun a27 F27 => ?_
        refine sr F27 (run_len rfl (F27.ev 75 rfl) rfl Tryd.underlying9) rfl rfl rfl fun a28 F28 => ?_
        refine sr (v := (.agg #[.string ⟨x.1.toArray⟩, .int .i64 (((bytesS (l.take (k + 1))).length - x.2.length : Nat) : Int), .int .i64 (x.2.length : Int)])) F28 (run_blt (vs := #[(0, .string ⟨x.1.toArray⟩), (1, .int .i64 (((bytesS (l.take (k + 1))).length - x.2.length : Nat) : Int)), (2, .int .i64 (x.2.length : Int))]) (cs := #[.string ⟨x.1.toArray⟩, .int .i64 (((bytesS (l.take (k + 1))).length - x.2.length : Nat) : Int), .int .i64 (x.2.length : Int)]) rfl (bltE3 (F28.ev 70 rfl) (F28.ev 74 rfl) (F28.ev 76 rfl)) (by kernel_rfl)) rfl rfl rfl fun a29 F29 => ?_
        refine sqRow (cs := #[.string ⟨x.1.toArray⟩, .int .i64 (((bytesS (l.take (k + 1))).length - x.2.length : Nat) : Int), .int .i64 (x.2.length : Int)]) (t := 91) (m := 1) F29 M5 (wantedS rfl) (run_places1 rfl (F29.ev 77 rfl)) rfl (by decide) fun g3 a30 w7 hgg3 hb7 F30 M6 => ?_
        have hO6 := hO5.add (S := isB 91 #[.string ⟨x.1.toArray⟩, .int .i64 (((bytesS (l.take (k + 1))).length - x.2.length : Nat) : Int), .int .i64 (x.2.length : Int)]) hb7 hgg3
        refine sqAppend (news := [.string ⟨x.1.toArray⟩, .int .i64 (((bytesS (l.take (k + 1))).length - x.2.length : Nat) : Int), .int .i64 (x.2.length : Int)]) elPlace F30 M6 hO6 rfl rfl (F30.ev 69 rfl) (F30.ev 78 rfl) rfl (blkNews (M6.at 0 rfl)) (all_one rfl) (by unfold maxLen; omega) (by omega) rfl (by decide) fun v4 a31 w8 hO7 M7 hnilv4 F31 => ?_
        refine asS F31 rfl rfl rfl rfl rfl fun a32 F32 => ?_
        refine sqEnd ?_
        clear F20 F21 F22 F23 F24 F25 F26 F27 F28 F29 F30 F31 M5 M6
        refine bkEnd ?_
        refine nx ?_
        refine wp_region_lit ?_
        refine mvS F32 rfl rfl rfl rfl rfl fun a33 F33 => ?_
        refine sr F33 (run_add (r := ((1 + 2 * (k + 1) : Nat) : Int)) rfl (F33.ev 45 rfl) rfl (by rw [IntKind.wrap_i64]; omega)) rfl rfl rfl fun a34 F34 => ?_
        refine asS F34 rfl rfl rfl rfl rfl fun a35 F35 => ?_
        refine sn ?_
        clear F32 F33 F34
        refine ⟨_, by omega, k + 1, v4, by omega, rfl, ?_, ?_, F35.sub ⟨rfl, rfl, rfl, ?_, rfl, trivial⟩, ?_⟩
        · rw [map_snoc l k hx, hnms]; exact hnm
        · rw [map_snoc l k hx, hnms, placesTo_snoc l k hx, List.length_append, List.flatMap_append]; exact hO7.sub (.cons _ (.cons_cons _ (.cons_cons _ .slnil)))
        · rw [hst]; rfl
        · rw [map_snoc l k hx, hnms]; exact M7.sub (.cons _ (.cons_cons _ (.cons_cons _ .slnil)))
    · rw [if_neg hmay] at hnm
      have hno := ofS_no hT (.inr (.inr (.inr (.inr (by rw [hl, hnm]; exact hmay)))))
      refine wp_seq ?_
      refine wsl ?_
      refine mvS F0 rfl rfl rfl rfl rfl fun a1 F1 => ?_
      refine mvS F1 rfl rfl rfl rfl rfl fun a2 F2 => ?_
      refine sr F2 (run_lenS rfl (F2.ev 42 rfl) (slOfRow (c := ct) (M0.ob 1 rfl)) rfl Tryd.underlying23) rfl rfl rfl fun a3 F3 => ?_
      refine sr (v := (.bool true)) F3 (run_lss rfl (F3.ev 41 rfl) (F3.ev 43 rfl) (decide_eq_true (by omega))) rfl rfl rfl fun a4 F4 => ?_
      refine sn ?_
      clear F0 F1 F2 F3
      refine cts (F4.ev 44 rfl) ?_
      refine wp_seq ?_
      refine wp_block ?_
      refine wp_seq ?_
      obtain ⟨KL, hKL⟩ : ∃ KL, KL = [kval (.slice (some ⟨gt, 0, none⟩) X.length ct), kval (.int .i64 ((1 + 2 * k : Nat) : Int)), kval (slPtr (.slice (some ⟨gt, 0, none⟩) X.length ct) ((1 + 2 * k) * 1)), kval (.string ⟨x.1.toArray⟩), kval (.slice (some ⟨gt, 0, none⟩) X.length ct), kval (.int .i64 ((1 + 2 * k : Nat) : Int)), kval (.int .i64 ((1 + 2 * k + 1 : Nat) : Int)), kval (slPtr (.slice (some ⟨gt, 0, none⟩) X.length ct) ((1 + 2 * k + 1) * 1)), kval (.string ⟨x.2.toArray⟩), kval (.string ⟨x.1.toArray⟩), kval (.string ⟨x.2.toArray⟩)] := ⟨_, rfl⟩
      have K0 := getK hKL 0
      have K1 := getK hKL 1
      have K2 := getK hKL 2
      have K3 := getK hKL 3
      have K4 := getK hKL 4
      have K5 := getK hKL 5
      have K6 := getK hKL 6
      have K7 := getK hKL 7
      have K8 := getK hKL 8
      have K9 := getK hKL 9
      have K10 := getK hKL 10
      clear hKL
      refine wp_region_kd 81 (by kernel_rfl) (by kernel_rfl) (by kernel_rfl) F4.size KL ?_ ?_
      · refine ⟨?_, ?_, ?_, ?_, ?_, ?_, ?_, ?_, ?_, ?_, ?_, trivial⟩
        · exact asksY rfl fun a W hS hh hd => giv_run (run_mv rfl (eval_tmp (hh 4 _ rfl (F4.at 4 rfl)))) K0
        · exact asksY rfl fun a W hS hh hd => giv_run (run_mv rfl (eval_tmp (hh 9 _ rfl (F4.at 9 rfl)))) K1
        · exact asksY rfl fun a W hS hh hd => giv_run (run_atP (i := (1 + 2 * k)) rfl (eval_tmp (hd.vl 0 47 (by kernel_rfl) K0)) (eval_tmp (hd.vl 1 48 (by kernel_rfl) K1)) rfl (slOfRow (c := ct) ((M0.grow hS).ob 1 rfl)) (by omega) elStr.un (by kernel_rfl)) K2
        · exact asksY rfl fun a W hS hh hd => giv_run (run_ldP rfl (eval_tmp (hd.vl 2 49 (by kernel_rfl) K2)) (slOfRow (c := ct) ((M0.grow hS).ob 1 rfl)) (map_at hx1) (by kernel_rfl)) K3
        · exact asksY rfl fun a W hS hh hd => giv_run (run_mv rfl (eval_tmp (hh 4 _ rfl (F4.at 4 rfl)))) K4
        · exact asksY rfl fun a W hS hh hd => giv_run (run_mv rfl (eval_tmp (hh 9 _ rfl (F4.at 9 rfl)))) K5
        · exact asksY rfl fun a W hS hh hd => giv_run (run_add (r := ((1 + 2 * k + 1 : Nat) : Int)) rfl (eval_tmp (hd.vl 5 52 (by kernel_rfl) K5)) rfl (by rw [IntKind.wrap_i64]; omega)) K6
        · exact asksY rfl fun a W hS hh hd => giv_run (run_atP (i := (1 + 2 * k + 1)) rfl (eval_tmp (hd.vl 4 51 (by kernel_rfl) K4)) (eval_tmp (hd.vl 6 53 (by kernel_rfl) K6)) rfl (slOfRow (c := ct) ((M0.grow hS).ob 1 rfl)) (by omega) elStr.un (by kernel_rfl)) K7
        · exact asksY rfl fun a W hS hh hd => giv_run (run_ldP rfl (eval_tmp (hd.vl 7 54 (by kernel_rfl) K7)) (slOfRow (c := ct) ((M0.grow hS).ob 1 rfl)) (map_at hx2) (by kernel_rfl)) K8
        · exact asksY rfl fun a W hS hh hd => giv_run (run_as rfl (eval_tmp (hd.vl 3 50 (by kernel_rfl) K3))) K9
        · exact asksY rfl fun a W hS hh hd => giv_run (run_as rfl (eval_tmp (hd.vl 8 55 (by kernel_rfl) K8))) K10
      · intro a5 w2 hb2 hK
        have e0 := hK.vl 0 47 (by kernel_rfl) K0
        have e1 := hK.vl 1 48 (by kernel_rfl) K1
        have e2 := hK.vl 2 49 (by kernel_rfl) K2
        have e3 := hK.vl 3 50 (by kernel_rfl) K3
        have e4 := hK.vl 4 51 (by kernel_rfl) K4
        have e5 := hK.vl 5 52 (by kernel_rfl) K5
        have e6 := hK.vl 6 53 (by kernel_rfl) K6
        have e7 := hK.vl 7 54 (by kernel_rfl) K7
        have e8 := hK.vl 8 55 (by kernel_rfl) K8
        have e9 := hK.vl 9 10 (by kernel_rfl) K9
        have e10 := hK.vl 10 11 (by kernel_rfl) K10
        have F5 : Fr a5 81 [(4, (.slice (some ⟨gt, 0, none⟩) X.length ct)), (6, (.map (some g2))), (7, r), (8, (.int .i64 ((bytesS (l.take k)).length : Int))), (9, (.int .i64 ((1 + 2 * k : Nat) : Int))), (10, (.string ⟨x.1.toArray⟩)), (11, (.string ⟨x.2.toArray⟩)), (41, (.int .i64 ((1 + 2 * k : Nat) : Int))), (42, (.slice (some ⟨gt, 0, none⟩) X.length ct)), (43, (.int .i64 (X.length : Int))), (44, (.bool true))] := (hK.fr F4 [_, _, _, _, _, _, _, _, _, _, _] ⟨e0, e1, e2, e3, e4, e5, e6, e7, e8, e9, e10, trivial⟩).sub ⟨rfl, rfl, rfl, rfl, rfl, rfl, rfl, rfl, rfl, rfl, rfl, trivial⟩
        have M1 := M0.grow hb2
        have hO1 := hO0.grow hb2
        clear hK K0 e0 K1 e1 K2 e2 K3 e3 K4 e4 K5 e5 K6 e6 K7 e7 K8 e8 K9 e9 K10 e10
        clear F4 M0
        refine nx ?_
        refine wp_seq ?_
        refine wsl ?_
        refine mvS F5 rfl rfl rfl rfl rfl fun a6 F6 => ?_
        refine mvS F6 rfl rfl rfl rfl rfl fun a7 F7 => ?_
        refine sqC (v := (.int .i64 (mayS nms x.1))) F7 M1 (wantedS rfl) (run_call rfl Tryd.func60 (by kernel_rfl) rfl (mapE2 (F7.ev 56 rfl) (F7.ev 57 rfl))) rfl (by decide) (may_any g2 nms x.1 w2 (M1.ob 0 rfl) (by first | omega | decide | (simp; omega))) fun a8 w3 hb3 F8 M2 => ?_
        have hO2 := hO1.grow hb3
        refine sr (v := (.bool true)) F8 (run_nei rfl (F8.ev 58 rfl) rfl (bne_iff_ne.2 (by omega))) rfl rfl rfl fun a9 F9 => ?_
        refine sn ?_
        clear F5 F6 F7 F8 M1
        refine wp_cond_true (F9.ev 59 rfl) ?_
        refine wsl ?_
        refine sr (v := (.slice none 0 0)) F9 (run_as rfl rfl) rfl rfl rfl fun a10 F10 => ?_
        refine sr (v := (.int .i64 3)) F10 (run_as rfl rfl) rfl rfl rfl fun a11 F11 => ?_
        refine sn ?_
        clear F9 F10
        refine wp_ret ?_
        refine nxRet ?_
        refine bkRet ?_
        refine nxRet ?_
        refine nxRet ?_
        refine bkRet ?_
        refine nxRet ?_
        exact ret2 F11 rfl rfl rfl ⟨_, rfl, by unfold OfR; rw [hno]; exact ⟨_, rfl, own_none _ _ _ _⟩, M2.below⟩
  · have hke : k = l.length := by omega
    have hn0 : namesS l = 0 := by rw [hnm, hke, List.drop_length]; rfl
    have hyes : ofS b = some l := by rw [ofS_ok hT ?_, hl]; rw [hl, hn0, List.head?_eq_getElem?, hy, hh]; simp; omega
    rw [hke] at hO0
    refine wp_seq ?_
    refine wsl ?_
    refine mvS F0 rfl rfl rfl rfl rfl fun a1 F1 => ?_
    refine mvS F1 rfl rfl rfl rfl rfl fun a2 F2 => ?_
    refine sr F2 (run_lenS rfl (F2.ev 42 rfl) (slOfRow (c := ct) (M0.ob 1 rfl)) rfl Tryd.underlying23) rfl rfl rfl fun a3 F3 => ?_
    refine sr (v := (.bool false)) F3 (run_lss rfl (F3.ev 41 rfl) (F3.ev 43 rfl) (decide_eq_false (by omega))) rfl rfl rfl fun a4 F4 => ?_
    refine sn ?_
    clear F0 F1 F2 F3
    refine wp_cond_false (F4.ev 44 rfl) ?_
    refine wp_exit ?_
    refine nxExit ?_
    refine nxExit ?_
    refine bkHere ?_
    refine nx ?_
    refine wsl ?_
    refine mvS F4 rfl rfl rfl rfl rfl fun a5 F5 => ?_
    refine asS F5 rfl rfl rfl rfl rfl fun a6 F6 => ?_
    refine sr (v := (.int .i64 0)) F6 (run_as rfl rfl) rfl rfl rfl fun a7 F7 => ?_
    refine sn ?_
    clear F4 F5 F6
    refine wp_ret ?_
    exact ret2 F7 rfl rfl rfl ⟨_, rfl, by unfold OfR; rw [hyes]; exact ⟨r, rfl, hO0.owns⟩, M0.below⟩
end Go.Proofs.YtdjjiblijbjobaaDoor
