/- The walk of seal.keys: a key's two keys. Printed by gen_seal1.py. -/
import Derived.Test.YtilbebjjmnncdaaDoorKeyed
import Derived.Test.YtilbebjjmnncdaaDoorLooseTail
import Derived.Test.YtilbebjjmnncdaaDoorSealS
namespace Go.Proofs.YtilbebjjmnncdaaDoor
open Go.RowKit

theorem Glob.alm {w W : World} {rs : List (Nat × TypeId × Nat)} (h : Glob w) (hS : Alm w rs W) (h2 : ∀ x ∈ rs, 2 ≤ x.1) : Glob W :=
  h.keep (hS.old 0 (by have := h.two; omega) (fun x hx => by have := h2 x hx; omega)) (hS.old 1 (by have := h.two; omega) (fun x hx => by have := h2 x hx; omega))
theorem results_BB {P : Program} {w : World} {fn : Func} {p q : Tmp} {ty ty2 : TypeId} (h : fn.results = #[.cell p ty, .cell q ty2]) (tmps : Array Value) {g g2 : Nat}
    (hp : tmps.getD p undef = .pointer (some ⟨g, 0, none⟩)) {t : TypeId} {cs : Array Value} (hg : Blk w g t cs) {d : TypeDesc} (hu : P.underlying ty = some d) (hd : (match d with | .struct _ | .array _ _ => true | _ => false) = true) {m : Nat} (hi : (P.info? ty).map (·.size) = some m) (hm : cs.size = m)
    (hp2 : tmps.getD q undef = .pointer (some ⟨g2, 0, none⟩)) {t2 : TypeId} {cs2 : Array Value} (hg2 : Blk w g2 t2 cs2) {d2 : TypeDesc} (hu2 : P.underlying ty2 = some d2) (hd2 : (match d2 with | .struct _ | .array _ _ => true | _ => false) = true) {m2 : Nat} (hi2 : (P.info? ty2).map (·.size) = some m2) (hm2 : cs2.size = m2) :
    (results fn tmps).run P w = .ok (.tuple #[.agg cs, .agg cs2]) w := by
  have hp' : tmps[p]?.getD undef = .pointer (some ⟨g, 0, none⟩) := by simpa using hp
  have hp2' : tmps[q]?.getD undef = .pointer (some ⟨g2, 0, none⟩) := by simpa using hp2
  simp [results, h, hp', hp2', asAddr, run_loadVar_row w g t ty cs (0, 0) d hg hu hd (by rw [hm]; exact hi), run_loadVar_row w g2 t2 ty2 cs2 (0, 0) d2 hg2 hu2 hd2 (by rw [hm2]; exact hi2)]
theorem Alm.toBelow {w0 w W : World} {rs : List (Nat × TypeId × Nat)} (h : Alm w rs W) (hb : Below w0.heap.size w0 w) (hr : ∀ x ∈ rs, w0.heap.size ≤ x.1) : Below w0.heap.size w0 W :=
  ⟨h.os.trans hb.os, h.tape.trans hb.tape, h.output.trans hb.output, Nat.le_trans hb.size h.size, fun b hlt => (h.old b (Nat.lt_of_lt_of_le hlt hb.size) (fun x hx => by have := hr x hx; omega)).trans (hb.block b hlt)⟩

set_option maxRecDepth 100000 in
set_option maxHeartbeats 1000000 in
theorem skeys_any (k : List UInt8) (w : World) (hG : Glob w) (hk : k.length = 32) :
    Calls Tryd.prog 31 #[.agg (cells8 k)] w fun e w' => e = .returned (.tuple #[.agg (cells8 (keyedS k cipherT)), .agg (cells8 (keyedS k tagT))]) ∧ Below w.heap.size w w' := by
  have HG := Lib.hid hG
  have HK := Lib.hid hk
  have HK8 : Hid ((cells8 k).size = 32) := Lib.hid (by rw [cells8_size]; exact hk)
  clear hG hk
  go_enter Tryd.func31, Tryd.ntmps31
  go_upto_region 1 with (fail)
  change Code.wp _ _ _ _ (((w.alloc (.cells (cells8 k) 23)).alloc (.cells (cells8 (List.replicate 32 0)) 23)).alloc (.cells (cells8 (List.replicate 32 0)) 23))
  have hB : Blk (((w.alloc (.cells (cells8 k) 23)).alloc (.cells (cells8 (List.replicate 32 0)) 23)).alloc (.cells (cells8 (List.replicate 32 0)) 23)) w.heap.size 23 (cells8 k) := ((Blk.new _ _ _).alloc _).alloc _
  have hR1 : Blk (((w.alloc (.cells (cells8 k) 23)).alloc (.cells (cells8 (List.replicate 32 0)) 23)).alloc (.cells (cells8 (List.replicate 32 0)) 23)) (w.heap.size + 1) 23 (cells8 (List.replicate 32 0)) := (Blk.newAt _ _ _ (by simp)).alloc _
  have hR2 : Blk (((w.alloc (.cells (cells8 k) 23)).alloc (.cells (cells8 (List.replicate 32 0)) 23)).alloc (.cells (cells8 (List.replicate 32 0)) 23)) (w.heap.size + 1 + 1) 23 (cells8 (List.replicate 32 0)) := Blk.newAt _ _ _ (by simp)
  have hb : Below w.heap.size w (((w.alloc (.cells (cells8 k) 23)).alloc (.cells (cells8 (List.replicate 32 0)) 23)).alloc (.cells (cells8 (List.replicate 32 0)) 23)) := (((Below.refl _ _).alloc (Nat.le_refl _) _).alloc (by simp) _).alloc (by simp; omega) _
  generalize ((w.alloc (.cells (cells8 k) 23)).alloc (.cells (cells8 (List.replicate 32 0)) 23)).alloc (.cells (cells8 (List.replicate 32 0)) 23) = w1 at *
  have HG1 := Lib.hid (HG.out.below hb)
  have HZ : Hid ((cells8 (List.replicate 32 0)).size = 32) := Lib.hid (by rw [cells8_size, List.length_replicate])
  obtain ⟨D1, hD1⟩ : ∃ D1, keyedS k [[99, 105, 112, 104, 101, 114]].flatten = D1 := ⟨_, rfl⟩
  obtain ⟨D2, hD2⟩ : ∃ D2, keyedS k [[116, 97, 103]].flatten = D2 := ⟨_, rfl⟩
  have HD1 := Lib.hid hD1
  have HD2 := Lib.hid hD2
  have HD18 : Hid ((cells8 D1).size = 32) := Lib.hid (by rw [← hD1, cells8_size, keyedS_len])
  have HD28 : Hid ((cells8 D2).size = 32) := Lib.hid (by rw [← hD2, cells8_size, keyedS_len])
  clear hD1 hD2
  have hw2 := HG.out.two
  have HRS : Hid (∀ x ∈ [(w.heap.size + 1, 23, 32), (w.heap.size + 1 + 1, 23, 32)], ∀ y ∈ [(w.heap.size + 1, 23, 32), (w.heap.size + 1 + 1, 23, 32)], x.1 = y.1 → x = y) := Lib.hid (by
    intro x hx y hy e
    simp only [List.mem_cons, List.not_mem_nil, or_false] at hx hy
    rcases hx with rfl | rfl <;> rcases hy with rfl | rfl <;> first | rfl | (simp only at e; omega))
  have HALM : Hid (Alm w1 [(w.heap.size + 1, 23, 32), (w.heap.size + 1 + 1, 23, 32)] w1) := Lib.hid ⟨rfl, rfl, rfl, Nat.le_refl _, fun _ _ _ => rfl, fun x hx => by
    simp only [List.mem_cons, List.not_mem_nil, or_false] at hx
    rcases hx with rfl | rfl
    · exact ⟨hR1.lt, _, hR1, HZ.out⟩
    · exact ⟨hR2.lt, _, hR2, HZ.out⟩⟩
  obtain ⟨KL, hKL⟩ : ∃ KL : List (Kr w1.heap.size), KL = [krval (.agg (cells8 k)), krstrs [[99, 105, 112, 104, 101, 114]], krval (.agg (cells8 D1)), krval (.agg (cells8 k)), krstrs [[116, 97, 103]], krval (.agg (cells8 D2)), krblk (w.heap.size + 1) 23 (cells8 D1), krblk (w.heap.size + 1 + 1) 23 (cells8 D2)] := ⟨_, rfl⟩
  have K0 : KL.getD 0 krany = krval (.agg (cells8 k)) := by rw [hKL]; rfl
  have K1 : KL.getD 1 krany = krstrs [[99, 105, 112, 104, 101, 114]] := by rw [hKL]; rfl
  have K2 : KL.getD 2 krany = krval (.agg (cells8 D1)) := by rw [hKL]; rfl
  have K3 : KL.getD 3 krany = krval (.agg (cells8 k)) := by rw [hKL]; rfl
  have K4 : KL.getD 4 krany = krstrs [[116, 97, 103]] := by rw [hKL]; rfl
  have K5 : KL.getD 5 krany = krval (.agg (cells8 D2)) := by rw [hKL]; rfl
  have K6 : KL.getD 6 krany = krblk (w.heap.size + 1) 23 (cells8 D1) := by rw [hKL]; rfl
  have K7 : KL.getD 7 krany = krblk (w.heap.size + 1 + 1) 23 (cells8 D2) := by rw [hKL]; rfl
  have hrow : ∀ i r, (KL.getD i krany).row = some r → (i = 6 ∧ r = w.heap.size + 1) ∨ (i = 7 ∧ r = w.heap.size + 1 + 1) := by
    intro i r h
    rw [hKL] at h
    match i with
    | 0 => cases h
    | 1 => cases h
    | 2 => cases h
    | 3 => cases h
    | 4 => cases h
    | 5 => cases h
    | 6 => exact .inl ⟨rfl, (Option.some.inj h).symm⟩
    | 7 => exact .inr ⟨rfl, (Option.some.inj h).symm⟩
    | n + 8 => cases h
  have HAP : Hid (rowsApart KL) := Lib.hid (fun i j r h1 h2 => by
    have a1 := hrow i r h1
    have a2 := hrow j r h2
    clear hrow h1 h2 hKL
    omega)
  clear hrow
  clear hKL
  refine wp_region_kr 10 [(w.heap.size + 1, 23, 32), (w.heap.size + 1 + 1, 23, 32)] (by kernel_rfl) (by kernel_rfl) rfl KL HRS.out HALM.out HAP.out (fun i o ho hno v W hT => ?_) ?_ ?_
  · have hi : i = 6 ∨ i = 7 ∨ 8 ≤ i := by
      match i, ho with
      | 0, ho => injection ho with ho; subst ho; cases hno
      | 1, ho => injection ho with ho; subst ho; cases hno
      | 2, ho => injection ho with ho; subst ho; cases hno
      | 3, ho => injection ho with ho; subst ho; cases hno
      | 4, ho => injection ho with ho; subst ho; cases hno
      | 5, ho => injection ho with ho; subst ho; cases hno
      | 6, _ => exact .inl rfl
      | 7, _ => exact .inr (.inl rfl)
      | n + 8, _ => exact .inr (.inr (by omega))
    unfold rT at hT ⊢
    rcases hi with rfl | rfl | hi
    · rw [K6] at hT ⊢; exact hT
    · rw [K7] at hT ⊢; exact hT
    · have : (List.length [(0 : Nat)]) = 1 := rfl
      exact absurd (List.getElem?_eq_some_iff.1 ho).1 (by simp; omega)
  · refine ⟨?_, ?_, ?_, ?_, ?_, ?_, ?_, ?_, trivial⟩
    · refine asksr_mk fun a W hS hh hd => ⟨wanted_yes rfl, ?_⟩
      have e0 := hh 1 _ rfl rfl
      have E0 := eval_tmp e0
      exact givr_loadB hS 23 (.tmp 1) rfl w.heap.size E0 hB (by simp <;> omega) Tryd.underlying23 rfl sz32k HK8.out K0
    · refine asksr_mk fun a W hS hh hd => ⟨wanted_yes rfl, ?_⟩
      refine givr_strs hS [[99, 105, 112, 104, 101, 114]] 9 ?_ K1
      go_simp
      rfl
    · refine asksr_mk fun a W hS hh hd => ⟨wanted_yes rfl, ?_⟩
      have e0 := hd.val (j := 0) (s := 4) (by kernel_rfl) K0
      have E0 := eval_tmp e0
      obtain ⟨v1, e1, s1⟩ := hd.strs (j := 1) (s := 5) (by kernel_rfl) K1
      have E1 := eval_tmp e1
      refine givr_call (f := 19) (args := #[(.agg (cells8 k)), v1]) ?_ ?_ K2
      · go_simp
      · exact HD1.out ▸ keyed_any k [[99, 105, 112, 104, 101, 114]] _ W HK.out (HG1.out.alm hS (by intro x hx; simp only [List.mem_cons, List.not_mem_nil, or_false] at hx; rcases hx with rfl | rfl <;> (simp only; omega))) s1 (by decide) (by decide)
    · refine asksr_mk fun a W hS hh hd => ⟨wanted_yes rfl, ?_⟩
      have e0 := hh 1 _ rfl rfl
      have E0 := eval_tmp e0
      exact givr_loadB hS 23 (.tmp 1) rfl w.heap.size E0 hB (by simp <;> omega) Tryd.underlying23 rfl sz32k HK8.out K3
    · refine asksr_mk fun a W hS hh hd => ⟨wanted_yes rfl, ?_⟩
      refine givr_strs hS [[116, 97, 103]] 9 ?_ K4
      go_simp
      rfl
    · refine asksr_mk fun a W hS hh hd => ⟨wanted_yes rfl, ?_⟩
      have e0 := hd.val (j := 3) (s := 7) (by kernel_rfl) K3
      have E0 := eval_tmp e0
      obtain ⟨v1, e1, s1⟩ := hd.strs (j := 4) (s := 8) (by kernel_rfl) K4
      have E1 := eval_tmp e1
      refine givr_call (f := 19) (args := #[(.agg (cells8 k)), v1]) ?_ ?_ K5
      · go_simp
      · exact HD2.out ▸ keyed_any k [[116, 97, 103]] _ W HK.out (HG1.out.alm hS (by intro x hx; simp only [List.mem_cons, List.not_mem_nil, or_false] at hx; rcases hx with rfl | rfl <;> (simp only; omega))) s1 (by decide) (by decide)
    · refine asksr_mk fun a W hS hh hd => ⟨wanted_yes rfl, ?_⟩
      have e0 := hh 2 _ rfl rfl
      have E0 := eval_tmp e0
      have e1 := hd.val (j := 2) (s := 6) (by kernel_rfl) K2
      have E1 := eval_tmp e1
      exact givr_store hS 23 (.tmp 2) (.tmp 6) rfl (w.heap.size + 1) 32 23 _ E0 E1 (by simp) sz32k HD18.out (cells8_one _) K6
    · refine asksr_mk fun a W hS hh hd => ⟨wanted_yes rfl, ?_⟩
      have e0 := hh 3 _ rfl rfl
      have E0 := eval_tmp e0
      have e1 := hd.val (j := 5) (s := 9) (by kernel_rfl) K5
      have E1 := eval_tmp e1
      exact givr_store hS 23 (.tmp 3) (.tmp 9) rfl (w.heap.size + 1 + 1) 32 23 _ E0 E1 (by simp) sz32k HD28.out (cells8_one _) K7
  · intro a W hS hK
    have hC1 := hK.rblk (i := 6) (by kernel_rfl) K6
    have hC2 := hK.rblk (i := 7) (by kernel_rfl) K7
    have e2 : a.tmps[2]? = some (.pointer (some ⟨w.heap.size + 1, 0, none⟩)) := hK.old 2 (fun i o ho _ hd => by
      have := List.all_eq_true.1 (show noDst _ 2 = true by kernel_rfl) o (List.mem_of_getElem? ho)
      rw [hd] at this; simp at this)
    have e3 : a.tmps[3]? = some (.pointer (some ⟨w.heap.size + 1 + 1, 0, none⟩)) := hK.old 3 (fun i o ho _ hd => by
      have := List.all_eq_true.1 (show noDst _ 3 = true by kernel_rfl) o (List.mem_of_getElem? ho)
      rw [hd] at this; simp at this)
    have hdf := hK.defers
    have hb2 := hS.toBelow hb (by intro x hx; simp only [List.mem_cons, List.not_mem_nil, or_false] at hx; rcases hx with rfl | rfl <;> (simp only; omega))
    clear K0 K1 K2 K3 K4 K5 K6 K7 hK
    go_wp2
    refine bodyPost_ret (results_BB rfl a.tmps (g := w.heap.size + 1) (g2 := w.heap.size + 1 + 1) (by simp [e2]) hC1 Tryd.underlying23 rfl sz32k HD18.out (by simp [e3]) hC2 Tryd.underlying23 rfl sz32k HD28.out) hdf ⟨by rw [← HD1.out, ← HD2.out]; rfl, hb2⟩
end Go.Proofs.YtilbebjjmnncdaaDoor
