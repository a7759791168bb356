/- Laws and walks that many claims share: SealKeys, SealTag, SealNonce, SealSeal, SealOpen. -/
import Derived.Test.YtconhhhggckcbaaDoorEndB
import Derived.Test.YtconhhhggckcbaaDoorBaseB
import Derived.Test.YtconhhhggckcbaaDoorNumB
import Derived.Test.YtconhhhggckcbaaDoorXorB
/- The walk of seal.keys: a key's two keys. Printed by gen_seal1.py. -/
namespace Go.Proofs.YtconhhhggckcbaaDoor
open Go.RowKit

theorem Glob.alm {w W : World} {rs : List (Nat × TypeId × Nat)} (h : Glob w) (hS : Alm w rs W) (h2 : ∀ x ∈ rs, 2 ≤ x.1) : Glob W :=
  h.keep (hS.old 0 (by have := h.two; omega) (fun x hx => by have := h2 x hx; omega)) (hS.old 1 (by have := h.two; omega) (fun x hx => by have := h2 x hx; omega))
theorem results_BB {P : Program} {w : World} {fn : Func} {p q : Tmp} {ty ty2 : TypeId} (h : fn.results = #[.cell p ty, .cell q ty2]) (tmps : Array Value) {g g2 : Nat}
    (hp : tmps.getD p undef = .pointer (some ⟨g, 0, none⟩)) {t : TypeId} {cs : Array Value} (hg : Blk w g t cs) {d : TypeDesc} (hu : P.underlying ty = some d) (hd : (match d with | .struct _ | .array _ _ => true | _ => false) = true) {m : Nat} (hi : (P.info? ty).map (·.size) = some m) (hm : cs.size = m)
    (hp2 : tmps.getD q undef = .pointer (some ⟨g2, 0, none⟩)) {t2 : TypeId} {cs2 : Array Value} (hg2 : Blk w g2 t2 cs2) {d2 : TypeDesc} (hu2 : P.underlying ty2 = some d2) (hd2 : (match d2 with | .struct _ | .array _ _ => true | _ => false) = true) {m2 : Nat} (hi2 : (P.info? ty2).map (·.size) = some m2) (hm2 : cs2.size = m2) :
    (results fn tmps).run P w = .ok (.tuple #[.agg cs, .agg cs2]) w := by
  have hp' : tmps[p]?.getD undef = .pointer (some ⟨g, 0, none⟩) := by simpa using hp
  have hp2' : tmps[q]?.getD undef = .pointer (some ⟨g2, 0, none⟩) := by simpa using hp2
  simp [results, h, hp', hp2', asAddr, run_loadVar_row w g t ty cs (0, 0) d hg hu hd (by rw [hm]; exact hi), run_loadVar_row w g2 t2 ty2 cs2 (0, 0) d2 hg2 hu2 hd2 (by rw [hm2]; exact hi2)]
theorem Alm.toBelow {w0 w W : World} {rs : List (Nat × TypeId × Nat)} (h : Alm w rs W) (hb : Below w0.heap.size w0 w) (hr : ∀ x ∈ rs, w0.heap.size ≤ x.1) : Below w0.heap.size w0 W :=
  ⟨h.os.trans hb.os, h.tape.trans hb.tape, h.output.trans hb.output, Nat.le_trans hb.size h.size, fun b hlt => (h.old b (Nat.lt_of_lt_of_le hlt hb.size) (fun x hx => by have := hr x hx; omega)).trans (hb.block b hlt)⟩

set_option maxRecDepth 100000 in
set_option maxHeartbeats 1000000 in
theorem skeys_any (k : List UInt8) (w : World) (hG : Glob w) (hk : k.length = 32) :
    Calls Tryd.prog 73 #[.agg (cells8 k)] w fun e w' => e = .returned (.tuple #[.agg (cells8 (keyedS k cipherT)), .agg (cells8 (keyedS k tagT))]) ∧ Below w.heap.size w w' := by
  have HG := Lib.hid hG
  have HK := Lib.hid hk
  have HK8 : Hid ((cells8 k).size = 32) := Lib.hid (by rw [cells8_size]; exact hk)
  clear hG hk
  go_enter Tryd.func73, Tryd.ntmps73
  go_upto_region 1 with (fail)
  change Code.wp _ _ _ _ (((w.alloc (.cells (cells8 k) 23)).alloc (.cells (cells8 (List.replicate 32 0)) 23)).alloc (.cells (cells8 (List.replicate 32 0)) 23))
  have hB : Blk (((w.alloc (.cells (cells8 k) 23)).alloc (.cells (cells8 (List.replicate 32 0)) 23)).alloc (.cells (cells8 (List.replicate 32 0)) 23)) w.heap.size 23 (cells8 k) := ((Blk.new _ _ _).alloc _).alloc _
  have hR1 : Blk (((w.alloc (.cells (cells8 k) 23)).alloc (.cells (cells8 (List.replicate 32 0)) 23)).alloc (.cells (cells8 (List.replicate 32 0)) 23)) (w.heap.size + 1) 23 (cells8 (List.replicate 32 0)) := (Blk.newAt _ _ _ (by simp)).alloc _
  have hR2 : Blk (((w.alloc (.cells (cells8 k) 23)).alloc (.cells (cells8 (List.replicate 32 0)) 23)).alloc (.cells (cells8 (List.replicate 32 0)) 23)) (w.heap.size + 1 + 1) 23 (cells8 (List.replicate 32 0)) := Blk.newAt _ _ _ (by simp)
  have hb : Below w.heap.size w (((w.alloc (.cells (cells8 k) 23)).alloc (.cells (cells8 (List.replicate 32 0)) 23)).alloc (.cells (cells8 (List.replicate 32 0)) 23)) := (((Below.refl _ _).alloc (Nat.le_refl _) _).alloc (by simp) _).alloc (by simp; omega) _
  generalize ((w.alloc (.cells (cells8 k) 23)).alloc (.cells (cells8 (List.replicate 32 0)) 23)).alloc (.cells (cells8 (List.replicate 32 0)) 23) = w1 at *
  have HG1 := Lib.hid (HG.out.below hb)
  have HZ : Hid ((cells8 (List.replicate 32 0)).size = 32) := Lib.hid (by rw [cells8_size, List.length_replicate])
  obtain ⟨D1, hD1⟩ : ∃ D1, keyedS k [[99, 105, 112, 104, 101, 114]].flatten = D1 := ⟨_, rfl⟩
  obtain ⟨D2, hD2⟩ : ∃ D2, keyedS k [[116, 97, 103]].flatten = D2 := ⟨_, rfl⟩
  have HD1 := Lib.hid hD1
  have HD2 := Lib.hid hD2
  have HD18 : Hid ((cells8 D1).size = 32) := Lib.hid (by rw [← hD1, cells8_size, keyedS_len])
  have HD28 : Hid ((cells8 D2).size = 32) := Lib.hid (by rw [← hD2, cells8_size, keyedS_len])
  clear hD1 hD2
  have hw2 := HG.out.two
  have HRS : Hid (∀ x ∈ [(w.heap.size + 1, 23, 32), (w.heap.size + 1 + 1, 23, 32)], ∀ y ∈ [(w.heap.size + 1, 23, 32), (w.heap.size + 1 + 1, 23, 32)], x.1 = y.1 → x = y) := Lib.hid (by
    intro x hx y hy e
    simp only [List.mem_cons, List.not_mem_nil, or_false] at hx hy
    rcases hx with rfl | rfl <;> rcases hy with rfl | rfl <;> first | rfl | (simp only at e; omega))
  have HALM : Hid (Alm w1 [(w.heap.size + 1, 23, 32), (w.heap.size + 1 + 1, 23, 32)] w1) := Lib.hid ⟨rfl, rfl, rfl, Nat.le_refl _, fun _ _ _ => rfl, fun x hx => by
    simp only [List.mem_cons, List.not_mem_nil, or_false] at hx
    rcases hx with rfl | rfl
    · exact ⟨hR1.lt, _, hR1, HZ.out⟩
    · exact ⟨hR2.lt, _, hR2, HZ.out⟩⟩
  obtain ⟨KL, hKL⟩ : ∃ KL : List (Kr w1.heap.size), KL = [krval (.agg (cells8 k)), krstrs [[99, 105, 112, 104, 101, 114]], krval (.agg (cells8 D1)), krval (.agg (cells8 k)), krstrs [[116, 97, 103]], krval (.agg (cells8 D2)), krblk (w.heap.size + 1) 23 (cells8 D1), krblk (w.heap.size + 1 + 1) 23 (cells8 D2)] := ⟨_, rfl⟩
  have K0 : KL.getD 0 krany = krval (.agg (cells8 k)) := by rw [hKL]; rfl
  have K1 : KL.getD 1 krany = krstrs [[99, 105, 112, 104, 101, 114]] := by rw [hKL]; rfl
  have K2 : KL.getD 2 krany = krval (.agg (cells8 D1)) := by rw [hKL]; rfl
  have K3 : KL.getD 3 krany = krval (.agg (cells8 k)) := by rw [hKL]; rfl
  have K4 : KL.getD 4 krany = krstrs [[116, 97, 103]] := by rw [hKL]; rfl
  have K5 : KL.getD 5 krany = krval (.agg (cells8 D2)) := by rw [hKL]; rfl
  have K6 : KL.getD 6 krany = krblk (w.heap.size + 1) 23 (cells8 D1) := by rw [hKL]; rfl
  have K7 : KL.getD 7 krany = krblk (w.heap.size + 1 + 1) 23 (cells8 D2) := by rw [hKL]; rfl
  have hrow : ∀ i r, (KL.getD i krany).row = some r → (i = 6 ∧ r = w.heap.size + 1) ∨ (i = 7 ∧ r = w.heap.size + 1 + 1) := by
    intro i r h
    rw [hKL] at h
    match i with
    | 0 => cases h
    | 1 => cases h
    | 2 => cases h
    | 3 => cases h
    | 4 => cases h
    | 5 => cases h
    | 6 => exact .inl ⟨rfl, (Option.some.inj h).symm⟩
    | 7 => exact .inr ⟨rfl, (Option.some.inj h).symm⟩
    | n + 8 => cases h
  have HAP : Hid (rowsApart KL) := Lib.hid (fun i j r h1 h2 => by
    have a1 := hrow i r h1
    have a2 := hrow j r h2
    clear hrow h1 h2 hKL
    omega)
  clear hrow
  clear hKL
  refine wp_region_kr 10 [(w.heap.size + 1, 23, 32), (w.heap.size + 1 + 1, 23, 32)] (by kernel_rfl) (by kernel_rfl) rfl KL HRS.out HALM.out HAP.out (fun i o ho hno v W hT => ?_) ?_ ?_
  · have hi : i = 6 ∨ i = 7 ∨ 8 ≤ i := by
      match i, ho with
      | 0, ho => injection ho with ho; subst ho; cases hno
      | 1, ho => injection ho with ho; subst ho; cases hno
      | 2, ho => injection ho with ho; subst ho; cases hno
      | 3, ho => injection ho with ho; subst ho; cases hno
      | 4, ho => injection ho with ho; subst ho; cases hno
      | 5, ho => injection ho with ho; subst ho; cases hno
      | 6, _ => exact .inl rfl
      | 7, _ => exact .inr (.inl rfl)
      | n + 8, _ => exact .inr (.inr (by omega))
    unfold rT at hT ⊢
    rcases hi with rfl | rfl | hi
    · rw [K6] at hT ⊢; exact hT
    · rw [K7] at hT ⊢; exact hT
    · have : (List.length [(0 : Nat)]) = 1 := rfl
      exact absurd (List.getElem?_eq_some_iff.1 ho).1 (by simp; omega)
  · refine ⟨?_, ?_, ?_, ?_, ?_, ?_, ?_, ?_, trivial⟩
    · refine asksr_mk fun a W hS hh hd => ⟨wanted_yes rfl, ?_⟩
      have e0 := hh 1 _ rfl rfl
      have E0 := eval_tmp e0
      exact givr_loadB hS 23 (.tmp 1) rfl w.heap.size E0 hB (by simp <;> omega) Tryd.underlying23 rfl sz32k HK8.out K0
    · refine asksr_mk fun a W hS hh hd => ⟨wanted_yes rfl, ?_⟩
      refine givr_strs hS [[99, 105, 112, 104, 101, 114]] 9 ?_ K1
      go_simp
      rfl
    · refine asksr_mk fun a W hS hh hd => ⟨wanted_yes rfl, ?_⟩
      have e0 := hd.val (j := 0) (s := 4) (by kernel_rfl) K0
      have E0 := eval_tmp e0
      obtain ⟨v1, e1, s1⟩ := hd.strs (j := 1) (s := 5) (by kernel_rfl) K1
      have E1 := eval_tmp e1
      refine givr_call (f := 57) (args := #[(.agg (cells8 k)), v1]) ?_ ?_ K2
      · go_simp
      · exact HD1.out ▸ keyed_any k [[99, 105, 112, 104, 101, 114]] _ W HK.out (HG1.out.alm hS (by intro x hx; simp only [List.mem_cons, List.not_mem_nil, or_false] at hx; rcases hx with rfl | rfl <;> (simp only; omega))) s1 (by decide) (by decide)
    · refine asksr_mk fun a W hS hh hd => ⟨wanted_yes rfl, ?_⟩
      have e0 := hh 1 _ rfl rfl
      have E0 := eval_tmp e0
      exact givr_loadB hS 23 (.tmp 1) rfl w.heap.size E0 hB (by simp <;> omega) Tryd.underlying23 rfl sz32k HK8.out K3
    · refine asksr_mk fun a W hS hh hd => ⟨wanted_yes rfl, ?_⟩
      refine givr_strs hS [[116, 97, 103]] 9 ?_ K4
      go_simp
      rfl
    · refine asksr_mk fun a W hS hh hd => ⟨wanted_yes rfl, ?_⟩
      have e0 := hd.val (j := 3) (s := 7) (by kernel_rfl) K3
      have E0 := eval_tmp e0
      obtain ⟨v1, e1, s1⟩ := hd.strs (j := 4) (s := 8) (by kernel_rfl) K4
      have E1 := eval_tmp e1
      refine givr_call (f := 57) (args := #[(.agg (cells8 k)), v1]) ?_ ?_ K5
      · go_simp
      · exact HD2.out ▸ keyed_any k [[116, 97, 103]] _ W HK.out (HG1.out.alm hS (by intro x hx; simp only [List.mem_cons, List.not_mem_nil, or_false] at hx; rcases hx with rfl | rfl <;> (simp only; omega))) s1 (by decide) (by decide)
    · refine asksr_mk fun a W hS hh hd => ⟨wanted_yes rfl, ?_⟩
      have e0 := hh 2 _ rfl rfl
      have E0 := eval_tmp e0
      have e1 := hd.val (j := 2) (s := 6) (by kernel_rfl) K2
      have E1 := eval_tmp e1
      exact givr_store hS 23 (.tmp 2) (.tmp 6) rfl (w.heap.size + 1) 32 23 _ E0 E1 (by simp) sz32k HD18.out (cells8_one _) K6
    · refine asksr_mk fun a W hS hh hd => ⟨wanted_yes rfl, ?_⟩
      have e0 := hh 3 _ rfl rfl
      have E0 := eval_tmp e0
      have e1 := hd.val (j := 5) (s := 9) (by kernel_rfl) K5
      have E1 := eval_tmp e1
      exact givr_store hS 23 (.tmp 3) (.tmp 9) rfl (w.heap.size + 1 + 1) 32 23 _ E0 E1 (by simp) sz32k HD28.out (cells8_one _) K7
  · intro a W hS hK
    have hC1 := hK.rblk (i := 6) (by kernel_rfl) K6
    have hC2 := hK.rblk (i := 7) (by kernel_rfl) K7
    have e2 : a.tmps[2]? = some (.pointer (some ⟨w.heap.size + 1, 0, none⟩)) := hK.old 2 (fun i o ho _ hd => by
      have := List.all_eq_true.1 (show noDst _ 2 = true by kernel_rfl) o (List.mem_of_getElem? ho)
      rw [hd] at this; simp at this)
    have e3 : a.tmps[3]? = some (.pointer (some ⟨w.heap.size + 1 + 1, 0, none⟩)) := hK.old 3 (fun i o ho _ hd => by
      have := List.all_eq_true.1 (show noDst _ 3 = true by kernel_rfl) o (List.mem_of_getElem? ho)
      rw [hd] at this; simp at this)
    have hdf := hK.defers
    have hb2 := hS.toBelow hb (by intro x hx; simp only [List.mem_cons, List.not_mem_nil, or_false] at hx; rcases hx with rfl | rfl <;> (simp only; omega))
    clear K0 K1 K2 K3 K4 K5 K6 K7 hK
    go_wp2
    refine bodyPost_ret (results_BB rfl a.tmps (g := w.heap.size + 1) (g2 := w.heap.size + 1 + 1) (by simp [e2]) hC1 Tryd.underlying23 rfl sz32k HD18.out (by simp [e3]) hC2 Tryd.underlying23 rfl sz32k HD28.out) hdf ⟨by rw [← HD1.out, ← HD2.out]; rfl, hb2⟩
end Go.Proofs.YtconhhhggckcbaaDoor
/- The walk of seal.tag. Printed by gen_seal2.py. -/
namespace Go.Proofs.YtconhhhggckcbaaDoor
open Go.RowKit

/-- a tag under the tags' key. -/
def tagK (k h x : List UInt8) : List UInt8 := keyedS k (rowS [h, x])
theorem tagK_len (k h x : List UInt8) : (tagK k h x).length = 32 := keyedS_len _ _
set_option maxRecDepth 100000 in
set_option maxHeartbeats 1000000 in
theorem stag_any (k h x : List UInt8) (w : World) (hG : Glob w) (hk : k.length = 32) (hl : h.length + x.length < 140737488355300) :
    Calls Tryd.prog 74 #[.agg (cells8 k), .string ⟨h.toArray⟩, .string ⟨x.toArray⟩] w fun e w' => e = .returned (.string ⟨(tagK k h x).toArray⟩) ∧ Below w.heap.size w w' := by
  have HG := Lib.hid hG
  have HK := Lib.hid hk
  have HK8 : Hid ((cells8 k).size = 32) := Lib.hid (by rw [cells8_size]; exact hk)
  clear hG hk
  have HSL : Hid ([h, x].flatten.length + 10 * [h, x].length ≤ 140737488355328) := Lib.hid (by simp; omega)
  have hrl := rowS_len [h, x]
  obtain ⟨R, hR⟩ : ∃ R, rowS [h, x] = R := ⟨_, rfl⟩
  obtain ⟨D, hD⟩ : ∃ D, keyedS k [R].flatten = D := ⟨_, rfl⟩
  have HRL : Hid ([R].flatten.length < 2 ^ 60) := Lib.hid (by rw [← hR]; simp at hrl ⊢; omega)
  have HR := Lib.hid hR
  have HD := Lib.hid hD
  have HD8 : Hid ((cells8 D).size = 32) := Lib.hid (by rw [← hD, cells8_size, keyedS_len])
  have HDL : Hid (D.length = 32) := Lib.hid (by rw [← hD, keyedS_len])
  have HRES : Hid (tagK k h x = D) := Lib.hid (by unfold tagK; rw [hR, ← hD]; simp)
  have HZ : Hid ((cells8 (List.replicate 32 0)).size = 32) := Lib.hid (by rw [cells8_size, List.length_replicate])
  clear hR hD hrl
  rw [HRES.out]
  clear HRES
  go_enter Tryd.func74, Tryd.ntmps74
  go_upto_region 1 with (fail)
  have hB : Blk (w.alloc (.cells (cells8 k) 23)) w.heap.size 23 (cells8 k) := Blk.new _ _ _
  have hb : Below w.heap.size w (w.alloc (.cells (cells8 k) 23)) := (Below.refl _ _).alloc (Nat.le_refl _) _
  generalize w.alloc (.cells (cells8 k) 23) = w1 at *
  have HG1 := Lib.hid (HG.out.below hb)
  obtain ⟨KL, hKL⟩ : ∃ KL, KL = [kval (.agg (cells8 k)), kval (.string ⟨h.toArray⟩), kval (.string ⟨x.toArray⟩), kstrs [h, x], kval (.string ⟨R.toArray⟩), kstrs [R], kval (.agg (cells8 D)), kptr w1.heap.size 73 (cells8 (List.replicate 32 0))] := ⟨_, rfl⟩
  have K0 : KL.getD 0 kany = kval (.agg (cells8 k)) := by rw [hKL]; rfl
  have K1 : KL.getD 1 kany = kval (.string ⟨h.toArray⟩) := by rw [hKL]; rfl
  have K2 : KL.getD 2 kany = kval (.string ⟨x.toArray⟩) := by rw [hKL]; rfl
  have K3 : KL.getD 3 kany = kstrs [h, x] := by rw [hKL]; rfl
  have K4 : KL.getD 4 kany = kval (.string ⟨R.toArray⟩) := by rw [hKL]; rfl
  have K5 : KL.getD 5 kany = kstrs [R] := by rw [hKL]; rfl
  have K6 : KL.getD 6 kany = kval (.agg (cells8 D)) := by rw [hKL]; rfl
  have K7 : KL.getD 7 kany = kptr w1.heap.size 73 (cells8 (List.replicate 32 0)) := by rw [hKL]; rfl
  have HKL : Hid (KL.length ≤ 8) := Lib.hid (by rw [hKL]; exact Nat.le_refl _)
  clear hKL
  refine wp_region_kdTail 17 8 (by kernel_rfl) (by kernel_rfl) (by kernel_rfl) (by kernel_rfl) rfl KL HKL.out ?_ ?_
  · refine ⟨?_, ?_, ?_, ?_, ?_, ?_, ?_, ?_, trivial⟩
    · refine asks_mk fun a W hS hh hd => ⟨wanted_yes rfl, ?_⟩
      have e0 := hh 3 _ rfl rfl
      have E0 := eval_tmp e0
      exact giv_loadB hS 23 (.tmp 3) rfl w.heap.size E0 hB Tryd.underlying23 rfl sz32k HK8.out K0
    · refine asks_mk fun a W hS hh hd => ⟨wanted_yes rfl, ?_⟩
      have e0 := hh 1 _ rfl rfl
      have E0 := eval_tmp e0
      exact giv_move rfl E0 K1
    · refine asks_mk fun a W hS hh hd => ⟨wanted_yes rfl, ?_⟩
      have e0 := hh 2 _ rfl rfl
      have E0 := eval_tmp e0
      exact giv_move rfl E0 K2
    · refine asks_mk fun a W hS hh hd => ⟨wanted_yes rfl, ?_⟩
      have e0 := hd.val (j := 1) (s := 9) (by kernel_rfl) K1
      have E0 := eval_tmp e0
      have e1 := hd.val (j := 2) (s := 10) (by kernel_rfl) K2
      have E1 := eval_tmp e1
      refine giv_strs [h, x] 9 ?_ K3
      go_simp
      rfl
    · refine asks_mk fun a W hS hh hd => ⟨wanted_yes rfl, ?_⟩
      obtain ⟨v0, e0, s0⟩ := hd.strs (j := 3) (s := 11) (by kernel_rfl) K3
      have E0 := eval_tmp e0
      refine giv_call (f := 59) (args := #[v0]) ?_ ?_ K4
      · go_simp
      · exact HR.out ▸ nrow_any [h, x] _ W s0 HSL.out (by simp)
    · refine asks_mk fun a W hS hh hd => ⟨wanted_yes rfl, ?_⟩
      have e0 := hd.val (j := 4) (s := 12) (by kernel_rfl) K4
      have E0 := eval_tmp e0
      refine giv_strs [R] 9 ?_ K5
      go_simp
      rfl
    · refine asks_mk fun a W hS hh hd => ⟨wanted_yes rfl, ?_⟩
      have e0 := hd.val (j := 0) (s := 8) (by kernel_rfl) K0
      have E0 := eval_tmp e0
      obtain ⟨v1, e1, s1⟩ := hd.strs (j := 5) (s := 13) (by kernel_rfl) K5
      have E1 := eval_tmp e1
      refine giv_call (f := 57) (args := #[(.agg (cells8 k)), v1]) ?_ ?_ K6
      · go_simp
      · exact HD.out ▸ keyed_any k [R] _ W HK.out (HG1.out.below hS) s1 HRL.out (by simp)
    · refine asks_mk fun a W hS hh hd => ⟨wanted_yes rfl, ?_⟩
      refine giv_alloc hS.size 73 (cells8 (List.replicate 32 0)) ?_ K7
      go_simp
      rfl
  · intro a W hS hK
    have e0 := hK.hval (i := 0) (s := 8) rfl (by kernel_rfl) K0
    have e1 := hK.hval (i := 1) (s := 9) rfl (by kernel_rfl) K1
    have e2 := hK.hval (i := 2) (s := 10) rfl (by kernel_rfl) K2
    obtain ⟨v3, e3, p3⟩ := hK.hget (i := 3) (s := 11) rfl (by kernel_rfl)
    have e4 := hK.hval (i := 4) (s := 12) rfl (by kernel_rfl) K4
    obtain ⟨v5, e5, p5⟩ := hK.hget (i := 5) (s := 13) rfl (by kernel_rfl)
    have e6 := hK.hval (i := 6) (s := 14) rfl (by kernel_rfl) K6
    obtain ⟨v7, e7, p7⟩ := hK.hget (i := 7) (s := 7) rfl (by kernel_rfl)
    have hfr := hK.hframe [(.agg (cells8 k)), (.string ⟨h.toArray⟩), (.string ⟨x.toArray⟩), v3, (.string ⟨R.toArray⟩), v5, (.agg (cells8 D)), v7] ⟨e0, e1, e2, e3, e4, e5, e6, e7, trivial⟩
    rw [K7] at p7
    obtain ⟨g, hg0, rfl, hg⟩ := p7
    have hb2 := hb.trans (hS.mono hb.size)
    have HBW : Hid (w.heap.size ≤ g) := Lib.hid (Nat.le_trans hb.size hg0)
    clear K0 K1 K2 K3 K4 K5 K6 K7 e0 e1 e2 e3 e4 e5 e6 e7 p3 p5 hK hS hB hb HKL
    subst hfr
    simp only [putAll, Act.put, List.take_succ_cons, List.take_zero, List.drop_succ_cons, List.drop_zero, List.setIfInBounds_toArray, List.set_cons_succ, List.set_cons_zero]
    go_upto_region 2 with (refine wpList_storeB rfl 73 (.tmp 7) (.tmp 14) rfl g (cells8 D) rfl rfl hg sz32d HD8.out HZ.out (cells8_one _) ?_)
    have hg2 := hg.row (cells8 D)
    have hb3 := below_row hb2 HBW.out (cells8 D)
    generalize W.setRow g (cells8 D) = W2 at *
    clear hg hb2
    have hsl := run_sliceArr_all (P := Tryd.prog) Tryd.underlying73 so8 g 0 (by decide)
    have hcv := run_strBlk (cap := 32) HDL.out hg2
    go_wp2
    go_ret
    exact ⟨rfl, hb3⟩
end Go.Proofs.YtconhhhggckcbaaDoor
/- The walks of seal.Nonce and of its reference. -/
namespace Go.Proofs.YtconhhhggckcbaaDoor
open Go.RowKit

theorem sz12q : (Tryd.prog.info? 104).map (·.size) = some 12 := by kernel_rfl
theorem nonce_splice (s : List UInt8) (n : Nat) (hn : n = Nat.min s.length 12) :
    ((cells8 (List.replicate 12 0)).toList.take 0 ++ (s.take n).map cb ++ (cells8 (List.replicate 12 0)).toList.drop (0 + n)).toArray = cells8 (nonceS s) := by
  have h1 : s.take n = s.take 12 := by
    subst hn
    by_cases h : s.length ≤ 12
    · rw [show Nat.min s.length 12 = s.length from Nat.min_eq_left h, List.take_of_length_le (Nat.le_refl _), List.take_of_length_le h]
    · rw [show Nat.min s.length 12 = 12 from Nat.min_eq_right (by omega)]
  have h2 : 12 - n = 12 - s.length := by subst hn; have : Nat.min s.length 12 = min s.length 12 := rfl; omega
  have h3 : ∀ l : List UInt8, cells8 l = (l.map cb).toArray := fun l => rfl
  have h4 : ((List.replicate 12 (0 : UInt8)).map cb).drop n = (List.replicate (12 - s.length) (0 : UInt8)).map cb := by rw [List.map_replicate, List.map_replicate, List.drop_replicate, h2]
  rw [h1, h3, h3]
  unfold nonceS
  rw [List.map_append, Nat.zero_add, List.take_zero, List.nil_append, ← h4]

set_option maxRecDepth 100000 in
set_option maxHeartbeats 1000000 in
theorem snonce_any (s : List UInt8) (w : World) :
    Calls Tryd.prog 71 #[.string ⟨s.toArray⟩] w fun e w' => e = .returned (.agg (cells8 (nonceS s))) ∧ Below w.heap.size w w' := by
  have hsl := run_sliceArr_all (P := Tryd.prog) Tryd.underlying104 so8 (w.heap.size + 1) 0 (by decide)
  go_enter Tryd.func71, Tryd.ntmps71
  go_upto_region 2 with (fail)
  change Code.wp _ _ _ _ ((w.alloc (.cells (cells8 (List.replicate 12 0)) 104)).alloc (.cells (cells8 (List.replicate 12 0)) 104))
  have hA : Blk ((w.alloc (.cells (cells8 (List.replicate 12 0)) 104)).alloc (.cells (cells8 (List.replicate 12 0)) 104)) w.heap.size 104 (cells8 (List.replicate 12 0)) := (Blk.new _ _ _).alloc _
  have hB : Blk ((w.alloc (.cells (cells8 (List.replicate 12 0)) 104)).alloc (.cells (cells8 (List.replicate 12 0)) 104)) (w.heap.size + 1) 104 (cells8 (List.replicate 12 0)) := Blk.newAt _ _ _ (by simp)
  have hb : Below w.heap.size w ((w.alloc (.cells (cells8 (List.replicate 12 0)) 104)).alloc (.cells (cells8 (List.replicate 12 0)) 104)) := ((Below.refl _ _).alloc (Nat.le_refl _) _).alloc (by simp) _
  generalize (w.alloc (.cells (cells8 (List.replicate 12 0)) 104)).alloc (.cells (cells8 (List.replicate 12 0)) 104) = w1 at *
  have HA := Lib.hid hA
  have HB := Lib.hid hB
  have HBW := Lib.hid hb
  have HZ : Hid ((cells8 (List.replicate 12 0)).size = 12) := Lib.hid (by rw [cells8_size, List.length_replicate])
  obtain ⟨n, hn⟩ : ∃ n, n = Nat.min s.length 12 := ⟨_, rfl⟩
  have HN := Lib.hid hn
  have HL : Hid (n ≤ 12) := Lib.hid (by rw [hn]; exact Nat.min_le_right _ _)
  have HSP := Lib.hid (nonce_splice s n hn)
  clear hn hA hB hb
  go_upto_region 3 with (refine wpList_copy_str rfl (.tmp 4) (.tmp 5) 52 9 rfl 5 Tryd.underlying52 sz1b (w.heap.size + 1) 0 12 12 s rfl rfl (cells8 (List.replicate 12 0)) 104 HB.out n HN.out (by rw [HZ.out]; have := HL.out; omega) ?_)
  rw [HSP.out]
  have HB2 := Lib.hid (HB.out.row (cells8 (nonceS s)))
  have HA2 := Lib.hid (HA.out.rowFar (g' := w.heap.size + 1) (by omega) (cells8 (nonceS s)))
  have HBW2 := Lib.hid (below_row HBW.out (Nat.le_succ _) (cells8 (nonceS s)))
  have HS : Hid ((cells8 (nonceS s)).size = 12) := Lib.hid (by rw [cells8_size, nonceS_len])
  clear HB HA HBW HSP
  generalize w1.setRow (w.heap.size + 1) (cells8 (nonceS s)) = w2 at *
  obtain ⟨D, hD⟩ : ∃ D, nonceS s = D := ⟨_, rfl⟩
  rw [hD] at HB2 HS
  have HD := Lib.hid hD
  clear hD
  go_wp2_with (first | refine wpList_loadB (cs := cells8 D) rfl 104 (.tmp 3) rfl (w.heap.size + 1) rfl HB2.out Tryd.underlying104 rfl sz12q HS.out ?_ | refine wpList_storeB rfl 104 (.tmp 2) (.tmp 7) rfl w.heap.size (cells8 D) rfl rfl HA2.out sz12q HS.out HZ.out (cells8_one _) ?_)
  refine bodyPost_ret (results_B rfl _ (g := w.heap.size) rfl (HA2.out.row _) Tryd.underlying104 rfl sz12q HS.out) rfl ⟨by rw [HD.out], below_row HBW2.out (Nat.le_refl _) _⟩
end Go.Proofs.YtconhhhggckcbaaDoor
/- The walk of seal.Seal. Printed by gen_seal3.py. -/
namespace Go.Proofs.YtconhhhggckcbaaDoor
open Go.RowKit

theorem xor1_any (k nonce : List UInt8) (data : List UInt8) (w : World) (hk : k.length = 32) (hn : nonce.length = 12) (hd : data.length < 140737488355328) :
    Calls Tryd.prog 75 #[.agg (cells8 k), .agg (cells8 nonce), .int .u32 1, .string ⟨data.toArray⟩] w fun e w' =>
      e = .returned (.string ⟨(xorS k nonce 1 data).toArray⟩) ∧ Below w.heap.size w w' := xor_any k nonce 1 data w hk hn hd
attribute [local go_sem] str_app
set_option maxRecDepth 100000 in
set_option maxHeartbeats 1000000 in
theorem sseal_any (k nonce h d : List UInt8) (w : World) (hG : Glob w) (hk : k.length = 32) (hn : nonce.length = 12) (hl : h.length + d.length < 2 ^ 30) :
    Calls Tryd.prog 70 #[.agg (cells8 k), .agg (cells8 nonce), .string ⟨h.toArray⟩, .string ⟨d.toArray⟩] w fun e w' => e = .returned (.string ⟨(sealS k nonce h d).toArray⟩) ∧ Below w.heap.size w w' := by
  have HG := Lib.hid hG
  have HK := Lib.hid hk
  have HK8 : Hid ((cells8 k).size = 32) := Lib.hid (by rw [cells8_size]; exact hk)
  have HN := Lib.hid hn
  have HN8 : Hid ((cells8 nonce).size = 12) := Lib.hid (by rw [cells8_size]; exact hn)
  obtain ⟨D1, hD1⟩ : ∃ D1, keyedS k cipherT = D1 := ⟨_, rfl⟩
  obtain ⟨D2, hD2⟩ : ∃ D2, keyedS k tagT = D2 := ⟨_, rfl⟩
  have HD1 := Lib.hid hD1
  have HD2 := Lib.hid hD2
  have HD1L : Hid (D1.length = 32) := Lib.hid (by rw [← hD1, keyedS_len])
  have HD2L : Hid (D2.length = 32) := Lib.hid (by rw [← hD2, keyedS_len])
  have HD18 : Hid ((cells8 D1).size = 32) := Lib.hid (by rw [cells8_size, HD1L.out])
  have HD28 : Hid ((cells8 D2).size = 32) := Lib.hid (by rw [cells8_size, HD2L.out])
  have HZ : Hid ((cells8 (List.replicate 32 0)).size = 32) := Lib.hid (by rw [cells8_size, List.length_replicate])
  obtain ⟨X, hX⟩ : ∃ X, xorS D1 nonce 1 d = X := ⟨_, rfl⟩
  have hXL : X.length = d.length := by rw [← hX, xorS_len]
  have HX := Lib.hid hX
  have HXL := Lib.hid hXL
  have HRES : Hid (sealS k nonce h d = (nonce ++ X) ++ tagK D2 h (nonce ++ X)) := Lib.hid (by unfold sealS aheadS tagS tagK; rw [hD1, hD2, hX])
  clear hG hk hn hD1 hD2 hX hXL
  rw [HRES.out]
  clear HRES
  go_enter Tryd.func70, Tryd.ntmps70
  go_upto_region 1 with (fail)
  have hKB : Blk ((w.alloc (.cells (cells8 k) 23)).alloc (.cells (cells8 nonce) 104)) w.heap.size 23 (cells8 k) := (Blk.new _ _ _).alloc _
  have hNB : Blk ((w.alloc (.cells (cells8 k) 23)).alloc (.cells (cells8 nonce) 104)) (w.heap.size + 1) 104 (cells8 nonce) := Blk.newAt _ _ _ (by simp)
  have hb : Below w.heap.size w ((w.alloc (.cells (cells8 k) 23)).alloc (.cells (cells8 nonce) 104)) := ((Below.refl _ _).alloc (Nat.le_refl _) _).alloc (by simp) _
  generalize (w.alloc (.cells (cells8 k) 23)).alloc (.cells (cells8 nonce) 104) = w1 at *
  have HG1 := Lib.hid (HG.out.below hb)
  have HKB := Lib.hid hKB
  have HNB := Lib.hid hNB
  have HBW := Lib.hid hb
  clear hKB hNB hb HG
  go_wp2_with (refine wpList_loadB (cs := cells8 k) rfl 23 (.tmp 4) rfl w.heap.size rfl HKB.out Tryd.underlying23 rfl sz32k HK8.out ?_)
  refine (skeys_any k _ HG1.out HK.out).mono ?_
  rintro e w2 ⟨rfl, hb2⟩
  rw [HD1.out, HD2.out]
  have HB2 := Lib.hid hb2
  clear hb2
  go_upto_region 2 with (first | refine wpList_storeB rfl 23 (.tmp 9) (.tmp 15) rfl w2.heap.size (cells8 D1) rfl rfl (t := 23) (old := (cells8 (List.replicate 32 0))) ((Blk.new w2 23 (cells8 (List.replicate 32 0))).alloc (.cells (cells8 (List.replicate 32 0)) 23)) sz32k HD18.out HZ.out (cells8_one _) ?_ | refine wpList_storeB rfl 23 (.tmp 10) (.tmp 16) rfl (w2.heap.size + 1) (cells8 D2) rfl rfl (t := 23) (old := (cells8 (List.replicate 32 0))) ((Blk.newAt (w2.alloc (.cells (cells8 (List.replicate 32 0)) 23)) 23 (cells8 (List.replicate 32 0)) (by simp)).rowFar (by omega) _) sz32k HD28.out HZ.out (cells8_one _) ?_)
  change Code.wp _ _ _ _ ((((w2.alloc (.cells (cells8 (List.replicate 32 0)) 23)).alloc (.cells (cells8 (List.replicate 32 0)) 23)).setRow w2.heap.size (cells8 D1)).setRow (w2.heap.size + 1) (cells8 D2))
  have hC1 : Blk ((((w2.alloc (.cells (cells8 (List.replicate 32 0)) 23)).alloc (.cells (cells8 (List.replicate 32 0)) 23)).setRow w2.heap.size (cells8 D1)).setRow (w2.heap.size + 1) (cells8 D2)) w2.heap.size 23 (cells8 D1) := (((Blk.new w2 23 (cells8 (List.replicate 32 0))).alloc (.cells (cells8 (List.replicate 32 0)) 23)).row _).rowFar (by omega) _
  have hC2 : Blk ((((w2.alloc (.cells (cells8 (List.replicate 32 0)) 23)).alloc (.cells (cells8 (List.replicate 32 0)) 23)).setRow w2.heap.size (cells8 D1)).setRow (w2.heap.size + 1) (cells8 D2)) (w2.heap.size + 1) 23 (cells8 D2) := ((Blk.newAt (w2.alloc (.cells (cells8 (List.replicate 32 0)) 23)) 23 (cells8 (List.replicate 32 0)) (by simp)).rowFar (by omega) _).row _
  have hb3 : Below w1.heap.size w1 ((((w2.alloc (.cells (cells8 (List.replicate 32 0)) 23)).alloc (.cells (cells8 (List.replicate 32 0)) 23)).setRow w2.heap.size (cells8 D1)).setRow (w2.heap.size + 1) (cells8 D2)) := below_row (below_row ((HB2.out.alloc HB2.out.size _).alloc (by simp; have := HB2.out.size; omega) _) HB2.out.size _) (Nat.le_succ_of_le HB2.out.size) _
  generalize ((((w2.alloc (.cells (cells8 (List.replicate 32 0)) 23)).alloc (.cells (cells8 (List.replicate 32 0)) 23)).setRow w2.heap.size (cells8 D1)).setRow (w2.heap.size + 1) (cells8 D2)) = w3 at *
  clear HB2
  have hN3 := HNB.out.below hb3 HNB.out.lt
  have hsl := run_sliceArr_all (P := Tryd.prog) Tryd.underlying104 so8 (w.heap.size + 1) 0 (by decide)
  have hcat : ¬ 9223372036854775807 < nonce.length + X.length := by have := HN.out; have := HXL.out; omega
  obtain ⟨KL, hKL⟩ : ∃ KL, KL = [kval (.slice (some ⟨w.heap.size + 1, 0, none⟩) 12 12), kval (.string ⟨nonce.toArray⟩), kval (.agg (cells8 D1)), kval (.agg (cells8 nonce)), kval (.string ⟨d.toArray⟩), kval (.string ⟨X.toArray⟩), kval (.string ⟨(nonce ++ X).toArray⟩), kval (.string ⟨(nonce ++ X).toArray⟩)] := ⟨_, rfl⟩
  have K0 : KL.getD 0 kany = kval (.slice (some ⟨w.heap.size + 1, 0, none⟩) 12 12) := by rw [hKL]; rfl
  have K1 : KL.getD 1 kany = kval (.string ⟨nonce.toArray⟩) := by rw [hKL]; rfl
  have K2 : KL.getD 2 kany = kval (.agg (cells8 D1)) := by rw [hKL]; rfl
  have K3 : KL.getD 3 kany = kval (.agg (cells8 nonce)) := by rw [hKL]; rfl
  have K4 : KL.getD 4 kany = kval (.string ⟨d.toArray⟩) := by rw [hKL]; rfl
  have K5 : KL.getD 5 kany = kval (.string ⟨X.toArray⟩) := by rw [hKL]; rfl
  have K6 : KL.getD 6 kany = kval (.string ⟨(nonce ++ X).toArray⟩) := by rw [hKL]; rfl
  have K7 : KL.getD 7 kany = kval (.string ⟨(nonce ++ X).toArray⟩) := by rw [hKL]; rfl
  clear hKL
  refine wp_region_kd 30 (by kernel_rfl) (by kernel_rfl) (by kernel_rfl) rfl KL ?_ ?_
  · refine ⟨?_, ?_, ?_, ?_, ?_, ?_, ?_, ?_, trivial⟩
    · refine asks_mk fun a W hS hh hd => ⟨wanted_yes rfl, ?_⟩
      have e0 := hh 5 _ rfl rfl
      have E0 := eval_tmp e0
      refine giv_val (c := (.slice (some ⟨w.heap.size + 1, 0, none⟩) 12 12)) ?_ K0 rfl
      go_simp
    · refine asks_mk fun a W hS hh hd => ⟨wanted_yes rfl, ?_⟩
      have e0 := hd.val (j := 0) (s := 17) (by kernel_rfl) K0
      have E0 := eval_tmp e0
      have hcv := run_strBlk (cap := 12) HN.out (hN3.below hS hN3.lt)
      refine giv_val (c := (.string ⟨nonce.toArray⟩)) ?_ K1 rfl
      go_simp
    · refine asks_mk fun a W hS hh hd => ⟨wanted_yes rfl, ?_⟩
      have e0 := hh 9 _ rfl rfl
      have E0 := eval_tmp e0
      exact giv_loadB hS 23 (.tmp 9) rfl w2.heap.size E0 hC1 Tryd.underlying23 rfl sz32k HD18.out K2
    · refine asks_mk fun a W hS hh hd => ⟨wanted_yes rfl, ?_⟩
      have e0 := hh 5 _ rfl rfl
      have E0 := eval_tmp e0
      exact giv_loadB hS 104 (.tmp 5) rfl (w.heap.size + 1) E0 hN3 Tryd.underlying104 rfl sz12q HN8.out K3
    · refine asks_mk fun a W hS hh hd => ⟨wanted_yes rfl, ?_⟩
      have e0 := hh 3 _ rfl rfl
      have E0 := eval_tmp e0
      exact giv_move rfl E0 K4
    · refine asks_mk fun a W hS hh hd => ⟨wanted_yes rfl, ?_⟩
      have e0 := hd.val (j := 2) (s := 19) (by kernel_rfl) K2
      have E0 := eval_tmp e0
      have e1 := hd.val (j := 3) (s := 20) (by kernel_rfl) K3
      have E1 := eval_tmp e1
      have e3 := hd.val (j := 4) (s := 21) (by kernel_rfl) K4
      have E3 := eval_tmp e3
      refine giv_call (f := 75) (args := #[(.agg (cells8 D1)), (.agg (cells8 nonce)), (.int .u32 1), (.string ⟨d.toArray⟩)]) ?_ ?_ K5
      · go_simp
      · exact HX.out ▸ xor1_any D1 nonce d W HD1L.out HN.out (by omega)
    · refine asks_mk fun a W hS hh hd => ⟨wanted_yes rfl, ?_⟩
      have e0 := hd.val (j := 1) (s := 18) (by kernel_rfl) K1
      have E0 := eval_tmp e0
      have e1 := hd.val (j := 5) (s := 22) (by kernel_rfl) K5
      have E1 := eval_tmp e1
      refine giv_val (c := (.string ⟨(nonce ++ X).toArray⟩)) ?_ K6 rfl
      go_simp
    · refine asks_mk fun a W hS hh hd => ⟨wanted_yes rfl, ?_⟩
      have e0 := hd.val (j := 6) (s := 23) (by kernel_rfl) K6
      have E0 := eval_tmp e0
      exact giv_assign rfl E0 K7
  · intro a W hS hK
    have e0 := hK.val (i := 0) (s := 17) (by kernel_rfl) K0
    have e1 := hK.val (i := 1) (s := 18) (by kernel_rfl) K1
    have e2 := hK.val (i := 2) (s := 19) (by kernel_rfl) K2
    have e3 := hK.val (i := 3) (s := 20) (by kernel_rfl) K3
    have e4 := hK.val (i := 4) (s := 21) (by kernel_rfl) K4
    have e5 := hK.val (i := 5) (s := 22) (by kernel_rfl) K5
    have e6 := hK.val (i := 6) (s := 23) (by kernel_rfl) K6
    have e7 := hK.val (i := 7) (s := 11) (by kernel_rfl) K7
    have hfr := hK.frame [(.slice (some ⟨w.heap.size + 1, 0, none⟩) 12 12), (.string ⟨nonce.toArray⟩), (.agg (cells8 D1)), (.agg (cells8 nonce)), (.string ⟨d.toArray⟩), (.string ⟨X.toArray⟩), (.string ⟨(nonce ++ X).toArray⟩), (.string ⟨(nonce ++ X).toArray⟩)] ⟨e0, e1, e2, e3, e4, e5, e6, e7, trivial⟩
    have hC3 := hC2.below hS hC2.lt
    have hG4 := (HG1.out.below hb3).below hS
    have hb4 := HBW.out.trans ((hb3.trans (hS.mono hb3.size)).mono HBW.out.size)
    clear K0 e0 K1 e1 K2 e2 K3 e3 K4 e4 K5 e5 K6 e6 K7 e7 hK hS hC1 hC2 hb3 hN3 hsl hcat
    subst hfr
    simp only [putAll, Act.put, List.setIfInBounds_toArray, List.set_cons_succ, List.set_cons_zero]
    have HT := Lib.hid (stag_any D2 h (nonce ++ X) W hG4 HD2L.out (by rw [List.length_append]; have := HN.out; have := HXL.out; omega))
    have htl := tagK_len D2 h (nonce ++ X)
    have hal : (nonce ++ X).length = d.length + 12 := by rw [List.length_append]; have := HN.out; have := HXL.out; omega
    obtain ⟨A, hA⟩ : ∃ A, A = nonce ++ X := ⟨_, rfl⟩
    rw [← hA] at HT htl hal
    rw [← hA]
    obtain ⟨T, hT⟩ : ∃ T, T = tagK D2 h A := ⟨_, rfl⟩
    rw [← hT] at HT htl
    have HA := Lib.hid hA
    have HTE := Lib.hid hT
    clear hA hT
    go_wp2_with (refine wpList_loadB (cs := cells8 D2) rfl 23 (.tmp 10) rfl (w2.heap.size + 1) rfl hC3 Tryd.underlying23 rfl sz32k HD28.out ?_)
    refine HT.out.mono ?_
    rintro e w5 ⟨rfl, hb5⟩
    have hcat2 : ¬ 9223372036854775807 < A.length + T.length := by omega
    go_wp2_with fail
    go_ret
    exact ⟨by rw [← HA.out, ← HTE.out]; rfl, hb4.trans (hb5.mono hb4.size)⟩
end Go.Proofs.YtconhhhggckcbaaDoor
/- The walk of seal.Open. Printed by gen_seal4.py. -/
namespace Go.Proofs.YtconhhhggckcbaaDoor
open Go.RowKit

/-- what opening a box answers: the text and the error's number. -/
def openS (k h x : List UInt8) : List UInt8 × Int :=
  if x.length < 44 then ([], 4) else
  if tagS k h (x.take (x.length - 32)) = x.drop (x.length - 32) then (xorS (keyedS k cipherT) (nonceS (x.take (x.length - 32))) 1 ((x.take (x.length - 32)).drop 12), 0) else ([], 5)
theorem str_front (s : List UInt8) (n : Nat) : (⟨s.toArray⟩ : ByteArray).extract 0 n = ⟨(s.take n).toArray⟩ := by
  rw [str_mid]; simp
theorem ba_ne {a b : List UInt8} (h : a ≠ b) : (⟨a.toArray⟩ : ByteArray) ≠ ⟨b.toArray⟩ := fun e => h (by injection e with e; injection e)
set_option maxRecDepth 100000 in
set_option maxHeartbeats 1000000 in
theorem sopen_any (k h x : List UInt8) (w : World) (hG : Glob w) (hk : k.length = 32) (hl : h.length + x.length < 140737488355300) :
    Calls Tryd.prog 48 #[.agg (cells8 k), .string ⟨h.toArray⟩, .string ⟨x.toArray⟩] w fun e w' => e = .returned (.tuple #[.string ⟨(openS k h x).1.toArray⟩, .int .i64 (openS k h x).2]) ∧ Below w.heap.size w w' := by
  have HG := Lib.hid hG
  have HK := Lib.hid hk
  have HK8 : Hid ((cells8 k).size = 32) := Lib.hid (by rw [cells8_size]; exact hk)
  obtain ⟨D1, hD1⟩ : ∃ D1, keyedS k cipherT = D1 := ⟨_, rfl⟩
  obtain ⟨D2, hD2⟩ : ∃ D2, keyedS k tagT = D2 := ⟨_, rfl⟩
  have HD1 := Lib.hid hD1
  have HD2 := Lib.hid hD2
  have HD1L : Hid (D1.length = 32) := Lib.hid (by rw [← hD1, keyedS_len])
  have HD2L : Hid (D2.length = 32) := Lib.hid (by rw [← hD2, keyedS_len])
  have HD18 : Hid ((cells8 D1).size = 32) := Lib.hid (by rw [cells8_size, HD1L.out])
  have HD28 : Hid ((cells8 D2).size = 32) := Lib.hid (by rw [cells8_size, HD2L.out])
  have HZ : Hid ((cells8 (List.replicate 32 0)).size = 32) := Lib.hid (by rw [cells8_size, List.length_replicate])
  clear hG hk
  obtain ⟨r, hr⟩ : ∃ r, openS k h x = r := ⟨_, rfl⟩
  rw [hr]
  unfold openS tagS at hr
  rw [hD1, hD2] at hr
  clear hD1 hD2
  go_enter Tryd.func48, Tryd.ntmps48
  go_upto_region 1 with (fail)
  have hKB : Blk (w.alloc (.cells (cells8 k) 23)) w.heap.size 23 (cells8 k) := Blk.new _ _ _
  have hb : Below w.heap.size w (w.alloc (.cells (cells8 k) 23)) := (Below.refl _ _).alloc (Nat.le_refl _) _
  generalize w.alloc (.cells (cells8 k) 23) = w1 at *
  have HG1 := Lib.hid (HG.out.below hb)
  have HKB := Lib.hid hKB
  have HBW := Lib.hid hb
  clear hKB hb HG
  by_cases hsh : x.length < 44
  · rw [if_pos hsh] at hr
    have hsh' : (x.length : Int) < 44 := by omega
    subst hr
    go_wp2_with fail
    go_ret2
    exact ⟨rfl, HBW.out⟩
  · rw [if_neg hsh] at hr
    have hsh' : ¬ (x.length : Int) < 44 := by omega
    have hsx : ((x.length : Int) - 32).toNat = x.length - 32 := by omega
    have HSX := Lib.hid hsx
    have hA1 : (⟨x.toArray⟩ : ByteArray).extract 0 ((x.length : Int) - 32).toNat = ⟨(x.take (x.length - 32)).toArray⟩ := by rw [hsx, str_front]
    clear hsx
    have hAL : (x.take (x.length - 32)).length = x.length - 32 := by rw [List.length_take]; omega
    obtain ⟨A, hA⟩ : ∃ A, x.take (x.length - 32) = A := ⟨_, rfl⟩
    rw [hA] at hr hA1 hAL
    obtain ⟨E, hE⟩ : ∃ E, x.drop (x.length - 32) = E := ⟨_, rfl⟩
    rw [hE] at hr
    have hE1 : (⟨x.toArray⟩ : ByteArray).extract (x.length - 32) x.length = ⟨E.toArray⟩ := by rw [str_drop, hE]
    obtain ⟨T, hT⟩ : ∃ T, keyedS D2 (rowS [h, A]) = T := ⟨_, rfl⟩
    rw [hT] at hr
    have HT : Hid (tagK D2 h A = T) := Lib.hid hT
    have HR := Lib.hid hr
    have HAL := Lib.hid hAL
    have HE1 := Lib.hid hE1
    clear hA hE hT hr hAL hE1
    go_wp2_with (refine wpList_loadB (cs := cells8 k) rfl 23 (.tmp 3) rfl w.heap.size rfl HKB.out Tryd.underlying23 rfl sz32k HK8.out ?_)
    refine (skeys_any k _ HG1.out HK.out).mono ?_
    rintro e w2 ⟨rfl, hb2⟩
    rw [HD1.out, HD2.out]
    have HB2 := Lib.hid hb2
    clear hb2
    go_upto_region 4 with (first | refine wpList_storeB rfl 23 (.tmp 8) (.tmp 17) rfl w2.heap.size (cells8 D1) rfl rfl (t := 23) (old := (cells8 (List.replicate 32 0))) ((Blk.new w2 23 (cells8 (List.replicate 32 0))).alloc (.cells (cells8 (List.replicate 32 0)) 23)) sz32k HD18.out HZ.out (cells8_one _) ?_ | refine wpList_storeB rfl 23 (.tmp 9) (.tmp 18) rfl (w2.heap.size + 1) (cells8 D2) rfl rfl (t := 23) (old := (cells8 (List.replicate 32 0))) ((Blk.newAt (w2.alloc (.cells (cells8 (List.replicate 32 0)) 23)) 23 (cells8 (List.replicate 32 0)) (by simp)).rowFar (by omega) _) sz32k HD28.out HZ.out (cells8_one _) ?_)
    change Code.wp _ _ _ _ ((((w2.alloc (.cells (cells8 (List.replicate 32 0)) 23)).alloc (.cells (cells8 (List.replicate 32 0)) 23)).setRow w2.heap.size (cells8 D1)).setRow (w2.heap.size + 1) (cells8 D2))
    have hC1 : Blk ((((w2.alloc (.cells (cells8 (List.replicate 32 0)) 23)).alloc (.cells (cells8 (List.replicate 32 0)) 23)).setRow w2.heap.size (cells8 D1)).setRow (w2.heap.size + 1) (cells8 D2)) w2.heap.size 23 (cells8 D1) := (((Blk.new w2 23 (cells8 (List.replicate 32 0))).alloc (.cells (cells8 (List.replicate 32 0)) 23)).row _).rowFar (by omega) _
    have hC2 : Blk ((((w2.alloc (.cells (cells8 (List.replicate 32 0)) 23)).alloc (.cells (cells8 (List.replicate 32 0)) 23)).setRow w2.heap.size (cells8 D1)).setRow (w2.heap.size + 1) (cells8 D2)) (w2.heap.size + 1) 23 (cells8 D2) := ((Blk.newAt (w2.alloc (.cells (cells8 (List.replicate 32 0)) 23)) 23 (cells8 (List.replicate 32 0)) (by simp)).rowFar (by omega) _).row _
    have hb3 : Below w1.heap.size w1 ((((w2.alloc (.cells (cells8 (List.replicate 32 0)) 23)).alloc (.cells (cells8 (List.replicate 32 0)) 23)).setRow w2.heap.size (cells8 D1)).setRow (w2.heap.size + 1) (cells8 D2)) := below_row (below_row ((HB2.out.alloc HB2.out.size _).alloc (by simp; have := HB2.out.size; omega) _) HB2.out.size _) (Nat.le_succ_of_le HB2.out.size) _
    generalize ((((w2.alloc (.cells (cells8 (List.replicate 32 0)) 23)).alloc (.cells (cells8 (List.replicate 32 0)) 23)).setRow w2.heap.size (cells8 D1)).setRow (w2.heap.size + 1) (cells8 D2)) = w3 at *
    clear HB2
    have HG3 := Lib.hid (HG1.out.below hb3)
    have HB3 := Lib.hid (HBW.out.trans (hb3.mono HBW.out.size))
    have HLA : Hid (h.length + A.length < 140737488355300) := Lib.hid (by have := HAL.out; omega)
    clear hb3
    go_upto_region 5 with (fail)
    have hE2 : (⟨x.toArray⟩ : ByteArray).extract A.length x.length = ⟨E.toArray⟩ := by rw [HAL.out]; exact HE1.out
    have hAle : A.length ≤ x.length := by have := HAL.out; omega
    clear hA1 hsh'
    by_cases hTE : T = E
    · rw [if_pos hTE] at HR
      subst hTE
      obtain ⟨KL, hKL⟩ : ∃ KL, KL = [kval (.agg (cells8 D2)), kval (.string ⟨h.toArray⟩), kval (.string ⟨A.toArray⟩), kval (.string ⟨T.toArray⟩), kval (.string ⟨x.toArray⟩), kval (.string ⟨A.toArray⟩), kval (.int .i64 (A.length : Int)), kval (.string ⟨T.toArray⟩), kval (.bool false)] := ⟨_, rfl⟩
      have K0 : KL.getD 0 kany = kval (.agg (cells8 D2)) := by rw [hKL]; rfl
      have K1 : KL.getD 1 kany = kval (.string ⟨h.toArray⟩) := by rw [hKL]; rfl
      have K2 : KL.getD 2 kany = kval (.string ⟨A.toArray⟩) := by rw [hKL]; rfl
      have K3 : KL.getD 3 kany = kval (.string ⟨T.toArray⟩) := by rw [hKL]; rfl
      have K4 : KL.getD 4 kany = kval (.string ⟨x.toArray⟩) := by rw [hKL]; rfl
      have K5 : KL.getD 5 kany = kval (.string ⟨A.toArray⟩) := by rw [hKL]; rfl
      have K6 : KL.getD 6 kany = kval (.int .i64 (A.length : Int)) := by rw [hKL]; rfl
      have K7 : KL.getD 7 kany = kval (.string ⟨T.toArray⟩) := by rw [hKL]; rfl
      have K8 : KL.getD 8 kany = kval (.bool false) := by rw [hKL]; rfl
      clear hKL
      refine wp_region_kd 39 (by kernel_rfl) (by kernel_rfl) (by kernel_rfl) rfl KL ?_ ?_
      · refine ⟨?_, ?_, ?_, ?_, ?_, ?_, ?_, ?_, ?_, trivial⟩
        · refine asks_mk fun a W hS hh hd => ⟨wanted_yes rfl, ?_⟩
          have e0 := hh 9 _ rfl rfl
          have E0 := eval_tmp e0
          exact giv_loadB hS 23 (.tmp 9) rfl (w2.heap.size + 1) E0 hC2 Tryd.underlying23 rfl sz32k HD28.out K0
        · refine asks_mk fun a W hS hh hd => ⟨wanted_yes rfl, ?_⟩
          have e0 := hh 1 _ rfl rfl
          have E0 := eval_tmp e0
          exact giv_move rfl E0 K1
        · refine asks_mk fun a W hS hh hd => ⟨wanted_yes rfl, ?_⟩
          have e0 := hh 10 _ rfl rfl
          have E0 := eval_tmp e0
          exact giv_move rfl E0 K2
        · refine asks_mk fun a W hS hh hd => ⟨wanted_yes rfl, ?_⟩
          have e0 := hd.val (j := 0) (s := 24) (by kernel_rfl) K0
          have E0 := eval_tmp e0
          have e1 := hd.val (j := 1) (s := 25) (by kernel_rfl) K1
          have E1 := eval_tmp e1
          have e2 := hd.val (j := 2) (s := 26) (by kernel_rfl) K2
          have E2 := eval_tmp e2
          refine giv_call (f := 74) (args := #[(.agg (cells8 D2)), (.string ⟨h.toArray⟩), (.string ⟨A.toArray⟩)]) ?_ ?_ K3
          · go_simp
          · exact HT.out ▸ stag_any D2 h A W (HG3.out.below hS) HD2L.out HLA.out
        · refine asks_mk fun a W hS hh hd => ⟨wanted_yes rfl, ?_⟩
          have e0 := hh 2 _ rfl rfl
          have E0 := eval_tmp e0
          exact giv_move rfl E0 K4
        · refine asks_mk fun a W hS hh hd => ⟨wanted_yes rfl, ?_⟩
          have e0 := hh 10 _ rfl rfl
          have E0 := eval_tmp e0
          exact giv_move rfl E0 K5
        · refine asks_mk fun a W hS hh hd => ⟨wanted_yes rfl, ?_⟩
          have e0 := hd.val (j := 5) (s := 29) (by kernel_rfl) K5
          have E0 := eval_tmp e0
          refine giv_val (c := (.int .i64 (A.length : Int))) ?_ K6 rfl
          go_simp
        · refine asks_mk fun a W hS hh hd => ⟨wanted_yes rfl, ?_⟩
          have e0 := hd.val (j := 4) (s := 28) (by kernel_rfl) K4
          have E0 := eval_tmp e0
          have e1 := hd.val (j := 6) (s := 30) (by kernel_rfl) K6
          have E1 := eval_tmp e1
          refine giv_val (c := (.string ⟨T.toArray⟩)) ?_ K7 rfl
          go_simp
        · refine asks_mk fun a W hS hh hd => ⟨wanted_yes rfl, ?_⟩
          have e0 := hd.val (j := 3) (s := 27) (by kernel_rfl) K3
          have E0 := eval_tmp e0
          have e1 := hd.val (j := 7) (s := 31) (by kernel_rfl) K7
          have E1 := eval_tmp e1
          refine giv_val (c := (.bool false)) ?_ K8 rfl
          go_simp
      · intro a W hS hK
        have e0 := hK.val (i := 0) (s := 24) (by kernel_rfl) K0
        have e1 := hK.val (i := 1) (s := 25) (by kernel_rfl) K1
        have e2 := hK.val (i := 2) (s := 26) (by kernel_rfl) K2
        have e3 := hK.val (i := 3) (s := 27) (by kernel_rfl) K3
        have e4 := hK.val (i := 4) (s := 28) (by kernel_rfl) K4
        have e5 := hK.val (i := 5) (s := 29) (by kernel_rfl) K5
        have e6 := hK.val (i := 6) (s := 30) (by kernel_rfl) K6
        have e7 := hK.val (i := 7) (s := 31) (by kernel_rfl) K7
        have e8 := hK.val (i := 8) (s := 32) (by kernel_rfl) K8
        have hfr := hK.frame [(.agg (cells8 D2)), (.string ⟨h.toArray⟩), (.string ⟨A.toArray⟩), (.string ⟨T.toArray⟩), (.string ⟨x.toArray⟩), (.string ⟨A.toArray⟩), (.int .i64 (A.length : Int)), (.string ⟨T.toArray⟩), (.bool false)] ⟨e0, e1, e2, e3, e4, e5, e6, e7, e8, trivial⟩
        clear K0 e0 K1 e1 K2 e2 K3 e3 K4 e4 K5 e5 K6 e6 K7 e7 K8 e8 hK
        subst hfr
        simp only [putAll, Act.put, List.setIfInBounds_toArray, List.set_cons_succ, List.set_cons_zero]
        have hC3 := hC1.below hS hC1.lt
        have HB4 := Lib.hid (HB3.out.trans (hS.mono HB3.out.size))
        clear hC1 hC2 hS hE2
        generalize W = w4 at *
        obtain ⟨N, hN⟩ : ∃ N, nonceS A = N := ⟨_, rfl⟩
        obtain ⟨B, hB⟩ : ∃ B, A.drop 12 = B := ⟨_, rfl⟩
        obtain ⟨Y, hY⟩ : ∃ Y, xorS D1 N 1 B = Y := ⟨_, rfl⟩
        have HNL : Hid (N.length = 12) := Lib.hid (by rw [← hN, nonceS_len])
        have HLB : Hid (B.length < 140737488355328) := Lib.hid (by rw [← hB, List.length_drop]; omega)
        have hr := HR.out
        rw [hN, hB, hY] at hr
        have hB1 : (⟨A.toArray⟩ : ByteArray).extract 12 A.length = ⟨B.toArray⟩ := by rw [str_drop, hB]
        have hA12 : 12 ≤ A.length := by have := HAL.out; omega
        have hA12' : (12 : Int) ≤ A.length := by omega
        have HNE := Lib.hid hN
        have HY := Lib.hid hY
        subst hr
        clear hN hB hY HR
        go_upto_region 7 with (fail)
        obtain ⟨KL, hKL⟩ : ∃ KL, KL = [kval (.agg (cells8 D1)), kval (.string ⟨A.toArray⟩), kval (.agg (cells8 N)), kval (.string ⟨A.toArray⟩), kval (.string ⟨B.toArray⟩), kval (.string ⟨Y.toArray⟩), kval (.string ⟨Y.toArray⟩), kval (.int .i64 0)] := ⟨_, rfl⟩
        have K0 : KL.getD 0 kany = kval (.agg (cells8 D1)) := by rw [hKL]; rfl
        have K1 : KL.getD 1 kany = kval (.string ⟨A.toArray⟩) := by rw [hKL]; rfl
        have K2 : KL.getD 2 kany = kval (.agg (cells8 N)) := by rw [hKL]; rfl
        have K3 : KL.getD 3 kany = kval (.string ⟨A.toArray⟩) := by rw [hKL]; rfl
        have K4 : KL.getD 4 kany = kval (.string ⟨B.toArray⟩) := by rw [hKL]; rfl
        have K5 : KL.getD 5 kany = kval (.string ⟨Y.toArray⟩) := by rw [hKL]; rfl
        have K6 : KL.getD 6 kany = kval (.string ⟨Y.toArray⟩) := by rw [hKL]; rfl
        have K7 : KL.getD 7 kany = kval (.int .i64 0) := by rw [hKL]; rfl
        clear hKL
        refine wp_region_kd 39 (by kernel_rfl) (by kernel_rfl) (by kernel_rfl) rfl KL ?_ ?_
        · refine ⟨?_, ?_, ?_, ?_, ?_, ?_, ?_, ?_, trivial⟩
          · refine asks_mk fun a W hS hh hd => ⟨wanted_yes rfl, ?_⟩
            have e0 := hh 8 _ rfl rfl
            have E0 := eval_tmp e0
            exact giv_loadB hS 23 (.tmp 8) rfl w2.heap.size E0 hC3 Tryd.underlying23 rfl sz32k HD18.out K0
          · refine asks_mk fun a W hS hh hd => ⟨wanted_yes rfl, ?_⟩
            have e0 := hh 10 _ rfl rfl
            have E0 := eval_tmp e0
            exact giv_move rfl E0 K1
          · refine asks_mk fun a W hS hh hd => ⟨wanted_yes rfl, ?_⟩
            have e0 := hd.val (j := 1) (s := 34) (by kernel_rfl) K1
            have E0 := eval_tmp e0
            refine giv_call (f := 71) (args := #[(.string ⟨A.toArray⟩)]) ?_ ?_ K2
            · go_simp
            · exact HNE.out ▸ snonce_any A W
          · refine asks_mk fun a W hS hh hd => ⟨wanted_yes rfl, ?_⟩
            have e0 := hh 10 _ rfl rfl
            have E0 := eval_tmp e0
            exact giv_move rfl E0 K3
          · refine asks_mk fun a W hS hh hd => ⟨wanted_yes rfl, ?_⟩
            have e0 := hd.val (j := 3) (s := 36) (by kernel_rfl) K3
            have E0 := eval_tmp e0
            refine giv_val (c := (.string ⟨B.toArray⟩)) ?_ K4 rfl
            go_simp
          · refine asks_mk fun a W hS hh hd => ⟨wanted_yes rfl, ?_⟩
            have e0 := hd.val (j := 0) (s := 33) (by kernel_rfl) K0
            have E0 := eval_tmp e0
            have e1 := hd.val (j := 2) (s := 35) (by kernel_rfl) K2
            have E1 := eval_tmp e1
            have e3 := hd.val (j := 4) (s := 37) (by kernel_rfl) K4
            have E3 := eval_tmp e3
            refine giv_call (f := 75) (args := #[(.agg (cells8 D1)), (.agg (cells8 N)), (.int .u32 1), (.string ⟨B.toArray⟩)]) ?_ ?_ K5
            · go_simp
            · exact HY.out ▸ xor1_any D1 N B W HD1L.out HNL.out HLB.out
          · refine asks_mk fun a W hS hh hd => ⟨wanted_yes rfl, ?_⟩
            have e0 := hd.val (j := 5) (s := 38) (by kernel_rfl) K5
            have E0 := eval_tmp e0
            exact giv_assign rfl E0 K6
          · refine asks_mk fun a W hS hh hd => ⟨wanted_yes rfl, ?_⟩
            exact giv_assign rfl rfl K7
        · intro a W hS hK
          have e0 := hK.val (i := 0) (s := 33) (by kernel_rfl) K0
          have e1 := hK.val (i := 1) (s := 34) (by kernel_rfl) K1
          have e2 := hK.val (i := 2) (s := 35) (by kernel_rfl) K2
          have e3 := hK.val (i := 3) (s := 36) (by kernel_rfl) K3
          have e4 := hK.val (i := 4) (s := 37) (by kernel_rfl) K4
          have e5 := hK.val (i := 5) (s := 38) (by kernel_rfl) K5
          have e6 := hK.val (i := 6) (s := 6) (by kernel_rfl) K6
          have e7 := hK.val (i := 7) (s := 7) (by kernel_rfl) K7
          have hfr := hK.frame [(.agg (cells8 D1)), (.string ⟨A.toArray⟩), (.agg (cells8 N)), (.string ⟨A.toArray⟩), (.string ⟨B.toArray⟩), (.string ⟨Y.toArray⟩), (.string ⟨Y.toArray⟩), (.int .i64 0)] ⟨e0, e1, e2, e3, e4, e5, e6, e7, trivial⟩
          clear K0 e0 K1 e1 K2 e2 K3 e3 K4 e4 K5 e5 K6 e6 K7 e7 hK
          subst hfr
          simp only [putAll, Act.put, List.setIfInBounds_toArray, List.set_cons_succ, List.set_cons_zero]
          go_wp2_with fail
          go_ret2
          exact ⟨rfl, HB4.out.trans (hS.mono HB4.out.size)⟩
    · rw [if_neg hTE] at HR
      have hTE' := ba_ne hTE
      have hr := HR.out
      subst hr
      clear HR
      obtain ⟨KL, hKL⟩ : ∃ KL, KL = [kval (.agg (cells8 D2)), kval (.string ⟨h.toArray⟩), kval (.string ⟨A.toArray⟩), kval (.string ⟨T.toArray⟩), kval (.string ⟨x.toArray⟩), kval (.string ⟨A.toArray⟩), kval (.int .i64 (A.length : Int)), kval (.string ⟨E.toArray⟩), kval (.bool true)] := ⟨_, rfl⟩
      have K0 : KL.getD 0 kany = kval (.agg (cells8 D2)) := by rw [hKL]; rfl
      have K1 : KL.getD 1 kany = kval (.string ⟨h.toArray⟩) := by rw [hKL]; rfl
      have K2 : KL.getD 2 kany = kval (.string ⟨A.toArray⟩) := by rw [hKL]; rfl
      have K3 : KL.getD 3 kany = kval (.string ⟨T.toArray⟩) := by rw [hKL]; rfl
      have K4 : KL.getD 4 kany = kval (.string ⟨x.toArray⟩) := by rw [hKL]; rfl
      have K5 : KL.getD 5 kany = kval (.string ⟨A.toArray⟩) := by rw [hKL]; rfl
      have K6 : KL.getD 6 kany = kval (.int .i64 (A.length : Int)) := by rw [hKL]; rfl
      have K7 : KL.getD 7 kany = kval (.string ⟨E.toArray⟩) := by rw [hKL]; rfl
      have K8 : KL.getD 8 kany = kval (.bool true) := by rw [hKL]; rfl
      clear hKL
      refine wp_region_kd 39 (by kernel_rfl) (by kernel_rfl) (by kernel_rfl) rfl KL ?_ ?_
      · refine ⟨?_, ?_, ?_, ?_, ?_, ?_, ?_, ?_, ?_, trivial⟩
        · refine asks_mk fun a W hS hh hd => ⟨wanted_yes rfl, ?_⟩
          have e0 := hh 9 _ rfl rfl
          have E0 := eval_tmp e0
          exact giv_loadB hS 23 (.tmp 9) rfl (w2.heap.size + 1) E0 hC2 Tryd.underlying23 rfl sz32k HD28.out K0
        · refine asks_mk fun a W hS hh hd => ⟨wanted_yes rfl, ?_⟩
          have e0 := hh 1 _ rfl rfl
          have E0 := eval_tmp e0
          exact giv_move rfl E0 K1
        · refine asks_mk fun a W hS hh hd => ⟨wanted_yes rfl, ?_⟩
          have e0 := hh 10 _ rfl rfl
          have E0 := eval_tmp e0
          exact giv_move rfl E0 K2
        · refine asks_mk fun a W hS hh hd => ⟨wanted_yes rfl, ?_⟩
          have e0 := hd.val (j := 0) (s := 24) (by kernel_rfl) K0
          have E0 := eval_tmp e0
          have e1 := hd.val (j := 1) (s := 25) (by kernel_rfl) K1
          have E1 := eval_tmp e1
          have e2 := hd.val (j := 2) (s := 26) (by kernel_rfl) K2
          have E2 := eval_tmp e2
          refine giv_call (f := 74) (args := #[(.agg (cells8 D2)), (.string ⟨h.toArray⟩), (.string ⟨A.toArray⟩)]) ?_ ?_ K3
          · go_simp
          · exact HT.out ▸ stag_any D2 h A W (HG3.out.below hS) HD2L.out HLA.out
        · refine asks_mk fun a W hS hh hd => ⟨wanted_yes rfl, ?_⟩
          have e0 := hh 2 _ rfl rfl
          have E0 := eval_tmp e0
          exact giv_move rfl E0 K4
        · refine asks_mk fun a W hS hh hd => ⟨wanted_yes rfl, ?_⟩
          have e0 := hh 10 _ rfl rfl
          have E0 := eval_tmp e0
          exact giv_move rfl E0 K5
        · refine asks_mk fun a W hS hh hd => ⟨wanted_yes rfl, ?_⟩
          have e0 := hd.val (j := 5) (s := 29) (by kernel_rfl) K5
          have E0 := eval_tmp e0
          refine giv_val (c := (.int .i64 (A.length : Int))) ?_ K6 rfl
          go_simp
        · refine asks_mk fun a W hS hh hd => ⟨wanted_yes rfl, ?_⟩
          have e0 := hd.val (j := 4) (s := 28) (by kernel_rfl) K4
          have E0 := eval_tmp e0
          have e1 := hd.val (j := 6) (s := 30) (by kernel_rfl) K6
          have E1 := eval_tmp e1
          refine giv_val (c := (.string ⟨E.toArray⟩)) ?_ K7 rfl
          go_simp
        · refine asks_mk fun a W hS hh hd => ⟨wanted_yes rfl, ?_⟩
          have e0 := hd.val (j := 3) (s := 27) (by kernel_rfl) K3
          have E0 := eval_tmp e0
          have e1 := hd.val (j := 7) (s := 31) (by kernel_rfl) K7
          have E1 := eval_tmp e1
          refine giv_val (c := (.bool true)) ?_ K8 rfl
          go_simp
      · intro a W hS hK
        have e0 := hK.val (i := 0) (s := 24) (by kernel_rfl) K0
        have e1 := hK.val (i := 1) (s := 25) (by kernel_rfl) K1
        have e2 := hK.val (i := 2) (s := 26) (by kernel_rfl) K2
        have e3 := hK.val (i := 3) (s := 27) (by kernel_rfl) K3
        have e4 := hK.val (i := 4) (s := 28) (by kernel_rfl) K4
        have e5 := hK.val (i := 5) (s := 29) (by kernel_rfl) K5
        have e6 := hK.val (i := 6) (s := 30) (by kernel_rfl) K6
        have e7 := hK.val (i := 7) (s := 31) (by kernel_rfl) K7
        have e8 := hK.val (i := 8) (s := 32) (by kernel_rfl) K8
        have hfr := hK.frame [(.agg (cells8 D2)), (.string ⟨h.toArray⟩), (.string ⟨A.toArray⟩), (.string ⟨T.toArray⟩), (.string ⟨x.toArray⟩), (.string ⟨A.toArray⟩), (.int .i64 (A.length : Int)), (.string ⟨E.toArray⟩), (.bool true)] ⟨e0, e1, e2, e3, e4, e5, e6, e7, e8, trivial⟩
        clear K0 e0 K1 e1 K2 e2 K3 e3 K4 e4 K5 e5 K6 e6 K7 e7 K8 e8 hK
        subst hfr
        simp only [putAll, Act.put, List.setIfInBounds_toArray, List.set_cons_succ, List.set_cons_zero]
        have HB4 := Lib.hid (HB3.out.trans (hS.mono HB3.out.size))
        clear hC1 hC2 hS hE2
        go_wp2_with fail
        go_ret2
        exact ⟨rfl, HB4.out⟩
end Go.Proofs.YtconhhhggckcbaaDoor
