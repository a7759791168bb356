/- Plain: two shares and a third one that fits another secret. -/
import Derived.Test.YtconhhhggckcbaaDoorShT
namespace Go.Proofs.YtconhhhggckcbaaDoor
open Go.RowKit

theorem shareA_one (s : Sh) : ((shareC s).toArray.all (·.oneCell')) = true := arr_one (List.all_eq_true.2 (shareC_one s))
theorem shareA_size (s : Sh) : (shareC s).toArray.size = 33 := by simp [shareC]
theorem run_keys2 {a : Act} {o : Oper} {w : World} {x y : Operand} {c d : List UInt8} (h : c.length = 32) (h2 : d.length = 32) (ho : o.op = .buildSlice 28 2 #[(0, x), (1, y)]) (hx : a.eval x = .agg (cells8 c)) (hy : a.eval y = .agg (cells8 d)) : (execOp a.eval o).run Tryd.prog w = .ok (.value (.slice (some ⟨w.heap.size, 0, none⟩) 2 2)) (w.alloc (.cells (List.toArray ([c, d].flatMap dgC)) 23)) := by
  have hr : (Instr.buildSlice 28 2 #[(0, .agg (List.toArray (dgC c))), (1, .agg (List.toArray (dgC d)))]).run Tryd.prog w = .ok (.slice (some ⟨w.heap.size, 0, none⟩) 2 2) (w.alloc (.cells (List.toArray ([c, d].flatMap dgC)) 23)) := by kernel_rfl
  have e1 : List.toArray (dgC c) = cells8 c := by rw [dgC_of h]; rfl
  have e2 : List.toArray (dgC d) = cells8 d := by rw [dgC_of h2]; rfl
  rw [e1, e2] at hr
  unfold execOp
  simp only [ho, List.map_toArray, List.map_cons, List.map_nil, hx, hy, Sem.run_bind, hr, Result.andThen_ok, Sem.run_pure]
theorem xor_self3 (a b : UInt8) : a ^^^ (a ^^^ b) = b := by rw [← UInt8.xor_assoc, UInt8.xor_self, UInt8.zero_xor]
/-- two points and the value at nought are a polynomial's. -/
theorem poly_of (s x y vx vy : UInt8) (hx : x ≠ 0) (hy : y ≠ 0) (hxy : x ≠ y) : ∃ p q, evalS [s, p, q] x = vx ∧ evalS [s, p, q] y = vy := by
  have hd : x ^^^ y ≠ 0 := fun h => hxy (xor_eq_zero h)
  obtain ⟨A, hA⟩ : ∃ A, s ^^^ vx = A := ⟨_, rfl⟩
  obtain ⟨B, hB⟩ : ∃ B, s ^^^ vy = B := ⟨_, rfl⟩
  have hA2 : s ^^^ A = vx := by rw [← hA]; exact xor_self3 s vx
  have hB2 : s ^^^ B = vy := by rw [← hB]; exact xor_self3 s vy
  obtain ⟨u, hu⟩ : ∃ u, mulS A (invS x) = u := ⟨_, rfl⟩
  obtain ⟨r, hr⟩ : ∃ r, mulS B (invS y) = r := ⟨_, rfl⟩
  have hux : mulS u x = A := by rw [← hu, mulS_assoc, mulS_comm (invS x) x, mulS_inv x hx, mulS_one]
  have hry : mulS r y = B := by rw [← hr, mulS_assoc, mulS_comm (invS y) y, mulS_inv y hy, mulS_one]
  obtain ⟨q, hq⟩ : ∃ q, mulS (u ^^^ r) (invS (x ^^^ y)) = q := ⟨_, rfl⟩
  have hqd : mulS q (x ^^^ y) = u ^^^ r := by rw [← hq, mulS_assoc, mulS_comm (invS (x ^^^ y)), mulS_inv _ hd, mulS_one]
  refine ⟨u ^^^ mulS q x, q, ?_, ?_⟩
  · rw [eval3, mulS_xorL, hux, mulS_assoc]
    rw [UInt8.xor_assoc, UInt8.xor_assoc, UInt8.xor_self, UInt8.xor_zero]
    exact hA2
  · rw [eval3, mulS_xorL, ← mulS_assoc q y y]
    have h1 : mulS u y ^^^ mulS (mulS q x) y ^^^ mulS (mulS q y) y = mulS (u ^^^ mulS q (x ^^^ y)) y := by
      rw [mulS_xorR, mulS_xorL, mulS_xorL, UInt8.xor_assoc]
    rw [UInt8.xor_assoc, h1, hqd, xor_self3, hry]
    exact hB2
/-- the third share. -/
def thirdS (k : List UInt8) (s0 s1 : Sh) (z : UInt8) : Sh := genS z fun q => atT [0, s0.x, s1.x] [k.getD q 0, s0.d.getD q 0, s1.d.getD q 0] z 3
theorem third_join {k : List UInt8} {s0 s1 : Sh} {z : UInt8} (hk : k.length = 32) (h0 : s0.x ≠ 0) (h1 : s1.x ≠ 0) (hz : z ≠ 0) (h01 : s0.x ≠ s1.x) (h0z : s0.x ≠ z) (h1z : s1.x ≠ z) : joinT [s0, s1, thirdS k s0 s1 z] = some k := by
  have hx : (thirdS k s0 s1 z).x = z := rfl
  rw [joinT, if_neg, if_pos]
  · congr 1
    apply List.ext_getElem?
    intro q
    by_cases hq : q < 32
    · obtain ⟨p, r, e0, e1⟩ := poly_of (k.getD q 0) s0.x s1.x (s0.d.getD q 0) (s1.d.getD q 0) h0 h1 h01
      unfold keyT
      rw [List.getElem?_map, List.getElem?_range hq, Option.map_some, if_pos hq, hx]
      have ht : (thirdS k s0 s1 z).d.getD q 0 = evalS [k.getD q 0, p, r] z := by
        rw [thirdS, genS_d _ _ hq]
        have h9 := at_eval (k.getD q 0) p r 0 s0.x s1.x z (fun h => h0 h.symm) (fun h => h1 h.symm) h01
        rw [eval_zero, e0, e1] at h9
        exact h9
      have h9 := at_eval (k.getD q 0) p r s0.x s1.x z 0 h01 h0z h1z
      rw [e0, e1, eval_zero] at h9
      rw [ht, h9, List.getD_eq_getElem?_getD, List.getElem?_eq_getElem (by omega : q < k.length)]
      rfl
    · rw [List.getElem?_eq_none (by rw [keyT_len]; omega), List.getElem?_eq_none (by omega)]
  · rw [hx]
    simp only [List.nodup_cons, List.mem_cons, List.not_mem_nil, or_false, not_or, not_false_eq_true, List.nodup_nil, and_true]
    exact ⟨⟨h01, h0z⟩, h1z⟩
  · rw [hx]
    rintro (h | h | h)
    · exact h0 h
    · exact h1 h
    · exact hz h
end Go.Proofs.YtconhhhggckcbaaDoor
