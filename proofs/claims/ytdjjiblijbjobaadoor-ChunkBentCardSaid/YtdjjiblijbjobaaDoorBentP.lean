/- Plain: a sealed chunk any byte of which, behind the first two, is another one, or that has another name, is not opened, where unlike texts have unlike digests; parts of rows of bytes. -/
import Derived.Test.YtdjjiblijbjobaaDoorChkPB
import Derived.Test.YtdjjiblijbjobaaDoorKyBB
import Derived.Test.YtdjjiblijbjobaaDoorBaseB
namespace Go.Proofs.YtdjjiblijbjobaaDoor
open Go.RowKit

theorem set_ne {B : List UInt8} {n : Nat} {y : UInt8} (hn : n < B.length) (hy : y.toNat ≠ 0) : (B.set n (bt B n ^^^ y))[n]? ≠ B[n]? := by
  rw [List.getElem?_set_self hn, List.getElem?_eq_getElem hn]
  intro e
  injection e with e
  have hb : bt B n = B[n] := by simp [bt, hn]
  rw [hb] at e
  have h2 : B[n] ^^^ (B[n] ^^^ y) = B[n] ^^^ B[n] := by rw [e]
  rw [← UInt8.xor_assoc, UInt8.xor_self, UInt8.zero_xor] at h2
  rw [h2] at hy
  exact hy rfl
theorem rowS_inj {l m : List (List UInt8)} (hl : ∀ s ∈ l, s.length < 2 ^ 28) (hm : ∀ s ∈ m, s.length < 2 ^ 28) (h : rowS l = rowS m) : l = m := by
  have h1 := textsS_row l hl
  rw [h, textsS_row m hm] at h1
  injection h1 with h1
  exact h1.symm
theorem box_bent (K N H d : List UInt8) (hN : N.length = 12) (n : Nat) (y : UInt8) (hy : y.toNat ≠ 0) (hH : H.length < 2 ^ 27) (hd : d.length < 2 ^ 27) {B B2 : List UInt8} (hB : B = sealS K N H d) (hB2 : B2 = B.set n (bt B n ^^^ y)) (hn : n < B.length)
    (hap : unlikeS [rowS [H, B.take (B.length - 32)], rowS [H, B2.take (B.length - 32)]] ([rowS [H, B.take (B.length - 32)], rowS [H, B2.take (B.length - 32)]].map (keyedS (keyedS K tagT))) = true) : openS K H B2 = ([], 5) := by
  have hL : B.length = d.length + 44 := by rw [hB]; exact sealS_len _ _ _ _ hN
  have hL2 : B2.length = B.length := by rw [hB2]; exact List.length_set ..
  have hA := aheadS_len K N d hN
  have htag : keyedS (keyedS K tagT) (rowS [H, B.take (B.length - 32)]) = B.drop (B.length - 32) := by
    rw [hL, hB, show d.length + 44 - 32 = (aheadS K N d).length by omega]
    unfold sealS
    rw [List.take_left, List.drop_left]
    rfl
  have hne := set_ne hn hy
  rw [← hB2] at hne
  unfold openS
  rw [if_neg (by omega), hL2]
  rw [if_neg ?_]
  intro ht
  have ht' : keyedS (keyedS K tagT) (rowS [H, B2.take (B.length - 32)]) = B2.drop (B.length - 32) := ht
  by_cases hc : n < B.length - 32
  · have hdr : B2.drop (B.length - 32) = B.drop (B.length - 32) := by rw [hB2, List.drop_set_of_lt hc]
    rw [hdr, ← htag] at ht'
    have hrow : rowS [H, B2.take (B.length - 32)] = rowS [H, B.take (B.length - 32)] := by
      refine Classical.byContradiction fun hno => ?_
      have : unlikeS [rowS [H, B.take (B.length - 32)], rowS [H, B2.take (B.length - 32)]] ([rowS [H, B.take (B.length - 32)], rowS [H, B2.take (B.length - 32)]].map (keyedS (keyedS K tagT))) = false := by
        refine all_range_no (i := 1) (by simp) (all_range_no (i := 0) (by omega) ?_)
        unfold unB
        simp only [List.map_cons, List.map_nil, List.getD_cons_zero, List.getD_cons_succ]
        rw [ht', beq_self_eq_true, beq_eq_false_iff_ne.2 hno]
        rfl
      rw [this] at hap
      cases hap
    have hi := rowS_inj (fun s hs => by
      simp only [List.mem_cons, List.not_mem_nil, or_false] at hs
      rcases hs with rfl | rfl
      · omega
      · rw [List.length_take]; omega) (fun s hs => by
      simp only [List.mem_cons, List.not_mem_nil, or_false] at hs
      rcases hs with rfl | rfl
      · omega
      · rw [List.length_take]; omega) hrow
    simp only [List.cons.injEq, and_true, true_and] at hi
    have h1 := congrArg (fun l : List UInt8 => l[n]?) hi
    simp only [List.getElem?_take_of_lt hc] at h1
    exact hne h1
  · have htk : B2.take (B.length - 32) = B.take (B.length - 32) := by rw [hB2, List.take_set_of_le (by omega)]
    rw [htk, htag] at ht'
    have h1 := congrArg (fun l : List UInt8 => l[n - (B.length - 32)]?) ht'
    simp only [List.getElem?_drop, show B.length - 32 + (n - (B.length - 32)) = n by omega] at h1
    exact hne h1.symm
theorem unlike_at {l S : List (List UInt8)} (h : unlikeS l S = true) {i k : Nat} (hi : i < l.length) (hk : k < i) : unB l S i k = true := by
  unfold unlikeS at h
  have h1 := List.all_eq_true.1 h i (List.mem_range.2 hi)
  unfold unS at h1
  exact List.all_eq_true.1 h1 k (List.mem_range.2 hk)
theorem unlike_two {a b c : List UInt8} {f : List UInt8 → List UInt8} (h : unlikeS [a, b, c] ([a, b, c].map f) = true) : unlikeS [a, b] ([a, b].map f) = true := by
  have h1 := unlike_at h (i := 1) (k := 0) (by simp) (by omega)
  have e : unB [a, b, c] ([a, b, c].map f) 1 0 = unB [a, b] ([a, b].map f) 1 0 := rfl
  rw [e] at h1
  refine all_range_snoc (i := 1) (all_range_snoc (i := 0) rfl rfl) ?_
  exact all_range_snoc (i := 0) rfl h1
theorem map3_0 {f : List UInt8 → List UInt8} {a b c : List UInt8} : ([a, b, c].map f).getD 0 [] = f a := rfl
theorem map3_2 {f : List UInt8 → List UInt8} {a b c : List UInt8} : ([a, b, c].map f).getD 2 [] = f c := rfl
theorem at3_0 {a b c : List UInt8} : [a, b, c].getD 0 [] = a := rfl
theorem at3_2 {a b c : List UInt8} : [a, b, c].getD 2 [] = c := rfl
theorem box_other (K N H O d : List UInt8) (hN : N.length = 12) (hH : H.length < 2 ^ 27) (hO : O.length < 2 ^ 27) (hd : d.length < 2 ^ 27) {B R : List UInt8} (hB : B = sealS K N H d) (hne : O ≠ H)
    (hap : unlikeS [rowS [H, B.take (B.length - 32)], R, rowS [O, B.take (B.length - 32)]] ([rowS [H, B.take (B.length - 32)], R, rowS [O, B.take (B.length - 32)]].map (keyedS (keyedS K tagT))) = true) : openS K O B = ([], 5) := by
  have hL : B.length = d.length + 44 := by rw [hB]; exact sealS_len _ _ _ _ hN
  have hA := aheadS_len K N d hN
  have htag : keyedS (keyedS K tagT) (rowS [H, B.take (B.length - 32)]) = B.drop (B.length - 32) := by
    rw [hL, hB, show d.length + 44 - 32 = (aheadS K N d).length by omega]
    unfold sealS
    rw [List.take_left, List.drop_left]
    rfl
  unfold openS
  rw [if_neg (by omega), if_neg ?_]
  intro ht
  have ht' : keyedS (keyedS K tagT) (rowS [O, B.take (B.length - 32)]) = B.drop (B.length - 32) := ht
  rw [← htag] at ht'
  have h1 := unlike_at hap (i := 2) (k := 0) (by simp) (by omega)
  unfold unB at h1
  rw [map3_2, map3_0, at3_2, at3_0, ht', beq_self_eq_true] at h1
  have hrow : rowS [O, B.take (B.length - 32)] = rowS [H, B.take (B.length - 32)] := by simpa using h1
  have hi := rowS_inj (fun s hs => by
    simp only [List.mem_cons, List.not_mem_nil, or_false] at hs
    rcases hs with rfl | rfl
    · omega
    · rw [List.length_take]; omega) (fun s hs => by
    simp only [List.mem_cons, List.not_mem_nil, or_false] at hs
    rcases hs with rfl | rfl
    · omega
    · rw [List.length_take]; omega) hrow
  simp only [List.cons.injEq, and_true] at hi
  exact hne hi
theorem openC_fell {K : List (List UInt8)} {nm x : List UInt8} {j : Nat} (h2 : 2 ≤ x.length) (hj : get2 x = j) (hjk : j < K.length) (ho : openS (bkeyS K j) nm (x.drop 2) = ([], 5)) : openC K nm x = ([], 5) := by
  unfold openC
  rw [hj, if_neg (by omega), if_neg (by omega), ho]
  rfl
section
variable {P : Program} {a : Act} {o : Oper} {w : World} {g : Nat} {l : List UInt8} {x y z : Operand}
theorem giv_strsV {P : Program} {KL : List Kd} {i : Nat} {W : World} {u : Value} {X : List (List UInt8)} (hrun : (execOp a.eval o).run P W = .ok (.value u) W) (hs : Strs W u X) (hk : KL.getD i kany = kstrs X) : GivesT P (grows i W) (kT KL i) ((execOp a.eval o).run P W) := by
  rw [hrun]
  refine ⟨Below.refl _ _, ?_⟩
  unfold kT; rw [hk]; exact hs
theorem run_midY {c m i j : Nat} {k k2 : IntKind} {p q : Int} (ho : o.op = .slice 48 x (some y) (some z) none) (hx : a.eval x = .slice (some ⟨g, 0, none⟩) m c) (hy : a.eval y = .int k p) (hz : a.eval z = .int k2 q) (hp : p = (i : Int)) (hq : q = (j : Int)) (hij : i ≤ j) (hj : j ≤ c) (hic : i < c) (hi0 : i ≠ 0 := by decide) :
    (execOp a.eval o).run Tryd.prog w = .ok (.value (.slice (some ⟨g, i, none⟩) (j - i) (c - i))) w := by
  subst hp hq
  have hr := run_slice_lh (P := Tryd.prog) w 48 (some ⟨g, 0, none⟩) m c unY k k2 (i : Int) (j : Int) (by omega) (by omega) (by omega)
  have hsz := szY w
  have hs : (Instr.sliceAt 48 (.slice (some ⟨g, 0, none⟩) m c) (some (.int k (i : Int))) (some (.int k2 (j : Int))) none).run Tryd.prog w = .ok (.slice (some ⟨g, i, none⟩) (j - i) (c - i)) w := by
    rw [run_sliceAt_slice w 48 _ _ _ _ unY, hr, hsz]
    have hne : c ≠ i := by omega
    simp [sliced, Addr.add, hne, hi0]
  unfold execOp
  simp only [ho, hx, hy, hz, Option.map, Sem.run_bind, hs, Result.andThen_ok, Sem.run_pure]
theorem run_strYm {c i j : Nat} (h : ∃ ob, w.heap[g]? = some ob ∧ isY l ob) (hj : i + j ≤ l.length) : (convert 48 9 (.slice (some ⟨g, i, none⟩) j c)).run Tryd.prog w = .ok (.string ⟨((l.drop i).take j).toArray⟩) w := by
  have hl : ((l.drop i).take j).length = j := by rw [List.length_take, List.length_drop]; omega
  refine run_strOf hl fun q hq => ?_
  rw [hl] at hq
  rw [isY_cell h (by omega)]
  simp [bt, hq]
end
end Go.Proofs.YtdjjiblijbjobaaDoor
