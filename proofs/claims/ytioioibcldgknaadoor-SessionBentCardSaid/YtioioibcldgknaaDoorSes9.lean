/- Plain: a box any byte of which is another one is not opened, where unlike texts have unlike digests. -/
import Derived.Test.YtioioibcldgknaaDoorSes5
import Derived.Test.YtioioibcldgknaaDoorDig
namespace Go.Proofs.YtioioibcldgknaaDoor
open Go.RowKit

theorem set_ne {B : List UInt8} {n : Nat} {y : UInt8} (hn : n < B.length) (hy : y.toNat ≠ 0) : (B.set n (bt B n ^^^ y))[n]? ≠ B[n]? := by
  rw [List.getElem?_set_self hn, List.getElem?_eq_getElem hn]
  intro e
  injection e with e
  have hb : bt B n = B[n] := by simp [bt, hn]
  rw [hb] at e
  have h2 : B[n] ^^^ (B[n] ^^^ y) = B[n] ^^^ B[n] := by rw [e]
  rw [← UInt8.xor_assoc, UInt8.xor_self, UInt8.zero_xor] at h2
  rw [h2] at hy
  exact hy rfl
theorem rowS_inj {l m : List (List UInt8)} (hl : ∀ s ∈ l, s.length < 2 ^ 28) (hm : ∀ s ∈ m, s.length < 2 ^ 28) (h : rowS l = rowS m) : l = m := by
  have h1 := textsS_row l hl
  rw [h, textsS_row m hm] at h1
  injection h1 with h1
  exact h1.symm
theorem box_bent (K N H d : List UInt8) (hN : N.length = 12) (n : Nat) (y : UInt8) (hy : y.toNat ≠ 0) (hH : H.length < 2 ^ 27) (hd : d.length < 2 ^ 27) {B B2 : List UInt8} (hB : B = sealS K N H d) (hB2 : B2 = B.set n (bt B n ^^^ y)) (hn : n < B.length)
    (hap : unlikeS [rowS [H, B.take (B.length - 32)], rowS [H, B2.take (B.length - 32)]] ([rowS [H, B.take (B.length - 32)], rowS [H, B2.take (B.length - 32)]].map (keyedS (keyedS K tagT))) = true) : openS K H B2 = ([], 5) := by
  have hL : B.length = d.length + 44 := by rw [hB]; exact sealS_len _ _ _ _ hN
  have hL2 : B2.length = B.length := by rw [hB2]; exact List.length_set ..
  have hA := aheadS_len K N d hN
  have htag : keyedS (keyedS K tagT) (rowS [H, B.take (B.length - 32)]) = B.drop (B.length - 32) := by
    rw [hL, hB, show d.length + 44 - 32 = (aheadS K N d).length by omega]
    unfold sealS
    rw [List.take_left, List.drop_left]
    rfl
  have hne := set_ne hn hy
  rw [← hB2] at hne
  unfold openS
  rw [if_neg (by omega), hL2]
  rw [if_neg ?_]
  intro ht
  have ht' : keyedS (keyedS K tagT) (rowS [H, B2.take (B.length - 32)]) = B2.drop (B.length - 32) := ht
  by_cases hc : n < B.length - 32
  · have hdr : B2.drop (B.length - 32) = B.drop (B.length - 32) := by rw [hB2, List.drop_set_of_lt hc]
    rw [hdr, ← htag] at ht'
    have hrow : rowS [H, B2.take (B.length - 32)] = rowS [H, B.take (B.length - 32)] := by
      refine Classical.byContradiction fun hno => ?_
      have : unlikeS [rowS [H, B.take (B.length - 32)], rowS [H, B2.take (B.length - 32)]] ([rowS [H, B.take (B.length - 32)], rowS [H, B2.take (B.length - 32)]].map (keyedS (keyedS K tagT))) = false := by
        refine all_range_no (i := 1) (by simp) (all_range_no (i := 0) (by omega) ?_)
        unfold unB
        simp only [List.map_cons, List.map_nil, List.getD_cons_zero, List.getD_cons_succ]
        rw [ht', beq_self_eq_true, beq_eq_false_iff_ne.2 hno]
        rfl
      rw [this] at hap
      cases hap
    have hi := rowS_inj (fun s hs => by
      simp only [List.mem_cons, List.not_mem_nil, or_false] at hs
      rcases hs with rfl | rfl
      · omega
      · rw [List.length_take]; omega) (fun s hs => by
      simp only [List.mem_cons, List.not_mem_nil, or_false] at hs
      rcases hs with rfl | rfl
      · omega
      · rw [List.length_take]; omega) hrow
    simp only [List.cons.injEq, and_true, true_and] at hi
    have h1 := congrArg (fun l : List UInt8 => l[n]?) hi
    simp only [List.getElem?_take_of_lt hc] at h1
    exact hne h1
  · have htk : B2.take (B.length - 32) = B.take (B.length - 32) := by rw [hB2, List.take_set_of_le (by omega)]
    rw [htk, htag] at ht'
    have h1 := congrArg (fun l : List UInt8 => l[n - (B.length - 32)]?) ht'
    simp only [List.getElem?_drop, show B.length - 32 + (n - (B.length - 32)) = n by omega] at h1
    exact hne h1.symm
theorem take_bentBox (c : Ch) (x : List UInt8) (hl : c.m.length < 2 ^ 28) (hx : x.length < 2 ^ 28) (hn : c.n < mostN) (ho : openS (keyedS c.k sendT) (headS c.m c.n) x = ([], 5)) : takeS c (rowS [c.m, putS c.n, x]) = (noCh, [], 5) := by
  have hg : getS (putS c.n) = c.n := get_put _ (by unfold mostN at hn; omega)
  unfold takeS
  rw [textsS_row _ (fun s hs => by
    simp only [List.mem_cons, List.not_mem_nil, or_false] at hs
    rcases hs with rfl | rfl | rfl
    · exact hl
    · rw [putS_len]; omega
    · exact hx)]
  simp only [takeL, putS_len, ne_eq, not_true_eq_false, if_false, hg]
  unfold takeB
  rw [if_neg (by omega), if_neg (by omega), Nat.sub_self, nxS, ho]
  rfl
end Go.Proofs.YtioioibcldgknaaDoor
