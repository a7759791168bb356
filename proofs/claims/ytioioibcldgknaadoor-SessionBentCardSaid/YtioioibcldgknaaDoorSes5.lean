/- Plain: what becomes of what was sent, by whom it is taken. Printed by gen_ses5.py. -/
import Derived.Test.YtioioibcldgknaaDoorSes4
namespace Go.Proofs.YtioioibcldgknaaDoor
open Go.RowKit

attribute [local simp] xorS_len tagS_len keyedS_len nonceS_len
theorem openS_five (k h x : List UInt8) (hx : 44 ≤ x.length) (hn : (openS k h x).2 ≠ 0) : (openS k h x).2 = 5 := by
  unfold openS at hn ⊢
  rw [if_neg (by omega)] at hn ⊢
  split
  · rename_i ht
    rw [if_pos ht] at hn
    exact absurd rfl hn
  · rfl
theorem take_name (b c : Ch) (d : List UInt8) (hm : b.m ≠ c.m) (hl : c.m.length < 2 ^ 28) (hd : d.length < 2 ^ 27) : takeS b (frameS c d) = (noCh, [], 7) := by
  unfold takeS
  rw [frameS_texts c d hl hd]
  simp only [takeL, putS_len, ne_eq, not_true_eq_false, if_false]
  rw [if_pos (fun e => hm e.symm)]
theorem take_bent (b c : Ch) (d : List UInt8) (hm : b.m = c.m) (hl : c.m.length < 2 ^ 28) (hd : d.length < 2 ^ 27) (hn : c.n < mostN) (hbn : b.n = c.n) (hno : (takeS b (frameS c d)).2.2 ≠ 0) : takeS b (frameS c d) = (noCh, [], 5) := by
  have hg : getS (putS c.n) = c.n := get_put _ (by unfold mostN at hn; omega)
  have e1 : takeS b (frameS c d) = takeB b c.n (boxS c d) := by
    unfold takeS
    rw [frameS_texts c d hl hd]
    simp only [takeL, putS_len, ne_eq, not_true_eq_false, if_false]
    rw [if_neg (by rw [hm]; simp), hg]
  rw [e1] at hno ⊢
  unfold takeB at hno ⊢
  rw [if_neg (by omega), if_neg (by omega)] at hno ⊢
  split
  · rename_i hz
    rw [if_pos hz] at hno
    exact absurd rfl hno
  · rename_i hz
    rw [openS_five _ _ _ (by rw [boxS_len]; omega) hz]
theorem take_far (b c : Ch) (d : List UInt8) (hm : b.m = c.m) (hl : c.m.length < 2 ^ 28) (hd : d.length < 2 ^ 27) (hn : c.n < mostN) (hfar : 1000 < c.n - b.n) : takeS b (frameS c d) = (noCh, [], 6) := by
  have hg : getS (putS c.n) = c.n := get_put _ (by unfold mostN at hn; omega)
  unfold takeS
  rw [frameS_texts c d hl hd]
  simp only [takeL, putS_len, ne_eq, not_true_eq_false, if_false]
  rw [if_neg (by rw [hm]; simp), hg]
  unfold takeB
  rw [if_neg (by omega), if_pos (.inl hfar)]
/-- an end that has sent so many messages. -/
def itS (c : Ch) : Nat → Ch
  | 0 => c
  | i + 1 => goS (itS c i)
theorem itS_m (c : Ch) : ∀ i, (itS c i).m = c.m
  | 0 => rfl
  | i + 1 => by rw [itS, goS_m, itS_m c i]
theorem itS_n (c : Ch) : ∀ i, (itS c i).n = c.n + i
  | 0 => rfl
  | i + 1 => by rw [itS, goS_n, itS_n c i]; omega
theorem itS_k (c : Ch) : ∀ i, (itS c i).k = nxS c.k i
  | 0 => by rw [itS, nxS]
  | i + 1 => by rw [itS, goS_k, itS_k c i, nxS]
theorem itS_len {c : Ch} (h : c.k.length = 32) (i : Nat) : (itS c i).k.length = 32 := by rw [itS_k]; exact nxS_len h i
def frI (c : Ch) (d : List UInt8) : Nat → List UInt8
  | 0 => []
  | i + 1 => frameS (itS c i) d
end Go.Proofs.YtioioibcldgknaaDoor
