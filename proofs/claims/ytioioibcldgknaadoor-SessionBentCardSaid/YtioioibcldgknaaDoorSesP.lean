/- Plain: ends of a channel, what they send and take. -/
import Derived.Test.YtioioibcldgknaaDoorOpenSeal
import Derived.Test.YtioioibcldgknaaDoorNumTexts
import Derived.Test.YtioioibcldgknaaDoorSesS
namespace Go.Proofs.YtioioibcldgknaaDoor
open Go.RowKit

/-- an end of a channel. -/
structure Ch where
  m : List UInt8
  n : Nat
  k : List UInt8
def noCh : Ch := ⟨[], 0, List.replicate 32 0⟩
def sendT : List UInt8 := [115, 101, 110, 100]
def nextT : List UInt8 := [110, 101, 120, 116]
def replyT : List UInt8 := [114, 101, 112, 108, 121]
def nextS (k : List UInt8) : List UInt8 := keyedS k nextT
def nxS (k : List UInt8) : Nat → List UInt8
  | 0 => k
  | i + 1 => nextS (nxS k i)
def headS (m : List UInt8) (n : Nat) : List UInt8 := rowS [m, putS n]
def boxS (c : Ch) (d : List UInt8) : List UInt8 := sealS (keyedS c.k sendT) (nonceS (putS c.n)) (headS c.m c.n) d
def frameS (c : Ch) (d : List UInt8) : List UInt8 := rowS [c.m, putS c.n, boxS c d]
def goS (c : Ch) : Ch := ⟨c.m, c.n + 1, nextS c.k⟩
def mostN : Nat := 18446744073709551615
/-- what Send answers. -/
def sendS (c : Ch) (d : List UInt8) : Ch × List UInt8 × Int :=
  if 65536 < d.length then (noCh, [], 6) else if c.n = mostN then (noCh, [], 2) else (goS c, frameS c d, 0)
/-- what Take answers to a number and a box. -/
def takeB (c : Ch) (n : Nat) (x : List UInt8) : Ch × List UInt8 × Int :=
  if n < c.n then (noCh, [], 19) else if 1000 < n - c.n ∨ n = mostN then (noCh, [], 6) else
  if (openS (keyedS (nxS c.k (n - c.n)) sendT) (headS c.m n) x).2 = 0 then (⟨c.m, n + 1, nextS (nxS c.k (n - c.n))⟩, (openS (keyedS (nxS c.k (n - c.n)) sendT) (headS c.m n) x).1, 0)
  else (noCh, [], (openS (keyedS (nxS c.k (n - c.n)) sendT) (headS c.m n) x).2)
def takeL (c : Ch) : List (List UInt8) → Ch × List UInt8 × Int
  | [m, b, x] => if b.length ≠ 8 then (noCh, [], 3) else if m ≠ c.m then (noCh, [], 7) else takeB c (getS b) x
  | _ => (noCh, [], 3)
def takeS (c : Ch) (f : List UInt8) : Ch × List UInt8 × Int := match textsS f with
  | .error e => (noCh, [], e)
  | .ok l => takeL c l
def replyS (k : List UInt8) (n : Nat) (d : List UInt8) : List UInt8 := sealS (keyedS k replyT) (nonceS (putS n)) (putS n) d
def answerS (k : List UInt8) (n : Nat) (x : List UInt8) : List UInt8 × Int := openS (keyedS k replyT) (putS n) x

theorem lenB_small (n : Nat) (h : n < 2 ^ 28) : (lenB n).length ≤ 4 := by
  by_cases h1 : n < 128
  · rw [lenB_lt n h1]; simp
  rw [lenB_ge n h1]
  by_cases h2 : n / 128 < 128
  · rw [lenB_lt _ h2]; simp
  rw [lenB_ge _ h2]
  by_cases h3 : n / 128 / 128 < 128
  · rw [lenB_lt _ h3]; simp
  rw [lenB_ge _ h3, lenB_lt _ (by omega)]
  simp
theorem nextS_len (k : List UInt8) : (nextS k).length = 32 := keyedS_len _ _
theorem nxS_len {k : List UInt8} (h : k.length = 32) : ∀ i, (nxS k i).length = 32
  | 0 => h
  | _ + 1 => nextS_len _
theorem noCh_len : noCh.k.length = 32 := by unfold noCh; exact List.length_replicate
theorem headS_len (m : List UInt8) (n : Nat) (h : m.length < 2 ^ 28) : (headS m n).length ≤ m.length + 16 := by
  unfold headS
  have h1 := lenB_small m.length (by omega)
  rw [rowS_cons, rowS_cons, rowS_nil]
  simp only [List.length_append, List.length_nil, putS_len]
  have h2 := lenB_small 8 (by omega)
  omega
theorem boxS_len (c : Ch) (d : List UInt8) : (boxS c d).length = d.length + 44 := sealS_len _ _ _ _ (nonceS_len _)
theorem frameS_texts (c : Ch) (d : List UInt8) (hm : c.m.length < 2 ^ 28) (hd : d.length < 2 ^ 27) : textsS (frameS c d) = .ok [c.m, putS c.n, boxS c d] := by
  refine textsS_row _ fun s hs => ?_
  simp only [List.mem_cons, List.not_mem_nil, or_false] at hs
  rcases hs with rfl | rfl | rfl
  · exact hm
  · rw [putS_len]; omega
  · rw [boxS_len]; omega
theorem frameS_len (c : Ch) (d : List UInt8) (hm : c.m.length < 2 ^ 28) (hd : d.length < 2 ^ 27) : (frameS c d).length ≤ c.m.length + d.length + 80 := by
  unfold frameS
  rw [rowS_cons, rowS_cons, rowS_cons, rowS_nil]
  have h1 := lenB_small c.m.length (by omega)
  have h2 := lenB_small 8 (by omega)
  have h3 := lenB_small (boxS c d).length (by rw [boxS_len]; omega)
  have h4 := boxS_len c d
  simp only [List.length_append, List.length_nil, putS_len]
  omega
theorem textsS_err : ∀ (f : Nat) (b : List UInt8) (e : Int), b.length ≤ f → textsS b = .error e → e = 3 ∨ e = 4
  | 0, b, e, hf, h => by
    have : b = [] := List.eq_nil_of_length_eq_zero (by omega)
    subst this
    rw [textsS_nil] at h; cases h
  | f + 1, b, e, hf, h => by
    by_cases hb : b = []
    · subst hb; rw [textsS_nil] at h; cases h
    · rw [textsS_step hb] at h
      cases hl : lenP 0 b with
      | error e2 =>
        rw [hl] at h
        injection h with h
        subst h
        have key : ∀ (b : List UInt8) (k : Nat) (e : Int), lenP k b = .error e → e = 3 ∨ e = 4 := by
          intro b
          induction b with
          | nil => intro k e h; simp [lenP] at h; omega
          | cons c r ih =>
            intro k e h
            unfold lenP at h
            split at h
            · split at h
              · injection h with h; omega
              · cases h
            · split at h
              · injection h with h; omega
              · cases hq : lenP (k + 1) r with
                | ok p => rw [hq] at h; cases h
                | error e2 => rw [hq] at h; injection h with h; subst h; exact ih (k + 1) _ hq
        exact key b 0 _ hl
      | ok p =>
        obtain ⟨n, x⟩ := p
        rw [hl] at h
        dsimp only at h
        by_cases hn : x.length < n
        · rw [if_pos hn] at h; injection h with h; omega
        · rw [if_neg hn] at h
          have := lenP_len (by omega) hl
          cases ht : textsS (x.drop n) with
          | ok l => rw [ht] at h; cases h
          | error e2 =>
            rw [ht] at h
            injection h with h
            subst h
            exact textsS_err f (x.drop n) _ (by rw [List.length_drop]; omega) ht
/-- what was sent is taken by who is at most a thousand behind. -/
theorem take_sent (b c : Ch) (d : List UInt8) (hm : b.m = c.m) (hl : c.m.length < 2 ^ 28) (hd : d.length < 2 ^ 27) (hn : c.n < mostN) (hle : b.n ≤ c.n) (hfar : c.n - b.n ≤ 1000) (hk : nxS b.k (c.n - b.n) = c.k) :
    takeS b (frameS c d) = (goS c, d, 0) := by
  unfold takeS
  rw [frameS_texts c d hl hd]
  have hg : getS (putS c.n) = c.n := get_put _ (by unfold mostN at hn; omega)
  simp only [takeL, putS_len, ne_eq, not_true_eq_false, if_false]
  rw [if_neg (by rw [hm]; simp), hg]
  unfold takeB
  rw [if_neg (by omega), if_neg (by omega), hk, hm]
  unfold boxS
  rw [openS_seal _ _ _ _ (nonceS_len _), if_pos rfl]
  rfl
theorem take_old (b c : Ch) (d : List UInt8) (hm : b.m = c.m) (hl : c.m.length < 2 ^ 28) (hd : d.length < 2 ^ 27) (hn : c.n < mostN) (hlt : c.n < b.n) : takeS b (frameS c d) = (noCh, [], 19) := by
  unfold takeS
  rw [frameS_texts c d hl hd]
  have hg : getS (putS c.n) = c.n := get_put _ (by unfold mostN at hn; omega)
  simp only [takeL, putS_len, ne_eq, not_true_eq_false, if_false]
  rw [if_neg (by rw [hm]; simp), hg]
  unfold takeB
  rw [if_pos hlt]
theorem openS_or (k h x : List UInt8) (hn : (openS k h x).2 ≠ 0) : (openS k h x).1 = [] := by
  unfold openS at hn ⊢
  split
  · rfl
  · rename_i hs
    rw [if_neg hs] at hn
    split
    · rename_i ht
      rw [if_pos ht] at hn
      exact absurd rfl hn
    · rfl
theorem sendS_ok (c : Ch) (d : List UInt8) (hd : d.length ≤ 65536) (hn : c.n ≠ mostN) : sendS c d = (goS c, frameS c d, 0) := by
  unfold sendS
  rw [if_neg (by omega), if_neg hn]
theorem takeB_k (c : Ch) (n : Nat) (x : List UInt8) : (takeB c n x).1.k.length = 32 := by
  unfold takeB
  split
  · exact noCh_len
  · split
    · exact noCh_len
    · split
      · dsimp only
        exact nextS_len _
      · exact noCh_len
theorem takeS_k (c : Ch) (f : List UInt8) : (takeS c f).1.k.length = 32 := by
  unfold takeS
  split
  · exact noCh_len
  · unfold takeL
    split
    · split
      · exact noCh_len
      · split
        · exact noCh_len
        · exact takeB_k c _ _
    · exact noCh_len
theorem sendS_k (c : Ch) (d : List UInt8) : (sendS c d).1.k.length = 32 := by
  unfold sendS
  split
  · exact noCh_len
  · split
    · exact noCh_len
    · dsimp only [goS]
      exact nextS_len _
end Go.Proofs.YtioioibcldgknaaDoor
