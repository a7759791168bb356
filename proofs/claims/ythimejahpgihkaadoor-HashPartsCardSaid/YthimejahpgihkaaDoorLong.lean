/- The walk of the hash laws' 'long': parts that are not too long are few, and have few bytes. -/
import Derived.Test.YthimejahpgihkaaDoorRkeyed
namespace Go.Proofs.YthimejahpgihkaaDoor
open Go.RowKit

def minTo (l : List (List UInt8)) : Nat → Nat
  | 0 => 0
  | i + 1 => minTo l i + min (l.getD i []).length 2000
theorem minTo_le (l : List (List UInt8)) (i : Nat) : minTo l i ≤ 2000 * i := by
  induction i with
  | zero => simp [minTo]
  | succ i ih => rw [minTo]; omega
theorem minTo_join (l : List (List UInt8)) (i : Nat) (hi : i ≤ l.length) (h : minTo l i ≤ 700) : (joinTo l i).length = minTo l i := by
  induction i with
  | zero => simp [joinTo, minTo]
  | succ i ih =>
    rw [minTo] at h
    rw [← joinTo_succ l i (by omega), List.length_append, ih (by omega) (by omega), minTo]
    omega
/-- what is known of the answer. -/
def LongPost (l : List (List UInt8)) (w : World) (e : Ending) (w' : World) : Prop := ∃ b : Bool, e = .returned (.bool b) ∧ w = w' ∧ (b = false → l.length ≤ 30 ∧ l.flatten.length ≤ 700)
set_option maxRecDepth 100000 in
set_option maxHeartbeats 1000000 in
theorem long_any (l : List (List UInt8)) (v : Value) (w : World) (hS : Strs w v l) (hn : l.length ≤ maxLen) :
    Calls Tryd.prog 14 #[v] w (LongPost l w) := by
  obtain ⟨a, c, rfl⟩ := hS.len
  have HS := Lib.hid hS
  clear hS
  unfold maxLen at hn
  by_cases h30 : 30 < l.length
  · have hd : decide ((30 : Int) < (l.length : Int)) = true := by simp; omega
    go_enter Tryd.func14, Tryd.ntmps14
    go_wp2
    go_ret
    exact ⟨true, rfl, rfl, fun h => by cases h⟩
  · have hd : decide ((30 : Int) < (l.length : Int)) = false := by simp; omega
    go_enter Tryd.func14, Tryd.ntmps14
    go_wp2
    clear hd
    go_loop [3, 4] (fun t i => ∃ k : Nat, k ≤ l.length ∧ i = .int .i64 k ∧ t = .int .i64 ((minTo l k : Nat) : Int)) (fun _ i => l.length - (intOf i).toNat)
    case atStart => exact ⟨0, by omega, rfl, rfl⟩
    case round =>
      obtain ⟨k, hk, rfl, rfl⟩ := hrel
      have hm := minTo_le l k
      by_cases hlt : k < l.length
      · have hlt' : (k : Int) < l.length := by omega
        rcases HS.out with ⟨_, h2⟩ | ⟨b, o, c', h1, h2, h3⟩
        · subst h2; simp at hlt
        · injection h1 with h1a _ h1c
          subst h1a h1c
          have hc := h3 k hlt
          clear h3
          have HM : Hid (minTo l (k + 1) = minTo l k + min (l.getD k []).length 2000) := Lib.hid rfl
          generalize l.getD k [] = s at *
          unfold tx at hc
          generalize minTo l k = m at *
          by_cases h2k : s.length ≤ 2000
          · have h2k' : (s.length : Int) ≤ 2000 := by omega
            go_wp2
            go_round
            case rel => exact ⟨k + 1, by omega, by go_num, by rw [HM.out, Nat.min_eq_left h2k]; go_num⟩
            case measure => simp [intOf]; omega
          · have h2k' : ¬ (s.length : Int) ≤ 2000 := by omega
            have h2k'' : (2000 : Int) ≤ (s.length : Int) := by omega
            go_wp2
            go_round
            case rel => exact ⟨k + 1, by omega, by go_num, by rw [HM.out, Nat.min_eq_right (by omega)]; go_num⟩
            case measure => simp [intOf]; omega
      · obtain rfl : k = l.length := by omega
        by_cases h7 : 700 < minTo l l.length
        · have hd : decide ((700 : Int) < ((minTo l l.length : Nat) : Int)) = true := by simp; omega
          go_wp2
          go_ret
          exact ⟨true, rfl, rfl, fun h => by cases h⟩
        · have hd : decide ((700 : Int) < ((minTo l l.length : Nat) : Int)) = false := by simp; omega
          have hj := minTo_join l l.length (Nat.le_refl _) (by omega)
          rw [joinTo_all] at hj
          have HJ := Lib.hid hj
          clear hj
          go_wp2
          go_ret
          exact ⟨false, rfl, rfl, fun _ => ⟨by omega, by rw [HJ.out]; omega⟩⟩
end Go.Proofs.YthimejahpgihkaaDoor
