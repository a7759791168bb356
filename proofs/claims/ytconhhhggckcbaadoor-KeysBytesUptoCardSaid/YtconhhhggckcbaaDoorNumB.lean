/- Laws and walks that many claims share: Builder, NumRow. -/
import Derived.Shelf.Strings.Builder1
import Derived.Shelf.Strings.Builder2
import Derived.Test.YtconhhhggckcbaaDoorRows
import Derived.Laws.Bits128
import Derived.Deep.DeepCutAuto
import Derived.Test.YtconhhhggckcbaaDoorBaseB
/- The methods of strings.Builder: the shelf's contracts laid at this translation. -/
namespace Go.Proofs.YtconhhhggckcbaaDoor
open Go.Shelf Go.RowKit

def bren : Go.Shelf.Ren := ⟨fun | 165 => 92 | 166 => 94 | 167 => 93 | 169 => 95 | 240 => 103 | 241 => 104 | 276 => 115 | 277 => 116 | n => n, fun | 0 => 0 | 3 => 3 | 4 => 4 | 5 => 5 | 9 => 9 | 20 => 20 | 37 => 52 | 70 => 127 | 72 => 129 | 75 => 132 | 80 => 70 | 127 => 147 | 164 => 163 | n => n, fun | n => n⟩
theorem blays165 : Go.Proofs.Lays.n165 Tryd.prog bren := {
  mixed := by kernel_rfl
  f165 := Tryd.func92.trans (congrArg some (by kernel_rfl))
  f240 := Tryd.func103.trans (congrArg some (by kernel_rfl))
  f241 := Tryd.func104.trans (congrArg some (by kernel_rfl))
  f276 := Tryd.func115.trans (congrArg some (by kernel_rfl))
  f277 := Tryd.func116.trans (congrArg some (by kernel_rfl))
  t0 := Tryd.underlying0
  a0 := Tryd.isAgg0
  z0 := Tryd.sizeOf0
  v0 := Tryd.zeroValue0
  t3 := Tryd.underlying3
  a3 := Tryd.isAgg3
  z3 := Tryd.sizeOf3
  v3 := Tryd.zeroValue3
  t4 := Tryd.underlying4
  a4 := Tryd.isAgg4
  z4 := Tryd.sizeOf4
  v4 := Tryd.zeroValue4
  t9 := Tryd.underlying9
  a9 := Tryd.isAgg9
  z9 := Tryd.sizeOf9
  v9 := Tryd.zeroValue9
  t20 := Tryd.underlying20
  a20 := Tryd.isAgg20
  z20 := Tryd.sizeOf20
  v20 := Tryd.zeroValue20
  t37 := Tryd.underlying52
  a37 := Tryd.isAgg52
  z37 := Tryd.sizeOf52
  v37 := Tryd.zeroValue52
  t70 := Tryd.underlying127
  a70 := Tryd.isAgg127
  z70 := Tryd.sizeOf127
  v70 := Tryd.zeroValue127
  t72 := Tryd.underlying129
  a72 := Tryd.isAgg129
  z72 := Tryd.sizeOf129
  v72 := Tryd.zeroValue129
  t164 := Tryd.underlying163
  a164 := Tryd.isAgg163
  z164 := Tryd.sizeOf163
  v164 := Tryd.zeroValue163 }
theorem blays166 : Go.Proofs.Lays.n166 Tryd.prog bren := {
  mixed := by kernel_rfl
  f166 := Tryd.func94.trans (congrArg some (by kernel_rfl))
  f240 := Tryd.func103.trans (congrArg some (by kernel_rfl))
  f276 := Tryd.func115.trans (congrArg some (by kernel_rfl))
  t0 := Tryd.underlying0
  a0 := Tryd.isAgg0
  z0 := Tryd.sizeOf0
  v0 := Tryd.zeroValue0
  t3 := Tryd.underlying3
  a3 := Tryd.isAgg3
  z3 := Tryd.sizeOf3
  v3 := Tryd.zeroValue3
  t4 := Tryd.underlying4
  a4 := Tryd.isAgg4
  z4 := Tryd.sizeOf4
  v4 := Tryd.zeroValue4
  t9 := Tryd.underlying9
  a9 := Tryd.isAgg9
  z9 := Tryd.sizeOf9
  v9 := Tryd.zeroValue9
  t20 := Tryd.underlying20
  a20 := Tryd.isAgg20
  z20 := Tryd.sizeOf20
  v20 := Tryd.zeroValue20
  t37 := Tryd.underlying52
  a37 := Tryd.isAgg52
  z37 := Tryd.sizeOf52
  v37 := Tryd.zeroValue52
  t70 := Tryd.underlying127
  a70 := Tryd.isAgg127
  z70 := Tryd.sizeOf127
  v70 := Tryd.zeroValue127
  t72 := Tryd.underlying129
  a72 := Tryd.isAgg129
  z72 := Tryd.sizeOf129
  v72 := Tryd.zeroValue129
  t75 := Tryd.underlying132
  a75 := Tryd.isAgg132
  z75 := Tryd.sizeOf132
  v75 := Tryd.zeroValue132
  t164 := Tryd.underlying163
  a164 := Tryd.isAgg163
  z164 := Tryd.sizeOf163
  v164 := Tryd.zeroValue163 }
theorem blays167 : Go.Proofs.Lays.n167 Tryd.prog bren := {
  mixed := by kernel_rfl
  f167 := Tryd.func93.trans (congrArg some (by kernel_rfl))
  f240 := Tryd.func103.trans (congrArg some (by kernel_rfl))
  f276 := Tryd.func115.trans (congrArg some (by kernel_rfl))
  t0 := Tryd.underlying0
  a0 := Tryd.isAgg0
  z0 := Tryd.sizeOf0
  v0 := Tryd.zeroValue0
  t4 := Tryd.underlying4
  a4 := Tryd.isAgg4
  z4 := Tryd.sizeOf4
  v4 := Tryd.zeroValue4
  t5 := Tryd.underlying5
  a5 := Tryd.isAgg5
  z5 := Tryd.sizeOf5
  v5 := Tryd.zeroValue5
  t9 := Tryd.underlying9
  a9 := Tryd.isAgg9
  z9 := Tryd.sizeOf9
  v9 := Tryd.zeroValue9
  t20 := Tryd.underlying20
  a20 := Tryd.isAgg20
  z20 := Tryd.sizeOf20
  v20 := Tryd.zeroValue20
  t37 := Tryd.underlying52
  a37 := Tryd.isAgg52
  z37 := Tryd.sizeOf52
  v37 := Tryd.zeroValue52
  t70 := Tryd.underlying127
  a70 := Tryd.isAgg127
  z70 := Tryd.sizeOf127
  v70 := Tryd.zeroValue127
  t72 := Tryd.underlying129
  a72 := Tryd.isAgg129
  z72 := Tryd.sizeOf129
  v72 := Tryd.zeroValue129
  t75 := Tryd.underlying132
  a75 := Tryd.isAgg132
  z75 := Tryd.sizeOf132
  v75 := Tryd.zeroValue132
  t164 := Tryd.underlying163
  a164 := Tryd.isAgg163
  z164 := Tryd.sizeOf163
  v164 := Tryd.zeroValue163 }
theorem blays169 : Go.Proofs.Lays.n169 Tryd.prog bren := {
  mixed := by kernel_rfl
  f169 := Tryd.func95.trans (congrArg some (by kernel_rfl))
  t0 := Tryd.underlying0
  a0 := Tryd.isAgg0
  z0 := Tryd.sizeOf0
  v0 := Tryd.zeroValue0
  t3 := Tryd.underlying3
  a3 := Tryd.isAgg3
  z3 := Tryd.sizeOf3
  v3 := Tryd.zeroValue3
  t9 := Tryd.underlying9
  a9 := Tryd.isAgg9
  z9 := Tryd.sizeOf9
  v9 := Tryd.zeroValue9
  t37 := Tryd.underlying52
  a37 := Tryd.isAgg52
  z37 := Tryd.sizeOf52
  v37 := Tryd.zeroValue52
  t70 := Tryd.underlying127
  a70 := Tryd.isAgg127
  z70 := Tryd.sizeOf127
  v70 := Tryd.zeroValue127
  t72 := Tryd.underlying129
  a72 := Tryd.isAgg129
  z72 := Tryd.sizeOf129
  v72 := Tryd.zeroValue129
  t127 := Tryd.underlying147
  a127 := Tryd.isAgg147
  z127 := Tryd.sizeOf147
  v127 := Tryd.zeroValue147 }
theorem bextra : Builder.Extra Tryd.prog bren := {
  sizeBuilder := by kernel_rfl
  liesBuilder := by kernel_rfl
  t5 := Tryd.underlying5
  a5 := Tryd.isAgg5
  z5 := Tryd.sizeOf5
  v5 := Tryd.zeroValue5
  infoByte := by kernel_rfl
  cellsByte := by kernel_rfl
  sizeByte := by kernel_rfl
  neB5 := by decide }
/-- a builder, block b, that holds the bytes l. -/
abbrev Bld (B b : Nat) (l : List UInt8) (w : World) : Prop := Lib.BuilderAt 129 5 B b (.pointer (some ⟨b, 0, none⟩)) (Lib.byteCells l) w
theorem bld_grow (B b n : Nat) (w : World) (hB : B ≤ b) (hbk : w.heap[b]? = some (.cells #[.pointer none, .slice none 0 0] 129 (0, 0))) (hBw : B ≤ w.heap.size) (hn : n ≤ 281474976710656) :
    Calls Tryd.prog 92 #[.pointer (some ⟨b, 0, none⟩), .int .i64 n] w fun e w' => e = .returned (.tuple #[]) ∧ (Bld B b [] w' ∧ Below B w w') := Any.Builder_Grow_fresh blays165 bextra B b n w hB hbk hBw hn
theorem byteCells_snoc (l : List UInt8) (c : UInt8) : Lib.byteCells l ++ [.int .u8 c.toNat] = Lib.byteCells (l ++ [c]) := by simp [Lib.byteCells]
theorem byteCells_app (l m : List UInt8) : Lib.byteCells l ++ Lib.byteCells m = Lib.byteCells (l ++ m) := by simp [Lib.byteCells]
theorem bld_byte (B b : Nat) (l : List UInt8) (c : UInt8) (w : World) (h : Bld B b l w) (hlen : l.length + 1 ≤ 140737488355328) (hBw : B ≤ w.heap.size) :
    Calls Tryd.prog 93 #[.pointer (some ⟨b, 0, none⟩), .int .u8 c.toNat] w fun e w' => e = .returned .nilIface ∧ (Bld B b (l ++ [c]) w' ∧ Below B w w') := by
  have H := Any.Builder_WriteByte blays167 bextra B b (Lib.byteCells l) c.toNat w (Or.inr h) (by simpa [Lib.byteCells] using hlen) hBw
  rw [byteCells_snoc] at H
  exact H
theorem bld_text (B b : Nat) (l m : List UInt8) (w : World) (h : Bld B b l w) (hlen : l.length + m.length ≤ 140737488355328) (hBw : B ≤ w.heap.size) :
    Calls Tryd.prog 94 #[.pointer (some ⟨b, 0, none⟩), .string ⟨m.toArray⟩] w fun e w' => e = .returned (.tuple #[.int .i64 m.length, .nilIface]) ∧ (Bld B b (l ++ m) w' ∧ Below B w w') := by
  have H := Any.Builder_WriteString blays166 bextra B b (Lib.byteCells l) ⟨m.toArray⟩ w (Or.inr h) (by simpa [Lib.byteCells, ByteArray.size] using hlen) hBw
  have hs : Lib.strCells ⟨m.toArray⟩ = Lib.byteCells m := by simp [Lib.strCells, Lib.byteCells]
  rw [hs, byteCells_app] at H
  have hz : (ByteArray.size ⟨m.toArray⟩) = m.length := by simp [ByteArray.size]
  rw [hz] at H
  exact H
theorem bld_string (B b : Nat) (l : List UInt8) (w : World) (h : Bld B b l w) (hBw : B ≤ w.heap.size) :
    Calls Tryd.prog 95 #[.pointer (some ⟨b, 0, none⟩)] w fun e w' => e = .returned (.string ⟨l.toArray⟩) ∧ Below B w w' := Any.Builder_String_any blays169 bextra B b l w (Or.inr h) hBw
end Go.Proofs.YtconhhhggckcbaaDoor
/- The walk of num.Row: a row of texts as bytes. -/
namespace Go.Proofs.YtconhhhggckcbaaDoor
open Go.RowKit

theorem lenB_short : ∀ k n : Nat, n < 128 ^ (k + 1) → (lenB n).length ≤ k + 1
  | 0, n, h => by rw [lenB_lt n (by simpa using h)]; exact Nat.le_refl _
  | k + 1, n, h => by
    by_cases h8 : n < 128
    · rw [lenB_lt n h8]; simp
    · rw [lenB_ge n h8, List.length_cons]
      have := lenB_short k (n / 128) (Nat.div_lt_of_lt_mul (by rw [Nat.mul_comm, ← Nat.pow_succ]; exact h))
      omega
theorem rowS_len10 (l : List (List UInt8)) (h : l.flatten.length < 2 ^ 60) : (rowS l).length ≤ l.flatten.length + 10 * l.length := by
  unfold rowS
  induction l with
  | nil => simp
  | cons s l ih =>
    rw [List.flatten_cons, List.length_append] at h
    rw [List.flatMap_cons, List.length_append, List.length_append, List.flatten_cons, List.length_append, List.length_cons]
    have h1 := lenB_short 9 s.length (by omega)
    have h2 := ih (by omega)
    omega
theorem or128 (m : Nat) : bits .or .u8 ((m : Int) % 128) 128 = (((UInt8.ofNat (m % 128 + 128)).toNat : Nat) : Int) := by
  have h : ∀ n : Nat, n < 128 → bits .or .u8 (n : Int) 128 = (((UInt8.ofNat (n + 128)).toNat : Nat) : Int) := by decide +kernel
  rw [← h _ (Nat.mod_lt m (by decide))]
  rfl
theorem low8 (m : Nat) (h : m < 128) : (m : Int) = (((UInt8.ofNat m).toNat : Nat) : Int) := by
  simp; omega

set_option maxRecDepth 100000 in
set_option maxHeartbeats 1000000 in
theorem nrow_any (l : List (List UInt8)) (v : Value) (w : World) (hS : Strs w v l) (hl : l.flatten.length + 10 * l.length ≤ 140737488355328) (hn : l.length < 2 ^ 44) :
    Calls Tryd.prog 59 #[v] w fun e w' => e = .returned (.string ⟨(rowS l).toArray⟩) ∧ Below w.heap.size w w' := by
  obtain ⟨a, c, rfl⟩ := hS.len
  have HS := Lib.hid hS
  clear hS
  go_enter Tryd.func59, Tryd.ntmps59
  go_wp2_with fail
  go_loopw [3, 5, 12] (fun z _ i wr => ∃ k : Nat, k ≤ l.length ∧ i = .int .i64 k ∧ z = .int .i64 (((joinTo l k).length + 4 * k : Nat)) ∧ Below w.heap.size w wr) (fun _ _ i _ => l.length - (intOf i).toNat)
  case atStart => exact ⟨0, by omega, rfl, rfl, Below.refl _ _⟩
  case round =>
    obtain ⟨k, hk, rfl, rfl, hb⟩ := hrel
    have HB := Lib.hid hb
    clear hb
    have hj := joinTo_le l k
    by_cases hlt : k < l.length
    · have hlt' : (k : Int) < l.length := by omega
      rcases HS.out.below HB.out with ⟨_, h2⟩ | ⟨b, o, c', h1, h2, h3⟩
      · subst h2; simp at hlt
      · injection h1 with h1a _ h1c
        subst h1a h1c
        have hc := h3 k hlt
        clear h3
        have hj2 := joinTo_le l (k + 1)
        have HJ := Lib.hid (congrArg List.length (joinTo_succ l k hlt))
        rw [List.length_append] at HJ
        rw [← HJ.out] at hj2
        generalize l.getD k [] = s at *
        unfold tx at hc
        generalize (joinTo l k).length = m at *
        go_wp2_with fail
        go_roundw
        case rel => exact ⟨k + 1, by omega, by go_num, by rw [← HJ.out]; go_num, HB.out⟩
        case measure => simp [intOf]; omega
    · obtain rfl : k = l.length := by omega
      rw [joinTo_all] at *
      clear hj
      generalize hZ : l.flatten.length + 4 * l.length = Z at *
      have hZ' : Z ≤ 281474976710656 := by omega
      have HBS := Lib.hid HB.out.size
      go_upto_region 8 with (fail)
      have HB1 := Lib.hid (HB.out.alloc HB.out.size (.cells #[.pointer none, .slice none 0 0] 129))
      have hbk : (wr.alloc (.cells #[.pointer none, .slice none 0 0] 129)).heap[wr.heap.size]? = some (.cells #[.pointer none, .slice none 0 0] 129 (0, 0)) := by unfold World.alloc; simp
      have HBK := Lib.hid hbk
      clear hbk HB
      generalize wr.alloc (.cells #[.pointer none, .slice none 0 0] 129) = w1 at *
      generalize wr.heap.size = b at *
      go_wp2_with fail
      refine (bld_grow w.heap.size b Z w1 HBS.out HBK.out HB1.out.size hZ').mono ?_
      rintro e w2 ⟨rfl, hD, hb2⟩
      have HD := Lib.hid hD
      have HB2 := Lib.hid (HB1.out.trans hb2)
      clear hD hb2 HB1 HBK hZ hZ'
      go_wp2_with fail
      go_loopw [8, 9, 26] (fun _ _ i wr => ∃ k : Nat, k ≤ l.length ∧ i = .int .i64 k ∧ Bld w.heap.size b (rowS (l.take k)) wr ∧ Below w.heap.size w wr) (fun _ _ i _ => l.length - (intOf i).toNat)
      case atStart => exact ⟨0, by omega, rfl, HD.out, HB2.out⟩
      case round =>
        clear HD HB2
        obtain ⟨k, hk, rfl, hD, hb⟩ := hrel
        have HD := Lib.hid hD
        have HB := Lib.hid hb
        clear hD hb
        by_cases hlt : k < l.length
        · have hlt' : (k : Int) < l.length := by omega
          rcases HS.out.below HB.out with ⟨_, h2⟩ | ⟨b', o, c', h1, h2, h3⟩
          · subst h2; simp at hlt
          · injection h1 with h1a _ h1c
            subst h1a h1c
            have hc := h3 k hlt
            clear h3
            have HSN := Lib.hid (rowS_snoc l k hlt)
            have hle : (rowS (l.take k)).length + (lenB (l.getD k []).length ++ l.getD k []).length ≤ 140737488355328 := by
              rw [← List.length_append, ← rowS_snoc l k hlt]
              have h1 := rowS_len10 (l.take (k + 1)) (Nat.lt_of_le_of_lt (joinTo_le l (k + 1)) (by omega))
              have h2 := joinTo_le l (k + 1)
              unfold joinTo at h2
              rw [List.length_take] at h1
              omega
            rw [List.length_append] at hle
            generalize l.getD k [] = s at *
            generalize rowS (l.take k) = R at *
            unfold tx at hc
            go_wp2_with fail
            go_loopw [9] (fun n wr => ∃ m : Nat, ∃ pre : List UInt8, n = .int .i64 m ∧ pre ++ lenB m = R ++ lenB s.length ∧ Bld w.heap.size b pre wr ∧ Below w.heap.size w wr ∧ m < 2 ^ 48) (fun n _ => (intOf n).toNat)
            case atStart => exact ⟨s.length, R, rfl, rfl, HD.out, HB.out, by omega⟩
            case round =>
              obtain ⟨m, pre, rfl, he, hD, hb, hm⟩ := hrel
              have HD := Lib.hid hD
              have HB := Lib.hid hb
              clear hD hb
              have hel := congrArg List.length he
              rw [List.length_append, List.length_append] at hel
              by_cases hm8 : m < 128
              · rw [lenB_lt m hm8] at he hel
                rw [List.length_singleton] at hel
                have HW := Lib.hid (bld_byte w.heap.size b pre (UInt8.ofNat m) _ HD.out (by omega) HB.out.size)
                rw [← low8 m hm8, he] at HW
                clear HD
                have hpl : (R ++ lenB s.length).length + s.length ≤ 140737488355328 := by rw [List.length_append]; omega
                clear he hel
                go_wp2_with fail
                refine HW.out.mono ?_
                rintro e w5 ⟨rfl, hD5, hb5⟩
                have HB5 := Lib.hid (HB.out.trans hb5)
                have HW5 := Lib.hid (bld_text w.heap.size b _ s _ hD5 hpl HB5.out.size)
                rw [List.append_assoc, ← HSN.out] at HW5
                clear hD5 hb5 HW hpl
                go_wp2_with fail
                refine HW5.out.mono ?_
                rintro e w6 ⟨rfl, hD6, hb6⟩
                have HD6 := Lib.hid hD6
                have HB6 := Lib.hid (HB5.out.trans hb6)
                clear hD6 hb6 HW5 HB5
                go_wp2_with fail
                go_roundw
                case rel => exact ⟨k + 1, by omega, by go_num, HD6.out, HB6.out⟩
                case measure => simp [intOf]; omega
              · rw [lenB_ge m hm8] at he
                have ho := or128 m
                generalize UInt8.ofNat (m % 128 + 128) = x at *
                have hpl : pre.length + 1 ≤ 140737488355328 := by
                  have := congrArg List.length he
                  simp only [List.length_append, List.length_cons] at this
                  omega
                have HW := Lib.hid (bld_byte w.heap.size b pre x _ HD.out hpl HB.out.size)
                rw [← ho] at HW
                clear hpl hel ho HD
                have ha : bits .and .i64 (m : Int) 127 = (m : Int) % 128 := i64_and127 m
                go_wp2_with fail
                refine HW.out.mono ?_
                rintro e w5 ⟨rfl, hD5, hb5⟩
                have HD5 := Lib.hid hD5
                have HB5 := Lib.hid (HB.out.trans hb5)
                clear hD5 hb5 HW
                go_wp2_with fail
                go_roundw
                case rel => exact ⟨m / 128, pre ++ [x], by go_num, by rw [List.append_assoc]; exact he, HD5.out, HB5.out, by omega⟩
                case measure => simp [intOf]; omega
        · obtain rfl : k = l.length := by omega
          rw [List.take_length] at HD
          go_wp2_with fail
          refine (bld_string w.heap.size b (rowS l) _ HD.out HB.out.size).mono ?_
          rintro e w4 ⟨rfl, hb4⟩
          go_wp2_with fail
          go_ret
          exact ⟨rfl, HB.out.trans hb4⟩
end Go.Proofs.YtconhhhggckcbaaDoor
