/- The walk of the law CipherBack: it answers true, whatever comes in, and leaves old memory as it was. Printed by gen_law3.py. -/
import Derived.Test.YthimejahpgihkaaLaw2
import Derived.Test.YthimejahpgihkaaStreamLaws
namespace Go.Proofs.Ythimejahpgihkaa
open Go.RowKit

/-- a whole array read, guarded or not. -/
theorem wpList_loadMg {P : Program} {w : World} {ops : Array Oper} {rest : List Oper} {o : Oper} {a : Act} {Q : Exit → Act → World → Prop} (ty : TypeId) (x : Operand) (ho : o.op = .load ty x) (hw : Region.wanted o (yielded ops a.tmps) = true)
    (b off : Nat) (hx : a.eval x = .pointer (some ⟨b, off, none⟩)) (l : List UInt8) (hc : w.rangeAt b off (l.map cb)) {d : TypeDesc} (hu : P.underlying ty = some d) (hd : d.isRow = true) {m : Nat}
    (hi : (P.info? ty).map (·.size) = some m) (hm : l.length = m) (h : wpList P ops Q rest (a.put o.dst (.agg (cells8 l))) w) : wpList P ops Q (o :: rest) a w := by
  unfold wpList
  rw [if_pos hw]
  exact .inl (wp_load_mid ty x ho b off hx (l.map cb) d hc hu hd (by rw [List.length_map, hm]; exact hi) h)

set_option maxRecDepth 100000 in
set_option maxHeartbeats 1000000 in
theorem cback_any (k nonce : List UInt8) (n : Wd) (data : List UInt8) (w : World) (hk : k.length = 32) (hn : nonce.length = 12) (hd : data.length ≤ maxLen) :
    Calls Try.prog 5 #[.agg (caseCells k nonce n), .string ⟨data.toArray⟩] w fun e w' => e = .returned (.bool true) ∧ Below w.heap.size w w' := by
  have HK := Lib.hid hk
  have HN := Lib.hid hn
  clear hk hn
  unfold maxLen at hd
  have hb1 : Below w.heap.size w (w.alloc (.cells (caseCells k nonce n) 31)) := (Below.refl _ _).alloc (Nat.le_refl _) _
  by_cases hlen : 5000 < data.length
  · have hlen' : (5000 : Int) < (data.length : Int) := by omega
    go_enter Try.func5, Try.ntmps5
    go_wp2_with fail
    refine (fixed_any _).mono ?_
    rintro e w1 ⟨rfl, hb⟩
    go_wp2
    go_ret
    exact ⟨rfl, hb1.trans (hb.mono hb1.size)⟩
  · have hlen' : (data.length : Int) ≤ 5000 := by omega
    have h0 : Blk (w.alloc (.cells (caseCells k nonce n) 31)) w.heap.size 31 (caseCells k nonce n) := Blk.new _ _ _
    have c44 := case_num h0 HK.out HN.out
    go_enter Try.func5, Try.ntmps5
    go_wp2_with (first | (refine wpList_loadMg 23 (.tmp 10) rfl rfl w.heap.size 0 rfl k (case_key h0) Try.underlying23 rfl size32k HK.out ?_) | (refine wpList_loadMg 24 (.tmp 12) rfl rfl w.heap.size 32 rfl nonce (case_nonce h0 HK.out) Try.underlying24 rfl size12b HN.out ?_))
    refine (xor_any k nonce n data _ HK.out HN.out (by omega)).mono ?_
    rintro e w1 ⟨rfl, hb⟩
    have hback := xorS_back k nonce n data
    have hxl := xorS_len k nonce n data
    have g0 : Blk w1 w.heap.size 31 (caseCells k nonce n) := h0.below hb h0.lt
    have hb2 : Below w.heap.size w w1 := hb1.trans (hb.mono hb1.size)
    clear h0 c44 hb hb1
    generalize xorS k nonce n data = X at *
    have HB := Lib.hid hback
    have HX := Lib.hid hxl
    have hx1 : X.length ≤ 5000 := by omega
    clear hback hxl
    go_wp2_with fail
    refine (fixed_any _).mono ?_
    rintro e w2 ⟨rfl, hb⟩
    have h0 : Blk w2 w.heap.size 31 (caseCells k nonce n) := g0.below hb g0.lt
    have hb3 : Below w.heap.size w w2 := hb2.trans (hb.mono hb2.size)
    have c44 := case_num h0 HK.out HN.out
    have hll : ((X.length : Int) == (data.length : Int)) = true := by rw [HX.out]; simp
    clear g0 hb hb2
    go_wp2_with (first | (refine wpList_loadMg 23 (.tmp 27) rfl rfl w.heap.size 0 rfl k (case_key h0) Try.underlying23 rfl size32k HK.out ?_) | (refine wpList_loadMg 24 (.tmp 29) rfl rfl w.heap.size 32 rfl nonce (case_nonce h0 HK.out) Try.underlying24 rfl size12b HN.out ?_))
    refine (xor_any k nonce n X _ HK.out HN.out (by omega)).mono ?_
    rintro e w3 ⟨rfl, hb⟩
    rw [HB.out]
    go_wp2
    go_ret
    exact ⟨rfl, hb3.trans (hb.mono hb3.size)⟩
end Go.Proofs.Ythimejahpgihkaa
