/- The walks of hash.half, hash.Of, and of the reference's Hex, half and Of. -/
import Derived.Test.YthimejahpgihkaaDoorHex
namespace Go.Proofs.YthimejahpgihkaaDoor
open Go.RowKit

/-- is it a sign? -/
def isH (c : UInt8) : Bool := decide ((48 ≤ c.toNat ∧ c.toNat ≤ 57) ∨ (97 ≤ c.toNat ∧ c.toNat ≤ 102))
/-- its number; 0 of none. -/
def hvl (c : UInt8) : Nat := if 48 ≤ c.toNat ∧ c.toNat ≤ 57 then c.toNat - 48 else if 97 ≤ c.toNat ∧ c.toNat ≤ 102 then c.toNat - 87 else 0
theorem hvl_lt (c : UInt8) : hvl c < 16 := by unfold hvl; split <;> (try split) <;> omega

theorem ret_ib {k : IntKind} {a b : Int} {c : Bool} (h : a = b) : Ending.returned (.tuple #[.int k a, .bool c]) = .returned (.tuple #[.int k b, .bool c]) := by rw [h]
set_option maxHeartbeats 1000000 in
theorem half_any (c : UInt8) (w : World) :
    Calls Tryd.prog 26 #[.int .u8 c.toNat] w fun e w' => e = .returned (.tuple #[.int .u8 (hvl c : Int), .bool (isH c)]) ∧ w' = w := by
  have hc := c.toNat_lt
  have HV : Hid (hvl c = if 48 ≤ c.toNat ∧ c.toNat ≤ 57 then c.toNat - 48 else if 97 ≤ c.toNat ∧ c.toNat ≤ 102 then c.toNat - 87 else 0) := Lib.hid rfl
  have HB : Hid (isH c = decide ((48 ≤ c.toNat ∧ c.toNat ≤ 57) ∨ (97 ≤ c.toNat ∧ c.toNat ≤ 102))) := Lib.hid rfl
  generalize hvl c = v at *
  generalize isH c = b at *
  generalize c.toNat = n at *
  by_cases h1 : n < 48
  · have hd0 : decide ((48 : Int) ≤ (n : Int)) = false := by simp; omega
    have hd1 : decide ((97 : Int) ≤ (n : Int)) = false := by simp; omega
    go_enter Tryd.func26, Tryd.ntmps26
    go_wp2
    go_ret2; rw [HV.out, HB.out, if_neg (by omega), if_neg (by omega), decide_eq_false (by omega)]; exact ⟨rfl, rfl⟩
  · by_cases h2 : n ≤ 57
    · have hd0 : decide ((48 : Int) ≤ (n : Int)) = true := by simp; omega
      have hd1 : decide ((n : Int) ≤ 57) = true := by simp; omega
      go_enter Tryd.func26, Tryd.ntmps26
      go_wp2
      go_ret2; rw [HV.out, HB.out, if_pos (by omega), decide_eq_true (by omega)]; exact ⟨ret_ib (by omega), rfl⟩
    · by_cases h3 : n < 97
      · have hd0 : decide ((48 : Int) ≤ (n : Int)) = true := by simp; omega
        have hd1 : decide ((n : Int) ≤ 57) = false := by simp; omega
        have hd2 : decide ((97 : Int) ≤ (n : Int)) = false := by simp; omega
        go_enter Tryd.func26, Tryd.ntmps26
        go_wp2
        go_ret2; rw [HV.out, HB.out, if_neg (by omega), if_neg (by omega), decide_eq_false (by omega)]; exact ⟨rfl, rfl⟩
      · by_cases h4 : n ≤ 102
        · have hd0 : decide ((48 : Int) ≤ (n : Int)) = true := by simp; omega
          have hd1 : decide ((n : Int) ≤ 57) = false := by simp; omega
          have hd2 : decide ((97 : Int) ≤ (n : Int)) = true := by simp; omega
          have hd3 : decide ((n : Int) ≤ 102) = true := by simp; omega
          go_enter Tryd.func26, Tryd.ntmps26
          go_wp2
          go_ret2; rw [HV.out, HB.out, if_neg (by omega), if_pos (by omega), decide_eq_true (by omega)]; exact ⟨ret_ib (by omega), rfl⟩
        · have hd0 : decide ((48 : Int) ≤ (n : Int)) = true := by simp; omega
          have hd1 : decide ((n : Int) ≤ 57) = false := by simp; omega
          have hd2 : decide ((97 : Int) ≤ (n : Int)) = true := by simp; omega
          have hd3 : decide ((n : Int) ≤ 102) = false := by simp; omega
          go_enter Tryd.func26, Tryd.ntmps26
          go_wp2
          go_ret2; rw [HV.out, HB.out, if_neg (by omega), if_neg (by omega), decide_eq_false (by omega)]; exact ⟨rfl, rfl⟩

/-- the reference's: -1 of none. -/
def rhv (c : UInt8) : Int := if isH c then (hvl c : Int) else -1
set_option maxHeartbeats 1000000 in
theorem rhalf2_any (c : UInt8) (w : World) :
    Calls Tryd.prog 27 #[.int .u8 c.toNat] w fun e w' => e = .returned (.int .i64 (rhv c)) ∧ w' = w := by
  have hc := c.toNat_lt
  have HV : Hid (hvl c = if 48 ≤ c.toNat ∧ c.toNat ≤ 57 then c.toNat - 48 else if 97 ≤ c.toNat ∧ c.toNat ≤ 102 then c.toNat - 87 else 0) := Lib.hid rfl
  have HB : Hid (isH c = decide ((48 ≤ c.toNat ∧ c.toNat ≤ 57) ∨ (97 ≤ c.toNat ∧ c.toNat ≤ 102))) := Lib.hid rfl
  have HR : Hid (rhv c = if isH c then (hvl c : Int) else -1) := Lib.hid rfl
  generalize rhv c = r at *
  generalize hvl c = v at *
  generalize isH c = b at *
  generalize c.toNat = n at *
  by_cases h1 : n < 48
  · have hd0 : decide ((48 : Int) ≤ (n : Int)) = false := by simp; omega
    have hd1 : decide ((97 : Int) ≤ (n : Int)) = false := by simp; omega
    go_enter Tryd.func27, Tryd.ntmps27
    go_wp2
    go_ret; rw [HR.out, HB.out, decide_eq_false (by omega)]; exact ⟨rfl, rfl⟩
  · by_cases h2 : n ≤ 57
    · have hd0 : decide ((48 : Int) ≤ (n : Int)) = true := by simp; omega
      have hd1 : decide ((n : Int) ≤ 57) = true := by simp; omega
      go_enter Tryd.func27, Tryd.ntmps27
      go_wp2
      go_ret; rw [HR.out, HB.out, decide_eq_true (by omega), if_pos rfl, HV.out, if_pos (by omega)]; exact ⟨ret_int (by omega), rfl⟩
    · by_cases h3 : n < 97
      · have hd0 : decide ((48 : Int) ≤ (n : Int)) = true := by simp; omega
        have hd1 : decide ((n : Int) ≤ 57) = false := by simp; omega
        have hd2 : decide ((97 : Int) ≤ (n : Int)) = false := by simp; omega
        go_enter Tryd.func27, Tryd.ntmps27
        go_wp2
        go_ret; rw [HR.out, HB.out, decide_eq_false (by omega)]; exact ⟨rfl, rfl⟩
      · by_cases h4 : n ≤ 102
        · have hd0 : decide ((48 : Int) ≤ (n : Int)) = true := by simp; omega
          have hd1 : decide ((n : Int) ≤ 57) = false := by simp; omega
          have hd2 : decide ((97 : Int) ≤ (n : Int)) = true := by simp; omega
          have hd3 : decide ((n : Int) ≤ 102) = true := by simp; omega
          go_enter Tryd.func27, Tryd.ntmps27
          go_wp2
          go_ret; rw [HR.out, HB.out, decide_eq_true (by omega), if_pos rfl, HV.out, if_neg (by omega), if_pos (by omega)]; exact ⟨ret_int (by omega), rfl⟩
        · have hd0 : decide ((48 : Int) ≤ (n : Int)) = true := by simp; omega
          have hd1 : decide ((n : Int) ≤ 57) = false := by simp; omega
          have hd2 : decide ((97 : Int) ≤ (n : Int)) = true := by simp; omega
          have hd3 : decide ((n : Int) ≤ 102) = false := by simp; omega
          go_enter Tryd.func27, Tryd.ntmps27
          go_wp2
          go_ret; rw [HR.out, HB.out, decide_eq_false (by omega)]; exact ⟨rfl, rfl⟩

theorem results_B2 {P : Program} {w : World} {fn : Func} {p u : Tmp} {ty : TypeId} (h : fn.results = #[.cell p ty, .tmp u]) (tmps : Array Value) {g : Nat}
    (hp : tmps.getD p undef = .pointer (some ⟨g, 0, none⟩)) {t : TypeId} {cs : Array Value} (hg : Blk w g t cs) {d : TypeDesc}
    (hu : P.underlying ty = some d) (hd : (match d with | .struct _ | .array _ _ => true | _ => false) = true) {m : Nat} (hi : (P.info? ty).map (·.size) = some m) (hm : cs.size = m) :
    (results fn tmps).run P w = .ok (.tuple #[.agg cs, tmps.getD u undef]) w := by
  have hp' : tmps[p]?.getD undef = .pointer (some ⟨g, 0, none⟩) := by simpa using hp
  simp [results, h, hp', asAddr, run_loadVar_row w g t ty cs (0, 0) d hg hu hd (by rw [hm]; exact hi)]
/-- a digest's byte of two signs. -/
def two (s : List UInt8) (i : Nat) : UInt8 := UInt8.ofNat (16 * hvl (bt s (2 * i)) + hvl (bt s (2 * i + 1)))
def ofTo (s : List UInt8) : Nat → List UInt8
  | 0 => List.replicate 32 0
  | i + 1 => (ofTo s i).set i (two s i)
theorem ofTo_len (s : List UInt8) (i : Nat) : (ofTo s i).length = 32 := by
  induction i with
  | zero => simp [ofTo]
  | succ i ih => simp [ofTo, ih]
/-- is a text a digest's? -/
def ofOk (s : List UInt8) : Bool := decide (s.length = 64) && (List.range 64).all fun i => isH (bt s i)
theorem ofOk_iff (s : List UInt8) : ofOk s = true ↔ s.length = 64 ∧ ∀ i, i < 64 → isH (bt s i) = true := by
  simp [ofOk]
/-- the digest of a text; of none noughts. -/
def ofD (s : List UInt8) : List UInt8 := if ofOk s then ofTo s 32 else List.replicate 32 0
theorem ofD_len (s : List UInt8) : (ofD s).length = 32 := by unfold ofD; split <;> simp [ofTo_len]
theorem or16 (a b : Nat) (ha : a < 16) (hb : b < 16) : bits .or .u8 ((a : Int) * 16) (b : Int) = ((16 * a + b : Nat) : Int) := by
  have h : ∀ a : Fin 16, ∀ b : Fin 16, bits .or .u8 ((a.val : Int) * 16) (b.val : Int) = ((16 * a.val + b.val : Nat) : Int) := by decide +kernel
  exact h ⟨a, ha⟩ ⟨b, hb⟩
theorem two_nat (s : List UInt8) (i : Nat) : ((two s i).toNat : Int) = ((16 * hvl (bt s (2 * i)) + hvl (bt s (2 * i + 1)) : Nat) : Int) := by
  have h1 := hvl_lt (bt s (2 * i)); have h2 := hvl_lt (bt s (2 * i + 1))
  unfold two; rw [UInt8.toNat_ofNat']; congr 1; omega
theorem build24 (w : World) : (Instr.build 24 #[]).run Tryd.prog w = .ok (.agg (cells8 (List.replicate 32 0))) w := by kernel_rfl
theorem wpList_build0 {P : Program} {w : World} {ops : Array Oper} {rest : List Oper} {o : Oper} {a : Act} {Q : Exit → Act → World → Prop} (hgd : o.guard = none) (t : TypeId) (ho : o.op = .build t #[]) {r : Value}
    (hr : ∀ w, (Instr.build t #[]).run P w = .ok r w) (h : wpList P ops Q rest (a.put o.dst r) w) : wpList P ops Q (o :: rest) a w := by
  refine wpList_plain hgd fun K hK => ?_
  unfold Oper.wp execOp
  simp [ho, hr, Result.andThen]
  exact hK _ _ h
/-- the world while the bytes are laid. -/
def ORel (n0 n1 : Nat) (l : List UInt8) (w wr : World) : Prop := Blk wr n0 24 (cells8 (List.replicate 32 0)) ∧ Blk wr n1 24 (cells8 l) ∧ Below n0 w wr ∧ n0 < n1
theorem ORel.put {n0 n1 : Nat} {l : List UInt8} {w wr : World} (h : ORel n0 n1 l w wr) (i : Nat) (x : UInt8) : ORel n0 n1 (l.set i x) w (wr.setCell ⟨n1, i, none⟩ (.int .u8 (x.toNat : Int))) := by
  obtain ⟨h1, h2, h3, h4⟩ := h
  refine ⟨h1.far (by dsimp only; omega) _, ?_, h3.setCell (by dsimp only; omega) _, h4⟩
  rw [← cells8_set]; exact h2.set_ i _
theorem ORel.drew {n0 n1 : Nat} {l : List UInt8} {w wr : World} (h : ORel n0 n1 l w wr) : ORel n0 n1 l w wr.drew := by
  obtain ⟨h1, h2, h3, h4⟩ := h
  exact ⟨h1, h2, h3.drew, h4⟩

attribute [local go_sem] str_byte
set_option maxRecDepth 100000 in
set_option maxHeartbeats 1000000 in
theorem of_any (s : List UInt8) (w : World) (_hs : s.length ≤ maxLen) :
    Calls Tryd.prog 16 #[.string ⟨s.toArray⟩] w fun e w' => e = .returned (.tuple #[.agg (cells8 (ofD s)), .bool (ofOk s)]) ∧ Below w.heap.size w w' := by
  unfold maxLen at _hs
  have HZ : Hid ((cells8 (List.replicate 32 0)).size = 32) := Lib.hid (by rw [cells8_size, List.length_replicate])
  have HNO : Hid (ofOk s = false → ofD s = List.replicate 32 0) := Lib.hid (fun h => by unfold ofD; rw [h]; rfl)
  have HYES : Hid (ofOk s = true → ofD s = ofTo s 32) := Lib.hid (fun h => by unfold ofD; rw [h]; rfl)
  go_enter Tryd.func16, Tryd.ntmps16
  go_upto_region 2 with (fail)
  change Code.wp _ _ _ _ ((w.alloc (.cells (cells8 (List.replicate 32 0)) 24)).alloc (.cells (cells8 (ofTo s 0)) 24))
  have hR : ORel w.heap.size (w.heap.size + 1) (ofTo s 0) w ((w.alloc (.cells (cells8 (List.replicate 32 0)) 24)).alloc (.cells (cells8 (ofTo s 0)) 24)) :=
    ⟨(Blk.new _ _ _).alloc _, Blk.newAt _ _ _ (by simp), ((Below.refl _ _).alloc (Nat.le_refl _) _).alloc (by simp) _, by omega⟩
  generalize (w.alloc (.cells (cells8 (List.replicate 32 0)) 24)).alloc (.cells (cells8 (ofTo s 0)) 24) = wa at *
  generalize w.heap.size + 1 = n1 at *
  obtain ⟨n0, hn0⟩ : ∃ n0, w.heap.size = n0 := ⟨_, rfl⟩
  rw [hn0] at hR ⊢
  have HN := Lib.hid hn0
  clear hn0
  by_cases hlen : s.length = 64
  · have hlb : (((s.length : Nat) : Int) != 64) = false := by simp; omega
    have HLEN := Lib.hid hlen
    clear hlen
    go_wp2_with fail
    clear hlb
    go_loopw [14] (fun j wr => ∃ i : Nat, i ≤ 32 ∧ j = .int .i64 i ∧ (∀ t, t < 2 * i → isH (bt s t) = true) ∧ ORel n0 n1 (ofTo s i) w wr) (fun j _ => 32 - (intOf j).toNat)
    case atStart => exact ⟨0, by omega, rfl, fun t ht => by omega, hR⟩
    case round =>
      clear hR
      obtain ⟨i, hi, rfl, hA, hR⟩ := hrel
      have HA := Lib.hid hA
      clear hA
      by_cases hlt : i < 32
      · have hlt' : (i : Int) < 32 := by omega
        have hv0 : 2 * i < s.length := by rw [HLEN.out]; omega
        have hv1 : 2 * i + 1 < s.length := by rw [HLEN.out]; omega
        have HNX : Hid (ofTo s (i + 1) = (ofTo s i).set i (two s i)) := Lib.hid rfl
        have HTW := Lib.hid (two_nat s i)
        have HA2 : Hid (isH (bt s (2 * i)) = true → isH (bt s (2 * i + 1)) = true → ∀ t, t < 2 * (i + 1) → isH (bt s t) = true) := Lib.hid (fun h1 h2 t ht => by
          rcases Nat.lt_or_ge t (2 * i) with h | h
          · exact HA.out t h
          · rcases Nat.lt_or_ge t (2 * i + 1) with h' | h'
            · rwa [show t = 2 * i by omega]
            · rwa [show t = 2 * i + 1 by omega])
        have HBAD : Hid (isH (bt s (2 * i)) = false ∨ isH (bt s (2 * i + 1)) = false → ofOk s = false) := Lib.hid (fun h => by
          cases hk : ofOk s with
          | false => rfl
          | true =>
            have h2 := ((ofOk_iff s).1 hk).2
            rcases h with h | h
            · rw [h2 _ (by omega)] at h; cases h
            · rw [h2 _ (by omega)] at h; cases h)
        have hx1 := hvl_lt (bt s (2 * i))
        have hx2 := hvl_lt (bt s (2 * i + 1))
        have HOR := Lib.hid (or16 _ _ hx1 hx2)
        generalize two s i = tw at *
        go_wp2_with fail
        refine (half_any _ _).mono ?_
        rintro e w1 ⟨rfl, rfl⟩
        go_wp2_with fail
        refine (half_any _ _).mono ?_
        rintro e w1 ⟨rfl, rfl⟩
        have cd := (hR.2.1.cell i).trans (cells8_get _ i (by rw [ofTo_len]; exact hlt))
        have fd := hR.2.1.frozen i
        clear hv0 hv1 HYES
        generalize isH (bt s (2 * i)) = b1 at *
        generalize isH (bt s (2 * i + 1)) = b2 at *
        generalize hvl (bt s (2 * i)) = x1 at *
        generalize hvl (bt s (2 * i + 1)) = x2 at *
        cases b1
        · as_aux_lemma =>
          have HOK : Hid (ofOk s = false) := Lib.hid (HBAD.out (.inl rfl))
          have HE : Hid (ofD s = List.replicate 32 0) := Lib.hid (HNO.out HOK.out)
          have HBD := Lib.hid build24
          have HB1 := Lib.hid (cells8_one (List.replicate 32 0))
          have HR0 := Lib.hid hR.1
          obtain ⟨Z, hZ⟩ : ∃ Z, cells8 (List.replicate 32 0) = Z := ⟨_, rfl⟩
          rw [hZ] at HZ HBD HB1 HR0
          have HZE := Lib.hid hZ
          clear hZ
          go_wp2_with (first | (refine wpList_build0 (r := .agg Z) rfl 24 rfl HBD.out ?_) | (refine wpList_storeB rfl 24 (.tmp 2) (.tmp 40) rfl n0 Z rfl rfl HR0.out sz32d HZ.out HZ.out HB1.out ?_))
          refine bodyPost_ret (results_B2 rfl _ (g := n0) rfl (HR0.out.row _) Tryd.underlying24 rfl sz32d HZ.out) rfl ⟨by rw [HE.out, HOK.out, HZE.out]; rfl, by rw [HN.out]; exact below_row hR.2.2.1 (Nat.le_refl _) _⟩
        · cases b2
          · as_aux_lemma =>
            have HOK : Hid (ofOk s = false) := Lib.hid (HBAD.out (.inr rfl))
            have HE : Hid (ofD s = List.replicate 32 0) := Lib.hid (HNO.out HOK.out)
            have HBD := Lib.hid build24
            have HB1 := Lib.hid (cells8_one (List.replicate 32 0))
            have HR0 := Lib.hid hR.1
            obtain ⟨Z, hZ⟩ : ∃ Z, cells8 (List.replicate 32 0) = Z := ⟨_, rfl⟩
            rw [hZ] at HZ HBD HB1 HR0
            have HZE := Lib.hid hZ
            clear hZ
            go_wp2_with (first | (refine wpList_build0 (r := .agg Z) rfl 24 rfl HBD.out ?_) | (refine wpList_storeB rfl 24 (.tmp 2) (.tmp 40) rfl n0 Z rfl rfl HR0.out sz32d HZ.out HZ.out HB1.out ?_))
            refine bodyPost_ret (results_B2 rfl _ (g := n0) rfl (HR0.out.row _) Tryd.underlying24 rfl sz32d HZ.out) rfl ⟨by rw [HE.out, HOK.out, HZE.out]; rfl, by rw [HN.out]; exact below_row hR.2.2.1 (Nat.le_refl _) _⟩
          · as_aux_lemma =>
            go_wp2
            go_roundw
            case rel =>
              rw [HOR.out, ← HTW.out]
              exact ⟨i + 1, by omega, by go_num, HA2.out (by simp) (by simp), by rw [HNX.out]; exact hR.put i tw⟩
            case measure => simp [intOf]; omega
      · obtain rfl : i = 32 := by omega
        have HOK : Hid (ofOk s = true) := Lib.hid ((ofOk_iff s).2 ⟨HLEN.out, fun t ht => HA.out t (by omega)⟩)
        have HS1 : Hid ((cells8 (ofTo s 32)).size = 32) := Lib.hid (by rw [cells8_size, ofTo_len])
        have HE : Hid (ofD s = ofTo s 32) := Lib.hid (HYES.out HOK.out)
        obtain ⟨D, hD⟩ : ∃ D, ofTo s 32 = D := ⟨_, rfl⟩
        rw [hD] at HS1 HE hR
        clear hD HYES HNO
        go_wp2_with (first | (refine wpList_loadB (cs := cells8 D) rfl 24 (.tmp 4) rfl n1 rfl hR.2.1 Tryd.underlying24 rfl sz32d HS1.out ?_) | (refine wpList_storeB rfl 24 (.tmp 2) (.tmp 48) rfl n0 (cells8 D) rfl rfl hR.1 sz32d HS1.out HZ.out (cells8_one _) ?_))
        refine bodyPost_ret (results_B2 rfl _ (g := n0) rfl (hR.1.row _) Tryd.underlying24 rfl sz32d HS1.out) rfl ⟨by rw [HE.out, HOK.out]; rfl, by rw [HN.out]; exact below_row hR.2.2.1 (Nat.le_refl _) _⟩
  · have hlb : (((s.length : Nat) : Int) != 64) = true := by simp; omega
    have HOK : Hid (ofOk s = false) := Lib.hid (by cases h : ofOk s with | false => rfl | true => exact absurd ((ofOk_iff s).1 h).1 hlen)
    have HBD := Lib.hid build24
    have HE : Hid (ofD s = List.replicate 32 0) := Lib.hid (HNO.out HOK.out)
    have HB1 := Lib.hid (cells8_one (List.replicate 32 0))
    have HR0 := Lib.hid hR.1
    obtain ⟨Z, hZ⟩ : ∃ Z, cells8 (List.replicate 32 0) = Z := ⟨_, rfl⟩
    rw [hZ] at HZ HBD HB1 HR0
    have HZE := Lib.hid hZ
    clear hZ
    go_wp2_with (first | (refine wpList_build0 (r := .agg Z) rfl 24 rfl HBD.out ?_) | (refine wpList_storeB rfl 24 (.tmp 2) (.tmp 13) rfl n0 Z rfl rfl HR0.out sz32d HZ.out HZ.out HB1.out ?_))
    refine bodyPost_ret (results_B2 rfl _ (g := n0) rfl (HR0.out.row _) Tryd.underlying24 rfl sz32d HZ.out) rfl ⟨by rw [HE.out, HOK.out, HZE.out]; rfl, by rw [HN.out]; exact below_row hR.2.2.1 (Nat.le_refl _) _⟩
end Go.Proofs.YthimejahpgihkaaDoor
