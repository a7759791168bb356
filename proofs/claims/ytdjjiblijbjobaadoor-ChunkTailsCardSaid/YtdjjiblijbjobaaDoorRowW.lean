/- Rows that a call owns: appended to, read; slices of elements of some cells each. No program in sight. -/
import Derived.Test.YtdjjiblijbjobaaDoorBaseB
namespace Go.Proofs.YtdjjiblijbjobaaDoor
open Go.RowKit
variable {D : List Deferred}

/-- a slice of n elements of m cells each, as it reads in a world. -/
def Sl (w : World) (v : Value) (m n : Nat) (cs : List Value) : Prop :=
  cs.length = n * m ∧ (((∃ a c, v = .slice a 0 c) ∧ n = 0) ∨ ∃ b o c : Nat, v = .slice (some ⟨b, o, none⟩) n c ∧ b < w.heap.size ∧ ∀ j u, cs[j]? = some u → w.cell? ⟨b, o + j, none⟩ = some u)
section
variable {w w2 : World} {v : Value} {m n : Nat} {cs : List Value}
theorem Sl.keep (h : Sl w v m n cs) (hs : w.heap.size ≤ w2.heap.size) (hk : ∀ b, b < w.heap.size → w2.heap[b]? = w.heap[b]?) : Sl w2 v m n cs := by
  refine ⟨h.1, ?_⟩
  rcases h.2 with h | ⟨b, o, c, h1, h2, h3⟩
  · exact .inl h
  · refine .inr ⟨b, o, c, h1, by omega, fun j u hj => ?_⟩
    rw [← h3 j u hj]
    unfold World.cell?
    simp only [hk b h2]
theorem Sl.below (h : Sl w v m n cs) (hb : Below w.heap.size w w2) : Sl w2 v m n cs := h.keep hb.size (fun b hl => hb.block b hl)
theorem Sl.len (h : Sl w v m n cs) : ∃ a c, v = .slice a n c := by
  rcases h.2 with ⟨⟨a, c, rfl⟩, rfl⟩ | ⟨b, o, c, h1, _, _⟩
  · exact ⟨_, _, rfl⟩
  · exact ⟨_, _, h1⟩
theorem Sl.strs {l : List (List UInt8)} (h : Sl w v 1 l.length (l.map tx)) : Strs w v l := by
  rcases h.2 with ⟨h1, h2⟩ | ⟨b, o, c, h1, h2, h3⟩
  · exact .inl ⟨h1, List.eq_nil_of_length_eq_zero h2⟩
  · exact .inr ⟨b, o, c, h1, h2, fun i hi => h3 i _ (by simp [hi])⟩
theorem Strs.sl {l : List (List UInt8)} (h : Strs w v l) : Sl w v 1 l.length (l.map tx) := by
  refine ⟨by simp, ?_⟩
  rcases h with ⟨h1, h2⟩ | ⟨b, o, c, h1, h2, h3⟩
  · exact .inl ⟨h1, by rw [h2]; rfl⟩
  · refine .inr ⟨b, o, c, h1, h2, fun j u hj => ?_⟩
    have hl : j < l.length := by have := (List.getElem?_eq_some_iff.1 hj).1; simpa using this
    rw [h3 j hl]
    simp [hl] at hj ⊢
    exact hj
theorem Sl.own {w0 : World} {M : List (Nat × (Obj → Prop))} {e : TypeId} (h : OwnR w0 M w e m v n cs) : Sl w v m n cs := by
  refine ⟨h.owns.1, ?_⟩
  rcases h.owns.2 with ⟨rfl, h2⟩ | ⟨g, cap, cur, rfl, _, hh, h1, h2, h3, h4⟩
  · exact .inl ⟨⟨_, _, rfl⟩, h2⟩
  · refine .inr ⟨g, 0, cap, rfl, lt_of_ob hh, fun j u hj => ?_⟩
    rw [Nat.zero_add, cell_of_row w g j cur e (0, 0) hh]
    have hl : j < n * m := by have := (List.getElem?_eq_some_iff.1 hj).1; rw [h.owns.1] at this; exact this
    have e1 : cur[j]? = (cur.toList.take (n * m))[j]? := by rw [List.getElem?_take_of_lt hl]; simp
    rw [e1, h4]; exact hj
end
section
variable {P : Program} {w : World}
/-- where a row lies behind an append: where it lay, or in a new block. -/
theorem append_block {base : Nat} {t ty e : TypeId} {i : TypeInfo} {z : Value} {size bytes : Nat} (ht : P.underlying t = some (.slice e)) (hi : P.info? e = some i) (hz : i.zero = some z)
    (hsize : i.size = size) (hby : i.bytes = bytes) {v : Value} {n : Nat} {xs : List Value} (hown : w.ownsRow base e size v n xs)
    {a : Addr} {m c : Nat} {news : List Value} (hl : news.length = m * size) (hnews : ∀ j u, news[j]? = some u → w.cell? (a.add j) = some u) (h1 : ∀ u ∈ news, u.oneCell' = true)
    (h63 : n + m ≤ maxLen) (hbytes : (n + m) * bytes ≤ 140737488355328) {v2 : Value} {w2 : World} (hr : (Builtin.append_ #[t, t] ty #[v, .slice (some a) m c]).run P w = .ok v2 w2) (hnil : v2 = .slice none 0 0 ↔ v = .slice none 0 0 ∧ m = 0) :
    v2.ownBlock = v.ownBlock ∨ ∃ g, v2.ownBlock = some g ∧ w.heap.size ≤ g := by
  subst hsize hby
  have hsmall : n + m ≤ 9223372036854775807 := by simp only [maxLen] at h63; omega
  rcases hown.2 with ⟨rfl, rfl⟩ | ⟨g, cap, cur, rfl, hbg, hg, hnc, hcm, hcs, htake⟩
  · by_cases hm : m = 0
    · rw [hnil.2 ⟨rfl, hm⟩]; exact .inl rfl
    · have hr2 := run_append_nil (P := P) w t ty e i z ht hi hz a m c news hl hnews (by omega) (by omega) (by have hb := hbytes; simp only [Nat.zero_add] at hb; omega)
      rw [hr2] at hr
      injection hr with hv _
      subst hv
      exact .inr ⟨_, rfl, Nat.le_refl _⟩
  · by_cases hroom : n + m ≤ cap
    · have hfit : n * i.size + news.length ≤ cur.size := by rw [hl, hcs, ← Nat.add_mul]; exact Nat.mul_le_mul_right _ hroom
      have hr2 := run_append_room (P := P) w t ty e i ht hi g n cap cur hg a m c news hl hnews h1 hroom hfit
      rw [hr2] at hr
      injection hr with hv _
      subst hv
      exact .inl rfl
    · have holds : ∀ j u, xs[j]? = some u → w.cell? ((⟨g, 0, none⟩ : Addr).add j) = some u := hown.cells (g := g) rfl
      have hr2 := run_append_grow (P := P) w t ty e i z ht hi hz ⟨g, 0, none⟩ n cap xs hown.1 holds a m c news hl hnews (by omega) (by omega) (growslice_fits (by omega) hbytes)
      rw [hr2] at hr
      injection hr with hv _
      subst hv
      exact .inr ⟨_, rfl, Nat.le_refl _⟩
variable {a : Act} {o : Oper} {w0 : World} {n s : Nat} {L : List (Nat × Value)} {v : Value} {ops : Array Oper} {rest : List Oper} {Q : Exit → Act → World → Prop} {M : List (Nat × (Obj → Prop))} {x y : Operand}
/-- what the table says of an element's type. -/
structure ElT (P : Program) (t e : TypeId) (size bytes : Nat) : Prop where
  un : P.underlying t = some (.slice e)
  inf : ∃ i z, P.info? e = some i ∧ i.zero = some z ∧ i.size = size ∧ i.bytes = bytes ∧ z.cells.size = size
  pos : 0 < size
theorem sqAppend {t e : TypeId} {size bytes n0 m c : Nat} {xs news : List Value} {ad : Addr} (E : ElT P t e size bytes) (hF : FrD D a n L) (hM : Mem w0 M w) (hO : OwnR w0 M w e size v n0 xs) (hgd : o.guard = none)
    (ho : o.op = .call { callee := .builtin .append, args := #[x, y], argTypes := #[t, t] }) (hx : a.eval x = v) (hy : a.eval y = .slice (some ad) m c) (hl : news.length = m * size) (hnews : ∀ j u, news[j]? = some u → w.cell? (ad.add j) = some u) (h1 : ∀ u ∈ news, u.oneCell' = true)
    (h63 : n0 + m ≤ maxLen) (hbytes : (n0 + m) * bytes ≤ 140737488355328) (hd : o.dst = some s) (hs : s < n)
    (h : ∀ v2 a2 w2, OwnR w0 M w2 e size v2 (n0 + m) (xs ++ news) → Mem w0 M w2 → (v2 = .slice none 0 0 ↔ v = .slice none 0 0 ∧ m = 0) → FrD D a2 n ((s, v2) :: L) → wpList P ops Q rest a2 w2) : wpList P ops Q (o :: rest) a w := by
  obtain ⟨i, z, hi, hz, hsz, hby, hzs⟩ := E.inf
  obtain ⟨v2, w2, hr, h2, h3, h4⟩ := run_append_own (P := P) w w0.heap.size t o.type e i z size bytes E.un hi hz hsz hby hzs E.pos v n0 xs hO.owns ad m c news hl hnews h1 h63 hbytes hM.below.size
  have hblk := append_block (P := P) E.un hi hz hsz hby hO.owns hl hnews h1 h63 hbytes hr h4
  refine sq hF (wantedS hgd) (v := v2) (w2 := w2) ?_ hd hs fun a2 hF2 => h v2 a2 w2 (hO.next hM h2 hblk) (hO.mem hM h3) h4 hF2
  unfold execOp
  simp only [ho, resolve, invoke, builtin, Sem.run_bind, Sem.run_pure, Result.andThen_ok, List.map_toArray, List.map_cons, List.map_nil, hx, hy, hr]
/-- a new row. -/
theorem sqRow {t : TypeId} {cs : Array Value} {m : Nat} (hF : FrD D a n L) (hM : Mem w0 M w) (hw : Region.wanted o (yielded ops a.tmps) = true) (hrun : (execOp a.eval o).run P w = .ok (.value (.slice (some ⟨w.heap.size, 0, none⟩) m m)) (w.alloc (.cells cs t))) (hd : o.dst = some s) (hs : s < n)
    (h : ∀ g a2 w2, w.heap.size ≤ g → Below w.heap.size w w2 → FrD D a2 n ((s, .slice (some ⟨g, 0, none⟩) m m) :: L) → Mem w0 ((g, isB t cs) :: M) w2 → wpList P ops Q rest a2 w2) : wpList P ops Q (o :: rest) a w :=
  sq hF hw hrun hd hs fun a2 hF2 => h w.heap.size a2 _ (Nat.le_refl _) ((Below.refl _ _).alloc (Nat.le_refl _) _) hF2 (hM.alloc cs t)
/-- a new row without elements, which the call will append to. -/
theorem sqOwn0 {e : TypeId} {size : Nat} (hF : FrD D a n L) (hM : Mem w0 M w) (hw : Region.wanted o (yielded ops a.tmps) = true) (hrun : (execOp a.eval o).run P w = .ok (.value (.slice (some ⟨w.heap.size, 0, none⟩) 0 0)) (w.alloc (.cells #[] e))) (hd : o.dst = some s) (hs : s < n)
    (h : ∀ v a2 w2, OwnR w0 M w2 e size v 0 [] → Below w.heap.size w w2 → Mem w0 M w2 → FrD D a2 n ((s, v) :: L) → wpList P ops Q rest a2 w2) : wpList P ops Q (o :: rest) a w := by
  have hb : Below w.heap.size w (w.alloc (.cells #[] e)) := (Below.refl _ _).alloc (Nat.le_refl _) _
  refine sq hF hw hrun hd hs fun a2 hF2 => h _ a2 _ ⟨⟨by simp, .inr ⟨w.heap.size, 0, #[], rfl, hM.below.size, heap_alloc_new w _, Nat.le_refl _, by unfold maxLen; omega, by simp, by simp⟩⟩, fun x hx => ?_⟩ hb (hM.grow hb) hF2
  have := hM.lt hx
  intro e2
  simp only [Value.ownBlock, Option.some.injEq] at e2
  omega
/-- a whole block stored; what else has changed. -/
theorem sqStoreG {x y : Operand} {ty t : TypeId} {i g m : Nat} {cs old : Array Value} (hF : FrD D a n L) (hM : Mem w0 M w) (hgd : o.guard = none) (ho : o.op = .store ty x y) (hd : o.dst = none) (hx : a.eval x = .pointer (some ⟨g, 0, none⟩)) (hy : a.eval y = .agg cs)
    (e : M[i]? = some (g, isB t old)) (hi : (P.info? ty).map (·.size) = some m) (hm : cs.size = m) (hold : old.size = m) (h1 : cs.all (·.oneCell') = true)
    (h : ∀ a2 w2, w.grownBy w2 (some g) → FrD D a2 n L → Mem w0 (M.set i (g, isB t cs)) w2 → wpList P ops Q rest a2 w2) : wpList P ops Q (o :: rest) a w :=
  wpList_storeB hgd ty x y ho g cs hx hy (hM.at i e) hi hm hold h1 (by rw [hd]; exact h _ _ (grown_setRow w g cs) hF (hM.row i e cs))
theorem blkNews {w : World} {g : Nat} {t : TypeId} {news : List Value} (h : Blk w g t news.toArray) : ∀ j u, news[j]? = some u → w.cell? ((⟨g, 0, none⟩ : Addr).add j) = some u := by
  intro j u hj
  rw [addr_add, Nat.zero_add, h.cell]
  simpa using hj
theorem all_one {l : List Value} (h : (l.all fun u => u.oneCell') = true) : ∀ u ∈ l, u.oneCell' = true := fun u hu => List.all_eq_true.1 h u hu
theorem OwnR.sub {w0 w : World} {M M2 : List (Nat × (Obj → Prop))} {e : TypeId} {size m : Nat} {v : Value} {xs : List Value} (h : OwnR w0 M w e size v m xs) (hs : M2.Sublist M) : OwnR w0 M2 w e size v m xs := ⟨h.owns, fun x hx => h.far x (hs.subset hx)⟩
/-- the address of an element, and its cells. -/
theorem run_atSl {W : World} {t e : TypeId} {k : IntKind} {p : Int} {m cnt i : Nat} {cs : List Value} (ho : o.op = .indexAddr t x y) (hx : a.eval x = v) (hy : a.eval y = .int k p) (hp : p = (i : Int)) (hs : Sl W v m cnt cs) (hi : i < cnt) (hu : P.underlying t = some (.slice e)) (hz : (sizeOf e).run P W = .ok m W) :
    ∃ b off : Nat, (execOp a.eval o).run P W = .ok (.value (.pointer (some ⟨b, off, none⟩))) W ∧ ∀ j u, j < m → cs[i * m + j]? = some u → W.cell? ⟨b, off + j, none⟩ = some u := by
  subst hp
  rcases hs.2 with ⟨_, h2⟩ | ⟨b, off, c, h1, h2, h3⟩
  · omega
  · subst h1
    refine ⟨b, off + i * m, ?_, fun j u hj hu => by rw [Nat.add_assoc]; exact h3 _ u hu⟩
    have he : P.elem t = e := by simp [Program.elem, hu]
    have ht : P.underlying t = some (.slice (P.elem t)) := by rw [he]; exact hu
    have hz2 : (sizeOf (P.elem t)).run P W = .ok m W := by rw [he]; exact hz
    have hr := run_indexAt_slice (P := P) W t ⟨b, off, none⟩ cnt c k (i : Int) ht
    unfold execOp
    simp only [ho, hx, hy]
    rw [Sem.run_bind, hr, hz2, if_pos (by omega)]
    simp [Addr.add]
end
end Go.Proofs.YtdjjiblijbjobaaDoor
