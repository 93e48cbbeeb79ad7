/- The calculus: rows of structs that a call appends to; small numbers; conversions. -/
import Derived.Test.YtclgplkkajfenaaGreatDoorLaws
namespace Go.Proofs.YtclgplkkajfenaaGreatDoor
open Go Go.RowKit Ow
/-! ### numbers of 32 and 8 bits -/
theorem i32_in (a : Int) (h : -2147483648 ≤ a ∧ a ≤ 2147483647) : IntKind.i32.wrap a = a := by
  simp [IntKind.wrap, IntKind.signed, IntKind.bits]; omega
theorem u8_in (a : Int) (h : 0 ≤ a ∧ a ≤ 255) : IntKind.u8.wrap a = a := by
  simp [IntKind.wrap, IntKind.signed, IntKind.bits]; omega
namespace Ow
section
variable {P : Program} {e : Env} {w : World} {o : Oper} {T yT : TypeId} {x y : Operand} {a b : Int}
theorem Res.add32 (ho : o.op = .binOp .add T x y yT) (hx : ev e x = some (.int .i32 a)) (hy : ev e y = some (.int .i32 b)) (hb : -2147483648 ≤ a + b ∧ a + b ≤ 2147483647) : Res P e o w (.ok (.value (.int .i32 (a + b))) w) := by
  have := Res.addW (P := P) (w := w) ho hx hy
  rwa [i32_in _ hb] at this
theorem Res.sub32 (ho : o.op = .binOp .sub T x y yT) (hx : ev e x = some (.int .i32 a)) (hy : ev e y = some (.int .i32 b)) (hb : -2147483648 ≤ a - b ∧ a - b ≤ 2147483647) : Res P e o w (.ok (.value (.int .i32 (a - b))) w) := by
  have := Res.subW (P := P) (w := w) ho hx hy
  rwa [i32_in _ hb] at this
theorem Res.mul32 (ho : o.op = .binOp .mul T x y yT) (hx : ev e x = some (.int .i32 a)) (hy : ev e y = some (.int .i32 b)) (hb : -2147483648 ≤ a * b ∧ a * b ≤ 2147483647) : Res P e o w (.ok (.value (.int .i32 (a * b))) w) := by
  have := Res.mulW (P := P) (w := w) ho hx hy
  rwa [i32_in _ hb] at this
theorem Res.sub8 (ho : o.op = .binOp .sub T x y yT) (hx : ev e x = some (.int .u8 a)) (hy : ev e y = some (.int .u8 b)) (hb : 0 ≤ a - b ∧ a - b ≤ 255) : Res P e o w (.ok (.value (.int .u8 (a - b))) w) := by
  have := Res.subW (P := P) (w := w) ho hx hy
  rwa [u8_in _ hb] at this
end
theorem Res.indexS0 {P : Program} {e : Env} {w : World} {o : Oper} {T : TypeId} {x y : Operand} {s : ByteArray} {k : IntKind} (ho : o.op = .index T x y) (hx : ev e x = some (.string s)) (hy : ev e y = some (.int k 0)) (hT : P.underlying T = some .string) (h : 0 < s.size) :
    Res P e o w (.ok (.value (.int .u8 (by' (bl s) 0 : Nat))) w) := Res.indexS ho hx hy hT ⟨Int.le_refl _, by omega⟩
theorem Res.conv5_21 {e : Env} {w : World} {o : Oper} {x : Operand} {a : Int} (ho : o.op = .convert 5 21 x) (hx : ev e x = some (.int .u8 a)) (hb : 0 ≤ a ∧ a ≤ 255) : Res Tryz.prog e o w (.ok (.value (.int .i32 a)) w) :=
  Res.convI ho hx (by rw [Tryz.underlying5]; rfl) Tryz.underlying21 (i32_in _ (by omega))
end Ow
theorem by_lt (l : Bs) (k : Nat) : by' l k < 256 := by unfold by'; exact UInt8.toNat_lt _
/-! ### rows -/
/-- A slice value whose elements are told: each is so many cells. -/
def Rows {α : Type} (enc : α → List Value) (sz : Nat) (w : World) (v : Value) (xs : List α) : Prop :=
  ∃ (p : Option Addr) (cap : Nat), v = .slice p xs.length cap ∧ xs.length ≤ cap ∧ (xs.length : Int) ≤ 140737488355328 ∧
    ∀ i x, xs[i]? = some x → ∃ g : Nat, p = some ⟨g, 0, none⟩ ∧ ∀ j u, (enc x)[j]? = some u → w.cell? ⟨g, 0 + i * sz + j, none⟩ = some u
theorem Rows.below {α : Type} {enc : α → List Value} {sz : Nat} {w w' : World} {v : Value} {xs : List α} (h : Rows enc sz w v xs) (hb : Below w.heap.size w w') : Rows enc sz w' v xs := by
  obtain ⟨p, cap, e, h1, h2, h3⟩ := h
  refine ⟨p, cap, e, h1, h2, fun i x hx => ?_⟩
  obtain ⟨g, hg, hc⟩ := h3 i x hx
  exact ⟨g, hg, fun j u hu => (hb.cell (World.block_lt_of_cell? _ _ (hc j u hu))).trans (hc j u hu)⟩
/-- A row that the call's own block holds. -/
def Own' {α : Type} (enc : α → List Value) (E sz : Nat) (B : Nat) (w : World) (v : Value) (xs : List α) : Prop := w.ownsRow B E sz v xs.length (xs.map enc).flatten
theorem flat_get {α : Type} {enc : α → List Value} {sz : Nat} (hs : ∀ x, (enc x).length = sz) : ∀ (xs : List α) (i : Nat) (x : α), xs[i]? = some x → ∀ j u, (enc x)[j]? = some u → (xs.map enc).flatten[i * sz + j]? = some u
  | [], i, x, h, _, _, _ => by simp at h
  | y :: xs, 0, x, h, j, u, hu => by
    simp only [List.getElem?_cons_zero, Option.some.injEq] at h
    subst h
    have hj : j < (enc y).length := (List.getElem?_eq_some_iff.1 hu).1
    rw [Nat.zero_mul, Nat.zero_add, List.map_cons, List.flatten_cons, List.getElem?_append_left hj]
    exact hu
  | y :: xs, i + 1, x, h, j, u, hu => by
    rw [List.map_cons, List.flatten_cons, List.getElem?_append_right (by rw [hs, Nat.succ_mul]; omega), hs, show (i + 1) * sz + j - sz = i * sz + j by rw [Nat.succ_mul]; omega]
    exact flat_get hs xs i x (by simpa using h) j u hu
theorem flat_len {α : Type} {enc : α → List Value} {sz : Nat} (hs : ∀ x, (enc x).length = sz) (xs : List α) : (xs.map enc).flatten.length = xs.length * sz := by
  induction xs with
  | nil => simp
  | cons x xs ih => rw [List.map_cons, List.flatten_cons, List.length_append, ih, hs, List.length_cons, Nat.succ_mul]; omega
theorem Own'.nil {α : Type} {enc : α → List Value} {E sz B : Nat} {w : World} : Own' enc E sz B w (.slice none 0 0) [] := World.ownsRow_nil _ _ _ _
theorem Own'.below {α : Type} {enc : α → List Value} {E sz B : Nat} {w w' : World} {v : Value} {xs : List α} (h : Own' enc E sz B w v xs) (hb : Below w.heap.size w w') : Own' enc E sz B w' v xs := row_below h hb
theorem Own'.rows {α : Type} {enc : α → List Value} {E sz B : Nat} {w : World} {v : Value} {xs : List α} (h : Own' enc E sz B w v xs) (hs : ∀ x, (enc x).length = sz) (hl : xs.length ≤ 140737488355328) : Rows enc sz w v xs := by
  obtain ⟨h1, h2 | ⟨g, cap, cur, rfl, _, hg, hcap, _, hsz, htk⟩⟩ := h
  · obtain ⟨rfl, h3⟩ := h2
    rw [List.length_eq_zero_iff] at h3
    subst h3
    exact ⟨none, 0, rfl, Nat.le_refl _, by simp, fun i x hx => by simp at hx⟩
  · refine ⟨some ⟨g, 0, none⟩, cap, rfl, hcap, by omega, fun i x hx => ⟨g, rfl, fun j u hu => ?_⟩⟩
    have h4 := flat_get hs xs i x hx j u hu
    refine cell_of' hg ?_
    have hi : i < xs.length := (List.getElem?_eq_some_iff.1 hx).1
    have hj : j < sz := by rw [← hs x]; exact (List.getElem?_eq_some_iff.1 hu).1
    have hlt : i * sz + j < xs.length * sz := by
      have : (i + 1) * sz ≤ xs.length * sz := Nat.mul_le_mul_right _ hi
      rw [Nat.succ_mul] at this; omega
    rw [← htk, List.getElem?_take_of_lt hlt] at h4
    rw [Nat.zero_add]
    simpa using h4
theorem Own'.wide {α : Type} {enc : α → List Value} {E sz B B' : Nat} {w : World} {v : Value} {xs : List α} (h : Own' enc E sz B w v xs) (hB : B' ≤ B) : Own' enc E sz B' w v xs := by
  obtain ⟨h1, h2 | ⟨g, cap, cur, hv, h0, hg, rest⟩⟩ := h
  · exact ⟨h1, .inl h2⟩
  · exact ⟨h1, .inr ⟨g, cap, cur, hv, Nat.le_trans hB h0, hg, rest⟩⟩
/-- One more element. -/
theorem Own'.push {α : Type} {enc : α → List Value} {E sz B : Nat} {w : World} {v : Value} {xs : List α} (h : Own' enc E sz B w v xs) (hs : ∀ x, (enc x).length = sz) (h1 : ∀ x, ∀ u ∈ enc x, u.oneCell' = true) {T : TypeId} {inf : TypeInfo} {z : Value} {bytes : Nat}
    (hT : Tryz.prog.underlying T = some (.slice E)) (hi : Tryz.prog.info? E = some inf) (hz : inf.zero = some z) (hsz : inf.size = sz) (hby : inf.bytes = bytes) (hzs : z.cells.size = sz) (hpos : 0 < sz) (hbz : bytes ≤ 64)
    {b : Nat} (x : α) (hb : w.heap[b]? = some (.cells (enc x).toArray E (0, 0))) (hl : xs.length ≤ 1099511627776) (hB : B ≤ w.heap.size) (ty : TypeId) :
    ∃ v' w', (Builtin.append_ #[T, T] ty #[v, .slice (some ⟨b, 0, none⟩) 1 1]).run Tryz.prog w = .ok v' w' ∧ Own' enc E sz B w' v' (xs ++ [x]) ∧ Below B w w' ∧ w.grownBy w' v.ownBlock := by
  have hmul : (xs.length + 1) * bytes ≤ (1099511627776 + 1) * 64 := Nat.mul_le_mul (by omega) hbz
  obtain ⟨v', w', g1, g2, g3, _⟩ := run_append_own (P := Tryz.prog) w B T ty E inf z sz bytes hT hi hz hsz hby hzs hpos v xs.length _ h ⟨b, 0, none⟩ 1 1 (enc x) (by rw [hs, Nat.one_mul])
    (fun j u hj => by
      have ha : ((⟨b, 0, none⟩ : Addr).add j) = ⟨b, j, none⟩ := by
        unfold Addr.add; split
        · rename_i e; subst e; rfl
        · simp
      rw [ha]
      exact cell_of' hb (by simpa using hj)) (h1 x) (by simp only [maxLen]; omega) (by omega) hB
  refine ⟨v', w', g1, ?_, grows_below g3 (fun k hk => (World.ownsRow.lt h k hk).1) hB, g3⟩
  unfold Own'
  rw [List.length_append, List.map_append, List.flatten_append, List.map_singleton, List.flatten_singleton]
  exact g2
theorem Own'.other {α : Type} {enc : α → List Value} {E sz B : Nat} {w0 w w' : World} {v : Value} {xs : List α} (h : Own' enc E sz B w0 v xs) (hg : w.grownBy w' v.ownBlock) {k : Nat} {o : Obj} (hk : w0.heap.size ≤ k) (ho : w.heap[k]? = some o) : w'.heap[k]? = some o :=
  (hg.block k (lt_of_heap ho) (fun e => by have := (World.ownsRow.lt h k e.symm).2; omega)).trans ho
theorem Own'.old {α : Type} {enc : α → List Value} {E sz B : Nat} {w0 w w' : World} {v : Value} {xs : List α} (h : Own' enc E sz B w0 v xs) (hg : w.grownBy w' v.ownBlock) {k : Nat} {o : Obj} (hk : k < B) (ho : w.heap[k]? = some o) : w'.heap[k]? = some o :=
  (hg.block k (lt_of_heap ho) (fun e => by have := (World.ownsRow.lt h k e.symm).1; omega)).trans ho
/-- The last element holds something else. -/
theorem Own'.setLast {α : Type} {enc : α → List Value} {E sz B : Nat} {w : World} {g len cap : Nat} {xs : List α} {x y : α} (h : Own' enc E sz B w (.slice (some ⟨g, 0, none⟩) len cap) (xs ++ [x])) (hs : ∀ x, (enc x).length = sz) (_hB : B ≤ w.heap.size)
    (hp : ∀ u ∈ enc y, plainV u = true) :
    ∃ w', (storeCells ⟨g, xs.length * sz, none⟩ (enc y) 0).run Tryz.prog w = .ok () w' ∧ Own' enc E sz B w' (.slice (some ⟨g, 0, none⟩) len cap) (xs ++ [y]) ∧ Below B w w' := by
  obtain ⟨h1, h2 | ⟨g', cap', cur, hv, hg0, hg, hcap, hmx, hsz, htk⟩⟩ := h
  · exact absurd h2.1 (by intro e; cases e)
  cases hv
  rw [List.length_append, List.length_singleton] at hcap htk h1
  have hmul : (xs.length + 1) * sz ≤ cap * sz := Nat.mul_le_mul_right _ hcap
  have hexp : (xs.length + 1) * sz = xs.length * sz + sz := Nat.succ_mul _ _
  obtain ⟨c⟩ := cur
  simp only [List.size_toArray] at hsz
  obtain ⟨w', r1, r2, r3, r4, r5, r6, r7⟩ := run_storeCells (P := Tryz.prog) g (xs.length * sz) E (enc y) 0 c w hg (by rw [hs, hsz]; omega) hp
  refine ⟨w', r1, ?_, ⟨r2, r3, r4, by omega, fun k hk => r7 k (by omega)⟩⟩
  refine ⟨flat_len hs _, .inr ⟨g, cap, _, by rw [List.length_append, List.length_append]; rfl, hg0, by rw [Nat.add_zero] at r6; exact r6, by rw [List.length_append]; exact hcap, hmx, by rw [List.size_toArray, setRow_length, hsz], ?_⟩⟩
  rw [List.length_append, List.length_singleton]
  show (setRow c (xs.length * sz) (enc y)).take ((xs.length + 1) * sz) = _
  have e1 : (c.take ((xs.length + 1) * sz)) = (xs.map enc).flatten ++ enc x := by
    have : (List.map enc (xs ++ [x])).flatten = (xs.map enc).flatten ++ enc x := by simp
    rw [← this]; exact htk
  have e2 : c.take (xs.length * sz) = (xs.map enc).flatten := by
    have := congrArg (List.take (xs.length * sz)) e1
    rw [List.take_take, Nat.min_eq_left (by omega), List.take_append_of_le_length (by rw [flat_len hs]; omega)] at this
    rw [this]; exact List.take_of_length_le (by rw [flat_len hs]; omega)
  have e3 : ∀ (vs c : List Value) (off : Nat), off + vs.length ≤ c.length → (setRow c off vs).take (off + vs.length) = c.take off ++ vs := by
    intro vs
    induction vs with
    | nil => intro c off _; simp [setRow]
    | cons v r ih =>
      intro c off hl
      simp only [List.length_cons] at hl
      rw [setRow, show off + (v :: r).length = off + 1 + r.length by simp; omega, ih _ _ (by simp; omega)]
      rw [show (c.set off v).take (off + 1) = c.take off ++ [v] by
        rw [List.take_set, List.take_succ_eq_append_getElem (by omega), List.set_append_right _ _ (by simp; omega)]
        simp [Nat.min_eq_left (show off ≤ c.length by omega)]]
      simp
  have e4 := e3 (enc y) c (xs.length * sz) (by rw [hs, hsz]; omega)
  rw [hs] at e4
  rw [hexp, e4, e2]
  simp
end Go.Proofs.YtclgplkkajfenaaGreatDoor
