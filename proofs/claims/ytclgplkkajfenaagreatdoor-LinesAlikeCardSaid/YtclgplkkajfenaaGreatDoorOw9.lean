/- The calculus: rows of bytes. -/
import Derived.Test.YtclgplkkajfenaaGreatDoorOw8
import Derived.Lib.BufferWrite
import Derived.Laws.BytesArg
namespace Go.Proofs.YtclgplkkajfenaaGreatDoor
namespace Ow
open Go Go.RowKit
variable {P : Program} {ro : Option Nat} {n : Nat} {ops : Array Oper} {Q : Exit → Act → World → Prop} {N : Nat} {D : List Deferred} {e : Env} {w w0 : World} {o : Oper} {L : List (Nat × Obj)} {S : World → Prop} {fuel i : Nat} {listed : Array Bool}
/-- A row of bytes. -/
def bytesO (l : List UInt8) : Obj := .cells (Lib.byteCells l).toArray 5 (0, 0)
/-- Where a part of a row of so many begins. -/
def sl (cap lo : Nat) : Nat := if cap = lo then 0 else lo
theorem Own.setRow (h : Own w0 L w) {i b : Nat} {c c' : Array Value} {T : TypeId} (hi : L[i]? = some (b, .cells c T (0, 0))) : Own w0 (L.set i (b, .cells c' T (0, 0))) (w.setRow b c') := by
  have hb := h.at hi
  refine h.set hi rfl rfl rfl (by simp [World.setRow]) (setRow_heap w b c c' T (0, 0) hb) (fun k hk => ?_)
  simp only [World.setRow, Array.getElem?_modify]; rw [if_neg (Ne.symm hk)]
theorem Res.makeBytes {x y : Operand} {c : Int} (hT : P.underlying 116 = some (.slice 5)) {inf : TypeInfo} (hI : P.info? 5 = some inf) (hz : inf.zero = some (.int .u8 0)) (hs : inf.size = 1) (hby : inf.bytes = 1)
    (ho : o.op = .makeSlice 116 x y) (hx : ev e x = some (.int .i64 c)) (hy : ev e y = some (.int .i64 c)) (h0 : 0 ≤ c) (h1 : c ≤ 281474976710656) :
    Res P e o w (.ok (.value (.slice (some ⟨w.heap.size, 0, none⟩) c.toNat c.toNat)) (w.alloc (bytesO (List.replicate c.toNat 0)))) := fun a h => by
  unfold execOp; rw [ho]; simp only [ev_eval h hx, ev_eval h hy]
  have := run_make (P := P) w 116 5 inf (.int .u8 0) hT hI hz .i64 .i64 c c h0 (Int.le_refl _) (by rw [hby]; omega) (by omega)
  rw [Sem.run_bind, this]
  simp only [Result.andThen, Sem.run_pure]
  congr 3
  rw [hs, Nat.mul_one]
  apply Array.ext'
  simp [madeCells, Value.cells, Lib.byteCells]
  exact List.eq_replicate_iff.2 ⟨by simp, by intro v hv; simp at hv; obtain ⟨k, _, rfl⟩ := hv; simp [Nat.mod_one]⟩
theorem byteCells_append (a b : List UInt8) : Lib.byteCells (a ++ b) = Lib.byteCells a ++ Lib.byteCells b := by simp [Lib.byteCells]
/-- The copy of a string into a row. -/
theorem Own.copyS (hO : Own w0 L w) {dT ty : TypeId} {b of dLen dCap : Nat} {l : List UInt8} {s : ByteArray} (hi : L[i]? = some (b, bytesO l)) (hT : P.underlying 116 = some (.slice 5)) (hs : (P.info? 5).map (·.size) = some 1)
    (h1 : s.size ≤ dLen) (h2 : of + s.size ≤ l.length) (hdT : dT = 116) {sT : TypeId} : ∃ w', (Builtin.copy_ #[dT, sT] ty #[.slice (some ⟨b, of, none⟩) dLen dCap, .string s]).run P w = .ok (.int .i64 (s.size : Int)) w' ∧
      Own w0 (L.set i (b, bytesO (l.take of ++ s.data.toList ++ l.drop (of + s.size)))) w' := by
  subst hdT
  refine ⟨_, Lib.run_copy_row_string w 116 sT ty 5 b of dLen dCap s _ 5 hT hs (hO.at hi) h1 (by simpa [Lib.byteCells] using h2), ?_⟩
  have := hO.setRow (c' := ((Lib.byteCells l).toArray.toList.take of ++ Lib.byteCells s.data.toList ++ (Lib.byteCells l).toArray.toList.drop (of + s.size)).toArray) hi
  have e : ((Lib.byteCells l).toArray.toList.take of ++ Lib.byteCells s.data.toList ++ (Lib.byteCells l).toArray.toList.drop (of + s.size)) = Lib.byteCells (l.take of ++ s.data.toList ++ l.drop (of + s.size)) := by
    simp [Lib.byteCells, List.map_take, List.map_drop]
  rw [e] at this ⊢
  exact this
theorem SO.copyS {ol : List Oper} {d b of dLen dCap j : Nat} {l : List UInt8} {s : ByteArray} {x y : Operand} (hO : Own w0 L w) (hT : P.underlying 116 = some (.slice 5)) (hs : (P.info? 5).map (·.size) = some 1) (hg : gok ops e o = some true)
    (ho : o.op = .call { callee := .builtin .copy, args := [x, y].toArray, argTypes := [116, 9].toArray }) (hd : o.dst = some d) (hN : Nat.blt d N = true) (hx : ev e x = some (.slice (some ⟨b, of, none⟩) dLen dCap)) (hy : ev e y = some (.string s))
    (hi : L[j]? = some (b, bytesO l)) (h1 : s.size ≤ dLen) (h2 : of + s.size ≤ l.length)
    (h : ∀ w', Own w0 (L.set j (b, bytesO (l.take of ++ s.data.toList ++ l.drop (of + s.size)))) w' → SO P ro n ops ol Q N D ((d, .int .i64 (s.size : Int)) :: e) w') : SO P ro n ops (o :: ol) Q N D e w := by
  obtain ⟨w', hr, hO'⟩ := hO.copyS (P := P) (dT := 116) (ty := o.type) (sT := 9) (dLen := dLen) (dCap := dCap) hi hT hs h1 h2 rfl
  exact .val hg (by rw [ho]; rfl) hd hN (.builtin2 ho hx hy (fun cs => by simp [builtin, hr, Result.andThen])) (h w' hO')
theorem SB.copyS {d b of dLen dCap j : Nat} {l : List UInt8} {s : ByteArray} {x y : Operand} (hO : Own w0 L w) (hT : P.underlying 116 = some (.slice 5)) (hs : (P.info? 5).map (·.size) = some 1) (hi' : ops[i]? = some o) (hg : gok ops e o = some true)
    (ho : o.op = .call { callee := .builtin .copy, args := [x, y].toArray, argTypes := [116, 9].toArray }) (hd : o.dst = some d) (hN : Nat.blt d N = true) (hx : ev e x = some (.slice (some ⟨b, of, none⟩) dLen dCap)) (hy : ev e y = some (.string s))
    (hi : L[j]? = some (b, bytesO l)) (h1 : s.size ≤ dLen) (h2 : of + s.size ≤ l.length)
    (h : ∀ w', Own w0 (L.set j (b, bytesO (l.take of ++ s.data.toList ++ l.drop (of + s.size)))) w' → S w' ∧ SA P ops Q S fuel (listed.setIfInBounds i true) N D ((d, .int .i64 (s.size : Int)) :: e) w') : SB P ops Q S i fuel listed N D e w := by
  obtain ⟨w', hr, hO'⟩ := hO.copyS (P := P) (dT := 116) (ty := o.type) (sT := 9) (dLen := dLen) (dCap := dCap) hi hT hs h1 h2 rfl
  have k := h w' hO'
  exact .val hi' hg hd hN (.builtin2 ho hx hy (fun cs => by simp [builtin, hr, Result.andThen])) k.1 k.2
/-- The copy of a part of a row into the row. -/
theorem Own.copyR (hO : Own w0 L w) {ty : TypeId} {b of dLen dCap oz sLen sCap k : Nat} {l : List UInt8} (hi : L[i]? = some (b, bytesO l)) (hT : P.underlying 116 = some (.slice 5)) (hs : (P.info? 5).map (·.size) = some 1)
    (hk : k = Nat.min sLen dLen) (h1 : oz + k ≤ l.length) (h2 : of + k ≤ l.length) : ∃ w', (Builtin.copy_ #[116, 116] ty #[.slice (some ⟨b, of, none⟩) dLen dCap, .slice (some ⟨b, oz, none⟩) sLen sCap]).run P w = .ok (.int .i64 (k : Int)) w' ∧
      Own w0 (L.set i (b, bytesO (l.take of ++ (l.drop oz).take k ++ l.drop (of + k)))) w' := by
  have hlen : ((l.drop oz).take k).length = k := by simp; omega
  have hcl : (Lib.byteCells ((l.drop oz).take k)).length = k := by rw [Lib.byteCells_length, hlen]
  have hr := run_copy_row (P := P) w 116 116 ty 5 b of dLen dCap ⟨b, oz, none⟩ sLen sCap _ 5 (Lib.byteCells ((l.drop oz).take k)) hT hs (hO.at hi) (by rw [hcl, hk]) (fun j v hv => by
    have ha : ((⟨b, oz, none⟩ : Addr).add j) = ⟨b, oz + j, none⟩ := by
      unfold Addr.add; split
      · rename_i e; subst e; rfl
      · rfl
    rw [ha]
    refine cell_of' (hO.at hi) ?_
    have hj : j < k := by have := (List.getElem?_eq_some_iff.1 hv).1; omega
    simp only [Lib.byteCells, List.getElem?_map, List.getElem?_toArray, List.getElem?_take_of_lt hj, List.getElem?_drop] at hv ⊢
    exact hv) (by rw [hcl]; simpa [Lib.byteCells] using h2) (Lib.byteCells_one _)
  rw [hcl] at hr
  refine ⟨_, hr, ?_⟩
  have := hO.setRow (c' := ((Lib.byteCells l).toArray.toList.take of ++ Lib.byteCells ((l.drop oz).take k) ++ (Lib.byteCells l).toArray.toList.drop (of + k)).toArray) hi
  have e : ((Lib.byteCells l).toArray.toList.take of ++ Lib.byteCells ((l.drop oz).take k) ++ (Lib.byteCells l).toArray.toList.drop (of + k)) = Lib.byteCells (l.take of ++ (l.drop oz).take k ++ l.drop (of + k)) := by
    simp [Lib.byteCells, List.map_take, List.map_drop]
  rw [e] at this ⊢
  exact this
theorem SB.copyR {d b of dLen dCap oz sLen sCap k j : Nat} {l : List UInt8} {x y : Operand} (hO : Own w0 L w) (hT : P.underlying 116 = some (.slice 5)) (hs : (P.info? 5).map (·.size) = some 1) (hi' : ops[i]? = some o) (hg : gok ops e o = some true)
    (ho : o.op = .call { callee := .builtin .copy, args := [x, y].toArray, argTypes := [116, 116].toArray }) (hd : o.dst = some d) (hN : Nat.blt d N = true) (hx : ev e x = some (.slice (some ⟨b, of, none⟩) dLen dCap)) (hy : ev e y = some (.slice (some ⟨b, oz, none⟩) sLen sCap))
    (hi : L[j]? = some (b, bytesO l)) (hk : k = Nat.min sLen dLen) (h1 : oz + k ≤ l.length) (h2 : of + k ≤ l.length)
    (h : ∀ w', Own w0 (L.set j (b, bytesO (l.take of ++ (l.drop oz).take k ++ l.drop (of + k)))) w' → S w' ∧ SA P ops Q S fuel (listed.setIfInBounds i true) N D ((d, .int .i64 (k : Int)) :: e) w') : SB P ops Q S i fuel listed N D e w := by
  obtain ⟨w', hr, hO'⟩ := hO.copyR (P := P) (ty := o.type) (dLen := dLen) (dCap := dCap) (sLen := sLen) (sCap := sCap) hi hT hs hk h1 h2
  have k := h w' hO'
  exact .val hi' hg hd hN (.builtin2 ho hx hy (fun cs => by simp [builtin, hr, Result.andThen])) k.1 k.2
theorem SO.makeB {ol : List Oper} {d : Nat} {x y : Operand} {c : Int} (hO : Own w0 L w) (hT : P.underlying 116 = some (.slice 5)) {inf : TypeInfo} (hI : P.info? 5 = some inf) (hz : inf.zero = some (.int .u8 0)) (hs : inf.size = 1) (hby : inf.bytes = 1) (hg : gok ops e o = some true)
    (ho : o.op = .makeSlice 116 x y) (hd : o.dst = some d) (hN : Nat.blt d N = true) (hx : ev e x = some (.int .i64 c)) (hy : ev e y = some (.int .i64 c)) (h0 : 0 ≤ c ∧ c ≤ 281474976710656)
    (h : ∀ b w', w0.heap.size ≤ b → Own w0 ((b, bytesO (List.replicate c.toNat 0)) :: L) w' → SO P ro n ops ol Q N D ((d, .slice (some ⟨b, 0, none⟩) c.toNat c.toNat) :: e) w') : SO P ro n ops (o :: ol) Q N D e w :=
  .val hg (by rw [ho]; rfl) hd hN (.makeBytes hT hI hz hs hby ho hx hy h0.1 h0.2) (h _ _ hO.size (hO.alloc _))
/-! #### parts of rows -/
section
variable {x lo hi : Operand} {b len cap : Nat} {k j : IntKind} {a c : Int}
theorem Res.sliceAL (ho : o.op = .slice 116 x (some lo) none none) (hx : ev e x = some (.slice (some ⟨b, 0, none⟩) len cap)) (hl : ev e lo = some (.int k a)) (hT : P.underlying 116 = some (.slice 5)) (hs : ∀ w, (sizeOf 5).run P w = .ok 1 w)
    (hb : 0 ≤ a ∧ a ≤ len) : Res P e o w (.ok (.value (.slice (some ⟨b, sl cap a.toNat, none⟩) (len - a.toNat) (cap - a.toNat))) w) := fun q h => by
  have he : P.elem 116 = 5 := by simp [Program.elem, hT]
  unfold execOp; rw [ho]; simp only [ev_eval h hx, Option.map_some, ev_eval h hl, Option.map_none]
  rw [Sem.run_bind, run_sliceAt_slice w 116 _ _ _ _ (by rw [he]; exact hT), run_slice_l w 116 _ len cap (by rw [he]; exact hT) k a hb.1 hb.2, he, hs]
  simp only [Result.andThen, sliced, Sem.run_pure, sl]
  split
  · rfl
  · simp [Addr.add]
    try omega
theorem Res.sliceALH (ho : o.op = .slice 116 x (some lo) (some hi) none) (hx : ev e x = some (.slice (some ⟨b, 0, none⟩) len cap)) (hl : ev e lo = some (.int k a)) (hh : ev e hi = some (.int j c)) (hT : P.underlying 116 = some (.slice 5)) (hs : ∀ w, (sizeOf 5).run P w = .ok 1 w)
    (hb : 0 ≤ a ∧ a ≤ c ∧ c ≤ cap) : Res P e o w (.ok (.value (.slice (some ⟨b, sl cap a.toNat, none⟩) (c.toNat - a.toNat) (cap - a.toNat))) w) := fun q h => by
  have he : P.elem 116 = 5 := by simp [Program.elem, hT]
  unfold execOp; rw [ho]; simp only [ev_eval h hx, Option.map_some, ev_eval h hl, ev_eval h hh, Option.map_none]
  rw [Sem.run_bind, run_sliceAt_slice w 116 _ _ _ _ (by rw [he]; exact hT), run_slice_lh w 116 _ len cap (by rw [he]; exact hT) k j a c hb.1 hb.2.1 hb.2.2, he, hs]
  simp only [Result.andThen, sliced, Sem.run_pure, sl]
  split
  · rfl
  · simp [Addr.add]
    try omega
theorem Res.sliceAH (ho : o.op = .slice 116 x none (some hi) none) (hx : ev e x = some (.slice (some ⟨b, 0, none⟩) len cap)) (hh : ev e hi = some (.int j c)) (hT : P.underlying 116 = some (.slice 5)) (hs : ∀ w, (sizeOf 5).run P w = .ok 1 w)
    (hb : 0 ≤ c ∧ c ≤ cap) : Res P e o w (.ok (.value (.slice (some ⟨b, 0, none⟩) c.toNat cap)) w) := fun q h => by
  have he : P.elem 116 = 5 := by simp [Program.elem, hT]
  unfold execOp; rw [ho]; simp only [ev_eval h hx, Option.map_some, ev_eval h hh, Option.map_none]
  rw [Sem.run_bind, run_sliceAt_slice w 116 _ _ _ _ (by rw [he]; exact hT), run_slice_h w 116 _ len cap (by rw [he]; exact hT) j c hb.1 hb.2, he, hs]
  simp only [Result.andThen, sliced, Sem.run_pure]
  simp [Addr.add]
/-- A part of a row, as a string. -/
theorem Res.bytesStr {of : Nat} {l : List UInt8} (ho : o.op = .convert 116 9 x) (hx : ev e x = some (.slice (some ⟨b, of, none⟩) len cap)) (hT : P.underlying 116 = some (.slice 5)) (h5 : P.underlying 5 = some (.int .u8)) (h9 : P.underlying 9 = some .string)
    (hb : w.heap[b]? = some (bytesO l)) (hl : of + len ≤ l.length) : Res P e o w (.ok (.value (.string ⟨((l.drop of).take len).toArray⟩)) w) := fun q h => by
  unfold execOp; rw [ho]; simp only [ev_eval h hx]
  have hlen : ((l.drop of).take len).length = len := by simp; omega
  have := run_convert_bytes_back (P := P) w 116 9 5 ⟨b, of, none⟩ cap ((l.drop of).take len) hT h5 h9 (fun j' hj => by
    have ha : ((⟨b, of, none⟩ : Addr).add j') = ⟨b, of + j', none⟩ := by
      unfold Addr.add; split
      · rename_i e; subst e; rfl
      · rfl
    rw [ha]
    refine cell_of' hb ?_
    have hj2 : j' < len := by omega
    simp only [Lib.byteCells, List.getElem?_toArray, List.getElem?_map]
    rw [List.getElem?_eq_getElem (by omega)]
    simp [List.getElem_take, List.getElem_drop])
  rw [hlen] at this
  rw [Sem.run_bind, this]; rfl
end
end Ow
end Go.Proofs.YtclgplkkajfenaaGreatDoor
