/- metric.Join; rows of bytes; the gap buffer, what asks, New. -/
import Derived.Test.YtclgplkkajfenaaGreatDoorCalc
import Derived.Laws.StructEq
import Derived.Test.YtclgplkkajfenaaGreatDoorMetr
import Derived.Test.YtclgplkkajfenaaGreatDoorWalks1
import Derived.Lib.BufferWrite
import Derived.Laws.BytesArg
/- '==' of structs, field by field. -/
  namespace Go.Proofs.YtclgplkkajfenaaGreatDoor
open Go Go.RowKit
variable {P : Program} {d : Nat} {xs ys : Array Value} {f : Field} {fs : List Field} {a b : Value} {r s : Bool} {w : World}
theorem eqf_cons (hn : (f.name == "_") = false) (ha : (part f.type xs f.offset).run P w = .ok a w) (hb : (part f.type ys f.offset).run P w = .ok b w) (he : (Op.equalIn d f.type a b).run P w = .ok r w)
    (hr : (Op.eqFields d xs ys fs).run P w = .ok s w) : (Op.eqFields d xs ys (f :: fs)).run P w = .ok (r && s) w := by
  have h1 : f.name ≠ "_" := by simpa using hn
  simp only [Op.eqFields, if_pos h1, Sem.run_bind, ha, hb, he, Result.andThen]
  cases r
  · simp
  · simpa using hr
theorem eqf_last (hn : (f.name == "_") = false) (ha : (part f.type xs f.offset).run P w = .ok a w) (hb : (part f.type ys f.offset).run P w = .ok b w) (he : (Op.equalIn d f.type a b).run P w = .ok r w) :
    (Op.eqFields d xs ys [f]).run P w = .ok r w := by
  have h := eqf_cons (s := true) hn ha hb he (show (Op.eqFields d xs ys []).run P w = .ok true w by simp [Op.eqFields])
  rwa [Bool.and_true] at h
theorem eqA_of {t : TypeId} {fs : Array Field} (hu : P.underlying t = some (.struct fs)) (hp : P.stoodInHeld t = false) (h : (Op.eqFields d xs ys fs.toList).run P w = .ok r w) :
    (Op.equalIn (d + 1) t (.agg xs) (.agg ys)).run P w = .ok r w := by
  have e : P.fieldsOf t = fs := by simp [Program.fieldsOf, hu]
  rw [run_equalIn_struct (P := P) w d t xs ys (by rw [e]; exact hu) hp, e]
  exact h
end Go.Proofs.YtclgplkkajfenaaGreatDoor
/- metric.Join. -/
  namespace Go.Proofs.YtclgplkkajfenaaGreatDoor
open Go Go.RowKit Ow
theorem eq91 (a b : Smy) (w : World) : (binOp .eql 91 (smV a) (smV b)).run Tryz.prog w = .ok (.bool (decide (a = b))) w := by
  rw [run_eql_struct, show (10000 : Nat) = 9999 + 1 from rfl]
  have key : (Op.equalIn (9999 + 1) 91 (smV a) (smV b)).run Tryz.prog w = .ok (a.b == b.b && (a.u == b.u && (a.c == b.c && (a.k == b.k && (a.nl == b.nl && (a.h.toList == b.h.toList && a.t.toList == b.t.toList)))))) w := by
    refine eqA_of Tryz.underlying91 (by kernel_rfl) ?_
    refine eqf_cons rfl (a := .int .i64 a.b) (b := .int .i64 b.b) (by kernel_rfl) (by kernel_rfl) (run_equalIn_int w _ _ _ _ _ _ Tryz.underlying3) ?_
    refine eqf_cons rfl (a := .int .i64 a.u) (b := .int .i64 b.u) (by kernel_rfl) (by kernel_rfl) (run_equalIn_int w _ _ _ _ _ _ Tryz.underlying3) ?_
    refine eqf_cons rfl (a := .int .i64 a.c) (b := .int .i64 b.c) (by kernel_rfl) (by kernel_rfl) (run_equalIn_int w _ _ _ _ _ _ Tryz.underlying3) ?_
    refine eqf_cons rfl (a := .int .i64 a.k) (b := .int .i64 b.k) (by kernel_rfl) (by kernel_rfl) (run_equalIn_int w _ _ _ _ _ _ Tryz.underlying3) ?_
    refine eqf_cons rfl (a := .int .i64 a.nl) (b := .int .i64 b.nl) (by kernel_rfl) (by kernel_rfl) (run_equalIn_int w _ _ _ _ _ _ Tryz.underlying3) ?_
    refine eqf_cons rfl (a := .string a.h) (b := .string b.h) (by kernel_rfl) (by kernel_rfl) (run_equalIn_string w _ _ _ _ Tryz.underlying9) ?_
    exact eqf_last rfl (a := .string a.t) (b := .string b.t) (by kernel_rfl) (by kernel_rfl) (run_equalIn_string w _ _ _ _ Tryz.underlying9)
  have e0 : ∀ r : Bool, (Result.ok r w : Result Bool).andThen (fun b w' => Result.ok (Value.bool b) w') = Result.ok (Value.bool r) w := fun _ => rfl
  refine (congrArg (fun r : Result Bool => r.andThen (fun b w' => Result.ok (Value.bool b) w')) key).trans ((e0 _).trans ?_)
  refine congrArg (fun r => Result.ok (Value.bool r) w) ?_
  clear key e0
  obtain ⟨a1, a2, a3, a4, a5, a6, a7⟩ := a
  obtain ⟨b1, b2, b3, b4, b5, b6, b7⟩ := b
  simp only [Smy.mk.injEq]
  have hs : ∀ s t : ByteArray, (s.toList == t.toList) = decide (s = t) := fun s t => by
    by_cases h : s = t
    · subst h; simp
    · rw [decide_eq_false h]; simpa using fun h' => h (toList_inj h')
  simp only [hs]
  simp only [Bool.decide_and]
  rfl
theorem Res.eql91 {e : Env} {o : Oper} {w : World} {x y : Operand} {a b : Smy} (ho : o.op = .binOp .eql 91 x y 91) (hx : ev e x = some (smV a)) (hy : ev e y = some (smV b)) : Res Tryz.prog e o w (.ok (.value (.bool (decide (a = b)))) w) :=
  .bin ho hx hy (run_eqGuard_agg w _ _ _ _ _ _ (by kernel_rfl)) (eq91 a b w)
def joinL (m : Smy) (ps : List Smy) : Smy := ps.foldl (fun m p => if m = zS then p else pairS m p) m
theorem joinL_snoc (ps : List Smy) (p m : Smy) : joinL m (ps ++ [p]) = if joinL m ps = zS then p else pairS (joinL m ps) p := by
  unfold joinL; rw [List.foldl_append]; rfl
theorem joinL_ok : ∀ (ps : List Smy) (m : Smy), SOk m → (∀ p ∈ ps, SOk p) → SOk (joinL m ps)
  | [], _, h, _ => h
  | p :: ps, m, h, hp => by
    refine joinL_ok ps _ ?_ fun q hq => hp q (List.mem_cons_of_mem _ hq)
    simp only
    split
    · exact hp p (by simp)
    · exact h.pair (hp p (by simp))
def rows (ps : List Smy) : List Value := (ps.map smC).flatten
theorem rows_get : ∀ (ps : List Smy) (i : Nat) (p : Smy), ps[i]? = some p → ∀ j v, (smC p)[j]? = some v → (rows ps)[i * 7 + j]? = some v
  | [], i, p, h, _, _, _ => by simp at h
  | q :: ps, 0, p, h, j, v, hj => by
    simp at h; subst h
    have : j < 7 := by have := (List.getElem?_eq_some_iff.1 hj).1; simpa using this
    simp only [rows, List.map_cons, List.flatten_cons, Nat.zero_mul, Nat.zero_add]
    rw [List.getElem?_append_left (by simpa using this)]; exact hj
  | q :: ps, i + 1, p, h, j, v, hj => by
    simp only [rows, List.map_cons, List.flatten_cons]
    rw [List.getElem?_append_right (by simp; omega)]
    have := rows_get ps i p (by simpa using h) j v hj
    rw [show (i + 1) * 7 + j - (smC q).length = i * 7 + j by simp; omega]
    exact this
theorem row_cell {w : World} {bp : Nat} {ps : List Smy} {i : Nat} {p : Smy} (h : w.heap[bp]? = some (.cells (rows ps).toArray 91 (0, 0))) (hp : ps[i]? = some p) :
    ∀ j v, (smC p)[j]? = some v → w.cell? ⟨bp, 0 + ((i : Nat) : Int).toNat * 7 + j, none⟩ = some v := fun j v hv =>
  cell_of' h (by simpa using rows_get ps i p hp j v hv)

theorem bd91_z_Join  : ∀ w, (Instr.build 91 [].toArray).run Tryz.prog w = .ok (.agg [.int .i64 0, .int .i64 0, .int .i64 0, .int .i64 0, .int .i64 0, .string ⟨#[]⟩, .string ⟨#[]⟩].toArray) w := fun _ => by kernel_rfl
set_option maxRecDepth 40000 in
set_option maxHeartbeats 400000 in
theorem join_any (ps : List Smy) (bp : Nat) (w : World) (hG : Good w) (hl : ps.length ≤ 1000) (hok : ∀ p ∈ ps, SOk p) (hp : w.heap[bp]? = some (.cells (rows ps).toArray 91 (0, 0))) :
    Calls Tryz.prog 216 #[.slice (some ⟨bp, 0, none⟩) ps.length ps.length] w fun e w' => e = .returned (smV (joinL zS ps)) ∧ Below w.heap.size w w' := by
  have hO0 := Own.start hG
  refine enter Tryz.func216 rfl rfl rfl 0 ?_
  refine SC.sr ?_
  refine SO.alloc hO0 rfl rfl rfl rfl zv91 [_, _, _, _, _, _, _] rfl ?_
  intro b1 w1 hb1 hO1
  refine SO.nn ?_
  refine SC.sr ?_
  refine SO.alloc hO1 rfl rfl rfl rfl zv91 [_, _, _, _, _, _, _] rfl ?_
  intro b2 w2 hb2 hO2
  refine SO.nn ?_
  refine SC.seq ?_
  refine SC.sr ?_
  refine SO.mv ?_
  refine SO.v (.lenA rfl rfl Tryz.underlying246) ?_
  refine SO.mv ?_
  refine SO.nn ?_
  refine SC.block ?_
  refine SC.loop (α := Nat × Smy) (fun x => [(2, .pointer (some ⟨b1, 0, none⟩)), (3, .pointer (some ⟨b2, 0, none⟩)), (6, .slice (some ⟨bp, 0, none⟩) ps.length ps.length), (7, .int .i64 (ps.length : Int)), (8, .int .i64 (x.1 : Int))]) (fun x v => x.1 ≤ ps.length ∧ x.2 = joinL zS (ps.take x.1) ∧ Ow.Own w [(b2, .cells (smC x.2).toArray 91 (0, 0)), (b1, .cells (smC zS).toArray 91 (0, 0))] v) (fun x => ps.length - x.1) (0, zS) ?_ ?_ ?_
  · exact ⟨rfl, rfl, rfl, rfl, rfl, trivial⟩
  · exact ⟨by simp, rfl, hO2⟩
  rintro ⟨i, m⟩ w3 ⟨hi, hm, hO3⟩
  simp only at hi hm hO3
  refine SC.sr ?_
  refine SO.v (.lss rfl rfl rfl) ?_
  refine SO.nn ?_
  refine SC.seq ?_
  refine SC.dec rfl (fun c4 => ?_) (fun c4 => ?_)
  ·
   obtain ⟨p, hpi⟩ : ∃ p, ps[i]? = some p := ⟨ps[i]'(by omega), List.getElem?_eq_getElem (by omega)⟩
   have hstep : joinL zS (ps.take (i + 1)) = if m = zS then p else pairS m p := by
     rw [List.take_add_one, hpi, hm]; exact joinL_snoc _ _ _
   have hpok : SOk p := hok p (List.mem_of_getElem? hpi)
   have hmok : SOk m := by rw [hm]; exact joinL_ok _ _ SOk.zero (fun q hq => hok q (List.mem_of_mem_take hq))
   refine SC.skip ?_
   refine SQ.then_normal ?_
   refine SC.seq ?_
   refine SC.block ?_
   refine SC.sr ?_
   refine SO.v (.indexAddr rfl rfl rfl Tryz.underlying246 sz91 (by omega) (by omega)) ?_
   refine SO.v (.loadN (cs := smC p) rfl rfl ag91 sz91 (row_cell (hO3.heapO (by exact ⟨hb2, hb1, trivial⟩) hp) hpi)) ?_
   refine SO.alloc hO3 rfl rfl rfl rfl zv91 [_, _, _, _, _, _, _] rfl ?_
   intro b5 w5 hb5 hO5
   refine SO.store hO5 (i := 0) rfl rfl rfl rfl rfl rfl sz91 rfl rfl [(_, .cells [_, _, _, _, _, _, _].toArray _ _), _, _] rfl ?_
   intro w6 hO6
   refine SO.nn ?_
   refine SC.seq ?_
   refine SC.sr ?_
   refine SO.v (.loadB [_, _, _, _, _, _, _] rfl rfl ag91 sz91 (hO6.at (i := 1) rfl) rfl rfl) ?_
   refine SO.v (.build rfl rfl (bd91_z_Join)) ?_
   refine SO.v (Res.eql91 (a := m) (b := zS) rfl rfl rfl) ?_
   refine SO.nn ?_
   refine SC.dec rfl (fun c7 => ?_) (fun c7 => ?_)
   ·
    have hz0 : m = zS := c7
    refine SC.sr ?_
    refine SO.v (.loadB [_, _, _, _, _, _, _] rfl rfl ag91 sz91 (hO6.at (i := 0) rfl) rfl rfl) ?_
    refine SO.store hO6 (i := 1) rfl rfl rfl rfl rfl rfl sz91 rfl rfl [_, (_, .cells [_, _, _, _, _, _, _].toArray _ _), _] rfl ?_
    intro w8 hO8
    refine SO.nn ?_
    refine SC.exit ?_
    refine SQ.then_exit ?_
    refine SQ.block_exit ?_
    refine SQ.then_normal ?_
    refine SC.region ?_
    refine SO.v (.add rfl rfl rfl (by omega)) ?_
    refine SO.mv ?_
    refine SO.nil ?_
    exact SQ.round (i + 1, p) (by simp only; omega) ⟨rfl, rfl, rfl, rfl, look_int rfl (by simp), trivial⟩ ⟨by simp only; omega, by simp only; rw [hstep, if_pos hz0], (hO8.tail hb5)⟩
   ·
    have hz0 : ¬ m = zS := c7
    refine SC.skip ?_
    refine SQ.then_normal ?_
    refine SC.region ?_
    refine SO.v (.loadB [_, _, _, _, _, _, _] rfl rfl ag91 sz91 (hO6.at (i := 1) rfl) rfl rfl) ?_
    refine SO.v (.loadB [_, _, _, _, _, _, _] rfl rfl ag91 sz91 (hO6.at (i := 0) rfl) rfl rfl) ?_
    refine SO.call rfl rfl rfl rfl (.callF rfl rfl en224) (pair_any m p _ (hO6.good hG) hmok hpok) ?_
    rintro _ w9 ⟨rfl, hb9⟩
    have hO9 := hO6.below hb9
    refine ⟨_, rfl, ?_⟩
    refine SO.store hO9 (i := 1) rfl rfl rfl rfl rfl rfl sz91 rfl rfl [_, (_, .cells [_, _, _, _, _, _, _].toArray _ _), _] rfl ?_
    intro w10 hO10
    refine SO.nil ?_
    refine SQ.block_normal ?_
    refine SQ.then_normal ?_
    refine SC.region ?_
    refine SO.v (.add rfl rfl rfl (by omega)) ?_
    refine SO.mv ?_
    refine SO.nil ?_
    exact SQ.round (i + 1, pairS m p) (by simp only; omega) ⟨rfl, rfl, rfl, rfl, look_int rfl (by simp), trivial⟩ ⟨by simp only; omega, by simp only; rw [hstep, if_neg hz0], (hO10.tail hb5)⟩
  ·
   have hfin : m = joinL zS ps := by rw [hm, List.take_of_length_le (by omega)]
   refine SC.exit ?_
   refine SQ.then_exit ?_
   refine SQ.then_exit ?_
   refine SQ.block_exit ?_
   refine SQ.then_normal ?_
   refine SC.sr ?_
   refine SO.v (.loadB [_, _, _, _, _, _, _] rfl rfl ag91 sz91 (hO3.at (i := 0) rfl) rfl rfl) ?_
   refine SO.store hO3 (i := 1) rfl rfl rfl rfl rfl rfl sz91 rfl rfl [_, (_, .cells [_, _, _, _, _, _, _].toArray _ _)] rfl ?_
   intro w11 hO11
   refine SO.nn ?_
   refine SC.ret ?_
   refine SQ.out (.inl rfl) (resC [_, _, _, _, _, _, _] rfl rfl ag91 sz91 (hO11.at (i := 1) rfl) rfl rfl) ?_
   subst hfin
   exact ⟨rfl, hO11.toBelow ⟨hb2, hb1, trivial⟩⟩

end Go.Proofs.YtclgplkkajfenaaGreatDoor
/- The calculus: rows of bytes. -/
   namespace Go.Proofs.YtclgplkkajfenaaGreatDoor
namespace Ow
open Go Go.RowKit
variable {P : Program} {ro : Option Nat} {n : Nat} {ops : Array Oper} {Q : Exit → Act → World → Prop} {N : Nat} {D : List Deferred} {e : Env} {w w0 : World} {o : Oper} {L : List (Nat × Obj)} {S : World → Prop} {fuel i : Nat} {listed : Array Bool}
/-- A row of bytes. -/
def bytesO (l : List UInt8) : Obj := .cells (Lib.byteCells l).toArray 5 (0, 0)
/-- Where a part of a row of so many begins. -/
def sl (cap lo : Nat) : Nat := if cap = lo then 0 else lo
theorem Own.setRow (h : Own w0 L w) {i b : Nat} {c c' : Array Value} {T : TypeId} (hi : L[i]? = some (b, .cells c T (0, 0))) : Own w0 (L.set i (b, .cells c' T (0, 0))) (w.setRow b c') := by
  have hb := h.at hi
  refine h.set hi rfl rfl rfl (by simp [World.setRow]) (setRow_heap w b c c' T (0, 0) hb) (fun k hk => ?_)
  simp only [World.setRow, Array.getElem?_modify]; rw [if_neg (Ne.symm hk)]
theorem Res.makeBytes {x y : Operand} {c : Int} (hT : P.underlying 116 = some (.slice 5)) {inf : TypeInfo} (hI : P.info? 5 = some inf) (hz : inf.zero = some (.int .u8 0)) (hs : inf.size = 1) (hby : inf.bytes = 1)
    (ho : o.op = .makeSlice 116 x y) (hx : ev e x = some (.int .i64 c)) (hy : ev e y = some (.int .i64 c)) (h0 : 0 ≤ c) (h1 : c ≤ 281474976710656) :
    Res P e o w (.ok (.value (.slice (some ⟨w.heap.size, 0, none⟩) c.toNat c.toNat)) (w.alloc (bytesO (List.replicate c.toNat 0)))) := fun a h => by
  unfold execOp; rw [ho]; simp only [ev_eval h hx, ev_eval h hy]
  have := run_make (P := P) w 116 5 inf (.int .u8 0) hT hI hz .i64 .i64 c c h0 (Int.le_refl _) (by rw [hby]; omega) (by omega)
  rw [Sem.run_bind, this]
  simp only [Result.andThen, Sem.run_pure]
  congr 3
  rw [hs, Nat.mul_one]
  apply Array.ext'
  simp [madeCells, Value.cells, Lib.byteCells]
  exact List.eq_replicate_iff.2 ⟨by simp, by intro v hv; simp at hv; obtain ⟨k, _, rfl⟩ := hv; simp [Nat.mod_one]⟩
theorem byteCells_append (a b : List UInt8) : Lib.byteCells (a ++ b) = Lib.byteCells a ++ Lib.byteCells b := by simp [Lib.byteCells]
/-- The copy of a string into a row. -/
theorem Own.copyS (hO : Own w0 L w) {dT ty : TypeId} {b of dLen dCap : Nat} {l : List UInt8} {s : ByteArray} (hi : L[i]? = some (b, bytesO l)) (hT : P.underlying 116 = some (.slice 5)) (hs : (P.info? 5).map (·.size) = some 1)
    (h1 : s.size ≤ dLen) (h2 : of + s.size ≤ l.length) (hdT : dT = 116) {sT : TypeId} : ∃ w', (Builtin.copy_ #[dT, sT] ty #[.slice (some ⟨b, of, none⟩) dLen dCap, .string s]).run P w = .ok (.int .i64 (s.size : Int)) w' ∧
      Own w0 (L.set i (b, bytesO (l.take of ++ s.data.toList ++ l.drop (of + s.size)))) w' := by
  subst hdT
  refine ⟨_, Lib.run_copy_row_string w 116 sT ty 5 b of dLen dCap s _ 5 hT hs (hO.at hi) h1 (by simpa [Lib.byteCells] using h2), ?_⟩
  have := hO.setRow (c' := ((Lib.byteCells l).toArray.toList.take of ++ Lib.byteCells s.data.toList ++ (Lib.byteCells l).toArray.toList.drop (of + s.size)).toArray) hi
  have e : ((Lib.byteCells l).toArray.toList.take of ++ Lib.byteCells s.data.toList ++ (Lib.byteCells l).toArray.toList.drop (of + s.size)) = Lib.byteCells (l.take of ++ s.data.toList ++ l.drop (of + s.size)) := by
    simp [Lib.byteCells, List.map_take, List.map_drop]
  rw [e] at this ⊢
  exact this
theorem SO.copyS {ol : List Oper} {d b of dLen dCap j : Nat} {l : List UInt8} {s : ByteArray} {x y : Operand} (hO : Own w0 L w) (hT : P.underlying 116 = some (.slice 5)) (hs : (P.info? 5).map (·.size) = some 1) (hg : gok ops e o = some true)
    (ho : o.op = .call { callee := .builtin .copy, args := [x, y].toArray, argTypes := [116, 9].toArray }) (hd : o.dst = some d) (hN : Nat.blt d N = true) (hx : ev e x = some (.slice (some ⟨b, of, none⟩) dLen dCap)) (hy : ev e y = some (.string s))
    (hi : L[j]? = some (b, bytesO l)) (h1 : s.size ≤ dLen) (h2 : of + s.size ≤ l.length)
    (h : ∀ w', Own w0 (L.set j (b, bytesO (l.take of ++ s.data.toList ++ l.drop (of + s.size)))) w' → SO P ro n ops ol Q N D ((d, .int .i64 (s.size : Int)) :: e) w') : SO P ro n ops (o :: ol) Q N D e w := by
  obtain ⟨w', hr, hO'⟩ := hO.copyS (P := P) (dT := 116) (ty := o.type) (sT := 9) (dLen := dLen) (dCap := dCap) hi hT hs h1 h2 rfl
  exact .val hg (by rw [ho]; rfl) hd hN (.builtin2 ho hx hy (fun cs => by simp [builtin, hr, Result.andThen])) (h w' hO')
theorem SB.copyS {d b of dLen dCap j : Nat} {l : List UInt8} {s : ByteArray} {x y : Operand} (hO : Own w0 L w) (hT : P.underlying 116 = some (.slice 5)) (hs : (P.info? 5).map (·.size) = some 1) (hi' : ops[i]? = some o) (hg : gok ops e o = some true)
    (ho : o.op = .call { callee := .builtin .copy, args := [x, y].toArray, argTypes := [116, 9].toArray }) (hd : o.dst = some d) (hN : Nat.blt d N = true) (hx : ev e x = some (.slice (some ⟨b, of, none⟩) dLen dCap)) (hy : ev e y = some (.string s))
    (hi : L[j]? = some (b, bytesO l)) (h1 : s.size ≤ dLen) (h2 : of + s.size ≤ l.length)
    (h : ∀ w', Own w0 (L.set j (b, bytesO (l.take of ++ s.data.toList ++ l.drop (of + s.size)))) w' → S w' ∧ SA P ops Q S fuel (listed.setIfInBounds i true) N D ((d, .int .i64 (s.size : Int)) :: e) w') : SB P ops Q S i fuel listed N D e w := by
  obtain ⟨w', hr, hO'⟩ := hO.copyS (P := P) (dT := 116) (ty := o.type) (sT := 9) (dLen := dLen) (dCap := dCap) hi hT hs h1 h2 rfl
  have k := h w' hO'
  exact .val hi' hg hd hN (.builtin2 ho hx hy (fun cs => by simp [builtin, hr, Result.andThen])) k.1 k.2
/-- The copy of a part of a row into the row. -/
theorem Own.copyR (hO : Own w0 L w) {ty : TypeId} {b of dLen dCap oz sLen sCap k : Nat} {l : List UInt8} (hi : L[i]? = some (b, bytesO l)) (hT : P.underlying 116 = some (.slice 5)) (hs : (P.info? 5).map (·.size) = some 1)
    (hk : k = Nat.min sLen dLen) (h1 : oz + k ≤ l.length) (h2 : of + k ≤ l.length) : ∃ w', (Builtin.copy_ #[116, 116] ty #[.slice (some ⟨b, of, none⟩) dLen dCap, .slice (some ⟨b, oz, none⟩) sLen sCap]).run P w = .ok (.int .i64 (k : Int)) w' ∧
      Own w0 (L.set i (b, bytesO (l.take of ++ (l.drop oz).take k ++ l.drop (of + k)))) w' := by
  have hlen : ((l.drop oz).take k).length = k := by simp; omega
  have hcl : (Lib.byteCells ((l.drop oz).take k)).length = k := by rw [Lib.byteCells_length, hlen]
  have hr := run_copy_row (P := P) w 116 116 ty 5 b of dLen dCap ⟨b, oz, none⟩ sLen sCap _ 5 (Lib.byteCells ((l.drop oz).take k)) hT hs (hO.at hi) (by rw [hcl, hk]) (fun j v hv => by
    have ha : ((⟨b, oz, none⟩ : Addr).add j) = ⟨b, oz + j, none⟩ := by
      unfold Addr.add; split
      · rename_i e; subst e; rfl
      · rfl
    rw [ha]
    refine cell_of' (hO.at hi) ?_
    have hj : j < k := by have := (List.getElem?_eq_some_iff.1 hv).1; omega
    simp only [Lib.byteCells, List.getElem?_map, List.getElem?_toArray, List.getElem?_take_of_lt hj, List.getElem?_drop] at hv ⊢
    exact hv) (by rw [hcl]; simpa [Lib.byteCells] using h2) (Lib.byteCells_one _)
  rw [hcl] at hr
  refine ⟨_, hr, ?_⟩
  have := hO.setRow (c' := ((Lib.byteCells l).toArray.toList.take of ++ Lib.byteCells ((l.drop oz).take k) ++ (Lib.byteCells l).toArray.toList.drop (of + k)).toArray) hi
  have e : ((Lib.byteCells l).toArray.toList.take of ++ Lib.byteCells ((l.drop oz).take k) ++ (Lib.byteCells l).toArray.toList.drop (of + k)) = Lib.byteCells (l.take of ++ (l.drop oz).take k ++ l.drop (of + k)) := by
    simp [Lib.byteCells, List.map_take, List.map_drop]
  rw [e] at this ⊢
  exact this
theorem SB.copyR {d b of dLen dCap oz sLen sCap k j : Nat} {l : List UInt8} {x y : Operand} (hO : Own w0 L w) (hT : P.underlying 116 = some (.slice 5)) (hs : (P.info? 5).map (·.size) = some 1) (hi' : ops[i]? = some o) (hg : gok ops e o = some true)
    (ho : o.op = .call { callee := .builtin .copy, args := [x, y].toArray, argTypes := [116, 116].toArray }) (hd : o.dst = some d) (hN : Nat.blt d N = true) (hx : ev e x = some (.slice (some ⟨b, of, none⟩) dLen dCap)) (hy : ev e y = some (.slice (some ⟨b, oz, none⟩) sLen sCap))
    (hi : L[j]? = some (b, bytesO l)) (hk : k = Nat.min sLen dLen) (h1 : oz + k ≤ l.length) (h2 : of + k ≤ l.length)
    (h : ∀ w', Own w0 (L.set j (b, bytesO (l.take of ++ (l.drop oz).take k ++ l.drop (of + k)))) w' → S w' ∧ SA P ops Q S fuel (listed.setIfInBounds i true) N D ((d, .int .i64 (k : Int)) :: e) w') : SB P ops Q S i fuel listed N D e w := by
  obtain ⟨w', hr, hO'⟩ := hO.copyR (P := P) (ty := o.type) (dLen := dLen) (dCap := dCap) (sLen := sLen) (sCap := sCap) hi hT hs hk h1 h2
  have k := h w' hO'
  exact .val hi' hg hd hN (.builtin2 ho hx hy (fun cs => by simp [builtin, hr, Result.andThen])) k.1 k.2
theorem SO.makeB {ol : List Oper} {d : Nat} {x y : Operand} {c : Int} (hO : Own w0 L w) (hT : P.underlying 116 = some (.slice 5)) {inf : TypeInfo} (hI : P.info? 5 = some inf) (hz : inf.zero = some (.int .u8 0)) (hs : inf.size = 1) (hby : inf.bytes = 1) (hg : gok ops e o = some true)
    (ho : o.op = .makeSlice 116 x y) (hd : o.dst = some d) (hN : Nat.blt d N = true) (hx : ev e x = some (.int .i64 c)) (hy : ev e y = some (.int .i64 c)) (h0 : 0 ≤ c ∧ c ≤ 281474976710656)
    (h : ∀ b w', w0.heap.size ≤ b → Own w0 ((b, bytesO (List.replicate c.toNat 0)) :: L) w' → SO P ro n ops ol Q N D ((d, .slice (some ⟨b, 0, none⟩) c.toNat c.toNat) :: e) w') : SO P ro n ops (o :: ol) Q N D e w :=
  .val hg (by rw [ho]; rfl) hd hN (.makeBytes hT hI hz hs hby ho hx hy h0.1 h0.2) (h _ _ hO.size (hO.alloc _))
/-! #### parts of rows -/
section
variable {x lo hi : Operand} {b len cap : Nat} {k j : IntKind} {a c : Int}
theorem Res.sliceAL (ho : o.op = .slice 116 x (some lo) none none) (hx : ev e x = some (.slice (some ⟨b, 0, none⟩) len cap)) (hl : ev e lo = some (.int k a)) (hT : P.underlying 116 = some (.slice 5)) (hs : ∀ w, (sizeOf 5).run P w = .ok 1 w)
    (hb : 0 ≤ a ∧ a ≤ len) : Res P e o w (.ok (.value (.slice (some ⟨b, sl cap a.toNat, none⟩) (len - a.toNat) (cap - a.toNat))) w) := fun q h => by
  have he : P.elem 116 = 5 := by simp [Program.elem, hT]
  unfold execOp; rw [ho]; simp only [ev_eval h hx, Option.map_some, ev_eval h hl, Option.map_none]
  rw [Sem.run_bind, run_sliceAt_slice w 116 _ _ _ _ (by rw [he]; exact hT), run_slice_l w 116 _ len cap (by rw [he]; exact hT) k a hb.1 hb.2, he, hs]
  simp only [Result.andThen, sliced, Sem.run_pure, sl]
  split
  · rfl
  · simp [Addr.add]
    try omega
theorem Res.sliceALH (ho : o.op = .slice 116 x (some lo) (some hi) none) (hx : ev e x = some (.slice (some ⟨b, 0, none⟩) len cap)) (hl : ev e lo = some (.int k a)) (hh : ev e hi = some (.int j c)) (hT : P.underlying 116 = some (.slice 5)) (hs : ∀ w, (sizeOf 5).run P w = .ok 1 w)
    (hb : 0 ≤ a ∧ a ≤ c ∧ c ≤ cap) : Res P e o w (.ok (.value (.slice (some ⟨b, sl cap a.toNat, none⟩) (c.toNat - a.toNat) (cap - a.toNat))) w) := fun q h => by
  have he : P.elem 116 = 5 := by simp [Program.elem, hT]
  unfold execOp; rw [ho]; simp only [ev_eval h hx, Option.map_some, ev_eval h hl, ev_eval h hh, Option.map_none]
  rw [Sem.run_bind, run_sliceAt_slice w 116 _ _ _ _ (by rw [he]; exact hT), run_slice_lh w 116 _ len cap (by rw [he]; exact hT) k j a c hb.1 hb.2.1 hb.2.2, he, hs]
  simp only [Result.andThen, sliced, Sem.run_pure, sl]
  split
  · rfl
  · simp [Addr.add]
    try omega
theorem Res.sliceAH (ho : o.op = .slice 116 x none (some hi) none) (hx : ev e x = some (.slice (some ⟨b, 0, none⟩) len cap)) (hh : ev e hi = some (.int j c)) (hT : P.underlying 116 = some (.slice 5)) (hs : ∀ w, (sizeOf 5).run P w = .ok 1 w)
    (hb : 0 ≤ c ∧ c ≤ cap) : Res P e o w (.ok (.value (.slice (some ⟨b, 0, none⟩) c.toNat cap)) w) := fun q h => by
  have he : P.elem 116 = 5 := by simp [Program.elem, hT]
  unfold execOp; rw [ho]; simp only [ev_eval h hx, Option.map_some, ev_eval h hh, Option.map_none]
  rw [Sem.run_bind, run_sliceAt_slice w 116 _ _ _ _ (by rw [he]; exact hT), run_slice_h w 116 _ len cap (by rw [he]; exact hT) j c hb.1 hb.2, he, hs]
  simp only [Result.andThen, sliced, Sem.run_pure]
  simp [Addr.add]
/-- A part of a row, as a string. -/
theorem Res.bytesStr {of : Nat} {l : List UInt8} (ho : o.op = .convert 116 9 x) (hx : ev e x = some (.slice (some ⟨b, of, none⟩) len cap)) (hT : P.underlying 116 = some (.slice 5)) (h5 : P.underlying 5 = some (.int .u8)) (h9 : P.underlying 9 = some .string)
    (hb : w.heap[b]? = some (bytesO l)) (hl : of + len ≤ l.length) : Res P e o w (.ok (.value (.string ⟨((l.drop of).take len).toArray⟩)) w) := fun q h => by
  unfold execOp; rw [ho]; simp only [ev_eval h hx]
  have hlen : ((l.drop of).take len).length = len := by simp; omega
  have := run_convert_bytes_back (P := P) w 116 9 5 ⟨b, of, none⟩ cap ((l.drop of).take len) hT h5 h9 (fun j' hj => by
    have ha : ((⟨b, of, none⟩ : Addr).add j') = ⟨b, of + j', none⟩ := by
      unfold Addr.add; split
      · rename_i e; subst e; rfl
      · rfl
    rw [ha]
    refine cell_of' hb ?_
    have hj2 : j' < len := by omega
    simp only [Lib.byteCells, List.getElem?_toArray, List.getElem?_map]
    rw [List.getElem?_eq_getElem (by omega)]
    simp [List.getElem_take, List.getElem_drop])
  rw [hlen] at this
  rw [Sem.run_bind, this]; rfl
end
end Ow
end Go.Proofs.YtclgplkkajfenaaGreatDoor
/- gap.Buffer: what asks. -/
  namespace Go.Proofs.YtclgplkkajfenaaGreatDoor
open Go Go.RowKit Ow
/-! What a text answers of a piece -/
def bad (s : ByteArray) (a c : Int) : Prop := a < 0 ∨ c < a ∨ c > s.size
instance (s : ByteArray) (a c : Int) : Decidable (bad s a c) := by unfold bad; infer_instance
def slT (s : ByteArray) (a c : Int) : ByteArray := if bad s a c then ⟨#[]⟩ else s.extract a.toNat c.toNat
def slE (s : ByteArray) (a c : Int) : Int := if bad s a c then 1 else 0
def msT (s : ByteArray) (a c : Int) : Smy := if bad s a c then zS else measS (s.extract a.toNat c.toNat)
theorem slT_size (s : ByteArray) (a c : Int) : (slT s a c).size ≤ s.size := by
  unfold slT; split
  · exact Nat.zero_le _
  · simp; omega
/-! Gap buffers -/
def gapO (rb cap fr tu lim : Nat) : Obj := .cells #[.slice (some ⟨rb, 0, none⟩) cap cap, .int .i64 (fr : Int), .int .i64 (tu : Int), .int .i64 (lim : Int)] 146 (0, 0)
/-- What a gap buffer's parts are tu each other. -/
structure GapS (l : Bs) (fr tu lim : Nat) (s : ByteArray) : Prop where
  ft : fr ≤ tu
  tl : tu ≤ l.length
  txt : bl s = l.take fr ++ l.drop tu
  cp : l.length ≤ 1099511627776
  lm : lim ≤ 1073741824
  fits : s.size ≤ lim
def GapAt (w : World) (b : Nat) (s : ByteArray) (lim : Nat) : Prop := ∃ rb l fr tu, w.heap[b]? = some (gapO rb (List.length l) fr tu lim) ∧ w.heap[rb]? = some (bytesO l) ∧ GapS l fr tu lim s
theorem GapAt.below {w w' : World} {b : Nat} {s : ByteArray} {lim : Nat} (h : GapAt w b s lim) (hb : Below w.heap.size w w') : GapAt w' b s lim := by
  obtain ⟨rb, l, fr, tu, h1, h2, h3⟩ := h
  exact ⟨rb, l, fr, tu, (hb.block b (lt_of_heap h1)).trans h1, (hb.block rb (lt_of_heap h2)).trans h2, h3⟩
theorem GapS.size {l : Bs} {fr tu lim : Nat} {s : ByteArray} (h : GapS l fr tu lim s) : s.size = l.length - (tu - fr) := by
  have := congrArg List.length h.txt
  rw [bl_length] at this
  simp only [List.length_append, List.length_take, List.length_drop] at this
  have := h.ft; have := h.tl; omega
theorem str_eq {x : Bs} {s : ByteArray} (h : x = bl s) : (⟨x.toArray⟩ : ByteArray) = s := bl_inj h
theorem bl_mk (x : Bs) : bl ⟨x.toArray⟩ = x := rfl
theorem sl_drop {l : Bs} {a k : Nat} (h : a + k ≤ l.length) : (l.drop (sl l.length a)).take k = (l.drop a).take k := by
  unfold sl; split
  · rename_i e; rw [show k = 0 by omega]; simp
  · rfl
theorem gap_left {l : Bs} {fr tu lim a c : Nat} {s : ByteArray} (h : GapS l fr tu lim s) (h1 : a ≤ c) (h2 : c ≤ fr) : (⟨((l.drop (sl l.length a)).take (c - a)).toArray⟩ : ByteArray) = s.extract a c := by
  have := h.ft; have := h.tl
  refine str_eq ?_
  rw [sl_drop (by omega), bl_extract, h.txt, List.take_append_of_le_length (by simp; omega), List.take_take, Nat.min_eq_left h2, List.drop_take]
theorem gap_right {l : Bs} {fr tu lim a c : Nat} {s : ByteArray} (h : GapS l fr tu lim s) (h1 : a ≤ c) (h2 : fr ≤ a) (h3 : c ≤ s.size) :
    (⟨((l.drop (sl l.length (a + (tu - fr)))).take (c + (tu - fr) - (a + (tu - fr)))).toArray⟩ : ByteArray) = s.extract a c := by
  have := h.ft; have := h.tl; have := h.size
  refine str_eq ?_
  have hl : (List.take fr l).length = fr := by simp; omega
  have e0 : List.drop a (List.take fr l) = [] := List.drop_of_length_le (by rw [hl]; exact h2)
  rw [sl_drop (by omega), bl_extract, h.txt, List.drop_take, List.drop_append, e0, List.nil_append, List.drop_drop, hl, show tu + (a - fr) = a + (tu - fr) by omega, show c + (tu - fr) - (a + (tu - fr)) = c - a by omega]
theorem gap_both {l : Bs} {fr tu lim a c : Nat} {s : ByteArray} (h : GapS l fr tu lim s) (h1 : a ≤ fr) (h2 : fr ≤ c) (h3 : c ≤ s.size) :
    (⟨((l.drop (sl l.length a)).take (fr - a)).toArray⟩ : ByteArray) ++ ⟨((l.drop (sl l.length tu)).take (c + (tu - fr) - tu)).toArray⟩ = s.extract a c := by
  have := h.ft; have := h.tl; have := h.size
  refine bl_inj ?_
  rw [bl_append, bl_mk, bl_mk, sl_drop (by omega), sl_drop (by omega), bl_extract, h.txt, List.take_append]
  have hl : (List.take fr l).length = fr := by simp; omega
  rw [hl, List.take_take, Nat.min_eq_right h2, List.drop_append, hl, show a - fr = 0 by omega, List.drop_zero, List.drop_take, show c + (tu - fr) - tu = c - fr by omega]

set_option maxRecDepth 20000 in
set_option maxHeartbeats 400000 in
theorem gap_len (b : Nat) (s : ByteArray) (lim : Nat) (w : World) (hG : Good w) (hg : GapAt w b s lim) :
    Calls Tryz.prog 254 #[.pointer (some ⟨b, 0, none⟩)] w fun e w' => e = .returned (.int .i64 (s.size : Int)) ∧ Below w.heap.size w w' := by
  obtain ⟨rb, l, fr, tu, hb, hr, hS⟩ := hg
  have hft := hS.ft; have htl := hS.tl; have hcap := hS.cp; have hlim := hS.lm; have hfits := hS.fits; have hsz := hS.size
  have hO0 := Own.start hG
  refine enter Tryz.func254 rfl rfl rfl 0 ?_
  refine SC.sr ?_
  refine SO.as ?_
  refine SO.nn ?_
  refine SC.seq ?_
  refine SC.sr ?_
  refine SO.mv ?_
  refine SO.v (.ptrEq (b := false) rfl rfl rfl Tryz.underlying57 rfl) ?_
  refine SO.nn ?_
  refine SC.no rfl ?_
  refine SC.skip ?_
  refine SQ.then_normal ?_
  refine SC.seq ?_
  refine SC.drawO mixed hO0 (fun hO1 => ?_)
  refine SA.tm 0 rfl hO1 ?_
  refine SA.tk 1 rfl hO1 (fun v hv => .nilCheck rfl rfl) ?_
  refine SA.tk 2 rfl hO1 (fun v hv => .fieldAddr rfl rfl fa146_0) ?_
  refine SA.tk 3 rfl hO1 (fun v hv => .load rfl rfl ag116 (cell_of' (hv.heapO trivial hb) rfl)) ?_
  refine SA.tk 4 rfl hO1 (fun v hv => .lenA rfl rfl Tryz.underlying116) ?_
  refine SA.tm 5 rfl hO1 ?_
  refine SA.tk 6 rfl hO1 (fun v hv => .nilCheck rfl rfl) ?_
  refine SA.tk 7 rfl hO1 (fun v hv => .fieldAddr rfl rfl fa146_2) ?_
  refine SA.tk 8 rfl hO1 (fun v hv => .load rfl rfl ag3 (cell_of' (hv.heapO trivial hb) rfl)) ?_
  refine SA.tm 9 rfl hO1 ?_
  refine SA.tk 10 rfl hO1 (fun v hv => .nilCheck rfl rfl) ?_
  refine SA.tk 11 rfl hO1 (fun v hv => .fieldAddr rfl rfl fa146_1) ?_
  refine SA.tk 12 rfl hO1 (fun v hv => .load rfl rfl ag3 (cell_of' (hv.heapO trivial hb) rfl)) ?_
  refine SA.tk 13 rfl hO1 (fun v hv => .sub rfl rfl rfl (by omega)) ?_
  refine SA.tk 14 rfl hO1 (fun v hv => .sub rfl rfl rfl (by omega)) ?_
  refine SA.ta 15 rfl hO1 ?_
  refine SA.done (by kernel_rfl) ?_
  refine SQ.then_normal ?_
  refine SC.ret ?_
  refine SQ.out (.inl rfl) (res1 rfl rfl) ?_
  refine ⟨?_, hO1.toBelow trivial⟩
  congr 2; omega

set_option maxRecDepth 20000 in
set_option maxHeartbeats 400000 in
theorem gap_limit (b : Nat) (s : ByteArray) (lim : Nat) (w : World) (hG : Good w) (hg : GapAt w b s lim) :
    Calls Tryz.prog 258 #[.pointer (some ⟨b, 0, none⟩)] w fun e w' => e = .returned (.int .i64 (lim : Int)) ∧ Below w.heap.size w w' := by
  obtain ⟨rb, l, fr, tu, hb, hr, hS⟩ := hg
  have hft := hS.ft; have htl := hS.tl; have hcap := hS.cp; have hlim := hS.lm; have hfits := hS.fits; have hsz := hS.size
  have hO0 := Own.start hG
  refine enter Tryz.func258 rfl rfl rfl 0 ?_
  refine SC.sr ?_
  refine SO.as ?_
  refine SO.nn ?_
  refine SC.seq ?_
  refine SC.sr ?_
  refine SO.mv ?_
  refine SO.v (.ptrEq (b := false) rfl rfl rfl Tryz.underlying57 rfl) ?_
  refine SO.nn ?_
  refine SC.no rfl ?_
  refine SC.skip ?_
  refine SQ.then_normal ?_
  refine SC.sr ?_
  refine SO.mv ?_
  refine SO.v (.nilCheck rfl rfl) ?_
  refine SO.v (.fieldAddr rfl rfl fa146_3) ?_
  refine SO.v (.load rfl rfl ag3 (cell_of' (hO0.heapO trivial hb) rfl)) ?_
  refine SO.as ?_
  refine SO.nn ?_
  refine SC.ret ?_
  refine SQ.out (.inl rfl) (res1 rfl rfl) ?_
  exact ⟨rfl, hO0.toBelow trivial⟩

set_option maxRecDepth 20000 in
set_option maxHeartbeats 400000 in
theorem gap_piece (b : Nat) (s : ByteArray) (lim : Nat) (a c : Int) (w : World) (hG : Good w) (hg : GapAt w b s lim) (h1 : 0 ≤ a) (h2 : a ≤ c) (h3 : c ≤ s.size) :
    Calls Tryz.prog 259 #[.pointer (some ⟨b, 0, none⟩), .int .i64 a, .int .i64 c] w fun e w' => e = .returned (.string (s.extract a.toNat c.toNat)) ∧ Below w.heap.size w w' := by
  obtain ⟨rb, l, fr, tu, hb, hr, hS⟩ := hg
  have hft := hS.ft; have htl := hS.tl; have hcap := hS.cp; have hlim := hS.lm; have hfits := hS.fits; have hsz := hS.size
  obtain ⟨i, rfl⟩ := Int.eq_ofNat_of_zero_le h1
  obtain ⟨j, rfl⟩ := Int.eq_ofNat_of_zero_le (show 0 ≤ c by omega)
  have hO0 := Own.start hG
  refine enter Tryz.func259 rfl rfl rfl 0 ?_
  refine SC.sr ?_
  refine SO.as ?_
  refine SO.nn ?_
  refine SC.seq ?_
  refine SC.sr ?_
  refine SO.mv ?_
  refine SO.v (.ptrEq (b := false) rfl rfl rfl Tryz.underlying57 rfl) ?_
  refine SO.nn ?_
  refine SC.no rfl ?_
  refine SC.skip ?_
  refine SQ.then_normal ?_
  refine SC.seq ?_
  refine SC.drawO mixed hO0 (fun hO1 => ?_)
  refine SA.tm 0 rfl hO1 ?_
  refine SA.tk 1 rfl hO1 (fun v hv => .nilCheck rfl rfl) ?_
  refine SA.tk 2 rfl hO1 (fun v hv => .fieldAddr rfl rfl fa146_2) ?_
  refine SA.tk 3 rfl hO1 (fun v hv => .load rfl rfl ag3 (cell_of' (hv.heapO trivial hb) rfl)) ?_
  refine SA.tm 4 rfl hO1 ?_
  refine SA.tk 5 rfl hO1 (fun v hv => .nilCheck rfl rfl) ?_
  refine SA.tk 6 rfl hO1 (fun v hv => .fieldAddr rfl rfl fa146_1) ?_
  refine SA.tk 7 rfl hO1 (fun v hv => .load rfl rfl ag3 (cell_of' (hv.heapO trivial hb) rfl)) ?_
  refine SA.tk 8 rfl hO1 (fun v hv => .sub rfl rfl rfl (by omega)) ?_
  refine SA.ta 9 rfl hO1 ?_
  refine SA.done (by kernel_rfl) ?_
  refine SQ.then_normal ?_
  refine SC.seq ?_
  refine SC.block ?_
  refine SC.sr ?_
  refine SO.mv ?_
  refine SO.mv ?_
  refine SO.v (.nilCheck rfl rfl) ?_
  refine SO.v (.fieldAddr rfl rfl fa146_1) ?_
  refine SO.v (.load rfl rfl ag3 (cell_of' (hO1.heapO trivial hb) rfl)) ?_
  refine SO.v (.leq rfl rfl rfl) ?_
  refine SO.as ?_
  refine SO.nn ?_
  refine SC.dec rfl (fun c2 => ?_) (fun c2 => ?_)
  ·
   refine SC.sr ?_
   refine SO.mv ?_
   refine SO.v (.nilCheck rfl rfl) ?_
   refine SO.v (.fieldAddr rfl rfl fa146_0) ?_
   refine SO.v (.load rfl rfl ag116 (cell_of' (hO1.heapO trivial hb) rfl)) ?_
   refine SO.mv ?_
   refine SO.mv ?_
   refine SO.v (.sliceALH rfl rfl rfl rfl Tryz.underlying116 sz5 (by omega)) ?_
   refine SO.v (.bytesStr rfl rfl Tryz.underlying116 Tryz.underlying5 Tryz.underlying9 (hO1.heapO trivial hr) (by first | omega | (unfold sl; split <;> omega))) ?_
   refine SO.as ?_
   refine SO.nn ?_
   refine SC.ret ?_
   refine SQ.block_ret ?_
   refine SQ.then_ret ?_
   refine SQ.out (.inl rfl) (res1 rfl rfl) ?_
   refine ⟨?_, hO1.toBelow trivial⟩
   (have e := gap_left (a := i) (c := j) hS (by omega) (by omega); simp only [Int.toNat_natCast]; rw [e])
  ·
   refine SC.sr ?_
   refine SO.mv ?_
   refine SO.mv ?_
   refine SO.v (.nilCheck rfl rfl) ?_
   refine SO.v (.fieldAddr rfl rfl fa146_1) ?_
   refine SO.v (.load rfl rfl ag3 (cell_of' (hO1.heapO trivial hb) rfl)) ?_
   refine SO.v (.geq rfl rfl rfl) ?_
   refine SO.as ?_
   refine SO.nn ?_
   refine SC.dec rfl (fun c4 => ?_) (fun c4 => ?_)
   ·
    refine SC.sr ?_
    refine SO.mv ?_
    refine SO.v (.nilCheck rfl rfl) ?_
    refine SO.v (.fieldAddr rfl rfl fa146_0) ?_
    refine SO.v (.load rfl rfl ag116 (cell_of' (hO1.heapO trivial hb) rfl)) ?_
    refine SO.mv ?_
    refine SO.mv ?_
    refine SO.v (.add rfl rfl rfl (by omega)) ?_
    refine SO.mv ?_
    refine SO.mv ?_
    refine SO.v (.add rfl rfl rfl (by omega)) ?_
    refine SO.v (.sliceALH rfl rfl rfl rfl Tryz.underlying116 sz5 (by omega)) ?_
    refine SO.v (.bytesStr rfl rfl Tryz.underlying116 Tryz.underlying5 Tryz.underlying9 (hO1.heapO trivial hr) (by first | omega | (unfold sl; split <;> omega))) ?_
    refine SO.as ?_
    refine SO.nn ?_
    refine SC.ret ?_
    refine SQ.block_ret ?_
    refine SQ.then_ret ?_
    refine SQ.out (.inl rfl) (res1 rfl rfl) ?_
    refine ⟨?_, hO1.toBelow trivial⟩
    (have e := gap_right (a := i) (c := j) hS (by omega) (by omega) (by omega); rw [show ((i : Int) + ((tu : Int) - (fr : Int))).toNat = i + (tu - fr) by omega, show ((j : Int) + ((tu : Int) - (fr : Int))).toNat = j + (tu - fr) by omega, e]; rfl)
   ·
    refine SC.skip ?_
    refine SQ.block_normal ?_
    refine SQ.then_normal ?_
    refine SC.seq ?_
    refine SC.drawO mixed hO1 (fun hO6 => ?_)
    refine SA.tm 0 rfl hO6 ?_
    refine SA.tk 1 rfl hO6 (fun v hv => .nilCheck rfl rfl) ?_
    refine SA.tk 2 rfl hO6 (fun v hv => .fieldAddr rfl rfl fa146_0) ?_
    refine SA.tk 3 rfl hO6 (fun v hv => .load rfl rfl ag116 (cell_of' (hv.heapO trivial hb) rfl)) ?_
    refine SA.tm 4 rfl hO6 ?_
    refine SA.tm 5 rfl hO6 ?_
    refine SA.tk 6 rfl hO6 (fun v hv => .nilCheck rfl rfl) ?_
    refine SA.tk 7 rfl hO6 (fun v hv => .fieldAddr rfl rfl fa146_1) ?_
    refine SA.tk 8 rfl hO6 (fun v hv => .load rfl rfl ag3 (cell_of' (hv.heapO trivial hb) rfl)) ?_
    refine SA.tk 9 rfl hO6 (fun v hv => .sliceALH rfl rfl rfl rfl Tryz.underlying116 sz5 (by omega)) ?_
    refine SA.tk 10 rfl hO6 (fun v hv => .bytesStr rfl rfl Tryz.underlying116 Tryz.underlying5 Tryz.underlying9 (hv.heapO trivial hr) (by first | omega | (unfold sl; split <;> omega))) ?_
    refine SA.tm 11 rfl hO6 ?_
    refine SA.tk 12 rfl hO6 (fun v hv => .nilCheck rfl rfl) ?_
    refine SA.tk 13 rfl hO6 (fun v hv => .fieldAddr rfl rfl fa146_0) ?_
    refine SA.tk 14 rfl hO6 (fun v hv => .load rfl rfl ag116 (cell_of' (hv.heapO trivial hb) rfl)) ?_
    refine SA.tm 15 rfl hO6 ?_
    refine SA.tk 16 rfl hO6 (fun v hv => .nilCheck rfl rfl) ?_
    refine SA.tk 17 rfl hO6 (fun v hv => .fieldAddr rfl rfl fa146_2) ?_
    refine SA.tk 18 rfl hO6 (fun v hv => .load rfl rfl ag3 (cell_of' (hv.heapO trivial hb) rfl)) ?_
    refine SA.tm 19 rfl hO6 ?_
    refine SA.tm 20 rfl hO6 ?_
    refine SA.tk 21 rfl hO6 (fun v hv => .add rfl rfl rfl (by omega)) ?_
    refine SA.tk 22 rfl hO6 (fun v hv => .sliceALH rfl rfl rfl rfl Tryz.underlying116 sz5 (by omega)) ?_
    refine SA.tk 23 rfl hO6 (fun v hv => .bytesStr rfl rfl Tryz.underlying116 Tryz.underlying5 Tryz.underlying9 (hv.heapO trivial hr) (by first | omega | (unfold sl; split <;> omega))) ?_
    refine SA.tk 24 rfl hO6 (fun v hv => .strAdd rfl rfl rfl (by simp [ByteArray.size]; omega)) ?_
    refine SA.ta 25 rfl hO6 ?_
    refine SA.done (by kernel_rfl) ?_
    refine SQ.then_normal ?_
    refine SC.ret ?_
    refine SQ.out (.inl rfl) (res1 rfl rfl) ?_
    refine ⟨?_, hO6.toBelow trivial⟩
    (have e := gap_both (a := i) (c := j) hS (by omega) (by omega) (by omega); rw [show ((j : Int) + ((tu : Int) - (fr : Int))).toNat = j + (tu - fr) by omega]; simp only [Int.toNat_natCast]; rw [e])

set_option maxRecDepth 20000 in
set_option maxHeartbeats 400000 in
theorem gap_slice (b : Nat) (s : ByteArray) (lim : Nat) (a c : Int) (w : World) (hG : Good w) (hg : GapAt w b s lim) :
    Calls Tryz.prog 257 #[.pointer (some ⟨b, 0, none⟩), .int .i64 a, .int .i64 c] w fun e w' => e = .returned (.tuple #[.string (slT s a c), .int .i64 (slE s a c)]) ∧ Below w.heap.size w w' := by
  have hgap := hg
  have hO0 := Own.start hG
  refine enter Tryz.func257 rfl rfl rfl 0 ?_
  refine SC.sr ?_
  refine SO.as ?_
  refine SO.as ?_
  refine SO.nn ?_
  refine SC.seq ?_
  refine SC.sr ?_
  refine SO.mv ?_
  refine SO.v (.lss rfl rfl rfl) ?_
  refine SO.mv ?_
  refine SO.dec 10 rfl (fun g1 => ?_) (fun g1 => ?_)
  ·
   refine SO.ps ?_
   refine SO.ps ?_
   refine SO.ps ?_
   refine SO.v (.pickT rfl rfl rfl) ?_
   refine SO.mv ?_
   refine SO.ps ?_
   refine SO.ps ?_
   refine SO.ps ?_
   refine SO.ps ?_
   refine SO.v (.pickT rfl rfl rfl) ?_
   refine SO.nn ?_
   refine SC.yes rfl ?_
   refine SC.sr ?_
   refine SO.as ?_
   refine SO.as ?_
   refine SO.nn ?_
   refine SC.ret ?_
   refine SQ.then_ret ?_
   refine SQ.out (.inl rfl) (res2 rfl rfl rfl) ?_
   refine ⟨?_, hO0.toBelow trivial⟩
   unfold slT slE
   (have hc : bad s a c := (by unfold bad; omega); rw [if_pos hc, if_pos hc])
  ·
   refine SO.mv ?_
   refine SO.mv ?_
   refine SO.v (.lss rfl rfl rfl) ?_
   refine SO.v (.pickF rfl rfl rfl) ?_
   refine SO.mv ?_
   refine SO.dec 15 rfl (fun g3 => ?_) (fun g3 => ?_)
   ·
    refine SO.ps ?_
    refine SO.ps ?_
    refine SO.ps ?_
    refine SO.ps ?_
    refine SO.v (.pickT rfl rfl rfl) ?_
    refine SO.nn ?_
    refine SC.yes rfl ?_
    refine SC.sr ?_
    refine SO.as ?_
    refine SO.as ?_
    refine SO.nn ?_
    refine SC.ret ?_
    refine SQ.then_ret ?_
    refine SQ.out (.inl rfl) (res2 rfl rfl rfl) ?_
    refine ⟨?_, hO0.toBelow trivial⟩
    unfold slT slE
    (have hc : bad s a c := (by unfold bad; omega); rw [if_pos hc, if_pos hc])
   ·
    refine SO.mv ?_
    refine SO.mv ?_
    refine SO.call rfl rfl rfl rfl (.callF rfl rfl en254) (gap_len _ _ _ _ (hO0.good hG) (hgap.below (hO0.toBelow trivial))) ?_
    rintro _ w5 ⟨rfl, hb5⟩
    have hO5 := hO0.below hb5
    refine ⟨_, rfl, ?_⟩
    refine SO.v (.gtr rfl rfl rfl) ?_
    refine SO.v (.pickF rfl rfl rfl) ?_
    refine SO.nn ?_
    refine SC.dec rfl (fun c6 => ?_) (fun c6 => ?_)
    ·
     refine SC.sr ?_
     refine SO.as ?_
     refine SO.as ?_
     refine SO.nn ?_
     refine SC.ret ?_
     refine SQ.then_ret ?_
     refine SQ.out (.inl rfl) (res2 rfl rfl rfl) ?_
     refine ⟨?_, hO5.toBelow trivial⟩
     unfold slT slE
     (have hc : bad s a c := (by unfold bad; omega); rw [if_pos hc, if_pos hc])
    ·
     refine SC.skip ?_
     refine SQ.then_normal ?_
     refine SC.sr ?_
     refine SO.mv ?_
     refine SO.mv ?_
     refine SO.mv ?_
     refine SO.call rfl rfl rfl rfl (.callF rfl rfl en259) (gap_piece _ _ _ _ _ _ (hO5.good hG) (hgap.below (hO5.toBelow trivial)) (by omega) (by omega) (by omega)) ?_
     rintro _ w8 ⟨rfl, hb8⟩
     have hO8 := hO5.below hb8
     refine ⟨_, rfl, ?_⟩
     refine SO.as ?_
     refine SO.as ?_
     refine SO.nn ?_
     refine SC.ret ?_
     refine SQ.out (.inl rfl) (res2 rfl rfl rfl) ?_
     refine ⟨?_, hO8.toBelow trivial⟩
     unfold slT slE
     (have hc : ¬ bad s a c := (by unfold bad; omega); rw [if_neg hc, if_neg hc])

theorem bd91_z_Gap  : ∀ w, (Instr.build 91 [].toArray).run Tryz.prog w = .ok (.agg [.int .i64 0, .int .i64 0, .int .i64 0, .int .i64 0, .int .i64 0, .string ⟨#[]⟩, .string ⟨#[]⟩].toArray) w := fun _ => by kernel_rfl
set_option maxRecDepth 20000 in
set_option maxHeartbeats 400000 in
theorem gap_measure (b : Nat) (s : ByteArray) (lim : Nat) (a c : Int) (w : World) (hG : Good w) (hg : GapAt w b s lim) :
    Calls Tryz.prog 255 #[.pointer (some ⟨b, 0, none⟩), .int .i64 a, .int .i64 c] w fun e w' => e = .returned (.tuple #[smV (msT s a c), .int .i64 (slE s a c)]) ∧ Below w.heap.size w w' := by
  have hgap := hg
  have hfits : s.size ≤ 1073741824 := by
    obtain ⟨rb, l, fr, tu, hb, hr, hS⟩ := hg
    exact Nat.le_trans hS.fits hS.lm
  have hts := slT_size s a c
  have hO0 := Own.start hG
  refine enter Tryz.func255 rfl rfl rfl 0 ?_
  refine SC.sr ?_
  refine SO.alloc hO0 rfl rfl rfl rfl zv91 [_, _, _, _, _, _, _] rfl ?_
  intro b1 w1 hb1 hO1
  refine SO.as ?_
  refine SO.nn ?_
  refine SC.sr ?_
  refine SO.mv ?_
  refine SO.mv ?_
  refine SO.mv ?_
  refine SO.call rfl rfl rfl rfl (.callF rfl rfl en257) (gap_slice _ _ _ _ _ _ (hO1.good hG) (hgap.below (hO1.toBelow ⟨hb1, trivial⟩))) ?_
  rintro _ w2 ⟨rfl, hb2⟩
  have hO2 := hO1.below hb2
  refine ⟨_, rfl, ?_⟩
  refine SO.mv ?_
  refine SO.v (.extract rfl rfl rfl) ?_
  refine SO.v (.extract rfl rfl rfl) ?_
  refine SO.as ?_
  refine SO.as ?_
  refine SO.nn ?_
  refine SC.seq ?_
  refine SC.sr ?_
  refine SO.mv ?_
  refine SO.v (.neq rfl rfl rfl) ?_
  refine SO.nn ?_
  refine SC.dec rfl (fun c3 => ?_) (fun c3 => ?_)
  ·
   have hc : bad s a c := by
     by_cases h : bad s a c
     · exact h
     · exact absurd (by unfold slE; rw [if_neg h]) c3
   refine SC.sr ?_
   refine SO.v (.build rfl rfl (bd91_z_Gap)) ?_
   refine SO.mv ?_
   refine SO.store hO2 (i := 0) rfl rfl rfl rfl rfl rfl sz91 rfl rfl [(_, .cells [_, _, _, _, _, _, _].toArray _ _)] rfl ?_
   intro w4 hO4
   refine SO.as ?_
   refine SO.nn ?_
   refine SC.ret ?_
   refine SQ.then_ret ?_
   refine SQ.out (.inl rfl) (resCT [_, _, _, _, _, _, _] rfl rfl rfl ag91 sz91 (hO4.at (i := 0) rfl) rfl rfl) ?_
   refine ⟨?_, hO4.toBelow ⟨hb1, trivial⟩⟩
   (unfold msT; rw [if_pos hc]; rfl)
  ·
   have hc : ¬ bad s a c := fun h => c3 (by unfold slE; rw [if_pos h]; decide)
   refine SC.skip ?_
   refine SQ.then_normal ?_
   refine SC.sr ?_
   refine SO.mv ?_
   refine SO.call rfl rfl rfl rfl (.callF rfl rfl en211) (measure_any _ _ (hO2.good hG) (by omega)) ?_
   rintro _ w6 ⟨rfl, hb6⟩
   have hO6 := hO2.below hb6
   refine ⟨_, rfl, ?_⟩
   refine SO.store hO6 (i := 0) rfl rfl rfl rfl rfl rfl sz91 rfl rfl [(_, .cells [_, _, _, _, _, _, _].toArray _ _)] rfl ?_
   intro w7 hO7
   refine SO.as ?_
   refine SO.nn ?_
   refine SC.ret ?_
   refine SQ.out (.inl rfl) (resCT [_, _, _, _, _, _, _] rfl rfl rfl ag91 sz91 (hO7.at (i := 0) rfl) rfl rfl) ?_
   refine ⟨?_, hO7.toBelow ⟨hb1, trivial⟩⟩
   (unfold msT slT slE; rw [if_neg hc, if_neg hc, if_neg hc])

set_option maxRecDepth 20000 in
set_option maxHeartbeats 400000 in
theorem gap_halves (b : Nat) (rb : Nat) (l : Bs) (fr tu lim : Nat) (s : ByteArray) (w : World) (hG : Good w) (hb : w.heap[b]? = some (gapO rb (List.length l) fr tu lim)) (hr : w.heap[rb]? = some (bytesO l)) (hS : GapS l fr tu lim s) :
    Calls Tryz.prog 135 #[.pointer (some ⟨b, 0, none⟩)] w fun e w' => e = .returned (.tuple #[.string ⟨(l.take fr).toArray⟩, .string ⟨(l.drop tu).toArray⟩]) ∧ Below w.heap.size w w' := by
  have hft := hS.ft; have htl := hS.tl; have hcap := hS.cp; have hlim := hS.lm; have hfits := hS.fits; have hsz := hS.size
  have hO0 := Own.start hG
  refine enter Tryz.func135 rfl rfl rfl 0 ?_
  refine SC.sr ?_
  refine SO.as ?_
  refine SO.as ?_
  refine SO.nn ?_
  refine SC.seq ?_
  refine SC.sr ?_
  refine SO.mv ?_
  refine SO.v (.ptrEq (b := false) rfl rfl rfl Tryz.underlying57 rfl) ?_
  refine SO.nn ?_
  refine SC.no rfl ?_
  refine SC.skip ?_
  refine SQ.then_normal ?_
  refine SC.seq ?_
  refine SC.drawO mixed hO0 (fun hO1 => ?_)
  refine SA.tm 0 rfl hO1 ?_
  refine SA.tk 1 rfl hO1 (fun v hv => .nilCheck rfl rfl) ?_
  refine SA.tk 2 rfl hO1 (fun v hv => .fieldAddr rfl rfl fa146_0) ?_
  refine SA.tk 3 rfl hO1 (fun v hv => .load rfl rfl ag116 (cell_of' (hv.heapO trivial hb) rfl)) ?_
  refine SA.tm 4 rfl hO1 ?_
  refine SA.tk 5 rfl hO1 (fun v hv => .nilCheck rfl rfl) ?_
  refine SA.tk 6 rfl hO1 (fun v hv => .fieldAddr rfl rfl fa146_1) ?_
  refine SA.tk 7 rfl hO1 (fun v hv => .load rfl rfl ag3 (cell_of' (hv.heapO trivial hb) rfl)) ?_
  refine SA.tk 8 rfl hO1 (fun v hv => .sliceAH rfl rfl rfl Tryz.underlying116 sz5 (by omega)) ?_
  refine SA.tk 9 rfl hO1 (fun v hv => .bytesStr rfl rfl Tryz.underlying116 Tryz.underlying5 Tryz.underlying9 (hv.heapO trivial hr) (by first | omega | (unfold sl; split <;> omega))) ?_
  refine SA.tm 10 rfl hO1 ?_
  refine SA.tk 11 rfl hO1 (fun v hv => .nilCheck rfl rfl) ?_
  refine SA.tk 12 rfl hO1 (fun v hv => .fieldAddr rfl rfl fa146_0) ?_
  refine SA.tk 13 rfl hO1 (fun v hv => .load rfl rfl ag116 (cell_of' (hv.heapO trivial hb) rfl)) ?_
  refine SA.tm 14 rfl hO1 ?_
  refine SA.tk 15 rfl hO1 (fun v hv => .nilCheck rfl rfl) ?_
  refine SA.tk 16 rfl hO1 (fun v hv => .fieldAddr rfl rfl fa146_2) ?_
  refine SA.tk 17 rfl hO1 (fun v hv => .load rfl rfl ag3 (cell_of' (hv.heapO trivial hb) rfl)) ?_
  refine SA.tk 18 rfl hO1 (fun v hv => .sliceAL rfl rfl rfl Tryz.underlying116 sz5 (by omega)) ?_
  refine SA.tk 19 rfl hO1 (fun v hv => .bytesStr rfl rfl Tryz.underlying116 Tryz.underlying5 Tryz.underlying9 (hv.heapO trivial hr) (by first | omega | (unfold sl; split <;> omega))) ?_
  refine SA.ta 20 rfl hO1 ?_
  refine SA.ta 21 rfl hO1 ?_
  refine SA.done (by kernel_rfl) ?_
  refine SQ.then_normal ?_
  refine SC.ret ?_
  refine SQ.out (.inl rfl) (res2 rfl rfl rfl) ?_
  refine ⟨?_, hO1.toBelow trivial⟩
  simp only [Int.toNat_natCast]
  rw [sl_drop (by omega), List.take_of_length_le (l := l.drop tu) (by simp), List.drop_zero]

set_option maxRecDepth 20000 in
set_option maxHeartbeats 400000 in
theorem gap_text (b : Nat) (s : ByteArray) (lim : Nat) (w : World) (hG : Good w) (hg : GapAt w b s lim) :
    Calls Tryz.prog 75 #[.pointer (some ⟨b, 0, none⟩)] w fun e w' => e = .returned (.string s) ∧ Below w.heap.size w w' := by
  obtain ⟨rb, l, fr, tu, hb, hr, hS⟩ := hg
  have hft := hS.ft; have htl := hS.tl; have hcap := hS.cp; have hlim := hS.lm; have hfits := hS.fits; have hsz := hS.size
  have hO0 := Own.start hG
  refine enter Tryz.func75 rfl rfl rfl 0 ?_
  refine SC.sr ?_
  refine SO.as ?_
  refine SO.nn ?_
  refine SC.sr ?_
  refine SO.mv ?_
  refine SO.call rfl rfl rfl rfl (.callF rfl rfl en135) (gap_halves b rb l fr tu lim s _ (hO0.good hG) (hO0.heapO trivial hb) (hO0.heapO trivial hr) hS) ?_
  rintro _ w1 ⟨rfl, hb1⟩
  have hO1 := hO0.below hb1
  refine ⟨_, rfl, ?_⟩
  refine SO.mv ?_
  refine SO.v (.extract rfl rfl rfl) ?_
  refine SO.v (.extract rfl rfl rfl) ?_
  refine SO.as ?_
  refine SO.as ?_
  refine SO.nn ?_
  refine SC.sr ?_
  refine SO.mv ?_
  refine SO.mv ?_
  refine SO.v (.strAdd rfl rfl rfl (by simp [ByteArray.size]; omega)) ?_
  refine SO.as ?_
  refine SO.nn ?_
  refine SC.ret ?_
  refine SQ.out (.inl rfl) (res1 rfl rfl) ?_
  refine ⟨?_, hO1.toBelow trivial⟩
  congr 2
  refine bl_inj ?_
  rw [bl_append, bl_mk, bl_mk, hS.txt]

end Go.Proofs.YtclgplkkajfenaaGreatDoor
/- gap.New. -/
namespace Go.Proofs.YtclgplkkajfenaaGreatDoor
open Go Go.RowKit Ow
noncomputable def inf5 : TypeInfo := (Tryz.prog.info? 5).getD default
theorem inf5_ok : Tryz.prog.info? 5 = some inf5 := by kernel_rfl
theorem inf5_z : inf5.zero = some (.int .u8 0) := by kernel_rfl
theorem inf5_s : inf5.size = 1 := by kernel_rfl
theorem inf5_b : inf5.bytes = 1 := by kernel_rfl
theorem is5 : (Tryz.prog.info? 5).map (·.size) = some 1 := by kernel_rfl
/-- What a new array holds. -/
def laid (a c : Bs) (cap : Nat) : Bs := a ++ List.replicate (cap - a.length - c.length) 0 ++ c
theorem laid_length {a c : Bs} {cap : Nat} (h : a.length + c.length ≤ cap) : (laid a c cap).length = cap := by simp [laid]; omega
theorem laid_one {a : Bs} {cap : Nat} (_h : a.length ≤ cap) : (List.replicate cap (0 : UInt8)).take 0 ++ a ++ (List.replicate cap (0 : UInt8)).drop (0 + a.length) = a ++ List.replicate (cap - a.length) 0 := by simp
theorem laid_two {a c : Bs} {cap : Nat} (h : a.length + c.length ≤ cap) (x : Bs) (hx : x = a ++ List.replicate (cap - a.length) 0) :
    x.take (sl cap (cap - c.length)) ++ c ++ x.drop (sl cap (cap - c.length) + c.length) = laid a c cap := by
  subst hx
  unfold sl laid
  by_cases e : cap = cap - c.length
  · rw [if_pos e]
    have hc : c = [] := by
      by_cases h0 : cap = 0
      · exact List.eq_nil_of_length_eq_zero (by omega)
      · exact List.eq_nil_of_length_eq_zero (by omega)
    subst hc; simp
  · rw [if_neg e, List.take_append, List.take_of_length_le (by omega), List.take_replicate, List.drop_of_length_le (by simp; omega), List.append_nil, show min (cap - c.length - a.length) (cap - a.length) = cap - a.length - c.length by omega]
theorem gapS_laid {a c : ByteArray} {cap lim : Nat} {s : ByteArray} (h : a.size + c.size ≤ cap) (hcap : cap ≤ 1099511627776) (hl : lim ≤ 1073741824) (hs : bl s = bl a ++ bl c) (hf : s.size ≤ lim) : GapS (laid (bl a) (bl c) cap) a.size (cap - c.size) lim s := by
  have h2 : (bl a).length + (bl c).length ≤ cap := h
  refine ⟨by omega, by rw [laid_length h2]; omega, ?_, by rw [laid_length h2]; exact hcap, hl, hf⟩
  unfold laid
  rw [hs, List.append_assoc, List.take_append_of_le_length (by rw [bl_length]; exact Nat.le_refl _), List.take_of_length_le (by rw [bl_length]; exact Nat.le_refl _), ← List.append_assoc, List.drop_append, List.drop_of_length_le (by simp; omega), List.nil_append]
  have hz : (bl a ++ List.replicate (cap - (bl a).length - (bl c).length) (0 : UInt8)).length = cap - c.size := by simp only [List.length_append, List.length_replicate, bl_length]; omega
  rw [hz, Nat.sub_self, List.drop_zero]

set_option maxRecDepth 20000 in
set_option maxHeartbeats 400000 in
theorem gap_lay (b : Nat) (a c : ByteArray) (cap lim : Nat) (ci : Int) (v0 v1 v2 : Value) (w : World) (hG : Good w) (hci : ci = (cap : Nat)) (h2b : 2 ≤ b) (hb : w.heap[b]? = some (.cells [v0, v1, v2, .int .i64 (lim : Int)].toArray 146 (0, 0))) (hc : a.size + c.size ≤ cap) (hcap : cap ≤ 1099511627776) :
    Calls Tryz.prog 88 #[.pointer (some ⟨b, 0, none⟩), .string a, .string c, .int .i64 ci] w fun e w' => ∃ rb : Nat, e = .returned (.tuple #[]) ∧ w.heap.size ≤ rb ∧
      Ow.Own w [(rb, bytesO (laid (bl a) (bl c) cap)), (b, gapO rb cap a.size (cap - c.size) lim)] w' := by
  subst hci
  have hO0 := (Own.start hG).know hb (by simp) h2b
  refine enter Tryz.func88 rfl rfl rfl 0 ?_
  refine SC.sr ?_
  refine SO.mv ?_
  refine SO.makeB hO0 Tryz.underlying116 inf5_ok inf5_z inf5_s inf5_b rfl rfl rfl rfl rfl rfl (by omega) ?_
  intro b1 w1 hb1 hO1
  simp only [Int.toNat_natCast] at hO1 ⊢
  refine SO.as ?_
  refine SO.nn ?_
  refine SC.sr ?_
  refine SO.mv ?_
  refine SO.mv ?_
  refine SO.copyS hO1 Tryz.underlying116 is5 rfl rfl rfl rfl rfl rfl (j := 0) rfl (by omega) (by simp; omega) ?_
  intro w2 hO2
  simp only [List.set_cons_zero] at hO2
  have e1 := laid_one (a := bl a) (cap := cap) (by rw [bl_length]; omega)
  rw [show a.data.toList = bl a from rfl, show a.size = (bl a).length from rfl, e1] at hO2
  refine SO.nn ?_
  refine SC.sr ?_
  refine SO.mv ?_
  refine SO.mv ?_
  refine SO.mv ?_
  refine SO.v (.lenS rfl rfl Tryz.underlying9) ?_
  refine SO.v (.sub rfl rfl rfl (by omega)) ?_
  refine SO.v (.sliceAL rfl rfl rfl Tryz.underlying116 sz5 (by omega)) ?_
  refine SO.mv ?_
  refine SO.copyS hO2 Tryz.underlying116 is5 rfl rfl rfl rfl rfl rfl (j := 0) rfl (by omega) (by simp; unfold sl; split <;> omega) ?_
  intro w3 hO3
  simp only [List.set_cons_zero] at hO3
  have e2 : ((cap : Int) - (c.size : Int)).toNat = cap - (bl c).length := by rw [bl_length]; omega
  rw [e2, show c.data.toList = bl c from rfl, show c.size = (bl c).length from rfl, laid_two (by rw [bl_length, bl_length]; omega) _ rfl] at hO3
  refine SO.nn ?_
  refine SC.region ?_
  refine SO.mv ?_
  refine SO.mv ?_
  refine SO.mv ?_
  refine SO.mv ?_
  refine SO.mv ?_
  refine SO.v (.lenS rfl rfl Tryz.underlying9) ?_
  refine SO.mv ?_
  refine SO.mv ?_
  refine SO.v (.lenS rfl rfl Tryz.underlying9) ?_
  refine SO.v (.sub rfl rfl rfl (by omega)) ?_
  refine SO.v (.nilCheck rfl rfl) ?_
  refine SO.v (.fieldAddr rfl rfl fa146_0) ?_
  refine SO.store hO3 (i := 1) rfl rfl rfl rfl rfl rfl sz116 rfl rfl [_, (_, .cells [_, _, _, _].toArray _ _)] rfl ?_
  intro w4 hO4
  refine SO.v (.nilCheck rfl rfl) ?_
  refine SO.v (.fieldAddr rfl rfl fa146_1) ?_
  refine SO.store hO4 (i := 1) rfl rfl rfl rfl rfl rfl sz3 rfl rfl [_, (_, .cells [_, _, _, _].toArray _ _)] rfl ?_
  intro w5 hO5
  refine SO.v (.nilCheck rfl rfl) ?_
  refine SO.v (.fieldAddr rfl rfl fa146_2) ?_
  refine SO.store hO5 (i := 1) rfl rfl rfl rfl rfl rfl sz3 rfl rfl [_, (_, .cells [_, _, _, _].toArray _ _)] rfl ?_
  intro w6 hO6
  refine SO.nil ?_
  refine SQ.out (.inr rfl) (res0 rfl) ?_
  refine ⟨b1, rfl, hb1, ?_⟩
  rw [show (cap - c.size : Nat) = cap - c.size from rfl]
  have e3 : ((cap : Int) - (c.size : Int)) = ((cap - c.size : Nat) : Int) := by omega
  rw [e3] at hO6
  exact hO6

/-- A call that has turned the first of the call's own blocks, and laid another. -/
theorem Ow.Own.then2 {w0 w w' : World} {L : List (Nat × Obj)} {b rb : Nat} {o o1 o2 : Obj} (h : Ow.Own w0 ((b, o) :: L) w) (k : Ow.Own w [(rb, o1), (b, o2)] w') (hr : w.heap.size ≤ rb) : Ow.Own w0 ((rb, o1) :: (b, o2) :: L) w' := by
  have hnd := List.nodup_cons.1 h.nd
  have hL : ∀ p ∈ L, p.1 ≠ b ∧ p.1 ≠ rb := fun p hp => ⟨fun e => hnd.1 (List.mem_map.2 ⟨p, hp, e⟩), fun e => by have := h.lt p (List.mem_cons_of_mem _ hp); omega⟩
  have hb := h.lt (b, o) (by simp)
  refine ⟨k.os.trans h.os, k.tape.trans h.tape, k.output.trans h.output, Nat.le_trans h.size k.size, fun j hj hn => ?_, fun p hp => ?_, ?_, fun p hp => ?_, h.base⟩
  · refine (k.old j (Nat.lt_of_lt_of_le hj h.size) fun p hp => hn p ?_).trans (h.old j hj fun p hp => ?_)
    · simp only [List.mem_cons, List.not_mem_nil, or_false] at hp ⊢; rcases hp with h1 | h1; exact .inl h1; exact .inr (.inl h1)
    · rcases List.mem_cons.1 hp with rfl | hp
      · exact hn (b, o2) (by simp)
      · exact hn p (by simp [hp])
  · simp only [List.mem_cons] at hp
    rcases hp with rfl | rfl | hp
    · exact k.own _ (by simp)
    · exact k.own _ (by simp)
    · have hp2 := List.mem_cons_of_mem (b, o) hp
      refine (k.old p.1 (h.lt p hp2) fun q hq => ?_).trans (h.own p hp2)
      simp only [List.mem_cons, List.not_mem_nil, or_false] at hq
      rcases hq with rfl | rfl
      · exact fun e => (hL p hp).2 e.symm
      · exact fun e => (hL p hp).1 e.symm
  · simp only [List.map_cons, List.nodup_cons, List.mem_cons, not_or]
    refine ⟨⟨fun e => by simp only at hb; omega, fun e => ?_⟩, hnd⟩
    obtain ⟨p, hp, e'⟩ := List.mem_map.1 e
    exact (hL p hp).2 e'
  · simp only [List.mem_cons] at hp
    rcases hp with rfl | rfl | hp
    · exact k.two _ (by simp)
    · exact k.two _ (by simp)
    · exact h.two p (List.mem_cons_of_mem _ hp)
/-- A limit as it counts. -/
def held (i : Int) : Nat := (min (max i 0) 1073741824).toNat
theorem held_le (i : Int) : held i ≤ 1073741824 := by unfold held; omega

set_option maxRecDepth 20000 in
set_option maxHeartbeats 400000 in
theorem held_any (i : Int) (w : World) (hG : Good w) :
    Calls Tryz.prog 87 #[.int .i64 i] w fun e w' => e = .returned (.int .i64 (held i : Nat)) ∧ Below w.heap.size w w' := by
  have hO0 := Own.start hG
  refine enter Tryz.func87 rfl rfl rfl 0 ?_
  refine SC.sr ?_
  refine SO.as ?_
  refine SO.nn ?_
  refine SC.sr ?_
  refine SO.mv ?_
  refine SO.v (.maxI rfl rfl rfl) ?_
  refine SO.v (.minI rfl rfl rfl) ?_
  refine SO.as ?_
  refine SO.nn ?_
  refine SC.ret ?_
  refine SQ.out (.inl rfl) (res1 rfl rfl) ?_
  refine ⟨?_, hO0.toBelow trivial⟩
  unfold held; congr 2; omega

theorem bd146_3_Gapl (x0 : Int) : ∀ w, (Instr.build 146 [(3, .int .i64 x0)].toArray).run Tryz.prog w = .ok (.agg [.slice none 0 0, .int .i64 0, .int .i64 0, .int .i64 x0].toArray) w := fun _ => by kernel_rfl
set_option maxRecDepth 20000 in
set_option maxHeartbeats 400000 in
theorem gap_new (s : ByteArray) (i : Int) (w : World) (hG : Good w) :
    Calls Tryz.prog 40 #[.string s, .int .i64 i] w fun e w' => (e = .returned (.tuple #[.pointer none, .int .i64 2]) ∧ held i < s.size ∧ Below w.heap.size w w') ∨
      ∃ b : Nat, e = .returned (.tuple #[.pointer (some ⟨b, 0, none⟩), .int .i64 0]) ∧ w.heap.size ≤ b ∧ GapAt w' b s (held i) ∧ s.size ≤ held i ∧ Below w.heap.size w w' := by
  have hh := held_le i
  have hO0 := Own.start hG
  refine enter Tryz.func40 rfl rfl rfl 0 ?_
  refine SC.sr ?_
  refine SO.as ?_
  refine SO.as ?_
  refine SO.nn ?_
  refine SC.seq ?_
  refine SC.sr ?_
  refine SO.mv ?_
  refine SO.v (.lenS rfl rfl Tryz.underlying9) ?_
  refine SO.mv ?_
  refine SO.call rfl rfl rfl rfl (.callF rfl rfl en87) (held_any _ _ (hO0.good hG)) ?_
  rintro _ w1 ⟨rfl, hb1⟩
  have hO1 := hO0.below hb1
  refine ⟨_, rfl, ?_⟩
  refine SO.v (.gtr rfl rfl rfl) ?_
  refine SO.nn ?_
  refine SC.dec rfl (fun c2 => ?_) (fun c2 => ?_)
  ·
   refine SC.sr ?_
   refine SO.as ?_
   refine SO.as ?_
   refine SO.nn ?_
   refine SC.ret ?_
   refine SQ.then_ret ?_
   refine SQ.out (.inl rfl) (res2 rfl rfl rfl) ?_
   exact .inl ⟨rfl, by omega, hO1.toBelow trivial⟩
  ·
   refine SC.skip ?_
   refine SQ.then_normal ?_
   refine SC.sr ?_
   refine SO.mv ?_
   refine SO.call rfl rfl rfl rfl (.callF rfl rfl en87) (held_any _ _ (hO1.good hG)) ?_
   rintro _ w4 ⟨rfl, hb4⟩
   have hO4 := hO1.below hb4
   refine ⟨_, rfl, ?_⟩
   refine SO.v (.build rfl rfl (bd146_3_Gapl _)) ?_
   refine SO.box hO4 rfl rfl rfl rfl rfl [_, _, _, _] rfl ?_
   intro b5 w5 hb5 hO5
   refine SO.as ?_
   refine SO.nn ?_
   refine SC.sr ?_
   refine SO.mv ?_
   refine SO.mv ?_
   refine SO.mv ?_
   refine SO.v (.lenS rfl rfl Tryz.underlying9) ?_
   refine SO.v (.maxI rfl rfl rfl) ?_
   refine SO.call rfl rfl rfl rfl (.callF rfl rfl en88) (gap_lay _ s ⟨#[]⟩ (max s.size 64) (held i) _ _ _ _ _ (hO5.good hG) (by omega) (hO5.two _ List.mem_cons_self) (hO5.at (i := 0) rfl) (by show s.size + 0 ≤ max s.size 64; omega) (by omega)) ?_
   rintro _ w6 ⟨rb, rfl, hrb, hk⟩
   have hO6 := hO5.then2 hk hrb
   replace hrb := Nat.le_trans hO5.size hrb
   refine ⟨_, rfl, ?_⟩
   refine SO.nn ?_
   refine SC.sr ?_
   refine SO.mv ?_
   refine SO.as ?_
   refine SO.as ?_
   refine SO.nn ?_
   refine SC.ret ?_
   refine SQ.out (.inl rfl) (res2 rfl rfl rfl) ?_
   exact .inr ⟨_, rfl, by assumption, ⟨rb, _, s.size, _, (by have := hO6.at (i := 1) rfl; rw [laid_length (by show s.size + 0 ≤ max s.size 64; omega)]; exact this), hO6.at (i := 0) rfl, gapS_laid (by show s.size + 0 ≤ max s.size 64; omega) (by omega) hh (by simp [bl]) (by omega)⟩, by omega, hO6.toBelow ⟨hrb, hb5, trivial⟩⟩

end Go.Proofs.YtclgplkkajfenaaGreatDoor
