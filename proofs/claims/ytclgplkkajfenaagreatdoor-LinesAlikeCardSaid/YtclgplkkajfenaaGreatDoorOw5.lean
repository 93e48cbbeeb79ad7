/- The calculus' rules for regions that draw their order, and for ways that meet again. -/
import Derived.Test.YtclgplkkajfenaaGreatDoorOw4
import Derived.WideLaws
namespace Go.Proofs.YtclgplkkajfenaaGreatDoor
namespace Ow
open Go Go.RowKit
variable {P : Program} {ro : Option Nat} {n : Nat} {ops : Array Oper} {Q : Exit → Act → World → Prop} {N : Nat} {D : List Deferred} {e : Env} {w w0 : World} {o : Oper} {L : List (Nat × Obj)}

/-! ### Ways that meet again -/
def CutK {α : Type} (I : α → Env) (M : α → World → Prop) (N : Nat) (D : List Deferred) : Act → World → Prop :=
  fun a w => ∃ x, Fits (I x) a ∧ a.tmps.size = N ∧ a.defers = D ∧ M x w
theorem SC.cut {α : Type} {x y : Code} (I : α → Env) (M : α → World → Prop) (h1 : SC P ro n x (Exit.then (CutK I M N D) Q) N D e w) (h2 : ∀ u w, M u w → SC P ro n y Q N D (I u) w) : SC P ro n (.seq x y) Q N D e w :=
  SC.seq fun a g1 g2 g3 => wpIn_mono (h1 a g1 g2 g3) fun ex a' w' hq => by
    cases ex with
    | normal => obtain ⟨u, f1, f2, f3, f4⟩ := hq; exact h2 u w' f4 a' f2 f3 f1
    | _ => exact hq
theorem SQ.cut {α : Type} {I : α → Env} {M : α → World → Prop} (u : α) (hc : Cov e (I u)) (hM : M u w) : SQ (Exit.then (CutK I M N D) Q) .normal N D e w :=
  fun _ h1 h2 h3 => ⟨u, h3.cov hc, h1, h2, hM⟩

/-! ### A region that draws its order -/
def SA (P : Program) (ops : Array Oper) (Q : Exit → Act → World → Prop) (S : World → Prop) (fuel : Nat) (listed : Array Bool) (N : Nat) (D : List Deferred) (e : Env) (w : World) : Prop :=
  ∀ a : Act, a.tmps.size = N → a.defers = D → Fits e a → wpAnyH P .any ops Q S fuel listed a w
def SB (P : Program) (ops : Array Oper) (Q : Exit → Act → World → Prop) (S : World → Prop) (i : Nat) (fuel : Nat) (listed : Array Bool) (N : Nat) (D : List Deferred) (e : Env) (w : World) : Prop :=
  ∀ a : Act, a.tmps.size = N → a.defers = D → Fits e a → wpOp P ops Q i (fun a' w' => S w' ∧ wpAnyH P .any ops Q S fuel (listed.setIfInBounds i true) a' w') a w

theorem SC.draw {id : Nat} {l : List Oper} (hm : P.follows .mixedOrders = true) (S : World → Prop) (h : SA P l.toArray Q S l.length (Array.replicate l.length false) N D e w.drew) : SC P none n (.region id l.toArray true) Q N D e w :=
  fun a h1 h2 h3 => (wpIn_wide (n := n)).2 (wp_region_held (S := S) hm (by simpa using h a h1 h2 h3))
theorem SC.drawO {id : Nat} {l : List Oper} (hm : P.follows .mixedOrders = true) (hO : Own w0 L w) (h : Own w0 L w.drew → SA P l.toArray Q (fun v => Own w0 L v) l.length (Array.replicate l.length false) N D e w.drew) : SC P none n (.region id l.toArray true) Q N D e w :=
  SC.draw hm _ (h hO.drew)

variable {S : World → Prop} {fuel i : Nat} {listed : Array Bool}
theorem SA.take {d : Nat} {v : Value} (hs : Region.noSelect ops = true) (i : Nat) (hi : ops[i]? = some o) (hf : Region.free .any ops listed i = true) (hr : (Region.ready .any ops listed).contains i = true)
    (hd : o.dst = some d) (hN : Nat.blt d N = true) (hQ : ∀ c a w, Q (.panic c) (a.put (some d) v) w → Q (.panic c) a w) (hg : gok ops e o = some true) (hS : S w)
    (hv : ∀ w', S w' → Res P e o w' (.ok (.value v) w')) (h : SA P ops Q S fuel (listed.setIfInBounds i true) N D ((d, v) :: e) w) : SA P ops Q S (fuel + 1) listed N D e w := by
  intro a h1 h2 h3
  have hN' : d < N := Nat.le_of_ble_eq_true hN
  refine wpAnyH_take hi hs hf hr (by rw [hd]; exact hQ) (.inl ⟨gok_wanted hg h3, fun w' hw' => hv w' hw' a h3⟩) hS ?_
  rw [hd]
  exact h _ (by rw [size_put]; exact h1) (by rw [defers_put]; exact h2) (h3.put (by omega))
theorem SA.pass {d : Nat} (hs : Region.noSelect ops = true) (i : Nat) (hi : ops[i]? = some o) (hf : Region.free .any ops listed i = true) (hr : (Region.ready .any ops listed).contains i = true)
    (hd : o.dst = some d) (hN : Nat.blt d N = true) (hQ : ∀ c a w, Q (.panic c) (a.put (some d) undef) w → Q (.panic c) a w) (hg : gok ops e o = some false) (hS : S w)
    (h : SA P ops Q S fuel (listed.setIfInBounds i true) N D ((d, undef) :: e) w) : SA P ops Q S (fuel + 1) listed N D e w := by
  intro a h1 h2 h3
  have hN' : d < N := Nat.le_of_ble_eq_true hN
  refine wpAnyH_take (v := undef) hi hs hf hr (by rw [hd]; exact hQ) (.inr ⟨gok_wanted hg h3, rfl⟩) hS ?_
  rw [hd]
  exact h _ (by rw [size_put]; exact h1) (by rw [defers_put]; exact h2) (h3.put (by omega))
theorem SA.one (i : Nat) (hr : Region.ready .any ops listed = [i]) (h : SB P ops Q S i fuel listed N D e w) : SA P ops Q S (fuel + 1) listed N D e w := fun a h1 h2 h3 =>
  wpAnyH_all hr (by simp) fun j hj => by
    simp only [List.mem_cons, List.not_mem_nil, or_false] at hj; subst hj; exact h a h1 h2 h3
theorem SA.two (i j : Nat) (hr : Region.ready .any ops listed = [i, j]) (hi : SB P ops Q S i fuel listed N D e w) (hj : SB P ops Q S j fuel listed N D e w) : SA P ops Q S (fuel + 1) listed N D e w := fun a h1 h2 h3 =>
  wpAnyH_all hr (by simp) fun k hk => by
    simp only [List.mem_cons, List.not_mem_nil, or_false] at hk
    rcases hk with rfl | rfl
    · exact hi a h1 h2 h3
    · exact hj a h1 h2 h3
theorem SA.three (i j k : Nat) (hr : Region.ready .any ops listed = [i, j, k]) (hi : SB P ops Q S i fuel listed N D e w) (hj : SB P ops Q S j fuel listed N D e w) (hk : SB P ops Q S k fuel listed N D e w) : SA P ops Q S (fuel + 1) listed N D e w := fun a h1 h2 h3 =>
  wpAnyH_all hr (by simp) fun m hm => by
    simp only [List.mem_cons, List.not_mem_nil, or_false] at hm
    rcases hm with rfl | rfl | rfl
    · exact hi a h1 h2 h3
    · exact hj a h1 h2 h3
    · exact hk a h1 h2 h3
theorem SA.done (hr : Region.ready .any ops listed = []) (h : SQ Q .normal N D e w) : SA P ops Q S fuel listed N D e w := fun a h1 h2 h3 => wpAnyH_done hr (h a h1 h2 h3) fuel
/-- A bool in a temporary: one way or the other. -/
theorem SA.dec (t : Nat) {p : Prop} [Decidable p] (hl : look e t = some (.bool (decide p))) (h1 : p → SA P ops Q S fuel listed N D ((t, .bool true) :: e) w)
    (h2 : ¬ p → SA P ops Q S fuel listed N D ((t, .bool false) :: e) w) : SA P ops Q S fuel listed N D e w := by
  have key : ∀ b, look e t = some (.bool b) → ∀ a : Act, Fits e a → Fits ((t, .bool b) :: e) a := fun b hb a g3 k v hk => by
    by_cases e' : t = k
    · subst e'; rw [look_same] at hk; cases hk; exact g3 _ _ hb
    · rw [look_other _ _ e'] at hk; exact g3 _ _ hk
  by_cases hp : p
  · exact fun a g1 g2 g3 => h1 hp a g1 g2 (key true (by rw [hl, decide_eq_true hp]) a g3)
  · exact fun a g1 g2 g3 => h2 hp a g1 g2 (key false (by rw [hl, decide_eq_false hp]) a g3)
theorem SA.cov {e' : Env} (hc : Cov e e') (h : SA P ops Q S fuel listed N D e' w) : SA P ops Q S fuel listed N D e w := fun a h1 h2 h3 => h a h1 h2 (h3.cov hc)

theorem SB.val {d : Nat} {v : Value} {w' : World} (hi : ops[i]? = some o) (hg : gok ops e o = some true) (hd : o.dst = some d) (hN : Nat.blt d N = true)
    (hr : Res P e o w (.ok (.value v) w')) (hS : S w') (h : SA P ops Q S fuel (listed.setIfInBounds i true) N D ((d, v) :: e) w') : SB P ops Q S i fuel listed N D e w := by
  intro a h1 h2 h3
  unfold wpOp
  rw [hi]
  simp only [gok_wanted hg h3, if_true]
  refine .inl ?_
  show o.upon P a _ Q ((execOp a.eval o).run P w)
  rw [hr a h3, Oper.upon_value, hd]
  have hN' : d < N := Nat.le_of_ble_eq_true hN
  exact ⟨hS, h _ (by rw [size_put]; exact h1) (by rw [defers_put]; exact h2) (h3.put (by omega))⟩
theorem SB.eff {w' : World} (hi : ops[i]? = some o) (hg : gok ops e o = some true) (hd : o.dst = none)
    (hr : Res P e o w (.ok .skip w')) (hS : S w') (h : SA P ops Q S fuel (listed.setIfInBounds i true) N D e w') : SB P ops Q S i fuel listed N D e w := by
  intro a h1 h2 h3
  unfold wpOp
  rw [hi]
  simp only [gok_wanted hg h3, if_true]
  refine .inl ?_
  show o.upon P a _ Q ((execOp a.eval o).run P w)
  rw [hr a h3, Oper.upon_skip, hd]
  exact ⟨hS, h a h1 h2 h3⟩
theorem SB.pass {d : Nat} (hi : ops[i]? = some o) (hg : gok ops e o = some false) (hd : o.dst = some d) (hN : Nat.blt d N = true) (hS : S w)
    (h : SA P ops Q S fuel (listed.setIfInBounds i true) N D ((d, undef) :: e) w) : SB P ops Q S i fuel listed N D e w := by
  intro a h1 h2 h3
  unfold wpOp
  rw [hi]
  simp only [gok_wanted hg h3, Bool.false_eq_true, if_false]
  rw [hd]
  have hN' : d < N := Nat.le_of_ble_eq_true hN
  exact ⟨hS, h _ (by rw [size_put]; exact h1) (by rw [defers_put]; exact h2) (h3.put (by omega))⟩
theorem SB.call {d f : Nat} {args : Array Value} {w1 : World} {R : Ending → World → Prop} (hi : ops[i]? = some o) (hg : gok ops e o = some true) (hd : o.dst = some d) (hN : Nat.blt d N = true)
    (hr : Res P e o w (.ok (.enter f args) w1)) (hc : Calls P f args w1 R)
    (h : ∀ x w', R x w' → ∃ v, x = .returned v ∧ S w' ∧ SA P ops Q S fuel (listed.setIfInBounds i true) N D ((d, v) :: e) w') : SB P ops Q S i fuel listed N D e w := by
  intro a h1 h2 h3
  unfold wpOp
  rw [hi]
  simp only [gok_wanted hg h3, if_true]
  refine .inl ?_
  show o.upon P a _ Q ((execOp a.eval o).run P w)
  rw [hr a h3, Oper.upon_enter, hd]
  have hN' : d < N := Nat.le_of_ble_eq_true hN
  refine hc.mono fun x w' hx => ?_
  obtain ⟨v, rfl, hS, hk⟩ := h x w' hx
  exact ⟨hS, hk _ (by rw [size_put]; exact h1) (by rw [defers_put]; exact h2) (h3.put (by omega))⟩
theorem SB.alloc {d : Nat} {T : TypeId} {z : Value} (hO : Own w0 L w) (hi : ops[i]? = some o) (hg : gok ops e o = some true) (ho : o.op = .alloc T) (hd : o.dst = some d) (hN : Nat.blt d N = true)
    (hz : ∀ w, (zeroValue T).run P w = .ok z w) (c : List Value) (hc : z.cells = c.toArray)
    (h : ∀ b w', w0.heap.size ≤ b → Own w0 ((b, .cells c.toArray T (0, 0)) :: L) w' → S w' ∧ SA P ops Q S fuel (listed.setIfInBounds i true) N D ((d, .pointer (some ⟨b, 0, none⟩)) :: e) w') : SB P ops Q S i fuel listed N D e w :=
  let k := h _ _ hO.size (hc ▸ hO.alloc _)
  .val hi hg hd hN (.alloc ho hz) k.1 k.2
theorem SB.box {d : Nat} {T : TypeId} {x : Operand} {v : Value} (hO : Own w0 L w) (hi : ops[i]? = some o) (hg : gok ops e o = some true) (ho : o.op = .box T x) (hx : ev e x = some v) (hd : o.dst = some d) (hN : Nat.blt d N = true) (c : List Value) (hc : v.cells = c.toArray)
    (h : ∀ b w', w0.heap.size ≤ b → Own w0 ((b, .cells c.toArray T (0, 0)) :: L) w' → S w' ∧ SA P ops Q S fuel (listed.setIfInBounds i true) N D ((d, .pointer (some ⟨b, 0, none⟩)) :: e) w') : SB P ops Q S i fuel listed N D e w :=
  let k := h _ _ hO.size (hc ▸ hO.alloc _)
  .val hi hg hd hN (.box ho hx) k.1 k.2
theorem SB.store {T E : TypeId} {x y : Operand} {b off j : Nat} {c : List Value} {v : Value} (hO : Own w0 L w) (hi : ops[i]? = some o) (hg : gok ops e o = some true) (ho : o.op = .store T x y) (hd : o.dst = none)
    (hx : ev e x = some (.pointer (some ⟨b, off, none⟩))) (hy : ev e y = some v) (hj : L[j]? = some (b, .cells c.toArray E (0, 0))) (hs : ∀ w, (sizeOf T).run P w = .ok v.cells.size w)
    (hl : Nat.ble (off + v.cells.size) c.length = true) (hv : v.cells.toList.all plainV = true) (L' : List (Nat × Obj)) (hL : L.set j (b, .cells (setRow c off v.cells.toList).toArray E (0, 0)) = L')
    (h : ∀ w', Own w0 L' w' → S w' ∧ SA P ops Q S fuel (listed.setIfInBounds i true) N D e w') : SB P ops Q S i fuel listed N D e w := by
  subst hL
  have hb := hO.at hj
  obtain ⟨w', h1, h2, h3, h4, h5, h6, h7⟩ := run_storeCells (P := P) b off E v.cells.toList 0 c w hb (by have := Nat.le_of_ble_eq_true hl; simpa using this)
    (fun u hu => List.all_eq_true.1 hv u hu)
  have k := h w' (hO.set hj h2 h3 h4 h5 (by simpa using h6) h7)
  refine .eff hi hg hd (w' := w') ?_ k.1 k.2
  intro a hf
  unfold execOp; rw [ho]; simp only [ev_eval hf hx, ev_eval hf hy]
  simp only [Instr.storeAt, Instr.sureAddr, storeVar, Sem.run_bind, Sem.run_pure, Result.andThen, hs, ne_eq, not_true_eq_false, if_false, h1]
theorem SB.buildSlice {d k : Nat} {T E : TypeId} {ps : List (Nat × Operand)} {vs : List (Nat × Value)} {c : List Value} (hO : Own w0 L w) (hi : ops[i]? = some o) (hg : gok ops e o = some true) (ho : o.op = .buildSlice T k ps.toArray) (hp : evP e ps = some vs) (hd : o.dst = some d) (hN : Nat.blt d N = true)
    (hr : ∀ w, (Instr.buildSlice T k vs.toArray).run P w = .ok (.slice (some ⟨w.heap.size, 0, none⟩) k k) (w.alloc (.cells c.toArray E)))
    (h : ∀ b w', w0.heap.size ≤ b → Own w0 ((b, .cells c.toArray E (0, 0)) :: L) w' → S w' ∧ SA P ops Q S fuel (listed.setIfInBounds i true) N D ((d, .slice (some ⟨b, 0, none⟩) k k) :: e) w') : SB P ops Q S i fuel listed N D e w :=
  let k := h _ _ hO.size (hO.alloc _)
  .val hi hg hd hN (.buildSlice ho hp hr) k.1 k.2

/-! ### Nil or not -/
theorem Res.ptrEq {T yT : TypeId} {x y : Operand} {b : Bool} (ho : o.op = .binOp .eql T x y yT) {p : Option Addr} (hx : ev e x = some (.pointer p)) (hy : ev e y = some (.pointer none)) (hT : P.underlying T = some (.pointer (P.pointee T))) (hb : p.isNone = b) :
    Res P e o w (.ok (.value (.bool b)) w) :=
  .bin ho hx hy guard_ptr (by rw [run_eql_pointer_nil _ T p hT, hb])
theorem Res.ptrNe {T yT : TypeId} {x y : Operand} {b : Bool} (ho : o.op = .binOp .neq T x y yT) {p : Option Addr} (hx : ev e x = some (.pointer p)) (hy : ev e y = some (.pointer none)) (hT : P.underlying T = some (.pointer (P.pointee T))) (hb : (!p.isNone) = b) :
    Res P e o w (.ok (.value (.bool b)) w) :=
  .bin ho hx hy guard_ptr (by rw [run_neq_pointer_nil _ T p hT, hb])
theorem Res.ifaceNilT {T yT : TypeId} {x : Operand} (ho : o.op = .binOp .eql T x (.const .nilIface) yT) (hx : ev e x = some .nilIface) (hT : P.underlying T = some (.interface (P.methodsAt T))) :
    Res P e o w (.ok (.value (.bool true)) w) :=
  .bin ho hx rfl (by rw [eqGuard_nil_constR]; rfl) (run_eql_nil_nil _ T hT)
theorem Res.ifaceNilF {T yT t : TypeId} {x : Operand} {v : Value} (ho : o.op = .binOp .eql T x (.const .nilIface) yT) (hx : ev e x = some (.iface t v)) (hT : P.underlying T = some (.interface (P.methodsAt T))) :
    Res P e o w (.ok (.value (.bool false)) w) :=
  .bin ho hx rfl (by simp [eqGuard, go_sem]) (run_eql_held_nil _ T t v hT)

/-! ### A struct as a result -/
theorem run_cell {E : Nat} {b off k : Nat} {c : List Value} {fz : Nat × Nat} (cs : List Value) (hb : w.heap[b]? = some (.cells c.toArray E fz))
    (hc : (c.drop off).take k = cs) (hk : cs.length = k) : (loadCellsFrom (⟨b, off, none⟩ : Addr) 0 k #[]).run P w = .ok cs.toArray w := by
  have := run_loadCells (P := P) (w := w) b off cs 0 #[] cs (by simp) fun j v hj => by
    rw [cell_of hb]
    have h1 : j < cs.length := by
      rcases Nat.lt_or_ge j cs.length with h' | h'
      · exact h'
      · rw [List.getElem?_eq_none h'] at hj; cases hj
    rw [← hc, List.getElem?_take_of_lt (by omega), List.getElem?_drop] at hj
    simpa using hj
  rw [hk] at this
  simpa using this
theorem resC {fn : Func} {t T E b off k : Nat} {c : List Value} {fz : Nat × Nat} (cs : List Value) (h : fn.results = #[.cell t T]) (hl : look e t = some (.pointer (some ⟨b, off, none⟩))) (hT : ∀ w, (isAgg T).run P w = .ok true w) (hs : ∀ w, (sizeOf T).run P w = .ok k w)
    (hb : w.heap[b]? = some (.cells c.toArray E fz)) (hc : (c.drop off).take k = cs) (hk : cs.length = k) (a : Act) (hf : Fits e a) : (results fn a.tmps).run P w = .ok (.agg cs.toArray) w := by
  have h1 := run_cell (P := P) (w := w) cs hb hc hk
  have h2 := hf _ _ hl
  simp [results, h, h2, asAddr, hT, hs, h1, go_sem]
theorem resCT {fn : Func} {t u T E b off k : Nat} {v : Value} {c : List Value} {fz : Nat × Nat} (cs : List Value) (h : fn.results = #[.cell t T, .tmp u]) (hl : look e t = some (.pointer (some ⟨b, off, none⟩))) (hu : look e u = some v) (hT : ∀ w, (isAgg T).run P w = .ok true w) (hs : ∀ w, (sizeOf T).run P w = .ok k w)
    (hb : w.heap[b]? = some (.cells c.toArray E fz)) (hc : (c.drop off).take k = cs) (hk : cs.length = k) (a : Act) (hf : Fits e a) : (results fn a.tmps).run P w = .ok (.tuple #[.agg cs.toArray, v]) w := by
  have h1 := run_cell (P := P) (w := w) cs hb hc hk
  have h2 := hf _ _ hl
  have h3 := hf _ _ hu
  simp [results, h, h2, h3, asAddr, hT, hs, h1, go_sem]
theorem look_int {t : Nat} {k : IntKind} {a b : Int} (h : look e t = some (.int k a)) (hab : a = b) : look e t = some (.int k b) := hab ▸ h
theorem look_str {t : Nat} {a b : ByteArray} (h : look e t = some (.string a)) (hab : a = b) : look e t = some (.string b) := hab ▸ h
theorem Res.makeFunc {f : FuncId} {l : List Operand} {vs : List Value} (ho : o.op = .makeFunc (.func f) [].toArray l.toArray) (hl : evL e l = some vs) : Res P e o w (.ok (.value (.func (.func f) #[] vs.toArray)) w) := fun a h => by
  unfold execOp; rw [ho]; simp only [List.map_toArray, evL_map h hl, Sem.run_bind, Instr.makeFunc]
  simp [Result.andThen, go_sem]
end Ow
end Go.Proofs.YtclgplkkajfenaaGreatDoor
