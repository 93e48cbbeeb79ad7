/- The calculus' operations on memory; slicing; calls. -/
import Derived.Test.YtclgplkkajfenaaGreatDoorOw3
namespace Go.Proofs.YtclgplkkajfenaaGreatDoor
namespace Ow
open Go Go.RowKit
variable {P : Program} {ro : Option Nat} {n : Nat} {ops : Array Oper} {Q : Exit → Act → World → Prop} {N : Nat} {D : List Deferred} {e : Env} {w w0 : World} {o : Oper} {L : List (Nat × Obj)}
example (a b : Int) (h : 0 ≤ a) (h2 : a < b) : max a 0 = a ∧ min a b = a := by omega

theorem Res.maxI {x y : Operand} {k j : IntKind} {a b : Int} {ats : Array TypeId} (ho : o.op = .call { callee := .builtin .max, args := [x, y].toArray, argTypes := ats }) (hx : ev e x = some (.int k a)) (hy : ev e y = some (.int j b)) :
    Res P e o w (.ok (.value (.int k (max a b))) w) :=
  .builtin2 ho hx hy fun cs => by
    have : (if b > a then b else a) = max a b := by split <;> omega
    simp [go_sem, ← this]
theorem Res.minI {x y : Operand} {k j : IntKind} {a b : Int} {ats : Array TypeId} (ho : o.op = .call { callee := .builtin .min, args := [x, y].toArray, argTypes := ats }) (hx : ev e x = some (.int k a)) (hy : ev e y = some (.int j b)) :
    Res P e o w (.ok (.value (.int k (min a b))) w) :=
  .builtin2 ho hx hy fun cs => by
    have : (if b < a then b else a) = min a b := by split <;> omega
    simp [go_sem, ← this]

/-! #### blocks -/
theorem Res.alloc {T : TypeId} {z : Value} (ho : o.op = .alloc T) (hz : ∀ w, (zeroValue T).run P w = .ok z w) : Res P e o w (.ok (.value (.pointer (some ⟨w.heap.size, 0, none⟩))) (w.alloc (.cells z.cells T))) := fun a h => by
  unfold execOp; rw [ho]
  simp [Instr.alloc, hz, newVar, newRow, go_sem]
theorem Res.box {T : TypeId} {x : Operand} {v : Value} (ho : o.op = .box T x) (hx : ev e x = some v) : Res P e o w (.ok (.value (.pointer (some ⟨w.heap.size, 0, none⟩))) (w.alloc (.cells v.cells T))) := fun a h => by
  unfold execOp; rw [ho]; simp only [ev_eval h hx]
  simp [Instr.box, newVar, newRow, go_sem]
theorem SO.alloc {l : List Oper} {d : Nat} {T : TypeId} {z : Value} (hO : Own w0 L w) (hg : gok ops e o = some true) (ho : o.op = .alloc T) (hd : o.dst = some d) (hN : Nat.blt d N = true)
    (hz : ∀ w, (zeroValue T).run P w = .ok z w) (c : List Value) (hc : z.cells = c.toArray)
    (h : ∀ b w', w0.heap.size ≤ b → Own w0 ((b, .cells c.toArray T (0, 0)) :: L) w' → SO P ro n ops l Q N D ((d, .pointer (some ⟨b, 0, none⟩)) :: e) w') : SO P ro n ops (o :: l) Q N D e w :=
  .val hg (by rw [ho]; rfl) hd hN (.alloc ho hz) (h _ _ hO.size (hc ▸ hO.alloc _))
theorem SO.box {l : List Oper} {d : Nat} {T : TypeId} {x : Operand} {v : Value} (hO : Own w0 L w) (hg : gok ops e o = some true) (ho : o.op = .box T x) (hx : ev e x = some v) (hd : o.dst = some d) (hN : Nat.blt d N = true) (c : List Value) (hc : v.cells = c.toArray)
    (h : ∀ b w', w0.heap.size ≤ b → Own w0 ((b, .cells c.toArray T (0, 0)) :: L) w' → SO P ro n ops l Q N D ((d, .pointer (some ⟨b, 0, none⟩)) :: e) w') : SO P ro n ops (o :: l) Q N D e w :=
  .val hg (by rw [ho]; rfl) hd hN (.box ho hx) (h _ _ hO.size (hc ▸ hO.alloc _))

theorem cell_of {b : Nat} {c : Array Value} {T : TypeId} {fz : Nat × Nat} {i : Nat} (h : w.heap[b]? = some (.cells c T fz)) : w.cell? ⟨b, i, none⟩ = c[i]? := by
  simp [World.cell?, h]
theorem cell_of' {b : Nat} {c : Array Value} {T : TypeId} {fz : Nat × Nat} {i : Nat} {v : Value} (h : w.heap[b]? = some (.cells c T fz)) (hv : c[i]? = some v) : w.cell? ⟨b, i, none⟩ = some v := by
  rw [cell_of h, hv]

/-- A plain cell is read. -/
theorem Res.load {T : TypeId} {x : Operand} {p : Addr} {v : Value} (ho : o.op = .load T x) (hx : ev e x = some (.pointer (some p))) (hT : ∀ w, (isAgg T).run P w = .ok false w) (hc : w.cell? p = some v) :
    Res P e o w (.ok (.value v) w) := fun a h => by
  unfold execOp; rw [ho]; simp only [ev_eval h hx]
  simp [Instr.loadAt, Instr.sureAddr, loadVar, hT, hc, go_sem]
theorem run_loadCells (b off : Nat) (cs : List Value) : ∀ (i : Nat) (acc : Array Value) (rest : List Value), rest = cs.drop i → (∀ j v, cs[j]? = some v → w.cell? ⟨b, off + j, none⟩ = some v) →
    (loadCellsFrom ⟨b, off, none⟩ i rest.length acc).run P w = .ok (acc ++ rest.toArray) w := by
  intro i acc rest
  induction rest generalizing i acc with
  | nil => intro _ _; simp [loadCellsFrom]
  | cons v r ih =>
    intro hr hc
    have h0 : cs[i]? = some v := by
      have := congrArg (·[0]?) hr; simpa using this.symm
    have hcell := hc i v h0
    have hadd : w.cell? ((⟨b, off, none⟩ : Addr).add i) = some v := by
      unfold Addr.add; split
      · rename_i e; subst e; exact hcell
      · exact hcell
    have hr' : r = cs.drop (i + 1) := by
      have := congrArg (List.drop 1) hr; simpa using this
    simp only [List.length_cons, loadCellsFrom, Sem.run_bind, Go.load, Sem.run, hadd, Result.andThen]
    rw [ih (i + 1) (acc.push v) hr' hc]
    simp
/-- A struct is read. -/
theorem Res.loadN {T : TypeId} {x : Operand} {b off : Nat} {cs : List Value} (ho : o.op = .load T x) (hx : ev e x = some (.pointer (some ⟨b, off, none⟩))) (hT : ∀ w, (isAgg T).run P w = .ok true w)
    (hs : ∀ w, (sizeOf T).run P w = .ok cs.length w) (hc : ∀ j v, cs[j]? = some v → w.cell? ⟨b, off + j, none⟩ = some v) : Res P e o w (.ok (.value (.agg cs.toArray)) w) := fun a h => by
  unfold execOp; rw [ho]; simp only [ev_eval h hx]
  have := run_loadCells (P := P) b off cs 0 #[] cs (by simp) hc
  simp [Instr.loadAt, Instr.sureAddr, loadVar, hT, hs, loadCells, this, go_sem]
/-- .. out of a block of which all is known. -/
theorem Res.loadB {T E : TypeId} {x : Operand} {b off k : Nat} {c : List Value} {fz : Nat × Nat} (cs : List Value) (ho : o.op = .load T x) (hx : ev e x = some (.pointer (some ⟨b, off, none⟩))) (hT : ∀ w, (isAgg T).run P w = .ok true w)
    (hs : ∀ w, (sizeOf T).run P w = .ok k w) (hb : w.heap[b]? = some (.cells c.toArray E fz)) (hc : (c.drop off).take k = cs) (hk : cs.length = k) : Res P e o w (.ok (.value (.agg cs.toArray)) w) :=
  .loadN ho hx hT (by rw [hk]; exact hs) fun j v hj => by
    rw [cell_of hb]
    have h1 : j < cs.length := by
      rcases Nat.lt_or_ge j cs.length with h' | h'
      · exact h'
      · rw [List.getElem?_eq_none h'] at hj; cases hj
    rw [← hc, List.getElem?_take_of_lt (by omega), List.getElem?_drop] at hj
    simpa using hj

/-- The block's cells behind a store from off on. -/
def setRow : List Value → Nat → List Value → List Value
  | c, _, [] => c
  | c, off, v :: r => setRow (c.set off v) (off + 1) r
theorem setRow_length (vs : List Value) : ∀ c off, (setRow c off vs).length = c.length := by
  induction vs with
  | nil => intro c off; rfl
  | cons v r ih => intro c off; rw [setRow, ih]; simp
def plainV : Value → Bool | .agg _ => false | .tuple _ => false | _ => true
theorem run_store_plain {a : Addr} {v u : Value} (hv : plainV v = true) (hc : w.cell? a = some u) (hf : w.frozen? a = false) (k : Sem Unit) :
    (Sem.store .plain a v k).run P w = k.run P (w.setCell a v) := by
  cases v <;> first | (simp [Sem.run, hc, hf]; done) | (simp [plainV] at hv; done)
theorem run_storeCells (b off : Nat) (T : TypeId) (vs : List Value) : ∀ (i : Nat) (c : List Value) (w : World), w.heap[b]? = some (.cells c.toArray T (0, 0)) → off + i + vs.length ≤ c.length → (∀ v ∈ vs, plainV v = true) →
    ∃ w', (storeCells ⟨b, off, none⟩ vs i).run P w = .ok () w' ∧ w'.os = w.os ∧ w'.tape = w.tape ∧ w'.output = w.output ∧ w'.heap.size = w.heap.size ∧
      w'.heap[b]? = some (.cells (setRow c (off + i) vs).toArray T (0, 0)) ∧ ∀ k, k ≠ b → w'.heap[k]? = w.heap[k]? := by
  induction vs with
  | nil => intro i c w hb _ _; exact ⟨w, by simp [storeCells], rfl, rfl, rfl, rfl, hb, fun _ _ => rfl⟩
  | cons v r ih =>
    intro i c w hb hl hv
    have hlt : off + i < c.length := by simp at hl; omega
    have ha : ((⟨b, off, none⟩ : Addr).add i) = ⟨b, off + i, none⟩ := by
      unfold Addr.add; split
      · rename_i e; subst e; rfl
      · rfl
    have hc : w.cell? ⟨b, off + i, none⟩ = some c[off + i] := by rw [cell_of hb]; simp [hlt]
    have hf : w.frozen? ⟨b, off + i, none⟩ = false := by simp [World.frozen?, hb]
    have hw : (w.setCell ⟨b, off + i, none⟩ v).heap[b]? = some (.cells (c.set (off + i) v).toArray T (0, 0)) := by
      simp [World.setCell, Array.getElem?_modify, hb]
    have hw2 : ∀ k, k ≠ b → (w.setCell ⟨b, off + i, none⟩ v).heap[k]? = w.heap[k]? := fun k hk => by
      simp only [World.setCell, Array.getElem?_modify]; rw [if_neg (Ne.symm hk)]
    obtain ⟨w', h1, h2, h3, h4, h5, h6, h7⟩ := ih (i + 1) (c.set (off + i) v) _ hw (by simp at hl ⊢; omega) (fun u hu => hv u (List.mem_cons_of_mem _ hu))
    refine ⟨w', ?_, h2, h3, h4, by rw [h5]; simp [World.setCell], h6, fun k hk => (h7 k hk).trans (hw2 k hk)⟩
    simp only [storeCells, Go.store, Sem.run_bind, ha]
    rw [run_store_plain (hv v (List.mem_cons_self ..)) hc hf]
    simpa [Result.andThen] using h1
/-- Something is stored into a block of the call's own. -/
theorem SO.store {l : List Oper} {T E : TypeId} {x y : Operand} {b off i : Nat} {c : List Value} {v : Value} (hO : Own w0 L w) (hg : gok ops e o = some true) (ho : o.op = .store T x y) (hd : o.dst = none)
    (hx : ev e x = some (.pointer (some ⟨b, off, none⟩))) (hy : ev e y = some v) (hi : L[i]? = some (b, .cells c.toArray E (0, 0))) (hs : ∀ w, (sizeOf T).run P w = .ok v.cells.size w)
    (hl : Nat.ble (off + v.cells.size) c.length = true) (hv : v.cells.toList.all plainV = true) (L' : List (Nat × Obj)) (hL : L.set i (b, .cells (setRow c off v.cells.toList).toArray E (0, 0)) = L')
    (h : ∀ w', Own w0 L' w' → SO P ro n ops l Q N D e w') : SO P ro n ops (o :: l) Q N D e w := by
  subst hL
  have hb := hO.at hi
  obtain ⟨w', h1, h2, h3, h4, h5, h6, h7⟩ := run_storeCells (P := P) b off E v.cells.toList 0 c w hb (by have := Nat.le_of_ble_eq_true hl; simpa using this)
    (fun u hu => List.all_eq_true.1 hv u hu)
  refine .eff hg (by rw [ho]; rfl) hd (w' := w') ?_ (h w' (hO.set hi h2 h3 h4 h5 (by simpa using h6) h7))
  intro a hf
  unfold execOp; rw [ho]; simp only [ev_eval hf hx, ev_eval hf hy]
  simp only [Instr.storeAt, Instr.sureAddr, storeVar, Sem.run_bind, Sem.run_pure, Result.andThen, hs, ne_eq, not_true_eq_false, if_false, h1]

/-! #### places -/
theorem Res.fieldAddr {S : TypeId} {x : Operand} {f k : Nat} {b off : Nat} (ho : o.op = .fieldAddr S x f) (hx : ev e x = some (.pointer (some ⟨b, off, none⟩)))
    (hk : ∀ a w, (Instr.fieldAt S (.pointer (some a)) f).run P w = .ok (.pointer (some (a.add k))) w) : Res P e o w (.ok (.value (.pointer (some ⟨b, off + k, none⟩))) w) := fun a h => by
  unfold execOp; rw [ho]; simp only [ev_eval h hx]
  have : (⟨b, off, none⟩ : Addr).add k = ⟨b, off + k, none⟩ := by unfold Addr.add; split <;> simp_all
  simp only [Sem.run_bind, hk, this, Result.andThen, Sem.run_pure]
/-- Whatever operation's value is known outright. -/
theorem Res.instr1 {x : Operand} {vx v : Value} {w' : World} {i : Value → Sem Value} (ho : ∀ ρ, execOp ρ o = (do pure (.value (← i (ρ x))))) (hx : ev e x = some vx) (hr : (i vx).run P w = .ok v w') : Res P e o w (.ok (.value v) w') := fun a h => by
  rw [ho, ev_eval h hx]; simp [hr, go_sem]

/-! #### values made of others -/
def evP (e : Env) : List (Nat × Operand) → Option (List (Nat × Value))
  | [] => some []
  | (i, x) :: r => match ev e x, evP e r with | some v, some vs => some ((i, v) :: vs) | _, _ => none
theorem evP_map {a : Act} (h : Fits e a) : ∀ {l : List (Nat × Operand)} {vs : List (Nat × Value)}, evP e l = some vs → (l.map fun (i, x) => (i, a.eval x)) = vs := by
  intro l
  induction l with
  | nil => intro vs hv; simp [evP] at hv; simp [hv]
  | cons x r ih =>
    intro vs hv
    simp only [evP] at hv
    split at hv
    · rename_i v vs' h1 h2
      cases hv
      simp [ev_eval h h1, ih h2]
    · cases hv
theorem Res.build {T : TypeId} {ps : List (Nat × Operand)} {vs : List (Nat × Value)} {v : Value} (ho : o.op = .build T ps.toArray) (hp : evP e ps = some vs) (hr : ∀ w, (Instr.build T vs.toArray).run P w = .ok v w) :
    Res P e o w (.ok (.value v) w) := fun a h => by
  unfold execOp; rw [ho]; simp only [List.map_toArray, evP_map h hp, Sem.run_bind, hr, Result.andThen, Sem.run_pure]
theorem Res.buildSlice {T E : TypeId} {k : Nat} {ps : List (Nat × Operand)} {vs : List (Nat × Value)} {c : List Value} (ho : o.op = .buildSlice T k ps.toArray) (hp : evP e ps = some vs)
    (hr : ∀ w, (Instr.buildSlice T k vs.toArray).run P w = .ok (.slice (some ⟨w.heap.size, 0, none⟩) k k) (w.alloc (.cells c.toArray E))) :
    Res P e o w (.ok (.value (.slice (some ⟨w.heap.size, 0, none⟩) k k)) (w.alloc (.cells c.toArray E))) := fun a h => by
  unfold execOp; rw [ho]; simp only [List.map_toArray, evP_map h hp, Sem.run_bind, hr, Result.andThen, Sem.run_pure]
theorem SO.buildSlice {l : List Oper} {d k : Nat} {T E : TypeId} {ps : List (Nat × Operand)} {vs : List (Nat × Value)} {c : List Value} (hO : Own w0 L w) (hg : gok ops e o = some true) (ho : o.op = .buildSlice T k ps.toArray) (hp : evP e ps = some vs) (hd : o.dst = some d) (hN : Nat.blt d N = true)
    (hr : ∀ w, (Instr.buildSlice T k vs.toArray).run P w = .ok (.slice (some ⟨w.heap.size, 0, none⟩) k k) (w.alloc (.cells c.toArray E)))
    (h : ∀ b w', w0.heap.size ≤ b → Own w0 ((b, .cells c.toArray E (0, 0)) :: L) w' → SO P ro n ops l Q N D ((d, .slice (some ⟨b, 0, none⟩) k k) :: e) w') : SO P ro n ops (o :: l) Q N D e w :=
  .val hg (by rw [ho]; rfl) hd hN (.buildSlice ho hp hr) (h _ _ hO.size (hO.alloc _))
theorem Res.field {T : TypeId} {x : Operand} {f : Nat} {vx v : Value} (ho : o.op = .field T x f) (hx : ev e x = some vx) (hr : ∀ w, (Instr.field T vx f).run P w = .ok v w) :
    Res P e o w (.ok (.value v) w) := fun a h => by
  unfold execOp; rw [ho]; simp only [ev_eval h hx, Sem.run_bind, hr, Result.andThen, Sem.run_pure]
theorem Res.iface {T : TypeId} {x : Operand} {v : Value} (ho : o.op = .makeInterface T x) (hx : ev e x = some v) (hr : ∀ v w, (Instr.makeInterface T v).run P w = .ok (.iface T v) w) :
    Res P e o w (.ok (.value (.iface T v)) w) := fun a h => by
  unfold execOp; rw [ho]; simp only [ev_eval h hx, Sem.run_bind, hr, Result.andThen, Sem.run_pure]
theorem Res.notD {x : Operand} {T : TypeId} {p : Prop} [Decidable p] (ho : o.op = .unOp .not T x) (hx : ev e x = some (.bool (decide p))) : Res P e o w (.ok (.value (.bool (decide (¬ p)))) w) := by
  have := Res.not (P := P) (w := w) ho hx
  rwa [show (!decide p) = decide (¬ p) by by_cases h : p <;> simp [h]] at this

/-! #### pieces of strings -/
theorem Res.sliceLH {T : TypeId} {x lo hi : Operand} {s : ByteArray} {k j : IntKind} {a b : Int} (ho : o.op = .slice T x (some lo) (some hi) none) (hx : ev e x = some (.string s)) (hl : ev e lo = some (.int k a)) (hh : ev e hi = some (.int j b))
    (hT : P.underlying T = some .string) (hb : 0 ≤ a ∧ a ≤ b ∧ b ≤ s.size) : Res P e o w (.ok (.value (.string (s.extract a.toNat b.toNat))) w) := fun q h => by
  unfold execOp; rw [ho]; simp only [ev_eval h hx, Option.map_some, ev_eval h hl, ev_eval h hh, Option.map_none]
  have e1 : (b.toNat : Int) = b := by omega
  simp [Instr.sliceAt, Instr.slice, run_underlying hT, Instr.sliceBounds, run_sliceBound, go_sem, hb, e1, (by omega : 0 ≤ b)]
theorem Res.sliceL {T : TypeId} {x lo : Operand} {s : ByteArray} {k : IntKind} {a : Int} (ho : o.op = .slice T x (some lo) none none) (hx : ev e x = some (.string s)) (hl : ev e lo = some (.int k a))
    (hT : P.underlying T = some .string) (hb : 0 ≤ a ∧ a ≤ s.size) : Res P e o w (.ok (.value (.string (s.extract a.toNat s.size))) w) := fun q h => by
  unfold execOp; rw [ho]; simp only [ev_eval h hx, Option.map_some, ev_eval h hl, Option.map_none]
  simp [Instr.sliceAt, Instr.slice, run_underlying hT, Instr.sliceBounds, run_sliceBound, go_sem, hb]
theorem Res.sliceH {T : TypeId} {x hi : Operand} {s : ByteArray} {k : IntKind} {b : Int} (ho : o.op = .slice T x none (some hi) none) (hx : ev e x = some (.string s)) (hh : ev e hi = some (.int k b))
    (hT : P.underlying T = some .string) (hb : 0 ≤ b ∧ b ≤ s.size) : Res P e o w (.ok (.value (.string (s.extract 0 b.toNat))) w) := fun q h => by
  unfold execOp; rw [ho]; simp only [ev_eval h hx, Option.map_some, ev_eval h hh, Option.map_none]
  simp [Instr.sliceAt, Instr.slice, run_underlying hT, Instr.sliceBounds, run_sliceBound, go_sem, hb]

/-! #### calls -/
def evL (e : Env) : List Operand → Option (List Value)
  | [] => some []
  | x :: r => match ev e x, evL e r with | some v, some vs => some (v :: vs) | _, _ => none
theorem evL_map {a : Act} (h : Fits e a) : ∀ {l : List Operand} {vs : List Value}, evL e l = some vs → l.map a.eval = vs := by
  intro l
  induction l with
  | nil => intro vs hv; simp [evL] at hv; simp [hv]
  | cons x r ih =>
    intro vs hv
    simp only [evL] at hv
    split at hv
    · rename_i v vs' h1 h2
      cases hv
      simp [ev_eval h h1, ih h2]
    · cases hv
/-- A named function is called. -/
theorem Res.callF {f : FuncId} {l : List Operand} {vs : List Value} {ats : Array TypeId} (ho : o.op = .call { callee := .value (.func f), args := l.toArray, argTypes := ats }) (hl : evL e l = some vs)
    (he : ∀ args w, (callFunc f args).run P w = .ok (.enter f args) w) : Res P e o w (.ok (.enter f vs.toArray) w) := fun a h => by
  unfold execOp; rw [ho]
  simp only [resolve, List.map_toArray, evL_map h hl, Act.eval, Deferred.ofValue, invoke, Sem.run_bind, Sem.run_pure, Result.andThen]
  simpa using he _ _
/-- A function value is called. -/
theorem Res.callV {x : Operand} {f : FuncId} {l : List Operand} {vs : List Value} {fs cs : Array Value} {ats : Array TypeId} (ho : o.op = .call { callee := .value x, args := l.toArray, argTypes := ats }) (hx : ev e x = some (.func (.func f) fs cs)) (hl : evL e l = some vs)
    (he : ∀ args w, (callFunc f args).run P w = .ok (.enter f args) w) : Res P e o w (.ok (.enter f (fs ++ vs.toArray ++ cs)) w) := fun a h => by
  unfold execOp; rw [ho]
  simp only [resolve, List.map_toArray, evL_map h hl, ev_eval h hx, Deferred.ofValue, invoke, Sem.run_bind, Sem.run_pure, Result.andThen]
  exact he _ _
/-- A method of an interface value is called: f is the one of its dynamic type. -/
theorem Res.callI {x : Operand} {name : String} {T : TypeId} {v r : Value} {f : FuncId} {l : List Operand} {vs : List Value} {ats : Array TypeId} (ho : o.op = .call { callee := .invoke x name, args := l.toArray, argTypes := ats }) (hx : ev e x = some (.iface T v)) (hl : evL e l = some vs)
    (hm : ∀ w, (method (P.types.size + Made.depth) T v name).run P w = .ok (f, r) w)
    (he : ∀ args w, (callFunc f args).run P w = .ok (.enter f args) w) : Res P e o w (.ok (.enter f (r :: vs).toArray) w) := fun a h => by
  unfold execOp; rw [ho]
  simp only [resolve, List.map_toArray, evL_map h hl, ev_eval h hx, invoke, Sem.run_bind, Sem.run_pure, Result.andThen]
  have := hm w
  rw [show Made.depth = 100 from rfl] at this
  simp [callMethod, program, Sem.run, Sem.run_bind, Result.andThen, go_sem]
  rw [this]
  exact he _ _
end Ow
end Go.Proofs.YtclgplkkajfenaaGreatDoor
