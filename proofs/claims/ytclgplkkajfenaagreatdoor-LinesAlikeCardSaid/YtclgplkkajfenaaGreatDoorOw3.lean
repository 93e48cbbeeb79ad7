/- The calculus' operations, one lemma each. -/
import Derived.Test.YtclgplkkajfenaaGreatDoorOw2
import Derived.Shelf.Abstract
namespace Go.Proofs.YtclgplkkajfenaaGreatDoor
namespace Ow
open Go Go.RowKit
variable {P : Program} {ro : Option Nat} {n : Nat} {ops : Array Oper} {Q : Exit → Act → World → Prop} {N : Nat} {D : List Deferred} {e : Env} {w : World} {o : Oper}

theorem Res.move {x : Operand} {v : Value} (ho : o.op = .move x) (hx : ev e x = some v) : Res P e o w (.ok (.value v) w) := fun a h => by
  unfold execOp; rw [ho]; simp only [ev_eval h hx]; simp
theorem Res.assign {x : Operand} {v : Value} (ho : o.op = .assign x) (hx : ev e x = some v) : Res P e o w (.ok (.value v) w) := fun a h => by
  unfold execOp; rw [ho]; simp only [ev_eval h hx]; simp
theorem Res.pickT {c x y : Operand} {v : Value} (ho : o.op = .pick c x y) (hc : ev e c = some (.bool true)) (hx : ev e x = some v) : Res P e o w (.ok (.value v) w) := fun a h => by
  unfold execOp; rw [ho]; simp only [ev_eval h hx, ev_eval h hc]; simp [asBool, go_sem]
theorem Res.pickF {c x y : Operand} {v : Value} (ho : o.op = .pick c x y) (hc : ev e c = some (.bool false)) (hx : ev e y = some v) : Res P e o w (.ok (.value v) w) := fun a h => by
  unfold execOp; rw [ho]; simp only [ev_eval h hx, ev_eval h hc]; simp [asBool, go_sem]
theorem Res.extract {x : Operand} {i : Nat} {vs : Array Value} {v : Value} (ho : o.op = .extract x i) (hx : ev e x = some (.tuple vs)) (hi : vs[i]? = some v) : Res P e o w (.ok (.value v) w) := fun a h => by
  unfold execOp; rw [ho]; simp only [ev_eval h hx]; simp [Instr.extract, hi, go_sem]
theorem Res.not {x : Operand} {T : TypeId} {b : Bool} (ho : o.op = .unOp .not T x) (hx : ev e x = some (.bool b)) : Res P e o w (.ok (.value (.bool (!b))) w) := fun a h => by
  unfold execOp; rw [ho]; simp only [ev_eval h hx]; simp [Op.unary, go_sem]
theorem Res.nilCheck {x : Operand} {p : Addr} (ho : o.op = .nilCheck x) (hx : ev e x = some (.pointer (some p))) : Res P e o w (.ok (.value (.pointer (some p))) w) := fun a h => by
  unfold execOp; rw [ho]; simp only [ev_eval h hx]; simp [go_sem]

/-! #### numbers -/
theorem Res.bin {op : BinOp} {T yT : TypeId} {x y : Operand} {vx vy v : Value} (ho : o.op = .binOp op T x y yT) (hx : ev e x = some vx) (hy : ev e y = some vy)
    (hg : (eqGuard op T x y vx vy).run P w = .ok () w) (hr : (binOp op T vx vy).run P w = .ok v w) : Res P e o w (.ok (.value v) w) := fun a h => by
  unfold execOp; rw [ho]; simp only [ev_eval h hx, ev_eval h hy]; simp [hg, hr, Sem.run_bind, Result.andThen, go_sem]
theorem guard_int {op : BinOp} {T : TypeId} {x y : Operand} {k j : IntKind} {a b : Int} : (eqGuard op T x y (.int k a) (.int j b)).run P w = .ok () w := by
  cases op <;> simp [eqGuard, go_sem]
theorem guard_str {op : BinOp} {T : TypeId} {x y : Operand} {s t : ByteArray} : (eqGuard op T x y (.string s) (.string t)).run P w = .ok () w := by
  cases op <;> simp [eqGuard, go_sem]
theorem guard_ptr {op : BinOp} {T : TypeId} {x y : Operand} {p q : Option Addr} : (eqGuard op T x y (.pointer p) (.pointer q)).run P w = .ok () w := by
  cases op <;> simp [eqGuard, go_sem]

section
variable {T yT : TypeId} {x y : Operand} {k : IntKind} {a b : Int}
theorem Res.addW (ho : o.op = .binOp .add T x y yT) (hx : ev e x = some (.int k a)) (hy : ev e y = some (.int k b)) : Res P e o w (.ok (.value (.int k (k.wrap (a + b)))) w) :=
  .bin ho hx hy guard_int (by simp [go_sem])
theorem Res.subW (ho : o.op = .binOp .sub T x y yT) (hx : ev e x = some (.int k a)) (hy : ev e y = some (.int k b)) : Res P e o w (.ok (.value (.int k (k.wrap (a - b)))) w) :=
  .bin ho hx hy guard_int (by simp [go_sem])
theorem Res.mulW (ho : o.op = .binOp .mul T x y yT) (hx : ev e x = some (.int k a)) (hy : ev e y = some (.int k b)) : Res P e o w (.ok (.value (.int k (k.wrap (a * b)))) w) :=
  .bin ho hx hy guard_int (by simp [go_sem])
theorem Res.add (ho : o.op = .binOp .add T x y yT) (hx : ev e x = some (.int .i64 a)) (hy : ev e y = some (.int .i64 b)) (hb : -9223372036854775808 ≤ a + b ∧ a + b ≤ 9223372036854775807) : Res P e o w (.ok (.value (.int .i64 (a + b))) w) := by
  have := Res.addW (P := P) (w := w) ho hx hy
  rwa [IntWalk.i64_in _ hb] at this
theorem Res.sub (ho : o.op = .binOp .sub T x y yT) (hx : ev e x = some (.int .i64 a)) (hy : ev e y = some (.int .i64 b)) (hb : -9223372036854775808 ≤ a - b ∧ a - b ≤ 9223372036854775807) : Res P e o w (.ok (.value (.int .i64 (a - b))) w) := by
  have := Res.subW (P := P) (w := w) ho hx hy
  rwa [IntWalk.i64_in _ hb] at this
theorem Res.mul (ho : o.op = .binOp .mul T x y yT) (hx : ev e x = some (.int .i64 a)) (hy : ev e y = some (.int .i64 b)) (hb : -9223372036854775808 ≤ a * b ∧ a * b ≤ 9223372036854775807) : Res P e o w (.ok (.value (.int .i64 (a * b))) w) := by
  have := Res.mulW (P := P) (w := w) ho hx hy
  rwa [IntWalk.i64_in _ hb] at this
theorem Res.lss (ho : o.op = .binOp .lss T x y yT) (hx : ev e x = some (.int k a)) (hy : ev e y = some (.int k b)) : Res P e o w (.ok (.value (.bool (decide (a < b)))) w) :=
  .bin ho hx hy guard_int (by simp [go_sem])
theorem Res.leq (ho : o.op = .binOp .leq T x y yT) (hx : ev e x = some (.int k a)) (hy : ev e y = some (.int k b)) : Res P e o w (.ok (.value (.bool (decide (a ≤ b)))) w) :=
  .bin ho hx hy guard_int (by simp [go_sem])
theorem Res.gtr (ho : o.op = .binOp .gtr T x y yT) (hx : ev e x = some (.int k a)) (hy : ev e y = some (.int k b)) : Res P e o w (.ok (.value (.bool (decide (a > b)))) w) :=
  .bin ho hx hy guard_int (by simp [go_sem])
theorem Res.geq (ho : o.op = .binOp .geq T x y yT) (hx : ev e x = some (.int k a)) (hy : ev e y = some (.int k b)) : Res P e o w (.ok (.value (.bool (decide (a ≥ b)))) w) :=
  .bin ho hx hy guard_int (by simp [go_sem])
theorem Res.eql (ho : o.op = .binOp .eql T x y yT) (hx : ev e x = some (.int k a)) (hy : ev e y = some (.int k b)) : Res P e o w (.ok (.value (.bool (decide (a = b)))) w) :=
  .bin ho hx hy guard_int (by simp [go_sem]; rfl)
theorem Res.neq (ho : o.op = .binOp .neq T x y yT) (hx : ev e x = some (.int k a)) (hy : ev e y = some (.int k b)) : Res P e o w (.ok (.value (.bool (decide (a ≠ b)))) w) :=
  .bin ho hx hy guard_int (by simp [go_sem]; rfl)
theorem decT {p : Prop} [Decidable p] {w' : World} (h : Res P e o w (.ok (.value (.bool (decide p))) w')) (hp : p) : Res P e o w (.ok (.value (.bool true)) w') := by rwa [decide_eq_true hp] at h
theorem decF {p : Prop} [Decidable p] {w' : World} (h : Res P e o w (.ok (.value (.bool (decide p))) w')) (hp : ¬ p) : Res P e o w (.ok (.value (.bool false)) w') := by rwa [decide_eq_false hp] at h
theorem Res.quo (ho : o.op = .binOp .quo T x y yT) (hx : ev e x = some (.int .i64 a)) (hy : ev e y = some (.int .i64 b)) (ha : 0 ≤ a ∧ a ≤ 9223372036854775807) (hb : 1 ≤ b) : Res P e o w (.ok (.value (.int .i64 (a / b))) w) := by
  have hbz : b ≠ 0 := by omega
  have h1 : a.tdiv b = a / b := Int.tdiv_eq_ediv_of_nonneg ha.1
  have h2 : 0 ≤ a / b := Int.ediv_nonneg ha.1 (by omega)
  have h3 : a / b ≤ a := Int.ediv_le_self _ ha.1
  refine .bin ho hx hy guard_int ?_
  have : IntKind.i64.wrap (a.tdiv b) = a / b := by rw [h1]; exact IntWalk.i64_in _ ⟨by omega, by omega⟩
  simp [go_sem, hbz, this]
end

/-! #### strings -/
section
variable {T yT : TypeId} {x y : Operand} {s t : ByteArray}
theorem toList_inj {s t : ByteArray} (h : s.toList = t.toList) : s = t := by
  rw [Lib.toList_data, Lib.toList_data] at h
  cases s; cases t; simp at h; subst h; rfl
theorem Res.strEq (ho : o.op = .binOp .eql T x y yT) (hx : ev e x = some (.string s)) (hy : ev e y = some (.string t)) : Res P e o w (.ok (.value (.bool (decide (s = t)))) w) :=
  .bin ho hx hy guard_str (by
    have : (s.toList == t.toList) = decide (s = t) := by
      by_cases h : s = t
      · subst h; simp
      · rw [decide_eq_false h]; simpa using fun h' => h (toList_inj h')
    simp [binOp, Op.stringOp, this])
theorem Res.strNe (ho : o.op = .binOp .neq T x y yT) (hx : ev e x = some (.string s)) (hy : ev e y = some (.string t)) : Res P e o w (.ok (.value (.bool (decide (s ≠ t)))) w) :=
  .bin ho hx hy guard_str (by
    have : (s.toList == t.toList) = decide (s = t) := by
      by_cases h : s = t
      · subst h; simp
      · rw [decide_eq_false h]; simpa using fun h' => h (toList_inj h')
    simp [binOp, Op.stringOp, this])
theorem Res.strAdd (ho : o.op = .binOp .add T x y yT) (hx : ev e x = some (.string s)) (hy : ev e y = some (.string t)) (hb : s.size + t.size ≤ 9223372036854775807) : Res P e o w (.ok (.value (.string (s ++ t))) w) :=
  .bin ho hx hy guard_str (by
    have : ¬ ((s.size + t.size : Nat) : Int) > IntKind.i64.max := by
      have : IntKind.i64.max = 9223372036854775807 := by decide
      rw [this]; omega
    simp only [binOp, Op.stringOp, if_neg this]; rfl)
end

/-! #### builtins -/
theorem Res.builtin1 {b : Builtin} {x : Operand} {vx v : Value} {ats : Array TypeId} {w' : World} (ho : o.op = .call { callee := .builtin b, args := [x].toArray, argTypes := ats }) (hx : ev e x = some vx)
    (hr : ∀ cs, (builtin b ats o.type cs #[vx]).run P w = .ok (.value v) w') : Res P e o w (.ok (.value v) w') := fun a h => by
  unfold execOp; rw [ho]
  simp only [resolve, List.map_toArray, List.map_cons, List.map_nil, ev_eval h hx, invoke, Sem.run_bind, Sem.run_pure, Result.andThen]
  exact hr _
theorem Res.builtin2 {b : Builtin} {x y : Operand} {vx vy v : Value} {ats : Array TypeId} {w' : World} (ho : o.op = .call { callee := .builtin b, args := [x, y].toArray, argTypes := ats }) (hx : ev e x = some vx) (hy : ev e y = some vy)
    (hr : ∀ cs, (builtin b ats o.type cs #[vx, vy]).run P w = .ok (.value v) w') : Res P e o w (.ok (.value v) w') := fun a h => by
  unfold execOp; rw [ho]
  simp only [resolve, List.map_toArray, List.map_cons, List.map_nil, ev_eval h hx, ev_eval h hy, invoke, Sem.run_bind, Sem.run_pure, Result.andThen]
  exact hr _
theorem Res.lenS {x : Operand} {s : ByteArray} {t : TypeId} (ho : o.op = .call { callee := .builtin .len, args := [x].toArray, argTypes := [t].toArray }) (hx : ev e x = some (.string s)) (hT : P.underlying t = some .string) :
    Res P e o w (.ok (.value (.int .i64 s.size)) w) :=
  .builtin1 ho hx fun cs => by simp [Builtin.len_, run_underlying hT, goInt, go_sem]
theorem Res.lenA {x : Operand} {p : Option Addr} {k c : Nat} {t E : TypeId} (ho : o.op = .call { callee := .builtin .len, args := [x].toArray, argTypes := [t].toArray }) (hx : ev e x = some (.slice p k c)) (hT : P.underlying t = some (.slice E)) :
    Res P e o w (.ok (.value (.int .i64 k)) w) :=
  .builtin1 ho hx fun cs => by simp [Builtin.len_, run_underlying hT, goInt, go_sem]
end Ow
end Go.Proofs.YtclgplkkajfenaaGreatDoor
