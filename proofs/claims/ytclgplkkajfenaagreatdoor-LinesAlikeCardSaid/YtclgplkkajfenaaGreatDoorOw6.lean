/- The calculus: conversions, shifts, places of rows, copies, new rows, bytes to strings. -/
import Derived.Test.YtclgplkkajfenaaGreatDoorOw5
import Derived.Laws.BytesString
import Derived.Laws.IdiomCopy
import Derived.Laws.MakeOwn
namespace Go.Proofs.YtclgplkkajfenaaGreatDoor
namespace Ow
open Go Go.RowKit
variable {P : Program} {ro : Option Nat} {n : Nat} {ops : Array Oper} {Q : Exit → Act → World → Prop} {N : Nat} {D : List Deferred} {e : Env} {w : World} {o : Oper}
theorem Res.convI {S T : TypeId} {x : Operand} {k k' : IntKind} {a b : Int} (ho : o.op = .convert S T x) (hx : ev e x = some (.int k a)) (hs : (P.underlying S).isSome = true) (hd : P.underlying T = some (.int k'))
    (hb : k'.wrap a = b) : Res P e o w (.ok (.value (.int k' b)) w) := fun ac h => by
  obtain ⟨d, hd'⟩ := Option.isSome_iff_exists.mp hs
  unfold execOp; rw [ho]; simp only [ev_eval h hx]
  subst hb
  simp [convert, run_underlying hd', run_underlying hd, Conv.intToInt, Sem.run_bind, Result.andThen]
theorem u64_in (a : Int) (h : 0 ≤ a ∧ a < 18446744073709551616) : IntKind.u64.wrap a = a := by
  simp [IntKind.wrap, IntKind.signed, IntKind.bits]; omega
theorem Res.shr1 {T yT : TypeId} {x y : Operand} {j : IntKind} {a : Int} (ho : o.op = .binOp .shr T x y yT) (hx : ev e x = some (.int .u64 a)) (hy : ev e y = some (.int j 1)) :
    Res P e o w (.ok (.value (.int .u64 (a / 2))) w) :=
  .bin ho hx hy (by simp [eqGuard, go_sem]) (by simp [binOp, go_sem])
theorem Res.indexAddr {T E : TypeId} {x y : Operand} {b off len cap sz : Nat} {k : IntKind} {i : Int} (ho : o.op = .indexAddr T x y) (hx : ev e x = some (.slice (some ⟨b, off, none⟩) len cap)) (hy : ev e y = some (.int k i))
    (hT : P.underlying T = some (.slice E)) (hs : ∀ w, (sizeOf E).run P w = .ok sz w) (h0 : 0 ≤ i) (h1 : i < len) : Res P e o w (.ok (.value (.pointer (some ⟨b, off + i.toNat * sz, none⟩))) w) := fun ac h => by
  unfold execOp; rw [ho]; simp only [ev_eval h hx, ev_eval h hy]
  have he : P.elem T = E := by simp [Program.elem, hT]
  simp [Instr.indexAt, run_underlying hT, asIntOf, h0, h1, hs, Sem.run_bind, Result.andThen, Addr.add, go_sem]
end Ow
end Go.Proofs.YtclgplkkajfenaaGreatDoor
