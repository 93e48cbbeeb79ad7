/- More arguments opened. -/
import Derived.Test.YtclgplkkajfenaaGreatDoorFram
namespace Go.Proofs.YtclgplkkajfenaaGreatDoor.Frame
open Go Go.ChangeShapes Go.WideShapes Go.ChangeAt Go.RowKit
set_option maxRecDepth 100000
variable {W : World} {base : Nat} {v : Value}
theorem open37 (h : Value.okWide Tryz.prog W .any base 37 v) : ∃ l c, v = .agg #[.int .i64 l, .int .i64 c] := by
  obtain ⟨cs, rfl, hs, ts, hts, _, hc⟩ := g_struct Tryz.underlying37 h
  obtain ⟨a, b, rfl⟩ := arr2 (hs.trans (by kernel_rfl))
  obtain rfl : ts = [3, 3] := Option.some.inj (hts.symm.trans (by kernel_rfl))
  obtain ⟨u, h1, h2⟩ := hc 0 a rfl
  obtain rfl : u = 3 := (Option.some.inj h1).symm
  obtain ⟨u, h3, h4⟩ := hc 1 b rfl
  obtain rfl : u = 3 := (Option.some.inj h3).symm
  obtain ⟨s, rfl, _⟩ := cell_int h2
  obtain ⟨k, rfl, _⟩ := cell_int h4
  exact ⟨s, k, rfl⟩
end Go.Proofs.YtclgplkkajfenaaGreatDoor.Frame
