/- More arguments opened: bytes and texts. -/
import Derived.Test.YtclgplkkajfenaaGreatDoorFram
namespace Go.Proofs.YtclgplkkajfenaaGreatDoor.Frame
open Go Go.ChangeShapes Go.WideShapes Go.ChangeAt Go.RowKit
set_option maxRecDepth 100000
variable {W : World} {base : Nat} {v : Value}
theorem open5 (h : Value.okWide Tryz.prog W .any base 5 v) : ∃ n, v = .int .u8 n ∧ 0 ≤ n ∧ n ≤ 255 := by
  have h' : Cell.okWide Tryz.prog W .any base 5 v := by
    unfold Value.okWide at h; rw [Tryz.underlying5] at h; exact h
  simp only [Cell.okWide, Tryz.underlying5, Cell.ok] at h'
  cases v <;> simp at h'
  obtain ⟨rfl, h2⟩ := h'
  refine ⟨_, rfl, ?_⟩
  simp [IntKind.has, IntKind.min, IntKind.max, IntKind.signed, IntKind.bits] at h2
  omega
theorem open9 (h : Value.okWide Tryz.prog W .any base 9 v) : ∃ s, v = .string s := by
  have h' : Cell.okWide Tryz.prog W .any base 9 v := by
    unfold Value.okWide at h; rw [Tryz.underlying9] at h; exact h
  exact cell_str h'
end Go.Proofs.YtclgplkkajfenaaGreatDoor.Frame
