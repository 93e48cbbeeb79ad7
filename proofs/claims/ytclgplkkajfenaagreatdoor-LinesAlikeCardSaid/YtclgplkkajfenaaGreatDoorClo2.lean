/- Closed facts on the program: its head, its looks. -/
import Derived.Test.YtclgplkkajfenaaGreatDoorClo
namespace Go.Proofs.YtclgplkkajfenaaGreatDoor.Frame
open Go Go.ChangeShapes Go.WideShapes Go.ChangeAt Go.RowKit
set_option maxRecDepth 100000
theorem and_ok {a b : Bool} (h : a = true) (k : b = true) : (a && b) = true := by rw [h, k]; rfl
theorem looks1 : Tryz.prog.looks [] = true := by kernel_rfl
theorem main1 : Tryz.prog.mainIs = some (true, "056fa145219ffdc7d906cdf64f2f4eae4c0083f6245b3a2940b815484193903b".toList) := by
  unfold Program.mainIs; rw [iol]; kernel_rfl
end Go.Proofs.YtclgplkkajfenaaGreatDoor.Frame
