/- The laws' arguments, opened. -/
import Derived.Test.YtclgplkkajfenaaGreatDoorFrame
namespace Go.Proofs.YtclgplkkajfenaaGreatDoor.Frame
open Go Go.ChangeShapes Go.WideShapes Go.ChangeAt Go.RowKit
set_option maxRecDepth 100000
section
variable {P : Program} {W : World} {base : Nat} {t : TypeId} {v : Value}
theorem g_str (ht : P.underlying t = some .string) (h : Cell.okWide P W .any base t v) : ∃ s, v = .string s := by
  simp only [Cell.okWide, ht, Cell.ok] at h
  cases v <;> simp at h
  exact ⟨_, rfl⟩
theorem g_int (ht : P.underlying t = some (.int .i64)) (h : Cell.okWide P W .any base t v) : ∃ n, v = .int .i64 n ∧ -9223372036854775808 ≤ n ∧ n ≤ 9223372036854775807 := by
  simp only [Cell.okWide, ht, Cell.ok] at h
  cases v <;> simp at h
  obtain ⟨rfl, h2⟩ := h
  refine ⟨_, rfl, ?_⟩
  simp [IntKind.has, IntKind.min, IntKind.max, IntKind.signed, IntKind.bits] at h2
  omega
theorem g_struct {fs : Array Field} (ht : P.underlying t = some (.struct fs)) (h : Value.okWide P W .any base t v) : ∃ cs, v = .agg cs ∧ cs.size = P.cellsOf t ∧ Row.okWide P W .any base t cs := by
  unfold Value.okWide at h; rw [ht] at h; exact h
theorem g_flat (ht : P.underlying t = some (.int .i64)) (h : Value.okWide P W .any base t v) : Cell.okWide P W .any base t v := by
  unfold Value.okWide at h; rw [ht] at h; exact h
end
variable {W : World} {base : Nat} {v : Value}
theorem cell_str (h : Cell.okWide Tryz.prog W .any base 9 v) : ∃ s, v = .string s := g_str Tryz.underlying9 h
theorem cell_int (h : Cell.okWide Tryz.prog W .any base 3 v) : ∃ n, v = .int .i64 n ∧ -9223372036854775808 ≤ n ∧ n ≤ 9223372036854775807 := g_int Tryz.underlying3 h
theorem arr2 {cs : Array Value} (h : cs.size = 2) : ∃ a b, cs = #[a, b] := by
  obtain ⟨l⟩ := cs
  match l, h with
  | [a, b], _ => exact ⟨a, b, rfl⟩
theorem arr3 {cs : Array Value} (h : cs.size = 3) : ∃ a b c, cs = #[a, b, c] := by
  obtain ⟨l⟩ := cs
  match l, h with
  | [a, b, c], _ => exact ⟨a, b, c, rfl⟩
theorem open23 (h : Value.okWide Tryz.prog W .any base 23 v) : ∃ s k, v = .agg #[.string s, .int .i64 k] := by
  obtain ⟨cs, rfl, hs, ts, hts, _, hc⟩ := g_struct Tryz.underlying23 h
  obtain ⟨a, b, rfl⟩ := arr2 (hs.trans (by kernel_rfl))
  obtain rfl : ts = [9, 3] := Option.some.inj (hts.symm.trans (by kernel_rfl))
  obtain ⟨u, h1, h2⟩ := hc 0 a rfl
  obtain rfl : u = 9 := (Option.some.inj h1).symm
  obtain ⟨u, h3, h4⟩ := hc 1 b rfl
  obtain rfl : u = 3 := (Option.some.inj h3).symm
  obtain ⟨s, rfl⟩ := cell_str h2
  obtain ⟨k, rfl, _⟩ := cell_int h4
  exact ⟨s, k, rfl⟩
theorem open49 (h : Value.okWide Tryz.prog W .any base 49 v) : ∃ n l c, v = .agg #[.int .i64 n, .int .i64 l, .int .i64 c] := by
  obtain ⟨cs, rfl, hs, ts, hts, _, hc⟩ := g_struct Tryz.underlying49 h
  obtain ⟨a, b, c, rfl⟩ := arr3 (hs.trans (by kernel_rfl))
  obtain rfl : ts = [3, 3, 3] := Option.some.inj (hts.symm.trans (by kernel_rfl))
  obtain ⟨u, h1, h2⟩ := hc 0 a rfl
  obtain rfl : u = 3 := (Option.some.inj h1).symm
  obtain ⟨u, h3, h4⟩ := hc 1 b rfl
  obtain rfl : u = 3 := (Option.some.inj h3).symm
  obtain ⟨u, h5, h6⟩ := hc 2 c rfl
  obtain rfl : u = 3 := (Option.some.inj h5).symm
  obtain ⟨n, rfl, _⟩ := cell_int h2
  obtain ⟨l, rfl, _⟩ := cell_int h4
  obtain ⟨q, rfl, _⟩ := cell_int h6
  exact ⟨n, l, q, rfl⟩
theorem open3 (h : Value.okWide Tryz.prog W .any base 3 v) : ∃ n, v = .int .i64 n ∧ -9223372036854775808 ≤ n ∧ n ≤ 9223372036854775807 := by
  exact cell_int (g_flat Tryz.underlying3 h)
end Go.Proofs.YtclgplkkajfenaaGreatDoor.Frame
