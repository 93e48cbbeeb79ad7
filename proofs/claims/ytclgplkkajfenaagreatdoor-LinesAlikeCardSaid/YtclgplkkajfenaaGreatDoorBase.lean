/- What all walks of this seat share. -/
import Derived.Test.YtclgplkkajfenaaGreatDoorProg
import Derived.Test.YtclgplkkajfenaaGreatDoorShelf
import Derived.WalkKit
import Derived.WalkLawsBesides
import Derived.WalkSpells
import Derived.Lib.Hide
import Derived.Deep.LoopGhost
import Derived.Deep.QuietTactic
import Derived.BigQuiet
import Derived.Deep.RegionHeld3
import Derived.Deep.DeepFit
namespace Go.Proofs.YtclgplkkajfenaaGreatDoor
open Go.RowKit
/-- The library's two tables of UTF-8 lie as they were laid. -/
def Good (w : World) : Prop := Lib.Utf8Tabs 0 1 w
theorem Good.two {w : World} (h : Good w) : 2 ≤ w.heap.size := by
  have h1 := (h.2 0 (by omega)).1
  have : (1 : Nat) < w.heap.size := World.block_lt_of_cell? _ _ h1
  omega
theorem Good.mono {B : Nat} {w w' : World} (h : Good w) (hb : Below B w w') (hB : 2 ≤ B) : Good w' :=
  ⟨fun c hc => (hb.cell (p := ⟨0, c, none⟩) (by show 0 < B; omega)).trans (h.1 c hc),
   fun i hi => ⟨(hb.cell (p := ⟨1, 2 * i, none⟩) (by show 1 < B; omega)).trans (h.2 i hi).1, (hb.cell (p := ⟨1, 2 * i + 1, none⟩) (by show 1 < B; omega)).trans (h.2 i hi).2⟩⟩
theorem Good.ext {w w' : World} (h : Good w) (hb : Below w.heap.size w w') : Good w' := h.mono hb h.two
/-- Two steps, each of which leaves what was there. -/
theorem ext_trans {a b c : World} (h : Below a.heap.size a b) (k : Below b.heap.size b c) : Below a.heap.size a c := h.trans (k.mono h.size)
theorem ext_alloc {a b : World} (h : Below a.heap.size a b) (o : Obj) : Below a.heap.size a (b.alloc o) := h.alloc h.size o
/-- A block of two cells of the call's own, behind a call that leaves it alone. -/
theorem own2 {w w1 : World} {x y : Value} {T : TypeId} (hb : Below (w.alloc (.cells #[x, y] T)).heap.size (w.alloc (.cells #[x, y] T)) w1) :
    (w1.cell? ⟨w.heap.size, 0, none⟩ = some x ∧ w1.cell? ⟨w.heap.size, 1, none⟩ = some y) ∧ (w1.frozen? ⟨w.heap.size, 0, none⟩ = false ∧ w1.frozen? ⟨w.heap.size, 1, none⟩ = false) ∧
    w.heap.size < w1.heap.size ∧ Below w.heap.size w w1 := by
  have hs := hb.size
  rw [World.size_alloc] at hs
  have hblk := hb.block w.heap.size (by simp)
  have hnew : (w.alloc (.cells #[x, y] T)).heap[w.heap.size]? = some (.cells #[x, y] T) := by show (w.heap.push _)[_]? = _; simp
  rw [hnew] at hblk
  refine ⟨⟨?_, ?_⟩, ⟨?_, ?_⟩, by omega, ((Below.refl _ w).alloc (Nat.le_refl _) _).trans (hb.mono (by simp))⟩
  · simp [World.cell?, hblk]
  · simp [World.cell?, hblk]
  · simp [World.frozen?, hblk]
  · simp [World.frozen?, hblk]
end Go.Proofs.YtclgplkkajfenaaGreatDoor
