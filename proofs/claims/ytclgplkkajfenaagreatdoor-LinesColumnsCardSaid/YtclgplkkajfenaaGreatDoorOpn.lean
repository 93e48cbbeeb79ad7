/- Slices among the arguments, opened element by element. -/
import Derived.Test.YtclgplkkajfenaaGreatDoorRws
import Derived.Test.YtclgplkkajfenaaGreatDoorFram
import Derived.Deep.Slices
namespace Go.Proofs.YtclgplkkajfenaaGreatDoor
open Go Go.ChangeShapes Go.WideShapes Go.ChangeAt Go.RowKit
set_option maxRecDepth 100000
/-- A slice value whose elements are told, wherever in its block it begins. -/
def RowsO {α : Type} (enc : α → List Value) (sz : Nat) (w : World) (v : Value) (xs : List α) : Prop :=
  ∃ (p : Option Addr) (cap : Nat), v = .slice p xs.length cap ∧ xs.length ≤ cap ∧ cap ≤ maxLen ∧
    ∀ i x, xs[i]? = some x → ∃ g off : Nat, p = some ⟨g, off, none⟩ ∧ ∀ j u, (enc x)[j]? = some u → w.cell? ⟨g, off + i * sz + j, none⟩ = some u
theorem RowsO.below {α : Type} {enc : α → List Value} {sz : Nat} {w w' : World} {v : Value} {xs : List α} (h : RowsO enc sz w v xs) (hb : Below w.heap.size w w') : RowsO enc sz w' v xs := by
  obtain ⟨p, cap, e, h1, h2, h3⟩ := h
  refine ⟨p, cap, e, h1, h2, fun i x hx => ?_⟩
  obtain ⟨g, off, hg, hc⟩ := h3 i x hx
  exact ⟨g, off, hg, fun j u hu => (hb.cell (World.block_lt_of_cell? _ _ (hc j u hu))).trans (hc j u hu)⟩
theorem addr_add {a : Addr} (h : a.spot = none) (k : Nat) : a.add k = ⟨a.block, a.off + k, none⟩ := by
  obtain ⟨b, o, s⟩ := a
  simp only at h; subst h
  unfold Addr.add; split
  · rename_i e; subst e; rfl
  · rfl
theorem spot_none {w : World} {a : Addr} {v : Value} (h : w.cell? a = some v) : a.spot = none := by
  unfold World.cell? at h
  split at h
  · split at h
    · cases h
    · rename_i hs; simpa using hs
  · cases h
theorem cells_get {w : World} {base : Nat} {a : Addr} {n : Nat} {cs : List Value} (h : w.cells? base a n = some cs) : cs.length = n ∧ ∀ j u, cs[j]? = some u → w.cell? (a.add j) = some u := by
  obtain ⟨_, hl, hc⟩ := World.cells?_some h
  refine ⟨hl, fun j u hu => ?_⟩
  have hj : j < n := by rw [← hl]; exact (List.getElem?_eq_some_iff.1 hu).1
  rw [hc j hj]; exact hu
section
variable {H : Type} {enc' : TypeId × Value → H} {P : Program} {w : World} {sp : Nat → Bool} {held : Bool}
theorem open_rows {α : Type} [Inhabited α] {enc : α → List Value} {sz : Nat} {t e : TypeId} (ht : P.underlying t = some (.slice e)) (hsz : P.cellsOf e = sz) (h0 : 0 < sz)
    (hdec : ∀ n cs y, DataW.trod enc' P w 0 sp held n e cs = some y → ∃ x, cs = enc x) {v : Value} {d : DataW H} {p : List MemPlace} (hv : Cell.okWide P w .any 0 t v ∨ True) (hcell : v.cells.toList = [v]) (h : DataW.Trod enc' P w 0 sp held t v d p) :
    ∃ xs : List α, RowsO enc sz w v xs := by
  obtain ⟨fuel, h⟩ := h
  rw [hcell] at h
  rcases Go.Deep.open_slice ht h with ⟨h1, _⟩ | ⟨a, len, cap, m, n, D, Pl, h1, _, hl, hm, hmm, _, hx⟩
  · obtain rfl : v = .slice none 0 0 := by simpa using h1
    exact ⟨[], none, 0, rfl, Nat.le_refl _, Nat.zero_le _, fun i x hx => by simp at hx⟩
  · obtain rfl : v = .slice (some a) len cap := by simpa using h1
    have hlm : len ≤ m := by rw [hmm]; split <;> omega
    rw [hsz] at hx
    obtain ⟨X, hX⟩ := Go.Deep.choose_lt (α := α) (n := len) (p := fun i x => ∀ j u, (enc x)[j]? = some u → w.cell? ((a.add (i * sz)).add j) = some u ∧ (enc x).length = sz) (fun i hi => by
      obtain ⟨cs', g1, g2⟩ := hx i (by omega)
      obtain ⟨x, rfl⟩ := hdec _ _ _ g2
      obtain ⟨g3, g4⟩ := cells_get g1
      exact ⟨x, fun j u hu => ⟨g4 j u hu, g3⟩⟩)
    refine ⟨(List.range len).map X, some a, cap, by simp, by simpa using hl, hm, fun i x hi => ?_⟩
    have hil : i < len := by
      have := (List.getElem?_eq_some_iff.1 hi).1; simpa using this
    obtain rfl : x = X i := by simpa [hil] using hi.symm
    have hsp : a.spot = none := by
      obtain ⟨cs', g1, g2⟩ := hx 0 (by omega)
      obtain ⟨g3, g4⟩ := cells_get g1
      have := g4 0 (cs'[0]'(by omega)) (List.getElem?_eq_getElem _)
      have := spot_none this
      simpa [Addr.add] using this
    refine ⟨a.block, a.off, by rw [← hsp], fun j u hu => ?_⟩
    have := (hX i hil j u hu).1
    rw [addr_add hsp, addr_add rfl] at this
    exact this
theorem slice_cells {t e : TypeId} (ht : P.underlying t = some (.slice e)) {base : Nat} {v : Value} (h : Value.okWide P w .any base t v) : v.cells.toList = [v] := by
  have hc : Cell.okWide P w .any base t v := by unfold Value.okWide at h; rw [ht] at h; exact h
  simp only [Cell.okWide, ht, Cell.ok] at hc
  cases v <;> first | rfl | (simp at hc; done)
end
section
variable {H : Type} {enc' : TypeId × Value → H} {w : World} {sp : Nat → Bool} {held : Bool}
def encI (n : Int) : List Value := [.int .i64 n]
def encP (p : Int × Int) : List Value := [.int .i64 p.1, .int .i64 p.2]
theorem dec_int {n : Nat} {cs : List Value} {y : DataW H × List MemPlace} (h : DataW.trod enc' Tryz.prog w 0 sp held n 3 cs = some y) : ∃ x, cs = encI x := by
  obtain ⟨x, rfl, _⟩ := DataW.trod_int Tryz.underlying3 h
  exact ⟨x, rfl⟩
theorem dec_spot {n : Nat} {cs : List Value} {y : DataW H × List MemPlace} (h : DataW.trod enc' Tryz.prog w 0 sp held n 37 cs = some y) : ∃ x, cs = encP x := by
  obtain ⟨y0, y1, m, _, hl, h0, h1⟩ := trod_struct2 Tryz.underlying37 h
  rw [show Tryz.prog.cellsOf 37 = 2 by kernel_rfl] at hl
  match cs, hl with
  | [a, b], _ =>
    have c3 : Tryz.prog.cellsOf 3 = 1 := by kernel_rfl
    simp only [c3] at h0 h1
    obtain ⟨x0, e0, _⟩ := DataW.trod_int Tryz.underlying3 h0
    obtain ⟨x1, e1, _⟩ := DataW.trod_int Tryz.underlying3 h1
    simp at e0 e1
    subst e0; subst e1
    exact ⟨(x0, x1), rfl⟩
theorem openInts {v : Value} {d : DataW H} {p : List MemPlace} {base : Nat} (hv : Value.okWide Tryz.prog w .any base 24 v) (h : DataW.Trod enc' Tryz.prog w 0 sp held 24 v d p) : ∃ xs : List Int, RowsO encI 1 w v xs :=
  open_rows Tryz.underlying24 (by kernel_rfl) (by decide) (fun _ _ _ => dec_int) (.inr trivial) (slice_cells Tryz.underlying24 hv) h
theorem openSpots {v : Value} {d : DataW H} {p : List MemPlace} {base : Nat} (hv : Value.okWide Tryz.prog w .any base 25 v) (h : DataW.Trod enc' Tryz.prog w 0 sp held 25 v d p) : ∃ xs : List (Int × Int), RowsO encP 2 w v xs :=
  open_rows Tryz.underlying25 (by kernel_rfl) (by decide) (fun _ _ _ => dec_spot) (.inr trivial) (slice_cells Tryz.underlying25 hv) h
end
end Go.Proofs.YtclgplkkajfenaaGreatDoor
