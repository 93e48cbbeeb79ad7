/- rope.seam, short. -/
import Derived.Test.YtclgplkkajfenaaGreatDoorRopp
namespace Go.Proofs.YtclgplkkajfenaaGreatDoor
open Go Go.RowKit Ow
set_option maxRecDepth 20000 in
set_option maxHeartbeats 400000 in
theorem seam_any (a b : ByteArray) (w : World) (hG : Good w) (hz : a.size + b.size ≤ 4611686018427387904) :
    Calls Tryz.prog 193 #[.string a, .string b] w fun e w' => e = .returned (.bool (decide (cBd (bl (a ++ b)) a.size))) ∧ Below w.heap.size w w' := by
  have hO0 := Own.start hG
  refine enter Tryz.func193 rfl rfl rfl 0 ?_
  refine SC.seq ?_
  refine SC.region ?_
  refine SO.val rfl rfl rfl rfl (.assign rfl rfl) ?_
  refine SO.nil ?_
  refine SQ.then_normal ?_
  refine SC.seq ?_
  refine SC.region ?_
  refine SO.val rfl rfl rfl rfl (.move rfl rfl) ?_
  refine SO.val rfl rfl rfl rfl (.move rfl rfl) ?_
  refine SO.val rfl rfl rfl rfl (.strAdd rfl rfl rfl (by omega)) ?_
  refine SO.val rfl rfl rfl rfl (.move rfl rfl) ?_
  refine SO.val rfl rfl rfl rfl (.lenS rfl rfl Tryz.underlying9) ?_
  refine SO.call rfl rfl rfl rfl (.callF rfl rfl en66) (cboundary_any _ _ _ (hO0.good hG) (by simp only [ByteArray.size_append]; omega)) ?_
  rintro _ w1 ⟨rfl, hb1⟩
  have hO1 := hO0.below hb1
  refine ⟨_, rfl, ?_⟩
  refine SO.val rfl rfl rfl rfl (.assign rfl rfl) ?_
  refine SO.nil ?_
  refine SQ.then_normal ?_
  refine SC.ret ?_
  refine SQ.out (.inl rfl) (res1 rfl rfl) ?_
  exact ⟨rfl, hO1.toBelow trivial⟩

set_option maxRecDepth 20000 in
set_option maxHeartbeats 400000 in
theorem short_nil  (w : World) (hG : Good w) :
    Calls Tryz.prog 192 #[.pointer none] w fun e w' => e = .returned (.bool false) ∧ Below w.heap.size w w' := by
  have hO0 := Own.start hG
  refine enter Tryz.func192 rfl rfl rfl 0 ?_
  refine SC.seq ?_
  refine SC.region ?_
  refine SO.val rfl rfl rfl rfl (.assign rfl rfl) ?_
  refine SO.nil ?_
  refine SQ.then_normal ?_
  refine SC.seq ?_
  refine SC.region ?_
  refine SO.val rfl rfl rfl rfl (.move rfl rfl) ?_
  refine SO.val rfl rfl rfl rfl (.ptrNe (b := false) rfl rfl rfl Tryz.underlying208 rfl) ?_
  refine SO.val rfl rfl rfl rfl (.move rfl rfl) ?_
  refine SO.pass rfl rfl rfl ?_
  refine SO.pass rfl rfl rfl ?_
  refine SO.pass rfl rfl rfl ?_
  refine SO.pass rfl rfl rfl ?_
  refine SO.pass rfl rfl rfl ?_
  refine SO.val rfl rfl rfl rfl (.pickF rfl rfl rfl) ?_
  refine SO.val rfl rfl rfl rfl (.move rfl rfl) ?_
  refine SO.pass rfl rfl rfl ?_
  refine SO.pass rfl rfl rfl ?_
  refine SO.pass rfl rfl rfl ?_
  refine SO.pass rfl rfl rfl ?_
  refine SO.pass rfl rfl rfl ?_
  refine SO.pass rfl rfl rfl ?_
  refine SO.val rfl rfl rfl rfl (.pickF rfl rfl rfl) ?_
  refine SO.val rfl rfl rfl rfl (.assign rfl rfl) ?_
  refine SO.nil ?_
  refine SQ.then_normal ?_
  refine SC.ret ?_
  refine SQ.out (.inl rfl) (res1 rfl rfl) ?_
  exact ⟨rfl, hO0.toBelow trivial⟩

set_option maxRecDepth 20000 in
set_option maxHeartbeats 400000 in
theorem short_leaf (s : ByteArray) (y : Nat) (w : World) (hG : Good w) (ht : (RT.leaf s).At w y) :
    Calls Tryz.prog 192 #[.pointer (some ⟨y, 0, none⟩)] w fun e w' => e = .returned (.bool (decide (s.size < 32))) ∧ Below w.heap.size w w' := by
  have hO0 := Own.start hG
  refine enter Tryz.func192 rfl rfl rfl 0 ?_
  refine SC.seq ?_
  refine SC.region ?_
  refine SO.val rfl rfl rfl rfl (.assign rfl rfl) ?_
  refine SO.nil ?_
  refine SQ.then_normal ?_
  refine SC.seq ?_
  refine SC.region ?_
  refine SO.val rfl rfl rfl rfl (.move rfl rfl) ?_
  refine SO.val rfl rfl rfl rfl (.ptrNe (b := true) rfl rfl rfl Tryz.underlying208 rfl) ?_
  refine SO.val rfl rfl rfl rfl (.move rfl rfl) ?_
  refine SO.val rfl rfl rfl rfl (.move rfl rfl) ?_
  refine SO.val rfl rfl rfl rfl (.nilCheck rfl rfl) ?_
  refine SO.val rfl rfl rfl rfl (.fieldAddr rfl rfl fa228_0) ?_
  refine SO.val rfl rfl rfl rfl (.load rfl rfl ag208 (cell_of' (hO0.heapO trivial ht) rfl)) ?_
  refine SO.val rfl rfl rfl rfl (.ptrEq (b := true) rfl rfl rfl Tryz.underlying208 rfl) ?_
  refine SO.val rfl rfl rfl rfl (.pickT rfl rfl rfl) ?_
  refine SO.val rfl rfl rfl rfl (.move rfl rfl) ?_
  refine SO.val rfl rfl rfl rfl (.move rfl rfl) ?_
  refine SO.val rfl rfl rfl rfl (.nilCheck rfl rfl) ?_
  refine SO.val rfl rfl rfl rfl (.fieldAddr rfl rfl fa228_4) ?_
  refine SO.val rfl rfl rfl rfl (.load rfl rfl ag9 (cell_of' (hO0.heapO trivial ht) rfl)) ?_
  refine SO.val rfl rfl rfl rfl (.lenS rfl rfl Tryz.underlying9) ?_
  refine SO.val rfl rfl rfl rfl (.lss rfl rfl rfl) ?_
  refine SO.val rfl rfl rfl rfl (.pickT rfl rfl rfl) ?_
  refine SO.val rfl rfl rfl rfl (.assign rfl rfl) ?_
  refine SO.nil ?_
  refine SQ.then_normal ?_
  refine SC.ret ?_
  refine SQ.out (.inl rfl) (res1 rfl rfl) ?_
  refine ⟨?_, hO0.toBelow trivial⟩
  congr 2; exact decide_eq_decide.2 (by omega)

set_option maxRecDepth 20000 in
set_option maxHeartbeats 400000 in
theorem short_knot (l r : RT) (y : Nat) (w : World) (hG : Good w) (ht : (RT.knot l r).At w y) :
    Calls Tryz.prog 192 #[.pointer (some ⟨y, 0, none⟩)] w fun e w' => e = .returned (.bool false) ∧ Below w.heap.size w w' := by
  obtain ⟨xl, xr, ot, hl, hr⟩ := ht
  have hO0 := Own.start hG
  refine enter Tryz.func192 rfl rfl rfl 0 ?_
  refine SC.seq ?_
  refine SC.region ?_
  refine SO.val rfl rfl rfl rfl (.assign rfl rfl) ?_
  refine SO.nil ?_
  refine SQ.then_normal ?_
  refine SC.seq ?_
  refine SC.region ?_
  refine SO.val rfl rfl rfl rfl (.move rfl rfl) ?_
  refine SO.val rfl rfl rfl rfl (.ptrNe (b := true) rfl rfl rfl Tryz.underlying208 rfl) ?_
  refine SO.val rfl rfl rfl rfl (.move rfl rfl) ?_
  refine SO.val rfl rfl rfl rfl (.move rfl rfl) ?_
  refine SO.val rfl rfl rfl rfl (.nilCheck rfl rfl) ?_
  refine SO.val rfl rfl rfl rfl (.fieldAddr rfl rfl fa228_0) ?_
  refine SO.val rfl rfl rfl rfl (.load rfl rfl ag208 (cell_of' (hO0.heapO trivial ot) rfl)) ?_
  refine SO.val rfl rfl rfl rfl (.ptrEq (b := false) rfl rfl rfl Tryz.underlying208 rfl) ?_
  refine SO.val rfl rfl rfl rfl (.pickT rfl rfl rfl) ?_
  refine SO.val rfl rfl rfl rfl (.move rfl rfl) ?_
  refine SO.pass rfl rfl rfl ?_
  refine SO.pass rfl rfl rfl ?_
  refine SO.pass rfl rfl rfl ?_
  refine SO.pass rfl rfl rfl ?_
  refine SO.pass rfl rfl rfl ?_
  refine SO.pass rfl rfl rfl ?_
  refine SO.val rfl rfl rfl rfl (.pickF rfl rfl rfl) ?_
  refine SO.val rfl rfl rfl rfl (.assign rfl rfl) ?_
  refine SO.nil ?_
  refine SQ.then_normal ?_
  refine SC.ret ?_
  refine SQ.out (.inl rfl) (res1 rfl rfl) ?_
  exact ⟨rfl, hO0.toBelow trivial⟩

def shS : Option RT → Bool
  | some (.leaf s) => decide (s.size < 32)
  | _ => false
theorem short_o (l : Option RT) (p : Option Addr) (w : World) (hG : Good w) (hl : OAt w l p) : Calls Tryz.prog 192 #[.pointer p] w fun e w' => e = .returned (.bool (shS l)) ∧ Below w.heap.size w w' := by
  cases l with
  | none => cases hl; exact short_nil w hG
  | some t =>
    obtain ⟨y, rfl, ht⟩ := hl
    cases t with
    | leaf s => exact short_leaf s y w hG ht
    | knot l r => exact short_knot l r y w hG ht
/-- A tree that may stand beside others. -/
def Wf (xs : List ByteArray) : Prop := xs.length = 1 ∨ ∀ x ∈ xs, 32 ≤ x.size
def Big (l : Option RT) : Prop := ∀ x ∈ oL l, 32 ≤ x.size
def txO (l : Option RT) : Bs := ((oL l).map bl).flatten
theorem txO_some (t : RT) : txO (some t) = t.txt := t.txt_leaves.symm
theorem big_of_long {l : Option RT} (h : ∀ t, l = some t → Wf t.leaves) (hs : shS l = false) : Big l := by
  cases l with
  | none => exact fun x hx => by cases hx
  | some t =>
    cases t with
    | leaf s =>
      intro x hx
      simp only [oL, RT.leaves, List.mem_singleton] at hx
      subst hx
      simp only [shS, decide_eq_false_iff_not] at hs
      omega
    | knot l r =>
      rcases h _ rfl with h' | h'
      · have h1 := l.leaves_pos; have h2 := r.leaves_pos
        simp only [RT.leaves, List.length_append] at h'; omega
      · exact h'
theorem short_is {l : Option RT} (h : shS l = true) : ∃ s, l = some (.leaf s) ∧ s.size < 32 := by
  cases l with
  | none => cases h
  | some t =>
    cases t with
    | leaf s => exact ⟨s, rfl, of_decide_eq_true h⟩
    | knot l r => cases h
theorem Big.len {l : Option RT} (h : Big l) : 32 * (oL l).length ≤ (txO l).length := by
  have key : ∀ xs : List ByteArray, (∀ x ∈ xs, 32 ≤ x.size) → 32 * xs.length ≤ lenL xs := by
    intro xs
    induction xs with
    | nil => intro _; simp
    | cons x xs ih =>
      intro h
      have h1 := h x (by simp)
      have h2 := ih fun y hy => h y (List.mem_cons_of_mem _ hy)
      rw [lenL_cons, List.length_cons]; omega
  exact key _ h

end Go.Proofs.YtclgplkkajfenaaGreatDoor
