/- The rope: part, put from nothing, Builder, slice, measure. -/
import Derived.Test.YtclgplkkajfenaaGreatDoorRop1
import Derived.Test.YtclgplkkajfenaaGreatDoorShelf
import Derived.Lib.AppendStr
/- rope.part. -/
namespace Go.Proofs.YtclgplkkajfenaaGreatDoor
open Go Go.RowKit Ow
theorem oL_some (t : RT) : oL (some t) = t.leaves := rfl
/-- The bytes of leaves. -/
def lenL (xs : List ByteArray) : Nat := (xs.map bl).flatten.length
theorem lenL_append (a b : List ByteArray) : lenL (a ++ b) = lenL a + lenL b := by simp [lenL]
theorem lenL_cons (a : ByteArray) (b : List ByteArray) : lenL (a :: b) = a.size + lenL b := by simp [lenL]
theorem RT.lenL_leaves (t : RT) : lenL t.leaves = t.txt.length := by rw [lenL, ← t.txt_leaves]
/-- All leaves of a tree with more than one have bytes. -/
def Pos1 (xs : List ByteArray) : Prop := xs.length = 1 ∨ ∀ x ∈ xs, 0 < x.size
def PartRes (t : RT) (a : Int) (w : World) (e : Ending) (w' : World) : Prop :=
  ∃ (p q : Option Addr) (l r : Option RT) (s : ByteArray) (k : Nat), e = .returned (.tuple #[.pointer p, .string s, .int .i64 (k : Int), .pointer q]) ∧ OAt w' l p ∧ OAt w' r q ∧ oL l ++ s :: oL r = t.leaves ∧
    (k : Int) = a - lenL (oL l) ∧ k ≤ s.size ∧ (a = t.txt.length → oL r = []) ∧ (a = 0 → Pos1 t.leaves → oL l = []) ∧ Below w.heap.size w w'

theorem pos1_all {l r : RT} (h : Pos1 (RT.knot l r).leaves) : ∀ x ∈ l.leaves ++ r.leaves, 0 < x.size := by
  rcases h with h | h
  · have h1 := l.leaves_pos; have h2 := r.leaves_pos
    simp only [RT.leaves, List.length_append] at h; omega
  · exact h
theorem pos1_left {l r : RT} (h : Pos1 (RT.knot l r).leaves) : Pos1 l.leaves := .inr fun x hx => pos1_all h x (List.mem_append.2 (.inl hx))
theorem pos1_size {l r : RT} (h : Pos1 (RT.knot l r).leaves) : 0 < l.txt.length := by
  rw [← l.lenL_leaves]
  cases e : l.leaves with
  | nil => have := l.leaves_pos; rw [e] at this; simp at this
  | cons x xs =>
    have := pos1_all h x (by rw [e]; simp)
    rw [lenL_cons]; omega

set_option maxRecDepth 20000 in
set_option maxHeartbeats 400000 in
theorem part_leaf (s : ByteArray) (y : Nat) (a : Int) (w : World) (hG : Good w) (ht : (RT.leaf s).At w y) (h0 : 0 ≤ a ∧ a ≤ s.size) :
    Calls Tryz.prog 196 #[.pointer (some ⟨y, 0, none⟩), .int .i64 a] w (PartRes (.leaf s) a w) := by
  obtain ⟨k, rfl⟩ := Int.eq_ofNat_of_zero_le h0.1
  have hO0 := Own.start hG
  refine enter Tryz.func196 rfl rfl rfl 0 ?_
  refine SC.sr ?_
  refine SO.as ?_
  refine SO.as ?_
  refine SO.as ?_
  refine SO.as ?_
  refine SO.nn ?_
  refine SC.seq ?_
  refine SC.sr ?_
  refine SO.mv ?_
  refine SO.v (.nilCheck rfl rfl) ?_
  refine SO.v (.fieldAddr rfl rfl fa228_0) ?_
  refine SO.v (.load rfl rfl ag208 (cell_of' (hO0.heapO trivial ht) rfl)) ?_
  refine SO.v (.ptrEq (b := true) rfl rfl rfl Tryz.underlying208 rfl) ?_
  refine SO.nn ?_
  refine SC.yes rfl ?_
  refine SC.seq ?_
  refine SC.drawO mixed hO0 (fun hO1 => ?_)
  refine SA.tm 0 rfl hO1 ?_
  refine SA.tk 1 rfl hO1 (fun v hv => .nilCheck rfl rfl) ?_
  refine SA.tk 2 rfl hO1 (fun v hv => .fieldAddr rfl rfl fa228_4) ?_
  refine SA.tk 3 rfl hO1 (fun v hv => .load rfl rfl ag9 (cell_of' (hv.heapO trivial ht) rfl)) ?_
  refine SA.tm 4 rfl hO1 ?_
  refine SA.ta 5 rfl hO1 ?_
  refine SA.ta 6 rfl hO1 ?_
  refine SA.ta 7 rfl hO1 ?_
  refine SA.ta 8 rfl hO1 ?_
  refine SA.done (by kernel_rfl) ?_
  refine SQ.then_normal ?_
  refine SC.ret ?_
  refine SQ.then_ret ?_
  refine SQ.out (.inl rfl) (res4 rfl rfl rfl rfl rfl) ?_
  exact ⟨none, none, none, none, s, k, rfl, rfl, rfl, rfl, by simp [oL, lenL], by omega, fun _ => rfl, fun _ _ => rfl, hO1.toBelow trivial⟩

set_option maxRecDepth 20000 in
set_option maxHeartbeats 400000 in
theorem part_knot (l r : RT) (y : Nat) (a : Int) (w : World) (hG : Good w) (ht : (RT.knot l r).At w y) (h0 : 0 ≤ a) (hb : (RT.knot l r).leaves.length ≤ 1099511627776) (hc : (RT.knot l r).txt.length ≤ 1099511627776) (ha : a ≤ (RT.knot l r).txt.length) (ihl : ∀ (y : Nat) (a : Int) (w : World), Good w → l.At w y → 0 ≤ a → a ≤ l.txt.length → Calls Tryz.prog 196 #[.pointer (some ⟨y, 0, none⟩), .int .i64 a] w (PartRes l a w)) (ihr : ∀ (y : Nat) (a : Int) (w : World), Good w → r.At w y → 0 ≤ a → a ≤ r.txt.length → Calls Tryz.prog 196 #[.pointer (some ⟨y, 0, none⟩), .int .i64 a] w (PartRes r a w)) :
    Calls Tryz.prog 196 #[.pointer (some ⟨y, 0, none⟩), .int .i64 a] w (PartRes (.knot l r) a w) := by
  obtain ⟨xl, xr, ot, hl, hr⟩ := ht
  obtain ⟨p1, q1, s1, o1⟩ := hl.obj
  simp only [RT.leaves, RT.txt, List.length_append] at hb hc ha
  have hlb := l.sm_b (by omega)
  have hLl := l.lenL_leaves
  have hLr := r.lenL_leaves
  have hO0 := Own.start hG
  refine enter Tryz.func196 rfl rfl rfl 0 ?_
  refine SC.sr ?_
  refine SO.as ?_
  refine SO.as ?_
  refine SO.as ?_
  refine SO.as ?_
  refine SO.nn ?_
  refine SC.seq ?_
  refine SC.sr ?_
  refine SO.mv ?_
  refine SO.v (.nilCheck rfl rfl) ?_
  refine SO.v (.fieldAddr rfl rfl fa228_0) ?_
  refine SO.v (.load rfl rfl ag208 (cell_of' (hO0.heapO trivial ot) rfl)) ?_
  refine SO.v (.ptrEq (b := false) rfl rfl rfl Tryz.underlying208 rfl) ?_
  refine SO.nn ?_
  refine SC.no rfl ?_
  refine SC.skip ?_
  refine SQ.then_normal ?_
  refine SC.seq ?_
  refine SC.sr ?_
  refine SO.mv ?_
  refine SO.mv ?_
  refine SO.v (.nilCheck rfl rfl) ?_
  refine SO.v (.fieldAddr rfl rfl fa228_0) ?_
  refine SO.v (.load rfl rfl ag208 (cell_of' (hO0.heapO trivial ot) rfl)) ?_
  refine SO.v (.nilCheck rfl rfl) ?_
  refine SO.v (.fieldAddr rfl rfl fa228_3) ?_
  refine SO.v (.fieldAddr rfl rfl fa91_0) ?_
  refine SO.v (.load rfl rfl ag3 (cell_of' (hO0.heapO trivial o1) rfl)) ?_
  refine SO.v (.lss rfl rfl rfl) ?_
  refine SO.nn ?_
  refine SC.dec rfl (fun c1 => ?_) (fun c1 => ?_)
  ·
   refine SC.sr ?_
   refine SO.mv ?_
   refine SO.v (.nilCheck rfl rfl) ?_
   refine SO.v (.fieldAddr rfl rfl fa228_0) ?_
   refine SO.v (.load rfl rfl ag208 (cell_of' (hO0.heapO trivial ot) rfl)) ?_
   refine SO.mv ?_
   refine SO.call rfl rfl rfl rfl (.callF rfl rfl en196) (ihl _ _ _ (hO0.good hG) (hl.below (hO0.toBelow trivial)) (by omega) (by omega)) ?_
   rintro _ w2 ⟨p, q, u, v, s, k, rfl, hu, hv, hlv, hk, hks, hend, hbeg, hb2⟩
   have hO2 := hO0.below hb2
   refine ⟨_, rfl, ?_⟩
   have hlen2 := congrArg List.length hlv
   simp only [List.length_append, List.length_cons] at hlen2
   refine SO.mv ?_
   refine SO.v (.extract rfl rfl rfl) ?_
   refine SO.v (.extract rfl rfl rfl) ?_
   refine SO.v (.extract rfl rfl rfl) ?_
   refine SO.v (.extract rfl rfl rfl) ?_
   refine SO.as ?_
   refine SO.as ?_
   refine SO.as ?_
   refine SO.as ?_
   refine SO.nn ?_
   refine SC.sr ?_
   refine SO.mv ?_
   refine SO.mv ?_
   refine SO.mv ?_
   refine SO.mv ?_
   refine SO.mv ?_
   refine SO.v (.nilCheck rfl rfl) ?_
   refine SO.v (.fieldAddr rfl rfl fa228_1) ?_
   refine SO.v (.load rfl rfl ag208 (cell_of' (hO2.heapO trivial ot) rfl)) ?_
   refine SO.call rfl rfl rfl rfl (.callF rfl rfl en194) (join_o v (some r) _ _ _ (hO2.good hG) hv ⟨_, rfl, hr.below (hO2.toBelow trivial)⟩ (by rw [oL_some]; omega)) ?_
   rintro _ w3 ⟨p2, t2, rfl, ht2, hl2, _, hb3⟩
   have hO3 := hO2.below hb3
   refine ⟨_, rfl, ?_⟩
   refine SO.as ?_
   refine SO.as ?_
   refine SO.as ?_
   refine SO.as ?_
   refine SO.nn ?_
   refine SC.ret ?_
   refine SQ.then_ret ?_
   refine SQ.out (.inl rfl) (res4 rfl rfl rfl rfl rfl) ?_
   exact ⟨p, p2, u, t2, s, k, rfl, hu.below (by assumption), ht2, by rw [hl2, oL_some]; simp only [RT.leaves]; rw [← hlv]; simp, hk, hks, fun h => by simp only [RT.txt, List.length_append] at h; omega, fun h hp => hbeg h (pos1_left hp), hO3.toBelow trivial⟩
  ·
   refine SC.skip ?_
   refine SQ.then_normal ?_
   refine SC.seq ?_
   refine SC.drawO mixed hO0 (fun hO5 => ?_)
   refine SA.tm 0 rfl hO5 ?_
   refine SA.tk 1 rfl hO5 (fun v hv => .nilCheck rfl rfl) ?_
   refine SA.tk 2 rfl hO5 (fun v hv => .fieldAddr rfl rfl fa228_1) ?_
   refine SA.tk 3 rfl hO5 (fun v hv => .load rfl rfl ag208 (cell_of' (hv.heapO trivial ot) rfl)) ?_
   refine SA.tm 4 rfl hO5 ?_
   refine SA.tm 5 rfl hO5 ?_
   refine SA.tk 6 rfl hO5 (fun v hv => .nilCheck rfl rfl) ?_
   refine SA.tk 7 rfl hO5 (fun v hv => .fieldAddr rfl rfl fa228_0) ?_
   refine SA.tk 8 rfl hO5 (fun v hv => .load rfl rfl ag208 (cell_of' (hv.heapO trivial ot) rfl)) ?_
   refine SA.tk 9 rfl hO5 (fun v hv => .nilCheck rfl rfl) ?_
   refine SA.tk 10 rfl hO5 (fun v hv => .fieldAddr rfl rfl fa228_3) ?_
   refine SA.tk 11 rfl hO5 (fun v hv => .fieldAddr rfl rfl fa91_0) ?_
   refine SA.tk 12 rfl hO5 (fun v hv => .load rfl rfl ag3 (cell_of' (hv.heapO trivial o1) rfl)) ?_
   refine SA.tk 13 rfl hO5 (fun v hv => .sub rfl rfl rfl (by omega)) ?_
   refine SA.one 14 (by kernel_rfl) ?_
   refine SB.call rfl rfl rfl rfl (.callF rfl rfl en196) (ihr _ _ _ (hO5.good hG) (hr.below (hO5.toBelow trivial)) (by omega) (by omega)) ?_
   rintro _ w6 ⟨p, q, u, v, s, k, rfl, hu, hv, hlv, hk, hks, hend, hbeg, hb6⟩
   have hO6 := hO5.below hb6
   refine ⟨_, rfl, hO6, ?_⟩
   have hlen2 := congrArg List.length hlv
   simp only [List.length_append, List.length_cons] at hlen2
   refine SA.tm 15 rfl hO6 ?_
   refine SA.tk 16 rfl hO6 (fun v hv => .extract rfl rfl rfl) ?_
   refine SA.tk 17 rfl hO6 (fun v hv => .extract rfl rfl rfl) ?_
   refine SA.tk 18 rfl hO6 (fun v hv => .extract rfl rfl rfl) ?_
   refine SA.tk 19 rfl hO6 (fun v hv => .extract rfl rfl rfl) ?_
   refine SA.ta 20 rfl hO6 ?_
   refine SA.ta 21 rfl hO6 ?_
   refine SA.ta 22 rfl hO6 ?_
   refine SA.ta 23 rfl hO6 ?_
   refine SA.done (by kernel_rfl) ?_
   refine SQ.then_normal ?_
   refine SC.sr ?_
   refine SO.mv ?_
   refine SO.v (.nilCheck rfl rfl) ?_
   refine SO.v (.fieldAddr rfl rfl fa228_0) ?_
   refine SO.v (.load rfl rfl ag208 (cell_of' (hO6.heapO trivial ot) rfl)) ?_
   refine SO.mv ?_
   refine SO.call rfl rfl rfl rfl (.callF rfl rfl en194) (join_o (some l) u _ _ _ (hO6.good hG) ⟨_, rfl, hl.below (hO6.toBelow trivial)⟩ hu (by rw [oL_some]; omega)) ?_
   rintro _ w7 ⟨p2, t2, rfl, ht2, hl2, _, hb7⟩
   have hO7 := hO6.below hb7
   refine ⟨_, rfl, ?_⟩
   refine SO.mv ?_
   refine SO.mv ?_
   refine SO.mv ?_
   refine SO.as ?_
   refine SO.as ?_
   refine SO.as ?_
   refine SO.as ?_
   refine SO.nn ?_
   refine SC.ret ?_
   refine SQ.out (.inl rfl) (res4 rfl rfl rfl rfl rfl) ?_
   exact ⟨p2, q, t2, v, s, k, rfl, ht2, hv.below (by assumption), by rw [hl2, oL_some]; simp only [RT.leaves]; rw [← hlv]; simp, by rw [hl2, lenL_append, oL_some]; omega, hks, fun h => hend (by simp only [RT.txt, List.length_append] at h; omega), fun h hp => absurd (pos1_size hp) (by omega), hO7.toBelow trivial⟩

theorem part_all : ∀ (t : RT) (y : Nat) (a : Int) (w : World), Good w → t.At w y → 0 ≤ a → a ≤ t.txt.length → t.leaves.length ≤ 1099511627776 → t.txt.length ≤ 1099511627776 →
      Calls Tryz.prog 196 #[.pointer (some ⟨y, 0, none⟩), .int .i64 a] w (PartRes t a w)
  | .leaf s, y, a, w, hG, ht, h0, h1, _, _ => part_leaf s y a w hG ht ⟨h0, h1⟩
  | .knot l r, y, a, w, hG, ht, h0, h1, h2, h3 => by
    have e2 : l.leaves.length + r.leaves.length ≤ 1099511627776 := by simpa [RT.leaves] using h2
    have e3 : l.txt.length + r.txt.length ≤ 1099511627776 := by simpa [RT.txt] using h3
    exact part_knot l r y a w hG ht h0 h2 h3 h1 (fun y' a' w' g1 g2 g3 g4 => part_all l y' a' w' g1 g2 g3 g4 (by omega) (by omega)) (fun y' a' w' g1 g2 g3 g4 => part_all r y' a' w' g1 g2 g3 g4 (by omega) (by omega))

end Go.Proofs.YtclgplkkajfenaaGreatDoor
/- rope.seam, short. -/
namespace Go.Proofs.YtclgplkkajfenaaGreatDoor
open Go Go.RowKit Ow
set_option maxRecDepth 20000 in
set_option maxHeartbeats 400000 in
theorem seam_any (a b : ByteArray) (w : World) (hG : Good w) (hz : a.size + b.size ≤ 4611686018427387904) :
    Calls Tryz.prog 193 #[.string a, .string b] w fun e w' => e = .returned (.bool (decide (cBd (bl (a ++ b)) a.size))) ∧ Below w.heap.size w w' := by
  have hO0 := Own.start hG
  refine enter Tryz.func193 rfl rfl rfl 0 ?_
  refine SC.sr ?_
  refine SO.as ?_
  refine SO.nn ?_
  refine SC.sr ?_
  refine SO.mv ?_
  refine SO.mv ?_
  refine SO.v (.strAdd rfl rfl rfl (by omega)) ?_
  refine SO.mv ?_
  refine SO.v (.lenS rfl rfl Tryz.underlying9) ?_
  refine SO.call rfl rfl rfl rfl (.callF rfl rfl en66) (cboundary_any _ _ _ (hO0.good hG) (by simp only [ByteArray.size_append]; omega)) ?_
  rintro _ w1 ⟨rfl, hb1⟩
  have hO1 := hO0.below hb1
  refine ⟨_, rfl, ?_⟩
  refine SO.as ?_
  refine SO.nn ?_
  refine SC.ret ?_
  refine SQ.out (.inl rfl) (res1 rfl rfl) ?_
  exact ⟨rfl, hO1.toBelow trivial⟩

set_option maxRecDepth 20000 in
set_option maxHeartbeats 400000 in
theorem short_nil  (w : World) (hG : Good w) :
    Calls Tryz.prog 192 #[.pointer none] w fun e w' => e = .returned (.bool false) ∧ Below w.heap.size w w' := by
  have hO0 := Own.start hG
  refine enter Tryz.func192 rfl rfl rfl 0 ?_
  refine SC.sr ?_
  refine SO.as ?_
  refine SO.nn ?_
  refine SC.sr ?_
  refine SO.mv ?_
  refine SO.v (.ptrNe (b := false) rfl rfl rfl Tryz.underlying208 rfl) ?_
  refine SO.mv ?_
  refine SO.ps ?_
  refine SO.ps ?_
  refine SO.ps ?_
  refine SO.ps ?_
  refine SO.ps ?_
  refine SO.v (.pickF rfl rfl rfl) ?_
  refine SO.mv ?_
  refine SO.ps ?_
  refine SO.ps ?_
  refine SO.ps ?_
  refine SO.ps ?_
  refine SO.ps ?_
  refine SO.ps ?_
  refine SO.v (.pickF rfl rfl rfl) ?_
  refine SO.as ?_
  refine SO.nn ?_
  refine SC.ret ?_
  refine SQ.out (.inl rfl) (res1 rfl rfl) ?_
  exact ⟨rfl, hO0.toBelow trivial⟩

set_option maxRecDepth 20000 in
set_option maxHeartbeats 400000 in
theorem short_leaf (s : ByteArray) (y : Nat) (w : World) (hG : Good w) (ht : (RT.leaf s).At w y) :
    Calls Tryz.prog 192 #[.pointer (some ⟨y, 0, none⟩)] w fun e w' => e = .returned (.bool (decide (s.size < 32))) ∧ Below w.heap.size w w' := by
  have hO0 := Own.start hG
  refine enter Tryz.func192 rfl rfl rfl 0 ?_
  refine SC.sr ?_
  refine SO.as ?_
  refine SO.nn ?_
  refine SC.sr ?_
  refine SO.mv ?_
  refine SO.v (.ptrNe (b := true) rfl rfl rfl Tryz.underlying208 rfl) ?_
  refine SO.mv ?_
  refine SO.mv ?_
  refine SO.v (.nilCheck rfl rfl) ?_
  refine SO.v (.fieldAddr rfl rfl fa228_0) ?_
  refine SO.v (.load rfl rfl ag208 (cell_of' (hO0.heapO trivial ht) rfl)) ?_
  refine SO.v (.ptrEq (b := true) rfl rfl rfl Tryz.underlying208 rfl) ?_
  refine SO.v (.pickT rfl rfl rfl) ?_
  refine SO.mv ?_
  refine SO.mv ?_
  refine SO.v (.nilCheck rfl rfl) ?_
  refine SO.v (.fieldAddr rfl rfl fa228_4) ?_
  refine SO.v (.load rfl rfl ag9 (cell_of' (hO0.heapO trivial ht) rfl)) ?_
  refine SO.v (.lenS rfl rfl Tryz.underlying9) ?_
  refine SO.v (.lss rfl rfl rfl) ?_
  refine SO.v (.pickT rfl rfl rfl) ?_
  refine SO.as ?_
  refine SO.nn ?_
  refine SC.ret ?_
  refine SQ.out (.inl rfl) (res1 rfl rfl) ?_
  refine ⟨?_, hO0.toBelow trivial⟩
  congr 2; exact decide_eq_decide.2 (by omega)

set_option maxRecDepth 20000 in
set_option maxHeartbeats 400000 in
theorem short_knot (l r : RT) (y : Nat) (w : World) (hG : Good w) (ht : (RT.knot l r).At w y) :
    Calls Tryz.prog 192 #[.pointer (some ⟨y, 0, none⟩)] w fun e w' => e = .returned (.bool false) ∧ Below w.heap.size w w' := by
  obtain ⟨xl, xr, ot, hl, hr⟩ := ht
  have hO0 := Own.start hG
  refine enter Tryz.func192 rfl rfl rfl 0 ?_
  refine SC.sr ?_
  refine SO.as ?_
  refine SO.nn ?_
  refine SC.sr ?_
  refine SO.mv ?_
  refine SO.v (.ptrNe (b := true) rfl rfl rfl Tryz.underlying208 rfl) ?_
  refine SO.mv ?_
  refine SO.mv ?_
  refine SO.v (.nilCheck rfl rfl) ?_
  refine SO.v (.fieldAddr rfl rfl fa228_0) ?_
  refine SO.v (.load rfl rfl ag208 (cell_of' (hO0.heapO trivial ot) rfl)) ?_
  refine SO.v (.ptrEq (b := false) rfl rfl rfl Tryz.underlying208 rfl) ?_
  refine SO.v (.pickT rfl rfl rfl) ?_
  refine SO.mv ?_
  refine SO.ps ?_
  refine SO.ps ?_
  refine SO.ps ?_
  refine SO.ps ?_
  refine SO.ps ?_
  refine SO.ps ?_
  refine SO.v (.pickF rfl rfl rfl) ?_
  refine SO.as ?_
  refine SO.nn ?_
  refine SC.ret ?_
  refine SQ.out (.inl rfl) (res1 rfl rfl) ?_
  exact ⟨rfl, hO0.toBelow trivial⟩

def shS : Option RT → Bool
  | some (.leaf s) => decide (s.size < 32)
  | _ => false
theorem short_o (l : Option RT) (p : Option Addr) (w : World) (hG : Good w) (hl : OAt w l p) : Calls Tryz.prog 192 #[.pointer p] w fun e w' => e = .returned (.bool (shS l)) ∧ Below w.heap.size w w' := by
  cases l with
  | none => cases hl; exact short_nil w hG
  | some t =>
    obtain ⟨y, rfl, ht⟩ := hl
    cases t with
    | leaf s => exact short_leaf s y w hG ht
    | knot l r => exact short_knot l r y w hG ht
/-- A tree that may stand beside others. -/
def Wf (xs : List ByteArray) : Prop := xs.length = 1 ∨ ∀ x ∈ xs, 32 ≤ x.size
def Big (l : Option RT) : Prop := ∀ x ∈ oL l, 32 ≤ x.size
def txO (l : Option RT) : Bs := ((oL l).map bl).flatten
theorem txO_some (t : RT) : txO (some t) = t.txt := t.txt_leaves.symm
theorem big_of_long {l : Option RT} (h : ∀ t, l = some t → Wf t.leaves) (hs : shS l = false) : Big l := by
  cases l with
  | none => exact fun x hx => by cases hx
  | some t =>
    cases t with
    | leaf s =>
      intro x hx
      simp only [oL, RT.leaves, List.mem_singleton] at hx
      subst hx
      simp only [shS, decide_eq_false_iff_not] at hs
      omega
    | knot l r =>
      rcases h _ rfl with h' | h'
      · have h1 := l.leaves_pos; have h2 := r.leaves_pos
        simp only [RT.leaves, List.length_append] at h'; omega
      · exact h'
theorem short_is {l : Option RT} (h : shS l = true) : ∃ s, l = some (.leaf s) ∧ s.size < 32 := by
  cases l with
  | none => cases h
  | some t =>
    cases t with
    | leaf s => exact ⟨s, rfl, of_decide_eq_true h⟩
    | knot l r => cases h
theorem Big.len {l : Option RT} (h : Big l) : 32 * (oL l).length ≤ (txO l).length := by
  have key : ∀ xs : List ByteArray, (∀ x ∈ xs, 32 ≤ x.size) → 32 * xs.length ≤ lenL xs := by
    intro xs
    induction xs with
    | nil => intro _; simp
    | cons x xs ih =>
      intro h
      have h1 := h x (by simp)
      have h2 := ih fun y hy => h y (List.mem_cons_of_mem _ hy)
      rw [lenL_cons, List.length_cons]; omega
  exact key _ h

end Go.Proofs.YtclgplkkajfenaaGreatDoor
/- rope.New. -/
namespace Go.Proofs.YtclgplkkajfenaaGreatDoor
open Go Go.RowKit Ow
theorem row_slice {w : World} {base : Nat} {v : Value} {xs : List ByteArray} (h : w.ownsRow base 9 1 v xs.length (strsV xs)) (hne : xs ≠ []) :
    ∃ g cap, v = .slice (some ⟨g, 0, none⟩) xs.length cap ∧ xs.length ≤ cap ∧ cap ≤ 9223372036854775807 ∧ ∀ i x, xs[i]? = some x → w.cell? ⟨g, 0 + i, none⟩ = some (.string x) := by
  rcases h.2 with ⟨_, h0⟩ | ⟨g, cap, cur, h1, _, hg, h2, h3, _, h4⟩
  · exact absurd (List.eq_nil_of_length_eq_zero h0) hne
  · refine ⟨g, cap, h1, h2, by simp only [maxLen] at h3; omega, fun i x hx => ?_⟩
    refine cell_of (T := 9) (c := cur) (fz := (0, 0)) hg |>.trans ?_
    have hi := (List.getElem?_eq_some_iff.1 hx).1
    have h5 : (cur.toList.take (xs.length * 1))[i]? = some (Value.string x) := by rw [h4]; simp [strsV, hx]
    rw [List.getElem?_take_of_lt (by omega)] at h5
    simpa using h5
theorem big_sub {l _u : Option RT} {a b : List ByteArray} (h : Big l) (e : a ++ b = oL l) : ∀ x, x ∈ a ∨ x ∈ b → 32 ≤ x.size := fun x hx => h x (by rw [← e]; exact List.mem_append.2 hx)
theorem wf_put {a xs b : List ByteArray} {n : Nat} (ha : ∀ x ∈ a, 32 ≤ x.size) (hb : ∀ x ∈ b, 32 ≤ x.size) (hx : xs.length = 1 ∨ ∀ x ∈ xs, 32 ≤ x.size) (hn : (xs.map bl).flatten.length = n) (h : (a = [] ∧ b = []) ∨ 32 ≤ n) : Wf (a ++ xs ++ b) := by
  have all : (∀ x ∈ xs, 32 ≤ x.size) → Wf (a ++ xs ++ b) := fun h' => .inr fun x hx => by
    rcases List.mem_append.1 hx with hx | hx
    · rcases List.mem_append.1 hx with hx | hx
      · exact ha x hx
      · exact h' x hx
    · exact hb x hx
  rcases hx with h1 | h1
  · obtain ⟨x, rfl⟩ := List.length_eq_one_iff.1 h1
    rcases h with ⟨rfl, rfl⟩ | h
    · exact .inl rfl
    · refine all fun y hy => ?_
      simp only [List.mem_singleton] at hy
      subst hy
      have : y.size = n := by rw [← hn]; simp
      omega
  · exact all h1
theorem cut_txt {l u v : Option RT} {s : ByteArray} (h : oL u ++ s :: oL v = oL l) : txO l = txO u ++ bl s ++ txO v := by
  simp only [txO, ← h, List.map_append, List.map_cons, List.flatten_append, List.flatten_cons, List.append_assoc]
theorem txO_nil {l : Option RT} (h : oL l = []) : txO l = [] := by simp [txO, h]
theorem str_nil : bl ⟨#[]⟩ = [] := rfl

theorem mem_lenL {xs : List ByteArray} {x : ByteArray} (h : x ∈ xs) : x.size ≤ lenL xs := by
  induction xs with
  | nil => cases h
  | cons y ys ih =>
    rw [lenL_cons]
    rcases List.mem_cons.1 h with rfl | h
    · omega
    · have := ih h; omega

set_option maxRecDepth 20000 in
set_option maxHeartbeats 400000 in
theorem put_new (m : ByteArray) (w : World) (hG : Good w) (hz : m.size ≤ 34359738368) :
    Calls Tryz.prog 168 #[.pointer none, .string m, .pointer none] w fun e w' => ∃ (b : Nat) (t : RT), e = .returned (.pointer (some ⟨b, 0, none⟩)) ∧ t.At w' b ∧ t.txt = bl m ∧ Wf t.leaves ∧ Below w.heap.size w w' := by
  have hO0 := Own.start hG
  refine enter Tryz.func168 rfl rfl rfl 0 ?_
  refine SC.sr ?_
  refine SO.as ?_
  refine SO.nn ?_
  refine SC.seq ?_
  refine SC.sr ?_
  refine SO.mv ?_
  refine SO.call rfl rfl rfl rfl (.callF rfl rfl en192) (short_nil _ (hO0.good hG)) ?_
  rintro _ w1 ⟨rfl, hb1⟩
  have hO1 := hO0.below hb1
  refine ⟨_, rfl, ?_⟩
  refine SO.nn ?_
  refine SC.no rfl ?_
  refine SC.skip ?_
  refine SQ.then_normal ?_
  refine SC.seq ?_
  refine SC.sr ?_
  refine SO.mv ?_
  refine SO.call rfl rfl rfl rfl (.callF rfl rfl en192) (short_nil _ (hO1.good hG)) ?_
  rintro _ w2 ⟨rfl, hb2⟩
  have hO2 := hO1.below hb2
  refine ⟨_, rfl, ?_⟩
  refine SO.nn ?_
  refine SC.no rfl ?_
  refine SC.skip ?_
  refine SQ.then_normal ?_
  refine SC.seq ?_
  refine SC.seq ?_
  refine SC.drawO mixed hO2 (fun hO3 => ?_)
  refine SA.tm 0 rfl hO3 ?_
  refine SA.tk 1 rfl hO3 (fun v hv => .strEq rfl rfl rfl) ?_
  refine SA.tm 2 rfl hO3 ?_
  refine SA.dec 34 rfl (fun g4 => ?_) (fun g4 => ?_)
  ·
   have hm0 : m = ⟨#[]⟩ := g4
   refine SA.tm 3 rfl hO3 ?_
   refine SA.tk 4 rfl hO3 (fun v hv => .ptrEq (b := true) rfl rfl rfl Tryz.underlying208 rfl) ?_
   refine SA.tm 5 rfl hO3 ?_
   refine SA.pq 6 rfl hO3 ?_
   refine SA.pq 7 rfl hO3 ?_
   refine SA.tk 8 rfl hO3 (fun v hv => .pickT rfl rfl rfl) ?_
   refine SA.tm 9 rfl hO3 ?_
   refine SA.pq 10 rfl hO3 ?_
   refine SA.pq 11 rfl hO3 ?_
   refine SA.pq 12 rfl hO3 ?_
   refine SA.pq 13 rfl hO3 ?_
   refine SA.pq 14 rfl hO3 ?_
   refine SA.pq 15 rfl hO3 ?_
   refine SA.pq 16 rfl hO3 ?_
   refine SA.pq 17 rfl hO3 ?_
   refine SA.pq 18 rfl hO3 ?_
   refine SA.pq 19 rfl hO3 ?_
   refine SA.one 20 (by kernel_rfl) ?_
   refine SB.pass rfl rfl rfl rfl hO3 ?_
   refine SA.tk 21 rfl hO3 (fun v hv => .pickT rfl rfl rfl) ?_
   refine SA.tk 22 rfl hO3 (fun v hv => .pickT rfl rfl rfl) ?_
   refine SA.done (by kernel_rfl) ?_
   refine SQ.then_normal ?_
   refine SC.yes rfl ?_
   refine SC.seq ?_
   refine SC.sr ?_
   refine SO.mv ?_
   refine SO.mv ?_
   refine SO.call rfl rfl rfl rfl (.callF rfl rfl en194) (join_nl none _ (hO3.good hG)) ?_
   rintro _ w5 ⟨rfl, hb5⟩
   have hO5 := hO3.below hb5
   refine ⟨_, rfl, ?_⟩
   refine SO.as ?_
   refine SO.nn ?_
   refine SC.sr ?_
   refine SO.mv ?_
   refine SO.v (.ptrNe (b := false) rfl rfl rfl Tryz.underlying208 rfl) ?_
   refine SO.nn ?_
   refine SC.no rfl ?_
   refine SC.skip ?_
   refine SQ.then_normal ?_
   refine SC.sr ?_
   refine SO.call rfl rfl rfl rfl (.callF rfl rfl en195) (leaf_any _ _ (hO5.good hG) (by decide)) ?_
   rintro _ w6 ⟨bf, rfl, hbf, hnf, hb6⟩
   have hO6 := hO5.below hb6
   refine ⟨_, rfl, ?_⟩
   refine SO.as ?_
   refine SO.nn ?_
   refine SC.ret ?_
   refine SQ.then_ret ?_
   refine SQ.out (.inl rfl) (res1 rfl rfl) ?_
   exact ⟨_, _, rfl, hnf, by rw [hm0]; rfl, .inl rfl, hO6.toBelow trivial⟩
  ·
   refine SA.pq 3 rfl hO3 ?_
   refine SA.pq 4 rfl hO3 ?_
   refine SA.pq 5 rfl hO3 ?_
   refine SA.pq 6 rfl hO3 ?_
   refine SA.pq 7 rfl hO3 ?_
   refine SA.pq 8 rfl hO3 ?_
   refine SA.pq 9 rfl hO3 ?_
   refine SA.pq 10 rfl hO3 ?_
   refine SA.pq 11 rfl hO3 ?_
   refine SA.pq 12 rfl hO3 ?_
   refine SA.pq 13 rfl hO3 ?_
   refine SA.pq 14 rfl hO3 ?_
   refine SA.pq 15 rfl hO3 ?_
   refine SA.pq 16 rfl hO3 ?_
   refine SA.pq 17 rfl hO3 ?_
   refine SA.pq 18 rfl hO3 ?_
   refine SA.pq 19 rfl hO3 ?_
   refine SA.one 20 (by kernel_rfl) ?_
   refine SB.pass rfl rfl rfl rfl hO3 ?_
   refine SA.pq 21 rfl hO3 ?_
   refine SA.tk 22 rfl hO3 (fun v hv => .pickF rfl rfl rfl) ?_
   refine SA.done (by kernel_rfl) ?_
   refine SQ.then_normal ?_
   refine SC.no rfl ?_
   refine SC.skip ?_
   refine SQ.then_normal ?_
   refine SC.block ?_
   refine SC.loop (α := Unit) (fun _x => [(0, .pointer none), (1, .string m), (2, .pointer none)]) (fun _x v => Ow.Own w [] v) (fun _x => 0) () ?_ ?_ ?_
   · exact ⟨rfl, rfl, rfl, trivial⟩
   · exact hO3
   rintro _ w8 hO8
   refine SC.block ?_
   refine SC.block ?_
   refine SC.seq ?_
   refine SC.drawO mixed hO8 (fun hO9 => ?_)
   refine SA.tm 0 rfl hO9 ?_
   refine SA.tk 1 rfl hO9 (fun v hv => .ptrNe (b := false) rfl rfl rfl Tryz.underlying208 rfl) ?_
   refine SA.tm 2 rfl hO9 ?_
   refine SA.pq 3 rfl hO9 ?_
   refine SA.pq 4 rfl hO9 ?_
   refine SA.pq 5 rfl hO9 ?_
   refine SA.pq 6 rfl hO9 ?_
   refine SA.pq 7 rfl hO9 ?_
   refine SA.pq 8 rfl hO9 ?_
   refine SA.pq 9 rfl hO9 ?_
   refine SA.pq 10 rfl hO9 ?_
   refine SA.pq 11 rfl hO9 ?_
   refine SA.pq 12 rfl hO9 ?_
   refine SA.pq 13 rfl hO9 ?_
   refine SA.pq 14 rfl hO9 ?_
   refine SA.pq 15 rfl hO9 ?_
   refine SA.pq 16 rfl hO9 ?_
   refine SA.one 17 (by kernel_rfl) ?_
   refine SB.pass rfl rfl rfl rfl hO9 ?_
   refine SA.pq 18 rfl hO9 ?_
   refine SA.pq 19 rfl hO9 ?_
   refine SA.tk 20 rfl hO9 (fun v hv => .pickF rfl rfl rfl) ?_
   refine SA.ta 21 rfl hO9 ?_
   refine SA.done (by kernel_rfl) ?_
   refine SQ.then_normal ?_
   refine SC.no rfl ?_
   refine SC.seq ?_
   refine SC.drawO mixed hO9 (fun hO10 => ?_)
   refine SA.tm 0 rfl hO10 ?_
   refine SA.tk 1 rfl hO10 (fun v hv => .ptrNe (b := false) rfl rfl rfl Tryz.underlying208 rfl) ?_
   refine SA.tm 2 rfl hO10 ?_
   refine SA.pq 3 rfl hO10 ?_
   refine SA.pq 4 rfl hO10 ?_
   refine SA.pq 5 rfl hO10 ?_
   refine SA.pq 6 rfl hO10 ?_
   refine SA.pq 7 rfl hO10 ?_
   refine SA.pq 8 rfl hO10 ?_
   refine SA.pq 9 rfl hO10 ?_
   refine SA.pq 10 rfl hO10 ?_
   refine SA.pq 11 rfl hO10 ?_
   refine SA.pq 12 rfl hO10 ?_
   refine SA.pq 13 rfl hO10 ?_
   refine SA.pq 14 rfl hO10 ?_
   refine SA.pq 15 rfl hO10 ?_
   refine SA.pq 16 rfl hO10 ?_
   refine SA.pq 17 rfl hO10 ?_
   refine SA.one 18 (by kernel_rfl) ?_
   refine SB.pass rfl rfl rfl rfl hO10 ?_
   refine SA.pq 19 rfl hO10 ?_
   refine SA.pq 20 rfl hO10 ?_
   refine SA.tk 21 rfl hO10 (fun v hv => .pickF rfl rfl rfl) ?_
   refine SA.ta 22 rfl hO10 ?_
   refine SA.done (by kernel_rfl) ?_
   refine SQ.then_normal ?_
   refine SC.no rfl ?_
   refine SC.sr ?_
   refine SO.mv ?_
   refine SO.mv ?_
   refine SO.call rfl rfl rfl rfl (.callF rfl rfl en198) (cutUp_any m _ (hO10.good hG) hz) ?_
   rintro _ w11 ⟨v, xs, rfl, hrow, hfl, hne, h32, hxl, hb11⟩
   have hO11 := hO10.below hb11
   refine ⟨_, rfl, ?_⟩
   obtain ⟨g, cap, rfl, hcap1, hcap2, hcell⟩ := row_slice hrow hne
   refine SO.call rfl rfl rfl rfl (.callF rfl rfl en197) (grown_all _ xs g 0 cap _ (Nat.le_refl _) (hO11.good hG) (List.length_pos_iff.2 hne) hcap1 hcap2 (by omega) (fun x hx => by have := mem_lenL hx; rw [lenL, hfl, bl_length] at this; omega) hcell) ?_
   rintro _ w12 ⟨bg, tg, rfl, htg, hlg, hb12⟩
   have hO12 := hO11.below hb12
   refine ⟨_, rfl, ?_⟩
   refine SO.call rfl rfl rfl rfl (.callF rfl rfl en194) (join_nl _ _ (hO12.good hG)) ?_
   rintro _ w13 ⟨rfl, hb13⟩
   have hO13 := hO12.below hb13
   refine ⟨_, rfl, ?_⟩
   refine SO.mv ?_
   refine SO.call rfl rfl rfl rfl (.callF rfl rfl en194) (join_nr bg _ (hO13.good hG)) ?_
   rintro _ w14 ⟨rfl, hb14⟩
   have hO14 := hO13.below hb14
   refine ⟨_, rfl, ?_⟩
   refine SO.as ?_
   refine SO.nn ?_
   refine SC.ret ?_
   refine SQ.block_ret ?_
   refine SQ.block_ret ?_
   refine SQ.then_ret ?_
   refine SQ.block_ret ?_
   refine SQ.out (.inl rfl) (res1 rfl rfl) ?_
   exact ⟨_, tg, rfl, (htg.below (by assumption)).below (by assumption), by rw [tg.txt_leaves, hlg, hfl], by rw [hlg]; exact h32, hO14.toBelow trivial⟩

theorem bd211_0_Ropn (x0 : Option Addr) : ∀ w, (Instr.build 211 [(0, .pointer x0)].toArray).run Tryz.prog w = .ok (.agg [.pointer x0].toArray) w := fun _ => by kernel_rfl
set_option maxRecDepth 20000 in
set_option maxHeartbeats 400000 in
/-- A rope, and its text. -/
def RopeAt (w : World) (b : Nat) (s : ByteArray) : Prop := ∃ (y : Nat) (t : RT), w.heap[b]? = some (.cells [.pointer (some ⟨y, 0, none⟩)].toArray 211 (0, 0)) ∧ t.At w y ∧ t.txt = bl s ∧ Wf t.leaves
theorem RopeAt.below {w w' : World} {b : Nat} {s : ByteArray} (h : RopeAt w b s) (hb : Below w.heap.size w w') : RopeAt w' b s := by
  obtain ⟨y, t, h1, h2, h3⟩ := h
  exact ⟨y, t, (hb.block b (lt_of_heap h1)).trans h1, h2.below hb, h3⟩
theorem rope_new (m : ByteArray) (w : World) (hG : Good w) (hz : m.size ≤ 34359738368) :
    Calls Tryz.prog 146 #[.string m] w fun e w' => ∃ b : Nat, e = .returned (.pointer (some ⟨b, 0, none⟩)) ∧ w.heap.size ≤ b ∧ RopeAt w' b m ∧ Below w.heap.size w w' := by
  have hO0 := Own.start hG
  refine enter Tryz.func146 rfl rfl rfl 0 ?_
  refine SC.sr ?_
  refine SO.as ?_
  refine SO.nn ?_
  refine SC.sr ?_
  refine SO.mv ?_
  refine SO.call rfl rfl rfl rfl (.callF rfl rfl en168) (put_new _ _ (hO0.good hG) hz) ?_
  rintro _ w1 ⟨bp, tp, rfl, htp, htx, hwf, hb1⟩
  have hOb := hO0.below hb1
  have hGb := hOb.good hG
  have hBb := hOb.toBelow trivial
  have hO1 := Own.start hGb
  refine ⟨_, rfl, ?_⟩
  refine SO.v (.build rfl rfl (bd211_0_Ropn _)) ?_
  refine SO.box hO1 rfl rfl rfl rfl rfl [_] rfl ?_
  intro b2 w2 hb2 hO2
  refine SO.as ?_
  refine SO.nn ?_
  refine SC.ret ?_
  refine SQ.out (.inl rfl) (res1 rfl rfl) ?_
  have hE := hO2.toBelow ⟨hb2, trivial⟩
  exact ⟨_, rfl, Nat.le_trans hBb.size (by assumption), ⟨bp, tp, hO2.at (i := 0) rfl, htp.below hE, htx, hwf⟩, hBb.trans (hE.mono hBb.size)⟩

end Go.Proofs.YtclgplkkajfenaaGreatDoor
/- strings.Builder.WriteString. -/
   namespace Go.Proofs.YtclgplkkajfenaaGreatDoor
open Go Go.RowKit Ow
theorem Ow.Res.conv {P : Program} {e : Env} {w : World} {o : Oper} {S T : TypeId} {x : Operand} {v u : Value} (ho : o.op = .convert S T x) (hx : ev e x = some v) (hr : (convert S T v).run P w = .ok u w) : Ow.Res P e o w (.ok (.value u) w) := fun a h => by
  unfold execOp; rw [ho]; simp only [ev_eval h hx, Sem.run_bind, hr, Result.andThen, Sem.run_pure]
theorem Ow.Res.extF {P : Program} {e : Env} {w : World} {o : Oper} {f : FuncId} {l : List Operand} {vs : List Value} {v : Value} {ats : Array TypeId} (ho : o.op = .call { callee := .value (.func f), args := l.toArray, argTypes := ats }) (hl : evL e l = some vs)
    (he : ∀ w, (callFunc f vs.toArray).run P w = .ok (.value v) w) : Ow.Res P e o w (.ok (.value v) w) := fun a h => by
  unfold execOp; rw [ho]
  simp only [resolve, List.map_toArray, evL_map h hl, Act.eval, Deferred.ofValue, invoke, Sem.run_bind, Sem.run_pure, Result.andThen]
  simpa using he _
theorem Ow.Res.ptrSame {P : Program} {e : Env} {w : World} {o : Oper} {T t yT : TypeId} {x y : Operand} {a : Addr} {j : TypeInfo} (ho : o.op = .binOp .neq T x y yT) (hx : ev e x = some (.pointer (some a))) (hy : ev e y = some (.pointer (some a))) (hT : P.underlying T = some (.pointer t)) (hj : P.info? t = some j) :
    Ow.Res P e o w (.ok (.value (.bool false)) w) :=
  .bin ho hx hy guard_ptr (Lib.run_neq_ptr_same w _ hT hj)
noncomputable def inf274 : TypeInfo := (Tryz.prog.info? 274).getD default
theorem inf274_ok : Tryz.prog.info? 274 = some inf274 := by kernel_rfl
theorem inf274_s : (inf274.size == 0) = false := by kernel_rfl
theorem lies274 : liesAt Tryz.prog Tryz.prog.depth 274 (2 / Tryz.prog.cellsOf 274) 0 274 1 = true := by kernel_rfl
theorem noesc (v : Value) : ∀ w, (callFunc 277 #[v]).run Tryz.prog w = .ok (.value v) w := fun w => by
  rw [run_callFunc_extern Tryz.func277 (by kernel_rfl) (by kernel_rfl) (by kernel_rfl) (e := Extern.AbiNoEscape.same) (by kernel_rfl), Lib.run_noEscape]
  rfl
theorem shape_of {w : World} {b : Nat} {p v : Value} (h : w.heap[b]? = some (.cells [p, v].toArray 274 (0, 0))) : w.shape? b = some (274, 2) := by simp [World.shape?, h]
def selfP (b : Nat) : Value := .pointer (some ⟨b, 0, none⟩)
theorem Ow.Own.belowB {w w' : World} {b B : Nat} {o : Obj} (h : Ow.Own w [(b, o)] w') (hB : B ≤ b) (hBw : B ≤ w.heap.size) : Below B w w' :=
  ⟨h.os, h.tape, h.output, h.size, fun k hk => h.old k (by omega) fun p hp => by simp only [List.mem_singleton] at hp; subst hp; simp only; omega⟩
theorem Ow.Own.growsB {w w' : World} {b : Nat} {o : Obj} (h : Ow.Own w [(b, o)] w') : w.grownBy w' (some b) :=
  ⟨h.os, h.tape, h.output, h.size, fun k hk hne => h.old k hk fun p hp => by simp only [List.mem_singleton] at hp; subst hp; exact fun e => hne (congrArg some (show k = b from e.symm))⟩
theorem slice_of {w : World} {base e size n : Nat} {v : Value} {xs : List Value} (h : w.ownsRow base e size v n xs) : ∃ ao cap, v = .slice ao n cap := by
  rcases h.2 with ⟨rfl, rfl⟩ | ⟨g, cap, cur, rfl, _⟩
  · exact ⟨_, _, rfl⟩
  · exact ⟨_, _, rfl⟩
theorem append_str {w : World} {base : Nat} {v : Value} {l : Bs} {s : ByteArray} (hown : w.ownsRow base 5 1 v l.length (Lib.byteCells l)) (hl : l.length + s.size ≤ 140737488355328) (hB : base ≤ w.heap.size) (ty : TypeId) :
    ∃ v' w', (Builtin.append_ #[116, 9] ty #[v, .string s]).run Tryz.prog w = .ok v' w' ∧ w'.ownsRow base 5 1 v' (l ++ bl s).length (Lib.byteCells (l ++ bl s)) ∧ w.grownBy w' v.ownBlock := by
  obtain ⟨v', w', h1, h2, h3, _⟩ := Lib.run_append_own_string (P := Tryz.prog) w base 116 9 ty 5 inf5 Tryz.underlying116 Tryz.underlying9 inf5_ok inf5_z inf5_s inf5_b v l.length (Lib.byteCells l) hown s (by simp only [maxLen]; omega) hl hB
  refine ⟨v', w', h1, ?_, h3⟩
  rw [List.length_append, bl_length, byteCells_append]
  exact h2

set_option maxRecDepth 20000 in
set_option maxHeartbeats 400000 in
theorem cc_fresh (b : Nat) (v : Value) (w : World) (hG : Good w) (h2b : 2 ≤ b) (hb : w.heap[b]? = some (.cells [.pointer none, v].toArray 274 (0, 0))) :
    Calls Tryz.prog 276 #[.pointer (some ⟨b, 0, none⟩)] w fun e w' => e = .returned (.tuple #[]) ∧ Ow.Own w [(b, .cells [.pointer (some ⟨b, 0, none⟩), v].toArray 274 (0, 0))] w' := by
  have hO0 := (Own.start hG).know hb (by simp) h2b
  refine enter Tryz.func276 rfl rfl rfl 0 ?_
  refine SC.sr ?_
  refine SO.mv ?_
  refine SO.v (.nilCheck rfl rfl) ?_
  refine SO.v (.fieldAddr rfl rfl fa274_0) ?_
  refine SO.v (.load rfl rfl ag272 (cell_of' (hO0.at (i := 0) rfl) rfl)) ?_
  refine SO.v (.ptrEq (b := true) rfl rfl rfl Tryz.underlying272 rfl) ?_
  refine SO.nn ?_
  refine SC.yes rfl ?_
  refine SC.region ?_
  refine SO.mv ?_
  refine SO.mv ?_
  refine SO.v (.conv rfl rfl (Lib.run_to_unsafe _ ⟨b, 0, none⟩ Tryz.underlying272 Tryz.underlying280 inf274_ok (by have := inf274_s; simpa using this) (shape_of (hO0.at (i := 0) rfl)) (Nat.zero_lt_succ 1))) ?_
  refine SO.v (.extF rfl rfl (noesc _)) ?_
  refine SO.v (.conv rfl rfl (Lib.run_from_unsafe _ ⟨b, 0, none⟩ Tryz.underlying280 Tryz.underlying272 inf274_ok (shape_of (hO0.at (i := 0) rfl)) lies274)) ?_
  refine SO.v (.nilCheck rfl rfl) ?_
  refine SO.v (.fieldAddr rfl rfl fa274_0) ?_
  refine SO.store hO0 (i := 0) rfl rfl rfl rfl rfl rfl sz272 rfl rfl [(_, .cells [_, _].toArray _ _)] rfl ?_
  intro w1 hO1
  refine SO.nil ?_
  refine SQ.out (.inr rfl) (res0 rfl) ?_
  exact ⟨rfl, hO1⟩

set_option maxRecDepth 20000 in
set_option maxHeartbeats 400000 in
theorem cc_used (b : Nat) (v : Value) (w : World) (hG : Good w) (h2b : 2 ≤ b) (hb : w.heap[b]? = some (.cells [.pointer (some ⟨b, 0, none⟩), v].toArray 274 (0, 0))) :
    Calls Tryz.prog 276 #[.pointer (some ⟨b, 0, none⟩)] w fun e w' => e = .returned (.tuple #[]) ∧ Ow.Own w [(b, .cells [.pointer (some ⟨b, 0, none⟩), v].toArray 274 (0, 0))] w' := by
  have hO0 := (Own.start hG).know hb (by simp) h2b
  refine enter Tryz.func276 rfl rfl rfl 0 ?_
  refine SC.sr ?_
  refine SO.mv ?_
  refine SO.v (.nilCheck rfl rfl) ?_
  refine SO.v (.fieldAddr rfl rfl fa274_0) ?_
  refine SO.v (.load rfl rfl ag272 (cell_of' (hO0.at (i := 0) rfl) rfl)) ?_
  refine SO.v (.ptrEq (b := false) rfl rfl rfl Tryz.underlying272 rfl) ?_
  refine SO.nn ?_
  refine SC.no rfl ?_
  refine SC.sr ?_
  refine SO.mv ?_
  refine SO.v (.nilCheck rfl rfl) ?_
  refine SO.v (.fieldAddr rfl rfl fa274_0) ?_
  refine SO.v (.load rfl rfl ag272 (cell_of' (hO0.at (i := 0) rfl) rfl)) ?_
  refine SO.mv ?_
  refine SO.v (.ptrSame rfl rfl rfl Tryz.underlying272 inf274_ok) ?_
  refine SO.nn ?_
  refine SC.no rfl ?_
  refine SC.skip ?_
  refine SQ.out (.inr rfl) (res0 rfl) ?_
  exact ⟨rfl, hO0⟩

theorem cc_any (b : Nat) (p v : Value) (w : World) (hG : Good w) (h2b : 2 ≤ b) (hp : p = .pointer none ∨ p = .pointer (some ⟨b, 0, none⟩)) (hb : w.heap[b]? = some (.cells [p, v].toArray 274 (0, 0))) :
    Calls Tryz.prog 276 #[.pointer (some ⟨b, 0, none⟩)] w fun e w' => e = .returned (.tuple #[]) ∧ Ow.Own w [(b, .cells [.pointer (some ⟨b, 0, none⟩), v].toArray 274 (0, 0))] w' := by
  rcases hp with rfl | rfl
  · exact cc_fresh b v w hG h2b hb
  · exact cc_used b v w hG h2b hb
theorem isB_open {B b : Nat} {bs : List Value} {w : World} (h : Lib.IsBuilder 274 5 B b bs w) : ∃ p v, (p = .pointer none ∨ p = .pointer (some ⟨b, 0, none⟩)) ∧ B ≤ b ∧ w.heap[b]? = some (.cells [p, v].toArray 274 (0, 0)) ∧ w.ownsRow B 5 1 v bs.length bs ∧ v.ownBlock ≠ some b := by
  rcases h with ⟨h1, v, h2, h3, h4⟩ | ⟨h1, v, h2, h3, h4⟩
  · exact ⟨_, v, .inl rfl, h1, h2, h3, h4⟩
  · exact ⟨_, v, .inr rfl, h1, h2, h3, h4⟩

set_option maxRecDepth 20000 in
set_option maxHeartbeats 400000 in
theorem writeString_any (B b : Nat) (l : Bs) (s : ByteArray) (w : World) (hG : Good w) (hB2 : 2 ≤ B) (hBw : B ≤ w.heap.size) (hb : Lib.IsBuilder 274 5 B b (Lib.byteCells l) w) (hl : l.length + s.size ≤ 140737488355328) :
    Calls Tryz.prog 275 #[.pointer (some ⟨b, 0, none⟩), .string s] w fun e w' => e = .returned (.tuple #[.int .i64 (s.size : Int), .nilIface]) ∧ Lib.IsBuilder 274 5 B b (Lib.byteCells (l ++ bl s)) w' ∧ Below B w w' := by
  obtain ⟨p, v, hp, hBb, hbk, hrow, hne⟩ := isB_open hb
  rw [Lib.byteCells_length] at hrow
  have hO0 := (Own.start hG).know hbk (by simp) (Nat.le_trans hB2 hBb)
  refine enter Tryz.func275 rfl rfl rfl 0 ?_
  refine SC.sr ?_
  refine SO.as ?_
  refine SO.as ?_
  refine SO.nn ?_
  refine SC.sr ?_
  refine SO.mv ?_
  refine SO.call rfl rfl rfl rfl (.callF rfl rfl en276) (cc_any b p v _ (hO0.good hG) (Nat.le_trans hB2 hBb) hp (hO0.at (i := 0) rfl)) ?_
  rintro _ w1 ⟨rfl, hcc⟩
  have hO1 := hO0.comp hcc rfl
  have hrow1 := hrow.kept hO1.growsB (.inr hne)
  have hbl1 := hO1.belowB hBb hBw
  refine ⟨_, rfl, ?_⟩
  refine SO.nn ?_
  refine SC.sr ?_
  refine SO.mv ?_
  refine SO.mv ?_
  refine SO.v (.nilCheck rfl rfl) ?_
  refine SO.v (.fieldAddr rfl rfl fa274_1) ?_
  refine SO.v (.load rfl rfl ag116 (cell_of' (hO1.at (i := 0) rfl) rfl)) ?_
  refine SO.mv ?_
  obtain ⟨v2, wA, happ, hrow2, hgA⟩ := append_str (s := s) hrow1 hl (Nat.le_trans hBw hO1.size) 116
  obtain ⟨ao2, cap2, rfl⟩ := slice_of hrow2
  have hbA : wA.heap[b]? = some (.cells [.pointer (some ⟨b, 0, none⟩), v].toArray 274 (0, 0)) := (hgA.block b (lt_of_heap (hO1.at (i := 0) rfl)) (fun e => hne e.symm)).trans (hO1.at (i := 0) rfl)
  have hblA := hbl1.trans (grows_below hgA (fun k hk => (hrow1.lt k hk).1) (Nat.le_trans hBw hO1.size))
  have hGA : Good wA := hG.mono hblA hB2
  have hOA := (Own.start hGA).know hbA (by simp) (Nat.le_trans hB2 hBb)
  have hne2 := Lib.ownBlock_ne hrow2 hbA (by decide)
  refine SO.v (.builtin2 (v := .slice ao2 (l ++ bl s).length cap2) (w' := wA) rfl rfl rfl (fun cs => by simp [builtin, happ, Result.andThen])) ?_
  refine SO.v (.nilCheck rfl rfl) ?_
  refine SO.v (.fieldAddr rfl rfl fa274_1) ?_
  refine SO.store hOA (i := 0) rfl rfl rfl rfl rfl rfl sz116 rfl rfl [(_, .cells [_, _].toArray _ _)] rfl ?_
  intro w2 hO2
  refine SO.nn ?_
  refine SC.sr ?_
  refine SO.mv ?_
  refine SO.v (.lenS rfl rfl Tryz.underlying9) ?_
  refine SO.as ?_
  refine SO.as ?_
  refine SO.nn ?_
  refine SC.ret ?_
  refine SQ.out (.inl rfl) (res2 rfl rfl rfl) ?_
  have hblE := hblA.trans (hO2.belowB hBb (Nat.le_trans hBw hblA.size))
  exact ⟨rfl, .inr ⟨hBb, _, hO2.at (i := 0) rfl, by rw [Lib.byteCells_length]; exact hrow2.kept hO2.growsB (.inr hne2), hne2⟩, hblE⟩

end Go.Proofs.YtclgplkkajfenaaGreatDoor
/- rope: what asks. -/
namespace Go.Proofs.YtclgplkkajfenaaGreatDoor
open Go Go.RowKit Ow
/-- A piece of a text, its ends clamped. -/
def pc (l : Bs) (a c : Int) : Bs := (l.take (min c (l.length : Int)).toNat).drop (max a 0).toNat
theorem pc_nil {l : Bs} {a c : Int} (h : max a 0 ≥ min c (l.length : Int)) : pc l a c = [] := by
  unfold pc; exact List.drop_of_length_le (by simp; omega)
theorem pc_clamp (l : Bs) (a c : Int) : pc l (max a 0) (min c (l.length : Int)) = pc l a c := by
  unfold pc; congr 2 <;> omega
theorem pc_append (l1 l2 : Bs) (a c : Int) : pc (l1 ++ l2) a c = pc l1 a c ++ pc l2 (a - l1.length) (c - l1.length) := by
  unfold pc
  rw [List.length_append, List.take_append, List.drop_append]
  by_cases h : c ≤ (l1.length : Int)
  · have e1 : (min c ((l1.length + l2.length : Nat) : Int)).toNat = (min c (l1.length : Int)).toNat := by omega
    have e2 : (min (c - l1.length) (l2.length : Int)).toNat = 0 := by omega
    have e3 : (min c (l1.length : Int)).toNat - l1.length = 0 := by omega
    rw [e1, e2, e3]; simp
  · have e1 : (min c (l1.length : Int)).toNat = l1.length := by omega
    have e2 : (min c ((l1.length + l2.length : Nat) : Int)).toNat - l1.length = (min (c - l1.length) (l2.length : Int)).toNat := by omega
    rw [e2, e1, List.take_of_length_le (i := (min c ((l1.length + l2.length : Nat) : Int)).toNat) (by omega), List.take_of_length_le (Nat.le_refl _)]
    congr 2
    omega
theorem pc_length (l : Bs) (a c : Int) : (pc l a c).length ≤ l.length := by unfold pc; simp; omega
theorem pc_str (s : ByteArray) (a c : Int) (h0 : 0 ≤ a) (h1 : c ≤ s.size) : bl (s.extract a.toNat c.toNat) = pc (bl s) a c := by
  unfold pc; rw [bl_extract, bl_length]; congr 2 <;> omega

theorem isB_below {B b : Nat} {bs : List Value} {w w' : World} (h : Lib.IsBuilder 274 5 B b bs w) (hb : Below w.heap.size w w') : Lib.IsBuilder 274 5 B b bs w' := by
  rcases h with ⟨h1, v, h2, h3, h4⟩ | ⟨h1, v, h2, h3, h4⟩
  · exact .inl ⟨h1, v, (hb.block b (lt_of_heap h2)).trans h2, row_below h3 hb, h4⟩
  · exact .inr ⟨h1, v, (hb.block b (lt_of_heap h2)).trans h2, row_below h3 hb, h4⟩

set_option maxRecDepth 20000 in
set_option maxHeartbeats 400000 in
theorem tree_any (b y : Nat) (w : World) (hG : Good w) (hrb : w.heap[b]? = some (.cells [.pointer (some ⟨y, 0, none⟩)].toArray 211 (0, 0))) :
    Calls Tryz.prog 270 #[.pointer (some ⟨b, 0, none⟩)] w fun e w' => e = .returned (.pointer (some ⟨y, 0, none⟩)) ∧ Below w.heap.size w w' := by
  have hO0 := Own.start hG
  refine enter Tryz.func270 rfl rfl rfl 0 ?_
  refine SC.sr ?_
  refine SO.as ?_
  refine SO.nn ?_
  refine SC.seq ?_
  refine SC.sr ?_
  refine SO.mv ?_
  refine SO.v (.ptrEq (b := false) rfl rfl rfl Tryz.underlying193 rfl) ?_
  refine SO.mv ?_
  refine SO.mv ?_
  refine SO.v (.nilCheck rfl rfl) ?_
  refine SO.v (.fieldAddr rfl rfl fa211_0) ?_
  refine SO.v (.load rfl rfl ag208 (cell_of' (hO0.heapO trivial hrb) rfl)) ?_
  refine SO.v (.ptrEq (b := false) rfl rfl rfl Tryz.underlying208 rfl) ?_
  refine SO.v (.pickF rfl rfl rfl) ?_
  refine SO.nn ?_
  refine SC.no rfl ?_
  refine SC.skip ?_
  refine SQ.then_normal ?_
  refine SC.sr ?_
  refine SO.mv ?_
  refine SO.v (.nilCheck rfl rfl) ?_
  refine SO.v (.fieldAddr rfl rfl fa211_0) ?_
  refine SO.v (.load rfl rfl ag208 (cell_of' (hO0.heapO trivial hrb) rfl)) ?_
  refine SO.as ?_
  refine SO.nn ?_
  refine SC.ret ?_
  refine SQ.out (.inl rfl) (res1 rfl rfl) ?_
  exact ⟨rfl, hO0.toBelow trivial⟩

set_option maxRecDepth 20000 in
set_option maxHeartbeats 400000 in
theorem rope_len (b : Nat) (s : ByteArray) (w : World) (hG : Good w) (hr : RopeAt w b s) (hz : s.size ≤ 1099511627776) :
    Calls Tryz.prog 266 #[.pointer (some ⟨b, 0, none⟩)] w fun e w' => e = .returned (.int .i64 (s.size : Int)) ∧ Below w.heap.size w w' := by
  obtain ⟨y, t, hrb, htr, htx, hwf⟩ := hr
  have htl : t.txt.length = s.size := by rw [htx, bl_length]
  have hsb := t.sm_b (by omega)
  obtain ⟨pp, qq, ss, on⟩ := htr.obj
  have hO0 := Own.start hG
  refine enter Tryz.func266 rfl rfl rfl 0 ?_
  refine SC.sr ?_
  refine SO.as ?_
  refine SO.nn ?_
  refine SC.sr ?_
  refine SO.mv ?_
  refine SO.call rfl rfl rfl rfl (.callF rfl rfl en270) (tree_any b y _ (hO0.good hG) (hO0.heapO trivial hrb)) ?_
  rintro _ w1 ⟨rfl, hb1⟩
  have hO1 := hO0.below hb1
  refine ⟨_, rfl, ?_⟩
  refine SO.v (.nilCheck rfl rfl) ?_
  refine SO.v (.fieldAddr rfl rfl fa228_3) ?_
  refine SO.v (.fieldAddr rfl rfl fa91_0) ?_
  refine SO.v (.load rfl rfl ag3 (cell_of' (hO1.heapO trivial on) rfl)) ?_
  refine SO.as ?_
  refine SO.nn ?_
  refine SC.ret ?_
  refine SQ.out (.inl rfl) (res1 rfl rfl) ?_
  exact ⟨(show Ending.returned (.int .i64 t.sm.b) = _ by rw [hsb, htl]), hO1.toBelow trivial⟩

set_option maxRecDepth 20000 in
set_option maxHeartbeats 400000 in
theorem rope_within (b : Nat) (s : ByteArray) (a c : Int) (w : World) (hG : Good w) (hr : RopeAt w b s) (hz : s.size ≤ 1099511627776) :
    Calls Tryz.prog 271 #[.pointer (some ⟨b, 0, none⟩), .int .i64 a, .int .i64 c] w fun e w' => e = .returned (.bool (decide (¬ bad s a c))) ∧ Below w.heap.size w w' := by
  have hO0 := Own.start hG
  refine enter Tryz.func271 rfl rfl rfl 0 ?_
  refine SC.sr ?_
  refine SO.as ?_
  refine SO.nn ?_
  refine SC.sr ?_
  refine SO.mv ?_
  refine SO.v (.geq rfl rfl rfl) ?_
  refine SO.mv ?_
  refine SO.dec 9 rfl (fun g1 => ?_) (fun g1 => ?_)
  ·
   refine SO.mv ?_
   refine SO.mv ?_
   refine SO.v (.geq rfl rfl rfl) ?_
   refine SO.v (.pickT rfl rfl rfl) ?_
   refine SO.mv ?_
   refine SO.dec 14 rfl (fun g2 => ?_) (fun g2 => ?_)
   ·
    refine SO.mv ?_
    refine SO.mv ?_
    refine SO.call rfl rfl rfl rfl (.callF rfl rfl en266) (rope_len b s _ (hO0.good hG) (hr.below (hO0.toBelow trivial)) hz) ?_
    rintro _ w3 ⟨rfl, hb3⟩
    have hO3 := hO0.below hb3
    refine ⟨_, rfl, ?_⟩
    refine SO.v (.leq rfl rfl rfl) ?_
    refine SO.v (.pickT rfl rfl rfl) ?_
    refine SO.as ?_
    refine SO.nn ?_
    refine SC.ret ?_
    refine SQ.out (.inl rfl) (res1 rfl rfl) ?_
    refine ⟨?_, hO3.toBelow trivial⟩
    (congr 2; exact decide_eq_decide.2 (by unfold bad; omega))
   ·
    refine SO.ps ?_
    refine SO.ps ?_
    refine SO.ps ?_
    refine SO.ps ?_
    refine SO.v (.pickF rfl rfl rfl) ?_
    refine SO.as ?_
    refine SO.nn ?_
    refine SC.ret ?_
    refine SQ.out (.inl rfl) (res1 rfl rfl) ?_
    refine ⟨?_, hO0.toBelow trivial⟩
    (rw [decide_eq_false (by unfold bad; omega)])
  ·
   refine SO.ps ?_
   refine SO.ps ?_
   refine SO.ps ?_
   refine SO.v (.pickF rfl rfl rfl) ?_
   refine SO.mv ?_
   refine SO.ps ?_
   refine SO.ps ?_
   refine SO.ps ?_
   refine SO.ps ?_
   refine SO.v (.pickF rfl rfl rfl) ?_
   refine SO.as ?_
   refine SO.nn ?_
   refine SC.ret ?_
   refine SQ.out (.inl rfl) (res1 rfl rfl) ?_
   refine ⟨?_, hO0.toBelow trivial⟩
   (rw [decide_eq_false (by unfold bad; omega)])

set_option maxRecDepth 20000 in
set_option maxHeartbeats 400000 in
theorem nslice_leaf (w0 : World) (s : ByteArray) (y : Nat) (h0 : (RT.leaf s).At w0 y) (b : Nat) (l0 : Bs) (a c : Int) (w : World) (hG : Good w) (hbw : Below w0.heap.size w0 w) (h2 : 2 ≤ w0.heap.size) (hb : Lib.IsBuilder 274 5 w0.heap.size b (Lib.byteCells l0) w) (hn : -1152921504606846976 ≤ a ∧ a ≤ 1152921504606846976 ∧ -1152921504606846976 ≤ c ∧ c ≤ 1152921504606846976) (hl : l0.length + s.size ≤ 70368744177664) :
    Calls Tryz.prog 273 #[.pointer (some ⟨y, 0, none⟩), .pointer (some ⟨b, 0, none⟩), .int .i64 a, .int .i64 c] w fun e w' => e = .returned (.tuple #[]) ∧ Lib.IsBuilder 274 5 w0.heap.size b (Lib.byteCells (l0 ++ pc (RT.leaf s).txt a c)) w' ∧ Below w0.heap.size w w' := by
  have ht := h0.below hbw
  have on : w.heap[y]? = some (.cells (ndC none none 0 (measS s) s).toArray 228 (0, 0)) := ht
  have hmb : (measS s).b = s.size := rfl
  have hO0 := Own.start hG
  refine enter Tryz.func273 rfl rfl rfl 0 ?_
  refine SC.seq ?_
  refine SC.drawO mixed hO0 (fun hO1 => ?_)
  refine SA.tm 0 rfl hO1 ?_
  refine SA.tk 1 rfl hO1 (fun v hv => .maxI rfl rfl rfl) ?_
  refine SA.tm 2 rfl hO1 ?_
  refine SA.tm 3 rfl hO1 ?_
  refine SA.tk 4 rfl hO1 (fun v hv => .nilCheck rfl rfl) ?_
  refine SA.tk 5 rfl hO1 (fun v hv => .fieldAddr rfl rfl fa228_3) ?_
  refine SA.tk 6 rfl hO1 (fun v hv => .fieldAddr rfl rfl fa91_0) ?_
  refine SA.tk 7 rfl hO1 (fun v hv => .load rfl rfl ag3 (cell_of' (hv.heapO trivial on) rfl)) ?_
  refine SA.tk 8 rfl hO1 (fun v hv => .minI rfl rfl rfl) ?_
  refine SA.ta 9 rfl hO1 ?_
  refine SA.ta 10 rfl hO1 ?_
  refine SA.done (by kernel_rfl) ?_
  refine SQ.then_normal ?_
  refine SC.seq ?_
  refine SC.sr ?_
  refine SO.mv ?_
  refine SO.mv ?_
  refine SO.v (.geq rfl rfl rfl) ?_
  refine SO.nn ?_
  refine SC.dec rfl (fun c2 => ?_) (fun c2 => ?_)
  ·
   refine SC.ret ?_
   refine SQ.then_ret ?_
   refine SQ.out (.inl rfl) (res0 rfl) ?_
   exact ⟨rfl, by rw [show (RT.leaf s).txt = bl s from rfl, pc_nil (by rw [bl_length]; omega), List.append_nil]; exact isB_below hb (hO1.toBelow trivial), (hO1.toBelow trivial).mono hbw.size⟩
  ·
   refine SC.skip ?_
   refine SQ.then_normal ?_
   refine SC.seq ?_
   refine SC.sr ?_
   refine SO.mv ?_
   refine SO.v (.nilCheck rfl rfl) ?_
   refine SO.v (.fieldAddr rfl rfl fa228_0) ?_
   refine SO.v (.load rfl rfl ag208 (cell_of' (hO1.heapO trivial on) rfl)) ?_
   refine SO.v (.ptrEq (b := true) rfl rfl rfl Tryz.underlying208 rfl) ?_
   refine SO.nn ?_
   refine SC.yes rfl ?_
   refine SC.sr ?_
   refine SO.mv ?_
   refine SO.mv ?_
   refine SO.v (.nilCheck rfl rfl) ?_
   refine SO.v (.fieldAddr rfl rfl fa228_4) ?_
   refine SO.v (.load rfl rfl ag9 (cell_of' (hO1.heapO trivial on) rfl)) ?_
   refine SO.mv ?_
   refine SO.mv ?_
   refine SO.v (.sliceLH rfl rfl rfl rfl Tryz.underlying9 (by omega)) ?_
   refine SO.call rfl rfl rfl rfl (.callF rfl rfl en275) (writeString_any w0.heap.size b l0 _ _ (hO1.good hG) h2 (Nat.le_trans hbw.size (hO1.toBelow trivial).size) (isB_below hb (hO1.toBelow trivial)) (by simp only [ByteArray.size_extract]; omega)) ?_
   rintro _ w4 ⟨rfl, hb2, hbl2⟩
   have hG2 := (hO1.good hG).mono hbl2 h2
   have hbl3 := ((hO1.toBelow trivial).mono hbw.size).trans hbl2
   have hO4 := Own.start hG2
   refine ⟨_, rfl, ?_⟩
   refine SO.nn ?_
   refine SC.ret ?_
   refine SQ.then_ret ?_
   refine SQ.out (.inl rfl) (res0 rfl) ?_
   exact ⟨rfl, by rw [show (RT.leaf s).txt = bl s from rfl, ← pc_clamp, bl_length, ← pc_str s _ _ (by omega) (by omega)]; exact hb2, hbl3⟩

set_option maxRecDepth 20000 in
set_option maxHeartbeats 400000 in
theorem nslice_knot (w0 : World) (l r : RT) (y : Nat) (h0 : (RT.knot l r).At w0 y) (b : Nat) (l0 : Bs) (a c : Int) (w : World) (hG : Good w) (hbw : Below w0.heap.size w0 w) (h2 : 2 ≤ w0.heap.size) (hb : Lib.IsBuilder 274 5 w0.heap.size b (Lib.byteCells l0) w) (hn : -1152921504606846976 ≤ a ∧ a ≤ 1152921504606846976 ∧ -1152921504606846976 ≤ c ∧ c ≤ 1152921504606846976) (hl : l0.length + (RT.knot l r).txt.length ≤ 70368744177664) (ihl : ∀ (y b : Nat) (l0 : Bs) (a c : Int) (w : World), l.At w0 y → Good w → Below w0.heap.size w0 w → Lib.IsBuilder 274 5 w0.heap.size b (Lib.byteCells l0) w → (-1152921504606846976 ≤ a ∧ a ≤ 1152921504606846976 ∧ -1152921504606846976 ≤ c ∧ c ≤ 1152921504606846976) → l0.length + l.txt.length ≤ 70368744177664 →
      Calls Tryz.prog 273 #[.pointer (some ⟨y, 0, none⟩), .pointer (some ⟨b, 0, none⟩), .int .i64 a, .int .i64 c] w fun e w' => e = .returned (.tuple #[]) ∧ Lib.IsBuilder 274 5 w0.heap.size b (Lib.byteCells (l0 ++ pc l.txt a c)) w' ∧ Below w0.heap.size w w') (ihr : ∀ (y b : Nat) (l0 : Bs) (a c : Int) (w : World), r.At w0 y → Good w → Below w0.heap.size w0 w → Lib.IsBuilder 274 5 w0.heap.size b (Lib.byteCells l0) w → (-1152921504606846976 ≤ a ∧ a ≤ 1152921504606846976 ∧ -1152921504606846976 ≤ c ∧ c ≤ 1152921504606846976) → l0.length + r.txt.length ≤ 70368744177664 →
      Calls Tryz.prog 273 #[.pointer (some ⟨y, 0, none⟩), .pointer (some ⟨b, 0, none⟩), .int .i64 a, .int .i64 c] w fun e w' => e = .returned (.tuple #[]) ∧ Lib.IsBuilder 274 5 w0.heap.size b (Lib.byteCells (l0 ++ pc r.txt a c)) w' ∧ Below w0.heap.size w w') :
    Calls Tryz.prog 273 #[.pointer (some ⟨y, 0, none⟩), .pointer (some ⟨b, 0, none⟩), .int .i64 a, .int .i64 c] w fun e w' => e = .returned (.tuple #[]) ∧ Lib.IsBuilder 274 5 w0.heap.size b (Lib.byteCells (l0 ++ pc (RT.knot l r).txt a c)) w' ∧ Below w0.heap.size w w' := by
  obtain ⟨xl, xr, on0, hl0, hr0⟩ := h0
  have on := (hbw.block y (lt_of_heap on0)).trans on0
  obtain ⟨pl, ql, sl1, onl0⟩ := hl0.obj
  have onl := (hbw.block xl (lt_of_heap onl0)).trans onl0
  simp only [RT.txt, List.length_append] at hl
  have hsb := (RT.knot l r).sm_b (by simp only [RT.txt, List.length_append]; omega)
  have hsl := l.sm_b (by omega)
  have htt : (RT.knot l r).txt.length = l.txt.length + r.txt.length := by simp [RT.txt]
  have hO0 := Own.start hG
  refine enter Tryz.func273 rfl rfl rfl 0 ?_
  refine SC.seq ?_
  refine SC.drawO mixed hO0 (fun hO1 => ?_)
  refine SA.tm 0 rfl hO1 ?_
  refine SA.tk 1 rfl hO1 (fun v hv => .maxI rfl rfl rfl) ?_
  refine SA.tm 2 rfl hO1 ?_
  refine SA.tm 3 rfl hO1 ?_
  refine SA.tk 4 rfl hO1 (fun v hv => .nilCheck rfl rfl) ?_
  refine SA.tk 5 rfl hO1 (fun v hv => .fieldAddr rfl rfl fa228_3) ?_
  refine SA.tk 6 rfl hO1 (fun v hv => .fieldAddr rfl rfl fa91_0) ?_
  refine SA.tk 7 rfl hO1 (fun v hv => .load rfl rfl ag3 (cell_of' (hv.heapO trivial on) rfl)) ?_
  refine SA.tk 8 rfl hO1 (fun v hv => .minI rfl rfl rfl) ?_
  refine SA.ta 9 rfl hO1 ?_
  refine SA.ta 10 rfl hO1 ?_
  refine SA.done (by kernel_rfl) ?_
  refine SQ.then_normal ?_
  refine SC.seq ?_
  refine SC.sr ?_
  refine SO.mv ?_
  refine SO.mv ?_
  refine SO.v (.geq rfl rfl rfl) ?_
  refine SO.nn ?_
  refine SC.dec rfl (fun c2 => ?_) (fun c2 => ?_)
  ·
   refine SC.ret ?_
   refine SQ.then_ret ?_
   refine SQ.out (.inl rfl) (res0 rfl) ?_
   exact ⟨rfl, by rw [pc_nil (by omega), List.append_nil]; exact isB_below hb (hO1.toBelow trivial), (hO1.toBelow trivial).mono hbw.size⟩
  ·
   refine SC.skip ?_
   refine SQ.then_normal ?_
   refine SC.seq ?_
   refine SC.sr ?_
   refine SO.mv ?_
   refine SO.v (.nilCheck rfl rfl) ?_
   refine SO.v (.fieldAddr rfl rfl fa228_0) ?_
   refine SO.v (.load rfl rfl ag208 (cell_of' (hO1.heapO trivial on) rfl)) ?_
   refine SO.v (.ptrEq (b := false) rfl rfl rfl Tryz.underlying208 rfl) ?_
   refine SO.nn ?_
   refine SC.no rfl ?_
   refine SC.skip ?_
   refine SQ.then_normal ?_
   refine SC.sr ?_
   refine SO.mv ?_
   refine SO.v (.nilCheck rfl rfl) ?_
   refine SO.v (.fieldAddr rfl rfl fa228_0) ?_
   refine SO.v (.load rfl rfl ag208 (cell_of' (hO1.heapO trivial on) rfl)) ?_
   refine SO.mv ?_
   refine SO.mv ?_
   refine SO.mv ?_
   refine SO.call rfl rfl rfl rfl (.callF rfl rfl en273) (ihl _ b l0 _ _ _ hl0 (hO1.good hG) (hbw.trans ((hO1.toBelow trivial).mono hbw.size)) (isB_below hb (hO1.toBelow trivial)) (by omega) (by omega)) ?_
   rintro _ w4 ⟨rfl, hb2, hbl2⟩
   have hG2 := (hO1.good hG).mono hbl2 h2
   have hbl3 := ((hO1.toBelow trivial).mono hbw.size).trans hbl2
   have hbw2 := hbw.trans hbl3
   have on2 := (hbw2.block y (lt_of_heap on0)).trans on0
   have hpl := pc_length l.txt (max a 0) (min c (RT.knot l r).sm.b)
   have hO4 := Own.start hG2
   refine ⟨_, rfl, ?_⟩
   refine SO.nn ?_
   have hbX := hbw2
   have onlS : ∀ {v : World}, Below w0.heap.size w0 v → v.heap[xl]? = some (.cells (ndC pl ql l.ht l.sm sl1).toArray 228 (0, 0)) := fun hv => (hv.block xl (lt_of_heap onl0)).trans onl0
   refine SC.draw mixed (fun v => Below w0.heap.size w0 v) ?_
   have hO5 := Own.drew hO4
   refine SA.tm 0 rfl (hbX.trans ((hO5.toBelow trivial).mono hbX.size)) ?_
   refine SA.tk 1 rfl (hbX.trans ((hO5.toBelow trivial).mono hbX.size)) (fun v hv => .nilCheck rfl rfl) ?_
   refine SA.tk 2 rfl (hbX.trans ((hO5.toBelow trivial).mono hbX.size)) (fun v hv => .fieldAddr rfl rfl fa228_1) ?_
   refine SA.tk 3 rfl (hbX.trans ((hO5.toBelow trivial).mono hbX.size)) (fun v hv => .load rfl rfl ag208 (cell_of' ((hv.block y (lt_of_heap on0)).trans on0) rfl)) ?_
   refine SA.tm 4 rfl (hbX.trans ((hO5.toBelow trivial).mono hbX.size)) ?_
   refine SA.tm 5 rfl (hbX.trans ((hO5.toBelow trivial).mono hbX.size)) ?_
   refine SA.tm 6 rfl (hbX.trans ((hO5.toBelow trivial).mono hbX.size)) ?_
   refine SA.tk 7 rfl (hbX.trans ((hO5.toBelow trivial).mono hbX.size)) (fun v hv => .nilCheck rfl rfl) ?_
   refine SA.tk 8 rfl (hbX.trans ((hO5.toBelow trivial).mono hbX.size)) (fun v hv => .fieldAddr rfl rfl fa228_0) ?_
   refine SA.tk 9 rfl (hbX.trans ((hO5.toBelow trivial).mono hbX.size)) (fun v hv => .load rfl rfl ag208 (cell_of' ((hv.block y (lt_of_heap on0)).trans on0) rfl)) ?_
   refine SA.tk 10 rfl (hbX.trans ((hO5.toBelow trivial).mono hbX.size)) (fun v hv => .nilCheck rfl rfl) ?_
   refine SA.tk 11 rfl (hbX.trans ((hO5.toBelow trivial).mono hbX.size)) (fun v hv => .fieldAddr rfl rfl fa228_3) ?_
   refine SA.tk 12 rfl (hbX.trans ((hO5.toBelow trivial).mono hbX.size)) (fun v hv => .fieldAddr rfl rfl fa91_0) ?_
   refine SA.tk 13 rfl (hbX.trans ((hO5.toBelow trivial).mono hbX.size)) (fun v hv => .load rfl rfl ag3 (cell_of' (onlS hv) rfl)) ?_
   refine SA.tk 14 rfl (hbX.trans ((hO5.toBelow trivial).mono hbX.size)) (fun v hv => .sub rfl rfl rfl (by omega)) ?_
   refine SA.tm 15 rfl (hbX.trans ((hO5.toBelow trivial).mono hbX.size)) ?_
   refine SA.tm 16 rfl (hbX.trans ((hO5.toBelow trivial).mono hbX.size)) ?_
   refine SA.tk 17 rfl (hbX.trans ((hO5.toBelow trivial).mono hbX.size)) (fun v hv => .nilCheck rfl rfl) ?_
   refine SA.tk 18 rfl (hbX.trans ((hO5.toBelow trivial).mono hbX.size)) (fun v hv => .fieldAddr rfl rfl fa228_0) ?_
   refine SA.tk 19 rfl (hbX.trans ((hO5.toBelow trivial).mono hbX.size)) (fun v hv => .load rfl rfl ag208 (cell_of' ((hv.block y (lt_of_heap on0)).trans on0) rfl)) ?_
   refine SA.tk 20 rfl (hbX.trans ((hO5.toBelow trivial).mono hbX.size)) (fun v hv => .nilCheck rfl rfl) ?_
   refine SA.tk 21 rfl (hbX.trans ((hO5.toBelow trivial).mono hbX.size)) (fun v hv => .fieldAddr rfl rfl fa228_3) ?_
   refine SA.tk 22 rfl (hbX.trans ((hO5.toBelow trivial).mono hbX.size)) (fun v hv => .fieldAddr rfl rfl fa91_0) ?_
   refine SA.tk 23 rfl (hbX.trans ((hO5.toBelow trivial).mono hbX.size)) (fun v hv => .load rfl rfl ag3 (cell_of' (onlS hv) rfl)) ?_
   refine SA.tk 24 rfl (hbX.trans ((hO5.toBelow trivial).mono hbX.size)) (fun v hv => .sub rfl rfl rfl (by omega)) ?_
   refine SA.one 25 (by kernel_rfl) ?_
   refine SB.call rfl rfl rfl rfl (.callF rfl rfl en273) (ihr _ b _ _ _ _ hr0 (hO5.good hG2) (hbw2.trans ((hO5.toBelow trivial).mono hbw2.size)) (isB_below hb2 (hO5.toBelow trivial)) (by omega) (by rw [List.length_append]; omega)) ?_
   rintro _ w6 ⟨rfl, hb3, hbl4⟩
   have hbl5 := hbl3.trans (((hO5.toBelow trivial).mono hbw2.size).trans hbl4)
   have hbX := hbw.trans hbl5
   have hO6 := Own.start ((hO5.good hG2).mono hbl4 h2)
   refine ⟨_, rfl, (hbX.trans ((hO6.toBelow trivial).mono hbX.size)), ?_⟩
   refine SA.done (by kernel_rfl) ?_
   refine SQ.out (.inr rfl) (res0 rfl) ?_
   exact ⟨rfl, by rw [← pc_clamp, ← hsb, show (RT.knot l r).txt = l.txt ++ r.txt from rfl, pc_append, ← List.append_assoc, ← hsl]; exact hb3, hbl5⟩

theorem nslice_all (w0 : World) (h2 : 2 ≤ w0.heap.size) : ∀ (t : RT) (y b : Nat) (l0 : Bs) (a c : Int) (w : World), t.At w0 y → Good w → Below w0.heap.size w0 w → Lib.IsBuilder 274 5 w0.heap.size b (Lib.byteCells l0) w → (-1152921504606846976 ≤ a ∧ a ≤ 1152921504606846976 ∧ -1152921504606846976 ≤ c ∧ c ≤ 1152921504606846976) → l0.length + t.txt.length ≤ 70368744177664 →
      Calls Tryz.prog 273 #[.pointer (some ⟨y, 0, none⟩), .pointer (some ⟨b, 0, none⟩), .int .i64 a, .int .i64 c] w fun e w' => e = .returned (.tuple #[]) ∧ Lib.IsBuilder 274 5 w0.heap.size b (Lib.byteCells (l0 ++ pc t.txt a c)) w' ∧ Below w0.heap.size w w'
  | .leaf s, y, b, l0, a, c, w, h0, hG, hbw, hb, hn, hl => nslice_leaf w0 s y h0 b l0 a c w hG hbw h2 hb hn hl
  | .knot l r, y, b, l0, a, c, w, h0, hG, hbw, hb, hn, hl => nslice_knot w0 l r y h0 b l0 a c w hG hbw h2 hb hn hl (nslice_all w0 h2 l) (nslice_all w0 h2 r)

end Go.Proofs.YtclgplkkajfenaaGreatDoor
/- rope: measures. -/
namespace Go.Proofs.YtclgplkkajfenaaGreatDoor
open Go Go.RowKit Ow
def msN : RT → Int → Int → Smy
  | .leaf s, a, c => if max a 0 ≥ min c (s.size : Int) then zS else if max a 0 = 0 ∧ min c (s.size : Int) = s.size then measS s else measS (s.extract (max a 0).toNat (min c (s.size : Int)).toNat)
  | .knot l r, a, c => if max a 0 ≥ min c ((RT.knot l r).txt.length : Int) then zS else if max a 0 = 0 ∧ min c ((RT.knot l r).txt.length : Int) = (RT.knot l r).txt.length then (RT.knot l r).sm
      else joinL zS [msN l (max a 0) (min c ((RT.knot l r).txt.length : Int)), msN r (max a 0 - l.txt.length) (min c ((RT.knot l r).txt.length : Int) - l.txt.length)]
theorem msN_ok : ∀ (t : RT) (a c : Int), SOk (msN t a c)
  | .leaf s, a, c => by
    rw [msN]; split
    · exact SOk.zero
    · split
      · exact SOk.meas s
      · exact SOk.meas _
  | .knot l r, a, c => by
    rw [msN]; split
    · exact SOk.zero
    · split
      · exact RT.sm_ok _
      · refine joinL_ok _ _ SOk.zero (fun p hp => ?_)
        simp only [List.mem_cons, List.not_mem_nil, or_false] at hp
        rcases hp with rfl | rfl
        · exact msN_ok l _ _
        · exact msN_ok r _ _
theorem nlC_pc_le (l : Bs) (a c : Int) : nlC (pc l a c) ≤ l.length := Nat.le_trans (nlC_le _) (pc_length l a c)
theorem msN_nl : ∀ (t : RT) (a c : Int), t.txt.length ≤ 4611686018427387904 → (msN t a c).nl = nlC (pc t.txt a c)
  | .leaf s, a, c, h => by
    rw [msN, show (RT.leaf s).txt = bl s from rfl]
    split
    · rw [pc_nil (by rw [bl_length]; omega)]; rfl
    · split
      · rename_i h1 h2
        rw [show pc (bl s) a c = bl s by unfold pc; rw [bl_length, h2.1, h2.2]; simp only [Int.toNat_zero, List.drop_zero, Int.toNat_natCast]; exact List.take_of_length_le (by rw [bl_length]; exact Nat.le_refl _)]
        rfl
      · rename_i h1 h2
        rw [← pc_clamp, bl_length, ← pc_str s _ _ (by omega) (by omega)]; rfl
  | .knot l r, a, c, h => by
    have hlen : (RT.knot l r).txt.length = l.txt.length + r.txt.length := by simp [RT.txt]
    rw [msN]
    split
    · rw [pc_nil (by omega)]; rfl
    · split
      · rename_i h1 h2
        rw [RT.sm_nl _ h]
        congr 2
        unfold pc; rw [h2.1, h2.2]; simp
      · rename_i h1 h2
        have e1 := msN_nl l (max a 0) (min c ((RT.knot l r).txt.length : Int)) (by omega)
        have e2 := msN_nl r (max a 0 - l.txt.length) (min c ((RT.knot l r).txt.length : Int) - l.txt.length) (by omega)
        have b1 := nlC_pc_le l.txt (max a 0) (min c ((RT.knot l r).txt.length : Int))
        have b2 := nlC_pc_le r.txt (max a 0 - l.txt.length) (min c ((RT.knot l r).txt.length : Int) - l.txt.length)
        rw [join2_nl (by rw [e1, e2]; omega), e1, e2, ← pc_clamp (RT.knot l r).txt, show (RT.knot l r).txt = l.txt ++ r.txt from rfl, pc_append, nlC_append]
        simp

theorem bd91_z_Rope3  : ∀ w, (Instr.build 91 [].toArray).run Tryz.prog w = .ok (.agg [.int .i64 0, .int .i64 0, .int .i64 0, .int .i64 0, .int .i64 0, .string ⟨#[]⟩, .string ⟨#[]⟩].toArray) w := fun _ => by kernel_rfl
set_option maxRecDepth 20000 in
set_option maxHeartbeats 400000 in
theorem nmeas_leaf (s : ByteArray) (y : Nat) (a c : Int) (w : World) (hG : Good w) (h0 : (RT.leaf s).At w y) (hn : -1152921504606846976 ≤ a ∧ a ≤ 1152921504606846976 ∧ -1152921504606846976 ≤ c ∧ c ≤ 1152921504606846976) (hz : (RT.leaf s).txt.length ≤ 1099511627776)  :
    Calls Tryz.prog 272 #[.pointer (some ⟨y, 0, none⟩), .int .i64 a, .int .i64 c] w fun e w' => e = .returned (smV (msN (RT.leaf s) a c)) ∧ Below w.heap.size w w' := by
  have on : w.heap[y]? = some (.cells (ndC none none 0 (measS s) s).toArray 228 (0, 0)) := h0
  have hmb : (measS s).b = s.size := rfl
  have hz2 : s.size ≤ 1099511627776 := hz
  have hO0 := Own.start hG
  refine enter Tryz.func272 rfl rfl rfl 0 ?_
  refine SC.sr ?_
  refine SO.alloc hO0 rfl rfl rfl rfl zv91 [_, _, _, _, _, _, _] rfl ?_
  intro b1 w1 hb1 hO1
  refine SO.nn ?_
  refine SC.seq ?_
  refine SC.drawO mixed hO1 (fun hO2 => ?_)
  refine SA.tm 0 rfl hO2 ?_
  refine SA.tk 1 rfl hO2 (fun v hv => .maxI rfl rfl rfl) ?_
  refine SA.tm 2 rfl hO2 ?_
  refine SA.tm 3 rfl hO2 ?_
  refine SA.tk 4 rfl hO2 (fun v hv => .nilCheck rfl rfl) ?_
  refine SA.tk 5 rfl hO2 (fun v hv => .fieldAddr rfl rfl fa228_3) ?_
  refine SA.tk 6 rfl hO2 (fun v hv => .fieldAddr rfl rfl fa91_0) ?_
  refine SA.tk 7 rfl hO2 (fun v hv => .load rfl rfl ag3 (cell_of' (hv.heapO ⟨hb1, trivial⟩ on) rfl)) ?_
  refine SA.tk 8 rfl hO2 (fun v hv => .minI rfl rfl rfl) ?_
  refine SA.ta 9 rfl hO2 ?_
  refine SA.ta 10 rfl hO2 ?_
  refine SA.done (by kernel_rfl) ?_
  refine SQ.then_normal ?_
  refine SC.seq ?_
  refine SC.block ?_
  refine SC.sr ?_
  refine SO.mv ?_
  refine SO.mv ?_
  refine SO.v (.geq rfl rfl rfl) ?_
  refine SO.as ?_
  refine SO.nn ?_
  refine SC.dec rfl (fun c3 => ?_) (fun c3 => ?_)
  ·
   refine SC.sr ?_
   refine SO.v (.build rfl rfl (bd91_z_Rope3)) ?_
   refine SO.store hO2 (i := 0) rfl rfl rfl rfl rfl rfl sz91 rfl rfl [(_, .cells [_, _, _, _, _, _, _].toArray _ _)] rfl ?_
   intro w4 hO4
   refine SO.nn ?_
   refine SC.ret ?_
   refine SQ.block_ret ?_
   refine SQ.then_ret ?_
   refine SQ.out (.inl rfl) (resC [_, _, _, _, _, _, _] rfl rfl ag91 sz91 (hO4.at (i := 0) rfl) rfl rfl) ?_
   refine ⟨?_, hO4.toBelow ⟨hb1, trivial⟩⟩
   rw [msN]
   (rw [if_pos (by omega)]; rfl)
  ·
   refine SC.sr ?_
   refine SO.mv ?_
   refine SO.v (.eql rfl rfl rfl) ?_
   refine SO.mv ?_
   refine SO.dec 25 rfl (fun g6 => ?_) (fun g6 => ?_)
   ·
    refine SO.mv ?_
    refine SO.mv ?_
    refine SO.v (.nilCheck rfl rfl) ?_
    refine SO.v (.fieldAddr rfl rfl fa228_3) ?_
    refine SO.v (.fieldAddr rfl rfl fa91_0) ?_
    refine SO.v (.load rfl rfl ag3 (cell_of' (hO2.heapO ⟨hb1, trivial⟩ on) rfl)) ?_
    refine SO.v (.eql rfl rfl rfl) ?_
    refine SO.v (.pickT rfl rfl rfl) ?_
    refine SO.as ?_
    refine SO.nn ?_
    refine SC.dec rfl (fun c7 => ?_) (fun c7 => ?_)
    ·
     refine SC.sr ?_
     refine SO.mv ?_
     refine SO.v (.nilCheck rfl rfl) ?_
     refine SO.v (.fieldAddr rfl rfl fa228_3) ?_
     refine SO.v (.loadB [_, _, _, _, _, _, _] rfl rfl ag91 sz91 (hO2.heapO ⟨hb1, trivial⟩ on) rfl rfl) ?_
     refine SO.store hO2 (i := 0) rfl rfl rfl rfl rfl rfl sz91 rfl rfl [(_, .cells [_, _, _, _, _, _, _].toArray _ _)] rfl ?_
     intro w8 hO8
     refine SO.nn ?_
     refine SC.ret ?_
     refine SQ.block_ret ?_
     refine SQ.then_ret ?_
     refine SQ.out (.inl rfl) (resC [_, _, _, _, _, _, _] rfl rfl ag91 sz91 (hO8.at (i := 0) rfl) rfl rfl) ?_
     refine ⟨?_, hO8.toBelow ⟨hb1, trivial⟩⟩
     rw [msN]
     rw [if_neg (by omega), if_pos (by omega)]
    ·
     refine SC.sr ?_
     refine SO.mv ?_
     refine SO.v (.nilCheck rfl rfl) ?_
     refine SO.v (.fieldAddr rfl rfl fa228_0) ?_
     refine SO.v (.load rfl rfl ag208 (cell_of' (hO2.heapO ⟨hb1, trivial⟩ on) rfl)) ?_
     refine SO.v (.ptrEq (b := true) rfl rfl rfl Tryz.underlying208 rfl) ?_
     refine SO.as ?_
     refine SO.nn ?_
     refine SC.yes rfl ?_
     refine SC.sr ?_
     refine SO.mv ?_
     refine SO.v (.nilCheck rfl rfl) ?_
     refine SO.v (.fieldAddr rfl rfl fa228_4) ?_
     refine SO.v (.load rfl rfl ag9 (cell_of' (hO2.heapO ⟨hb1, trivial⟩ on) rfl)) ?_
     refine SO.mv ?_
     refine SO.mv ?_
     refine SO.v (.sliceLH rfl rfl rfl rfl Tryz.underlying9 (by omega)) ?_
     refine SO.call rfl rfl rfl rfl (.callF rfl rfl en211) (measure_any _ _ (hO2.good hG) (by simp only [ByteArray.size_extract]; omega)) ?_
     rintro _ w10 ⟨rfl, hb10⟩
     have hO10 := hO2.below hb10
     refine ⟨_, rfl, ?_⟩
     refine SO.store hO10 (i := 0) rfl rfl rfl rfl rfl rfl sz91 rfl rfl [(_, .cells [_, _, _, _, _, _, _].toArray _ _)] rfl ?_
     intro w11 hO11
     refine SO.nn ?_
     refine SC.ret ?_
     refine SQ.block_ret ?_
     refine SQ.then_ret ?_
     refine SQ.out (.inl rfl) (resC [_, _, _, _, _, _, _] rfl rfl ag91 sz91 (hO11.at (i := 0) rfl) rfl rfl) ?_
     refine ⟨?_, hO11.toBelow ⟨hb1, trivial⟩⟩
     rw [msN]
     (rw [if_neg (by omega), if_neg (by omega)]; rfl)
   ·
    refine SO.ps ?_
    refine SO.ps ?_
    refine SO.ps ?_
    refine SO.ps ?_
    refine SO.ps ?_
    refine SO.ps ?_
    refine SO.ps ?_
    refine SO.v (.pickF rfl rfl rfl) ?_
    refine SO.as ?_
    refine SO.nn ?_
    refine SC.no rfl ?_
    refine SC.sr ?_
    refine SO.mv ?_
    refine SO.v (.nilCheck rfl rfl) ?_
    refine SO.v (.fieldAddr rfl rfl fa228_0) ?_
    refine SO.v (.load rfl rfl ag208 (cell_of' (hO2.heapO ⟨hb1, trivial⟩ on) rfl)) ?_
    refine SO.v (.ptrEq (b := true) rfl rfl rfl Tryz.underlying208 rfl) ?_
    refine SO.as ?_
    refine SO.nn ?_
    refine SC.yes rfl ?_
    refine SC.sr ?_
    refine SO.mv ?_
    refine SO.v (.nilCheck rfl rfl) ?_
    refine SO.v (.fieldAddr rfl rfl fa228_4) ?_
    refine SO.v (.load rfl rfl ag9 (cell_of' (hO2.heapO ⟨hb1, trivial⟩ on) rfl)) ?_
    refine SO.mv ?_
    refine SO.mv ?_
    refine SO.v (.sliceLH rfl rfl rfl rfl Tryz.underlying9 (by omega)) ?_
    refine SO.call rfl rfl rfl rfl (.callF rfl rfl en211) (measure_any _ _ (hO2.good hG) (by simp only [ByteArray.size_extract]; omega)) ?_
    rintro _ w13 ⟨rfl, hb13⟩
    have hO13 := hO2.below hb13
    refine ⟨_, rfl, ?_⟩
    refine SO.store hO13 (i := 0) rfl rfl rfl rfl rfl rfl sz91 rfl rfl [(_, .cells [_, _, _, _, _, _, _].toArray _ _)] rfl ?_
    intro w14 hO14
    refine SO.nn ?_
    refine SC.ret ?_
    refine SQ.block_ret ?_
    refine SQ.then_ret ?_
    refine SQ.out (.inl rfl) (resC [_, _, _, _, _, _, _] rfl rfl ag91 sz91 (hO14.at (i := 0) rfl) rfl rfl) ?_
    refine ⟨?_, hO14.toBelow ⟨hb1, trivial⟩⟩
    rw [msN]
    (rw [if_neg (by omega), if_neg (by omega)]; rfl)

theorem bs246_2_0_1_Rope3 (x0 : Int) (x1 : Int) (x2 : Int) (x3 : Int) (x4 : Int) (x5 : ByteArray) (x6 : ByteArray) (x7 : Int) (x8 : Int) (x9 : Int) (x10 : Int) (x11 : Int) (x12 : ByteArray) (x13 : ByteArray) : ∀ w, (Instr.buildSlice 246 2 [(0, .agg [.int .i64 x0, .int .i64 x1, .int .i64 x2, .int .i64 x3, .int .i64 x4, .string x5, .string x6].toArray), (1, .agg [.int .i64 x7, .int .i64 x8, .int .i64 x9, .int .i64 x10, .int .i64 x11, .string x12, .string x13].toArray)].toArray).run Tryz.prog w = .ok (.slice (some ⟨w.heap.size, 0, none⟩) 2 2) (w.alloc (.cells [.int .i64 x0, .int .i64 x1, .int .i64 x2, .int .i64 x3, .int .i64 x4, .string x5, .string x6, .int .i64 x7, .int .i64 x8, .int .i64 x9, .int .i64 x10, .int .i64 x11, .string x12, .string x13].toArray 91)) := fun _ => by kernel_rfl
set_option maxRecDepth 20000 in
set_option maxHeartbeats 400000 in
theorem nmeas_knot (l r : RT) (y : Nat) (a c : Int) (w : World) (hG : Good w) (h0 : (RT.knot l r).At w y) (hn : -1152921504606846976 ≤ a ∧ a ≤ 1152921504606846976 ∧ -1152921504606846976 ≤ c ∧ c ≤ 1152921504606846976) (hz : (RT.knot l r).txt.length ≤ 1099511627776) (ihl : ∀ (y : Nat) (a c : Int) (w : World), Good w → l.At w y → (-1152921504606846976 ≤ a ∧ a ≤ 1152921504606846976 ∧ -1152921504606846976 ≤ c ∧ c ≤ 1152921504606846976) → Calls Tryz.prog 272 #[.pointer (some ⟨y, 0, none⟩), .int .i64 a, .int .i64 c] w fun e w' => e = .returned (smV (msN l a c)) ∧ Below w.heap.size w w') (ihr : ∀ (y : Nat) (a c : Int) (w : World), Good w → r.At w y → (-1152921504606846976 ≤ a ∧ a ≤ 1152921504606846976 ∧ -1152921504606846976 ≤ c ∧ c ≤ 1152921504606846976) → Calls Tryz.prog 272 #[.pointer (some ⟨y, 0, none⟩), .int .i64 a, .int .i64 c] w fun e w' => e = .returned (smV (msN r a c)) ∧ Below w.heap.size w w') :
    Calls Tryz.prog 272 #[.pointer (some ⟨y, 0, none⟩), .int .i64 a, .int .i64 c] w fun e w' => e = .returned (smV (msN (RT.knot l r) a c)) ∧ Below w.heap.size w w' := by
  obtain ⟨xl, xr, on, hl, hr⟩ := h0
  obtain ⟨pl, ql, sl1, onl⟩ := hl.obj
  have hsb := (RT.knot l r).sm_b (by omega)
  have htt : (RT.knot l r).txt.length = l.txt.length + r.txt.length := by simp [RT.txt]
  have hsl := l.sm_b (by omega)
  have hjr : ∀ p q : Smy, rows [p, q] = smC p ++ smC q := fun p q => by simp [rows]
  have hO0 := Own.start hG
  refine enter Tryz.func272 rfl rfl rfl 0 ?_
  refine SC.sr ?_
  refine SO.alloc hO0 rfl rfl rfl rfl zv91 [_, _, _, _, _, _, _] rfl ?_
  intro b1 w1 hb1 hO1
  refine SO.nn ?_
  refine SC.seq ?_
  refine SC.drawO mixed hO1 (fun hO2 => ?_)
  refine SA.tm 0 rfl hO2 ?_
  refine SA.tk 1 rfl hO2 (fun v hv => .maxI rfl rfl rfl) ?_
  refine SA.tm 2 rfl hO2 ?_
  refine SA.tm 3 rfl hO2 ?_
  refine SA.tk 4 rfl hO2 (fun v hv => .nilCheck rfl rfl) ?_
  refine SA.tk 5 rfl hO2 (fun v hv => .fieldAddr rfl rfl fa228_3) ?_
  refine SA.tk 6 rfl hO2 (fun v hv => .fieldAddr rfl rfl fa91_0) ?_
  refine SA.tk 7 rfl hO2 (fun v hv => .load rfl rfl ag3 (cell_of' (hv.heapO ⟨hb1, trivial⟩ on) rfl)) ?_
  refine SA.tk 8 rfl hO2 (fun v hv => .minI rfl rfl rfl) ?_
  refine SA.ta 9 rfl hO2 ?_
  refine SA.ta 10 rfl hO2 ?_
  refine SA.done (by kernel_rfl) ?_
  refine SQ.then_normal ?_
  refine SC.seq ?_
  refine SC.block ?_
  refine SC.sr ?_
  refine SO.mv ?_
  refine SO.mv ?_
  refine SO.v (.geq rfl rfl rfl) ?_
  refine SO.as ?_
  refine SO.nn ?_
  refine SC.dec rfl (fun c3 => ?_) (fun c3 => ?_)
  ·
   refine SC.sr ?_
   refine SO.v (.build rfl rfl (bd91_z_Rope3)) ?_
   refine SO.store hO2 (i := 0) rfl rfl rfl rfl rfl rfl sz91 rfl rfl [(_, .cells [_, _, _, _, _, _, _].toArray _ _)] rfl ?_
   intro w4 hO4
   refine SO.nn ?_
   refine SC.ret ?_
   refine SQ.block_ret ?_
   refine SQ.then_ret ?_
   refine SQ.out (.inl rfl) (resC [_, _, _, _, _, _, _] rfl rfl ag91 sz91 (hO4.at (i := 0) rfl) rfl rfl) ?_
   refine ⟨?_, hO4.toBelow ⟨hb1, trivial⟩⟩
   rw [msN]
   (rw [if_pos (by omega)]; rfl)
  ·
   refine SC.sr ?_
   refine SO.mv ?_
   refine SO.v (.eql rfl rfl rfl) ?_
   refine SO.mv ?_
   refine SO.dec 25 rfl (fun g6 => ?_) (fun g6 => ?_)
   ·
    refine SO.mv ?_
    refine SO.mv ?_
    refine SO.v (.nilCheck rfl rfl) ?_
    refine SO.v (.fieldAddr rfl rfl fa228_3) ?_
    refine SO.v (.fieldAddr rfl rfl fa91_0) ?_
    refine SO.v (.load rfl rfl ag3 (cell_of' (hO2.heapO ⟨hb1, trivial⟩ on) rfl)) ?_
    refine SO.v (.eql rfl rfl rfl) ?_
    refine SO.v (.pickT rfl rfl rfl) ?_
    refine SO.as ?_
    refine SO.nn ?_
    refine SC.dec rfl (fun c7 => ?_) (fun c7 => ?_)
    ·
     refine SC.sr ?_
     refine SO.mv ?_
     refine SO.v (.nilCheck rfl rfl) ?_
     refine SO.v (.fieldAddr rfl rfl fa228_3) ?_
     refine SO.v (.loadB [_, _, _, _, _, _, _] rfl rfl ag91 sz91 (hO2.heapO ⟨hb1, trivial⟩ on) rfl rfl) ?_
     refine SO.store hO2 (i := 0) rfl rfl rfl rfl rfl rfl sz91 rfl rfl [(_, .cells [_, _, _, _, _, _, _].toArray _ _)] rfl ?_
     intro w8 hO8
     refine SO.nn ?_
     refine SC.ret ?_
     refine SQ.block_ret ?_
     refine SQ.then_ret ?_
     refine SQ.out (.inl rfl) (resC [_, _, _, _, _, _, _] rfl rfl ag91 sz91 (hO8.at (i := 0) rfl) rfl rfl) ?_
     refine ⟨?_, hO8.toBelow ⟨hb1, trivial⟩⟩
     rw [msN]
     rw [if_neg (by omega), if_pos (by omega)]
    ·
     refine SC.sr ?_
     refine SO.mv ?_
     refine SO.v (.nilCheck rfl rfl) ?_
     refine SO.v (.fieldAddr rfl rfl fa228_0) ?_
     refine SO.v (.load rfl rfl ag208 (cell_of' (hO2.heapO ⟨hb1, trivial⟩ on) rfl)) ?_
     refine SO.v (.ptrEq (b := false) rfl rfl rfl Tryz.underlying208 rfl) ?_
     refine SO.as ?_
     refine SO.nn ?_
     refine SC.no rfl ?_
     refine SC.skip ?_
     refine SQ.block_normal ?_
     refine SQ.then_normal ?_
     refine SC.sr ?_
     refine SO.mv ?_
     refine SO.v (.nilCheck rfl rfl) ?_
     refine SO.v (.fieldAddr rfl rfl fa228_0) ?_
     refine SO.v (.load rfl rfl ag208 (cell_of' (hO2.heapO ⟨hb1, trivial⟩ on) rfl)) ?_
     refine SO.v (.nilCheck rfl rfl) ?_
     refine SO.v (.fieldAddr rfl rfl fa228_3) ?_
     refine SO.v (.fieldAddr rfl rfl fa91_0) ?_
     refine SO.v (.load rfl rfl ag3 (cell_of' (hO2.heapO ⟨hb1, trivial⟩ onl) rfl)) ?_
     refine SO.as ?_
     refine SO.nn ?_
     refine SC.seq ?_
     refine SC.draw mixed (fun v => Below w.heap.size w v) ?_
     have hO10 := Own.drew hO2
     refine SA.tm 0 rfl (hO10.toBelow ⟨hb1, trivial⟩) ?_
     refine SA.tk 1 rfl (hO10.toBelow ⟨hb1, trivial⟩) (fun v hv => .nilCheck rfl rfl) ?_
     refine SA.tk 2 rfl (hO10.toBelow ⟨hb1, trivial⟩) (fun v hv => .fieldAddr rfl rfl fa228_0) ?_
     refine SA.tk 3 rfl (hO10.toBelow ⟨hb1, trivial⟩) (fun v hv => .load rfl rfl ag208 (cell_of' ((hv.block y (lt_of_heap on)).trans on) rfl)) ?_
     refine SA.tm 4 rfl (hO10.toBelow ⟨hb1, trivial⟩) ?_
     refine SA.tm 5 rfl (hO10.toBelow ⟨hb1, trivial⟩) ?_
     refine SA.tm 7 rfl (hO10.toBelow ⟨hb1, trivial⟩) ?_
     refine SA.tk 8 rfl (hO10.toBelow ⟨hb1, trivial⟩) (fun v hv => .nilCheck rfl rfl) ?_
     refine SA.tk 9 rfl (hO10.toBelow ⟨hb1, trivial⟩) (fun v hv => .fieldAddr rfl rfl fa228_1) ?_
     refine SA.tk 10 rfl (hO10.toBelow ⟨hb1, trivial⟩) (fun v hv => .load rfl rfl ag208 (cell_of' ((hv.block y (lt_of_heap on)).trans on) rfl)) ?_
     refine SA.tm 11 rfl (hO10.toBelow ⟨hb1, trivial⟩) ?_
     refine SA.tm 12 rfl (hO10.toBelow ⟨hb1, trivial⟩) ?_
     refine SA.tk 13 rfl (hO10.toBelow ⟨hb1, trivial⟩) (fun v hv => .sub rfl rfl rfl (by omega)) ?_
     refine SA.tm 14 rfl (hO10.toBelow ⟨hb1, trivial⟩) ?_
     refine SA.tm 15 rfl (hO10.toBelow ⟨hb1, trivial⟩) ?_
     refine SA.tk 16 rfl (hO10.toBelow ⟨hb1, trivial⟩) (fun v hv => .sub rfl rfl rfl (by omega)) ?_
     refine SA.one 6 (by kernel_rfl) ?_
     refine SB.call rfl rfl rfl rfl (.callF rfl rfl en272) (ihl _ _ _ _ (hO10.good hG) (hl.below (hO10.toBelow ⟨hb1, trivial⟩)) (by omega)) ?_
     rintro _ w11 ⟨rfl, hb11⟩
     have hO11 := hO10.below hb11
     refine ⟨_, rfl, (hO11.toBelow ⟨hb1, trivial⟩), ?_⟩
     refine SA.one 17 (by kernel_rfl) ?_
     refine SB.call rfl rfl rfl rfl (.callF rfl rfl en272) (ihr _ _ _ _ (hO11.good hG) (hr.below (hO11.toBelow ⟨hb1, trivial⟩)) (by omega)) ?_
     rintro _ w12 ⟨rfl, hb12⟩
     have hO12 := hO11.below hb12
     refine ⟨_, rfl, (hO12.toBelow ⟨hb1, trivial⟩), ?_⟩
     refine SA.one 18 (by kernel_rfl) ?_
     refine SB.buildSlice hO12 rfl rfl rfl rfl rfl rfl (bs246_2_0_1_Rope3 _ _ _ _ _ _ _ _ _ _ _ _ _ _) ?_
     intro b13 w13 hb13 hO13
     refine ⟨(hO13.toBelow ⟨hb13, hb1, trivial⟩), ?_⟩
     refine SA.one 19 (by kernel_rfl) ?_
     refine SB.call rfl rfl rfl rfl (.callF rfl rfl en216) (join_any [msN l (max a 0) (min c (RT.knot l r).sm.b), msN r (max a 0 - l.sm.b) (min c (RT.knot l r).sm.b - l.sm.b)] _ _ (hO13.good hG) (by simp) (fun p hp => by simp only [List.mem_cons, List.not_mem_nil, or_false] at hp; rcases hp with rfl | rfl; exact msN_ok l _ _; exact msN_ok r _ _) (by rw [hjr]; exact hO13.at (i := 0) rfl)) ?_
     rintro _ w14 ⟨rfl, hb14⟩
     have hO14 := hO13.below hb14
     refine ⟨_, rfl, (hO14.toBelow ⟨hb13, hb1, trivial⟩), ?_⟩
     refine SA.one 20 (by kernel_rfl) ?_
     refine SB.store hO14 (j := 1) rfl rfl rfl rfl rfl rfl rfl sz91 rfl rfl [_, (_, .cells [_, _, _, _, _, _, _].toArray _ _)] rfl ?_
     intro w15 hO15
     refine ⟨(hO15.toBelow ⟨hb13, hb1, trivial⟩), ?_⟩
     refine SA.done (by kernel_rfl) ?_
     refine SQ.then_normal ?_
     refine SC.ret ?_
     refine SQ.out (.inl rfl) (resC [_, _, _, _, _, _, _] rfl rfl ag91 sz91 (hO15.at (i := 1) rfl) rfl rfl) ?_
     refine ⟨?_, hO15.toBelow ⟨hb13, hb1, trivial⟩⟩
     rw [msN]
     rw [if_neg (by omega), if_neg (by omega), hsb, hsl]
   ·
    refine SO.ps ?_
    refine SO.ps ?_
    refine SO.ps ?_
    refine SO.ps ?_
    refine SO.ps ?_
    refine SO.ps ?_
    refine SO.ps ?_
    refine SO.v (.pickF rfl rfl rfl) ?_
    refine SO.as ?_
    refine SO.nn ?_
    refine SC.no rfl ?_
    refine SC.sr ?_
    refine SO.mv ?_
    refine SO.v (.nilCheck rfl rfl) ?_
    refine SO.v (.fieldAddr rfl rfl fa228_0) ?_
    refine SO.v (.load rfl rfl ag208 (cell_of' (hO2.heapO ⟨hb1, trivial⟩ on) rfl)) ?_
    refine SO.v (.ptrEq (b := false) rfl rfl rfl Tryz.underlying208 rfl) ?_
    refine SO.as ?_
    refine SO.nn ?_
    refine SC.no rfl ?_
    refine SC.skip ?_
    refine SQ.block_normal ?_
    refine SQ.then_normal ?_
    refine SC.sr ?_
    refine SO.mv ?_
    refine SO.v (.nilCheck rfl rfl) ?_
    refine SO.v (.fieldAddr rfl rfl fa228_0) ?_
    refine SO.v (.load rfl rfl ag208 (cell_of' (hO2.heapO ⟨hb1, trivial⟩ on) rfl)) ?_
    refine SO.v (.nilCheck rfl rfl) ?_
    refine SO.v (.fieldAddr rfl rfl fa228_3) ?_
    refine SO.v (.fieldAddr rfl rfl fa91_0) ?_
    refine SO.v (.load rfl rfl ag3 (cell_of' (hO2.heapO ⟨hb1, trivial⟩ onl) rfl)) ?_
    refine SO.as ?_
    refine SO.nn ?_
    refine SC.seq ?_
    refine SC.draw mixed (fun v => Below w.heap.size w v) ?_
    have hO17 := Own.drew hO2
    refine SA.tm 0 rfl (hO17.toBelow ⟨hb1, trivial⟩) ?_
    refine SA.tk 1 rfl (hO17.toBelow ⟨hb1, trivial⟩) (fun v hv => .nilCheck rfl rfl) ?_
    refine SA.tk 2 rfl (hO17.toBelow ⟨hb1, trivial⟩) (fun v hv => .fieldAddr rfl rfl fa228_0) ?_
    refine SA.tk 3 rfl (hO17.toBelow ⟨hb1, trivial⟩) (fun v hv => .load rfl rfl ag208 (cell_of' ((hv.block y (lt_of_heap on)).trans on) rfl)) ?_
    refine SA.tm 4 rfl (hO17.toBelow ⟨hb1, trivial⟩) ?_
    refine SA.tm 5 rfl (hO17.toBelow ⟨hb1, trivial⟩) ?_
    refine SA.tm 7 rfl (hO17.toBelow ⟨hb1, trivial⟩) ?_
    refine SA.tk 8 rfl (hO17.toBelow ⟨hb1, trivial⟩) (fun v hv => .nilCheck rfl rfl) ?_
    refine SA.tk 9 rfl (hO17.toBelow ⟨hb1, trivial⟩) (fun v hv => .fieldAddr rfl rfl fa228_1) ?_
    refine SA.tk 10 rfl (hO17.toBelow ⟨hb1, trivial⟩) (fun v hv => .load rfl rfl ag208 (cell_of' ((hv.block y (lt_of_heap on)).trans on) rfl)) ?_
    refine SA.tm 11 rfl (hO17.toBelow ⟨hb1, trivial⟩) ?_
    refine SA.tm 12 rfl (hO17.toBelow ⟨hb1, trivial⟩) ?_
    refine SA.tk 13 rfl (hO17.toBelow ⟨hb1, trivial⟩) (fun v hv => .sub rfl rfl rfl (by omega)) ?_
    refine SA.tm 14 rfl (hO17.toBelow ⟨hb1, trivial⟩) ?_
    refine SA.tm 15 rfl (hO17.toBelow ⟨hb1, trivial⟩) ?_
    refine SA.tk 16 rfl (hO17.toBelow ⟨hb1, trivial⟩) (fun v hv => .sub rfl rfl rfl (by omega)) ?_
    refine SA.one 6 (by kernel_rfl) ?_
    refine SB.call rfl rfl rfl rfl (.callF rfl rfl en272) (ihl _ _ _ _ (hO17.good hG) (hl.below (hO17.toBelow ⟨hb1, trivial⟩)) (by omega)) ?_
    rintro _ w18 ⟨rfl, hb18⟩
    have hO18 := hO17.below hb18
    refine ⟨_, rfl, (hO18.toBelow ⟨hb1, trivial⟩), ?_⟩
    refine SA.one 17 (by kernel_rfl) ?_
    refine SB.call rfl rfl rfl rfl (.callF rfl rfl en272) (ihr _ _ _ _ (hO18.good hG) (hr.below (hO18.toBelow ⟨hb1, trivial⟩)) (by omega)) ?_
    rintro _ w19 ⟨rfl, hb19⟩
    have hO19 := hO18.below hb19
    refine ⟨_, rfl, (hO19.toBelow ⟨hb1, trivial⟩), ?_⟩
    refine SA.one 18 (by kernel_rfl) ?_
    refine SB.buildSlice hO19 rfl rfl rfl rfl rfl rfl (bs246_2_0_1_Rope3 _ _ _ _ _ _ _ _ _ _ _ _ _ _) ?_
    intro b20 w20 hb20 hO20
    refine ⟨(hO20.toBelow ⟨hb20, hb1, trivial⟩), ?_⟩
    refine SA.one 19 (by kernel_rfl) ?_
    refine SB.call rfl rfl rfl rfl (.callF rfl rfl en216) (join_any [msN l (max a 0) (min c (RT.knot l r).sm.b), msN r (max a 0 - l.sm.b) (min c (RT.knot l r).sm.b - l.sm.b)] _ _ (hO20.good hG) (by simp) (fun p hp => by simp only [List.mem_cons, List.not_mem_nil, or_false] at hp; rcases hp with rfl | rfl; exact msN_ok l _ _; exact msN_ok r _ _) (by rw [hjr]; exact hO20.at (i := 0) rfl)) ?_
    rintro _ w21 ⟨rfl, hb21⟩
    have hO21 := hO20.below hb21
    refine ⟨_, rfl, (hO21.toBelow ⟨hb20, hb1, trivial⟩), ?_⟩
    refine SA.one 20 (by kernel_rfl) ?_
    refine SB.store hO21 (j := 1) rfl rfl rfl rfl rfl rfl rfl sz91 rfl rfl [_, (_, .cells [_, _, _, _, _, _, _].toArray _ _)] rfl ?_
    intro w22 hO22
    refine ⟨(hO22.toBelow ⟨hb20, hb1, trivial⟩), ?_⟩
    refine SA.done (by kernel_rfl) ?_
    refine SQ.then_normal ?_
    refine SC.ret ?_
    refine SQ.out (.inl rfl) (resC [_, _, _, _, _, _, _] rfl rfl ag91 sz91 (hO22.at (i := 1) rfl) rfl rfl) ?_
    refine ⟨?_, hO22.toBelow ⟨hb20, hb1, trivial⟩⟩
    rw [msN]
    rw [if_neg (by omega), if_neg (by omega), hsb, hsl]

theorem nmeas_all : ∀ (t : RT) (y : Nat) (a c : Int) (w : World), t.txt.length ≤ 1099511627776 → Good w → t.At w y → (-1152921504606846976 ≤ a ∧ a ≤ 1152921504606846976 ∧ -1152921504606846976 ≤ c ∧ c ≤ 1152921504606846976) →
      Calls Tryz.prog 272 #[.pointer (some ⟨y, 0, none⟩), .int .i64 a, .int .i64 c] w fun e w' => e = .returned (smV (msN t a c)) ∧ Below w.heap.size w w'
  | .leaf s, y, a, c, w, hz, hG, h0, hn => nmeas_leaf s y a c w hG h0 hn hz
  | .knot l r, y, a, c, w, hz, hG, h0, hn => by
    have htt : (RT.knot l r).txt.length = l.txt.length + r.txt.length := by simp [RT.txt]
    exact nmeas_knot l r y a c w hG h0 hn hz (fun y a c w => nmeas_all l y a c w (by omega)) (fun y a c w => nmeas_all r y a c w (by omega))

set_option maxRecDepth 20000 in
set_option maxHeartbeats 400000 in
theorem rope_slice (b : Nat) (s : ByteArray) (a c : Int) (w : World) (hG : Good w) (hr : RopeAt w b s) (hz : s.size ≤ 1099511627776) :
    Calls Tryz.prog 269 #[.pointer (some ⟨b, 0, none⟩), .int .i64 a, .int .i64 c] w fun e w' => e = .returned (.tuple #[.string (slT s a c), .int .i64 (slE s a c)]) ∧ Below w.heap.size w w' := by
  have hr0 := hr
  obtain ⟨y, t, hrb, htr, htx, hwf⟩ := hr
  have hr := hr0
  have htl : t.txt.length = s.size := by rw [htx, bl_length]
  have h2w := hG.two
  have hO0 := Own.start hG
  refine enter Tryz.func269 rfl rfl rfl 0 ?_
  refine SC.sr ?_
  refine SO.as ?_
  refine SO.as ?_
  refine SO.nn ?_
  refine SC.seq ?_
  refine SC.sr ?_
  refine SO.mv ?_
  refine SO.mv ?_
  refine SO.mv ?_
  refine SO.call rfl rfl rfl rfl (.callF rfl rfl en271) (rope_within b s _ _ _ (hO0.good hG) (hr.below (hO0.toBelow trivial)) hz) ?_
  rintro _ w1 ⟨rfl, hb1⟩
  have hO1 := hO0.below hb1
  refine ⟨_, rfl, ?_⟩
  refine SO.v (.notD rfl rfl) ?_
  refine SO.nn ?_
  refine SC.dec rfl (fun c2 => ?_) (fun c2 => ?_)
  ·
   have hbd : bad s a c := Decidable.not_not.1 c2
   refine SC.sr ?_
   refine SO.as ?_
   refine SO.as ?_
   refine SO.nn ?_
   refine SC.ret ?_
   refine SQ.then_ret ?_
   refine SQ.out (.inl rfl) (res2 rfl rfl rfl) ?_
   exact ⟨by unfold slT slE; rw [if_pos hbd, if_pos hbd], hO1.toBelow trivial⟩
  ·
   have hnb : ¬ bad s a c := Decidable.not_not.1 c2
   have hnb2 := hnb
   unfold bad at hnb2
   refine SC.skip ?_
   refine SQ.then_normal ?_
   refine SC.sr ?_
   refine SO.alloc hO1 rfl rfl rfl rfl zv274 [_, _] rfl ?_
   intro b4 w4 hb4 hO4
   refine SO.nn ?_
   refine SC.sr ?_
   refine SO.mv ?_
   refine SO.call rfl rfl rfl rfl (.callF rfl rfl en270) (tree_any b y _ (hO4.good hG) (hO4.heapO ⟨hb4, trivial⟩ hrb)) ?_
   rintro _ w5 ⟨rfl, hb5⟩
   have hO5 := hO4.below hb5
   refine ⟨_, rfl, ?_⟩
   refine SO.mv ?_
   refine SO.mv ?_
   refine SO.call rfl rfl rfl rfl (.callF rfl rfl en273) (nslice_all w h2w t y _ [] a c _ htr (hO5.good hG) (hO5.toBelow ⟨hb4, trivial⟩) (.inl ⟨hb4, _, hO5.at (i := 0) rfl, World.ownsRow_nil _ _ _ _, by simp [Value.ownBlock]⟩) (by omega) (by simp; omega)) ?_
   rintro _ w6 ⟨rfl, hb2, hbl2⟩
   have hG2 := (hO5.good hG).mono hbl2 h2w
   have hbl3 := (hO5.toBelow ⟨hb4, trivial⟩).trans hbl2
   have hO6 := Own.start hG2
   refine ⟨_, rfl, ?_⟩
   refine SO.nn ?_
   refine SC.sr ?_
   refine SO.call rfl rfl rfl rfl (.callF rfl rfl en274) (Tryz.Builder_String_any _ _ _ _ hb2 hbl3.size) ?_
   rintro _ w7 ⟨rfl, hbl4⟩
   have hbl5 := hbl3.trans hbl4
   have hO7 := Own.start (hG2.mono hbl4 h2w)
   refine ⟨_, rfl, ?_⟩
   refine SO.as ?_
   refine SO.as ?_
   refine SO.nn ?_
   refine SC.ret ?_
   refine SQ.out (.inl rfl) (res2 rfl rfl rfl) ?_
   exact ⟨by unfold slT slE; rw [if_neg hnb, if_neg hnb, List.nil_append, str_eq (s := s.extract a.toNat c.toNat) (by rw [pc_str s a c (by omega) (by omega), htx])], hbl5⟩

set_option maxRecDepth 20000 in
set_option maxHeartbeats 400000 in
theorem rope_measure (b : Nat) (s : ByteArray) (a c : Int) (w : World) (hG : Good w) (hr : RopeAt w b s) (hz : s.size ≤ 1099511627776) :
    Calls Tryz.prog 267 #[.pointer (some ⟨b, 0, none⟩), .int .i64 a, .int .i64 c] w fun e w' => ∃ m : Smy, e = .returned (.tuple #[smV m, .int .i64 (slE s a c)]) ∧ (¬ bad s a c → m.nl = nlC (pc (bl s) a c)) ∧ Below w.heap.size w w' := by
  have hr0 := hr
  obtain ⟨y, t, hrb, htr, htx, hwf⟩ := hr
  have hr := hr0
  have htl : t.txt.length = s.size := by rw [htx, bl_length]
  have hO0 := Own.start hG
  refine enter Tryz.func267 rfl rfl rfl 0 ?_
  refine SC.sr ?_
  refine SO.alloc hO0 rfl rfl rfl rfl zv91 [_, _, _, _, _, _, _] rfl ?_
  intro b1 w1 hb1 hO1
  refine SO.as ?_
  refine SO.nn ?_
  refine SC.seq ?_
  refine SC.sr ?_
  refine SO.mv ?_
  refine SO.mv ?_
  refine SO.mv ?_
  refine SO.call rfl rfl rfl rfl (.callF rfl rfl en271) (rope_within b s _ _ _ (hO1.good hG) (hr.below (hO1.toBelow ⟨hb1, trivial⟩)) hz) ?_
  rintro _ w2 ⟨rfl, hb2⟩
  have hO2 := hO1.below hb2
  refine ⟨_, rfl, ?_⟩
  refine SO.v (.notD rfl rfl) ?_
  refine SO.nn ?_
  refine SC.dec rfl (fun c3 => ?_) (fun c3 => ?_)
  ·
   have hbd : bad s a c := Decidable.not_not.1 c3
   refine SC.sr ?_
   refine SO.v (.build rfl rfl (bd91_z_Rope3)) ?_
   refine SO.store hO2 (i := 0) rfl rfl rfl rfl rfl rfl sz91 rfl rfl [(_, .cells [_, _, _, _, _, _, _].toArray _ _)] rfl ?_
   intro w4 hO4
   refine SO.as ?_
   refine SO.nn ?_
   refine SC.ret ?_
   refine SQ.then_ret ?_
   refine SQ.out (.inl rfl) (resCT [_, _, _, _, _, _, _] rfl rfl rfl ag91 sz91 (hO4.at (i := 0) rfl) rfl rfl) ?_
   exact ⟨zS, by unfold slE; rw [if_pos hbd]; rfl, fun h => absurd hbd h, hO4.toBelow ⟨hb1, trivial⟩⟩
  ·
   have hnb : ¬ bad s a c := Decidable.not_not.1 c3
   have hnb2 := hnb
   unfold bad at hnb2
   refine SC.skip ?_
   refine SQ.then_normal ?_
   refine SC.sr ?_
   refine SO.mv ?_
   refine SO.call rfl rfl rfl rfl (.callF rfl rfl en270) (tree_any b y _ (hO2.good hG) (hO2.heapO ⟨hb1, trivial⟩ hrb)) ?_
   rintro _ w6 ⟨rfl, hb6⟩
   have hO6 := hO2.below hb6
   refine ⟨_, rfl, ?_⟩
   refine SO.mv ?_
   refine SO.mv ?_
   refine SO.call rfl rfl rfl rfl (.callF rfl rfl en272) (nmeas_all t y _ _ _ (by omega) (hO6.good hG) (htr.below (hO6.toBelow ⟨hb1, trivial⟩)) (by omega)) ?_
   rintro _ w7 ⟨rfl, hb7⟩
   have hO7 := hO6.below hb7
   refine ⟨_, rfl, ?_⟩
   refine SO.store hO7 (i := 0) rfl rfl rfl rfl rfl rfl sz91 rfl rfl [(_, .cells [_, _, _, _, _, _, _].toArray _ _)] rfl ?_
   intro w8 hO8
   refine SO.as ?_
   refine SO.nn ?_
   refine SC.ret ?_
   refine SQ.out (.inl rfl) (resCT [_, _, _, _, _, _, _] rfl rfl rfl ag91 sz91 (hO8.at (i := 0) rfl) rfl rfl) ?_
   exact ⟨msN t a c, by unfold slE; rw [if_neg hnb], fun _ => by rw [msN_nl t a c (by omega), htx], hO8.toBelow ⟨hb1, trivial⟩⟩

end Go.Proofs.YtclgplkkajfenaaGreatDoor
