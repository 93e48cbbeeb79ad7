/- rope.part. -/
import Derived.Test.YtclgplkkajfenaaGreatDoorRopj
namespace Go.Proofs.YtclgplkkajfenaaGreatDoor
open Go Go.RowKit Ow
theorem oL_some (t : RT) : oL (some t) = t.leaves := rfl
/-- The bytes of leaves. -/
def lenL (xs : List ByteArray) : Nat := (xs.map bl).flatten.length
theorem lenL_append (a b : List ByteArray) : lenL (a ++ b) = lenL a + lenL b := by simp [lenL]
theorem lenL_cons (a : ByteArray) (b : List ByteArray) : lenL (a :: b) = a.size + lenL b := by simp [lenL]
theorem RT.lenL_leaves (t : RT) : lenL t.leaves = t.txt.length := by rw [lenL, ← t.txt_leaves]
/-- All leaves of a tree with more than one have bytes. -/
def Pos1 (xs : List ByteArray) : Prop := xs.length = 1 ∨ ∀ x ∈ xs, 0 < x.size
def PartRes (t : RT) (a : Int) (w : World) (e : Ending) (w' : World) : Prop :=
  ∃ (p q : Option Addr) (l r : Option RT) (s : ByteArray) (k : Nat), e = .returned (.tuple #[.pointer p, .string s, .int .i64 (k : Int), .pointer q]) ∧ OAt w' l p ∧ OAt w' r q ∧ oL l ++ s :: oL r = t.leaves ∧
    (k : Int) = a - lenL (oL l) ∧ k ≤ s.size ∧ (a = t.txt.length → oL r = []) ∧ (a = 0 → Pos1 t.leaves → oL l = []) ∧ Below w.heap.size w w'

theorem pos1_all {l r : RT} (h : Pos1 (RT.knot l r).leaves) : ∀ x ∈ l.leaves ++ r.leaves, 0 < x.size := by
  rcases h with h | h
  · have h1 := l.leaves_pos; have h2 := r.leaves_pos
    simp only [RT.leaves, List.length_append] at h; omega
  · exact h
theorem pos1_left {l r : RT} (h : Pos1 (RT.knot l r).leaves) : Pos1 l.leaves := .inr fun x hx => pos1_all h x (List.mem_append.2 (.inl hx))
theorem pos1_size {l r : RT} (h : Pos1 (RT.knot l r).leaves) : 0 < l.txt.length := by
  rw [← l.lenL_leaves]
  cases e : l.leaves with
  | nil => have := l.leaves_pos; rw [e] at this; simp at this
  | cons x xs =>
    have := pos1_all h x (by rw [e]; simp)
    rw [lenL_cons]; omega

set_option maxRecDepth 20000 in
set_option maxHeartbeats 400000 in
theorem part_leaf (s : ByteArray) (y : Nat) (a : Int) (w : World) (hG : Good w) (ht : (RT.leaf s).At w y) (h0 : 0 ≤ a ∧ a ≤ s.size) :
    Calls Tryz.prog 196 #[.pointer (some ⟨y, 0, none⟩), .int .i64 a] w (PartRes (.leaf s) a w) := by
  obtain ⟨k, rfl⟩ := Int.eq_ofNat_of_zero_le h0.1
  have hO0 := Own.start hG
  refine enter Tryz.func196 rfl rfl rfl 0 ?_
  refine SC.seq ?_
  refine SC.region ?_
  refine SO.val rfl rfl rfl rfl (.assign rfl rfl) ?_
  refine SO.val rfl rfl rfl rfl (.assign rfl rfl) ?_
  refine SO.val rfl rfl rfl rfl (.assign rfl rfl) ?_
  refine SO.val rfl rfl rfl rfl (.assign rfl rfl) ?_
  refine SO.nil ?_
  refine SQ.then_normal ?_
  refine SC.seq ?_
  refine SC.seq ?_
  refine SC.region ?_
  refine SO.val rfl rfl rfl rfl (.move rfl rfl) ?_
  refine SO.val rfl rfl rfl rfl (.nilCheck rfl rfl) ?_
  refine SO.val rfl rfl rfl rfl (.fieldAddr rfl rfl fa228_0) ?_
  refine SO.val rfl rfl rfl rfl (.load rfl rfl ag208 (cell_of' (hO0.heapO trivial ht) rfl)) ?_
  refine SO.val rfl rfl rfl rfl (.ptrEq (b := true) rfl rfl rfl Tryz.underlying208 rfl) ?_
  refine SO.nil ?_
  refine SQ.then_normal ?_
  refine SC.yes rfl ?_
  refine SC.seq ?_
  refine SC.drawO mixed hO0 (fun hO1 => ?_)
  refine SA.take (by kernel_rfl) 0 rfl (by kernel_rfl) (by kernel_rfl) rfl rfl (fun _ _ _ h => h) rfl hO1 (fun v hv => .move rfl rfl) ?_
  refine SA.take (by kernel_rfl) 1 rfl (by kernel_rfl) (by kernel_rfl) rfl rfl (fun _ _ _ h => h) rfl hO1 (fun v hv => .nilCheck rfl rfl) ?_
  refine SA.take (by kernel_rfl) 2 rfl (by kernel_rfl) (by kernel_rfl) rfl rfl (fun _ _ _ h => h) rfl hO1 (fun v hv => .fieldAddr rfl rfl fa228_4) ?_
  refine SA.take (by kernel_rfl) 3 rfl (by kernel_rfl) (by kernel_rfl) rfl rfl (fun _ _ _ h => h) rfl hO1 (fun v hv => .load rfl rfl ag9 (cell_of' (hv.heapO trivial ht) rfl)) ?_
  refine SA.take (by kernel_rfl) 4 rfl (by kernel_rfl) (by kernel_rfl) rfl rfl (fun _ _ _ h => h) rfl hO1 (fun v hv => .move rfl rfl) ?_
  refine SA.take (by kernel_rfl) 5 rfl (by kernel_rfl) (by kernel_rfl) rfl rfl (fun _ _ _ h => h) rfl hO1 (fun v hv => .assign rfl rfl) ?_
  refine SA.take (by kernel_rfl) 6 rfl (by kernel_rfl) (by kernel_rfl) rfl rfl (fun _ _ _ h => h) rfl hO1 (fun v hv => .assign rfl rfl) ?_
  refine SA.take (by kernel_rfl) 7 rfl (by kernel_rfl) (by kernel_rfl) rfl rfl (fun _ _ _ h => h) rfl hO1 (fun v hv => .assign rfl rfl) ?_
  refine SA.take (by kernel_rfl) 8 rfl (by kernel_rfl) (by kernel_rfl) rfl rfl (fun _ _ _ h => h) rfl hO1 (fun v hv => .assign rfl rfl) ?_
  refine SA.done (by kernel_rfl) ?_
  refine SQ.then_normal ?_
  refine SC.ret ?_
  refine SQ.then_ret ?_
  refine SQ.out (.inl rfl) (res4 rfl rfl rfl rfl rfl) ?_
  exact ⟨none, none, none, none, s, k, rfl, rfl, rfl, rfl, by simp [oL, lenL], by omega, fun _ => rfl, fun _ _ => rfl, hO1.toBelow trivial⟩

set_option maxRecDepth 20000 in
set_option maxHeartbeats 400000 in
theorem part_knot (l r : RT) (y : Nat) (a : Int) (w : World) (hG : Good w) (ht : (RT.knot l r).At w y) (h0 : 0 ≤ a) (hb : (RT.knot l r).leaves.length ≤ 1099511627776) (hc : (RT.knot l r).txt.length ≤ 1099511627776) (ha : a ≤ (RT.knot l r).txt.length) (ihl : ∀ (y : Nat) (a : Int) (w : World), Good w → l.At w y → 0 ≤ a → a ≤ l.txt.length → Calls Tryz.prog 196 #[.pointer (some ⟨y, 0, none⟩), .int .i64 a] w (PartRes l a w)) (ihr : ∀ (y : Nat) (a : Int) (w : World), Good w → r.At w y → 0 ≤ a → a ≤ r.txt.length → Calls Tryz.prog 196 #[.pointer (some ⟨y, 0, none⟩), .int .i64 a] w (PartRes r a w)) :
    Calls Tryz.prog 196 #[.pointer (some ⟨y, 0, none⟩), .int .i64 a] w (PartRes (.knot l r) a w) := by
  obtain ⟨xl, xr, ot, hl, hr⟩ := ht
  obtain ⟨p1, q1, s1, o1⟩ := hl.obj
  simp only [RT.leaves, RT.txt, List.length_append] at hb hc ha
  have hlb := l.sm_b (by omega)
  have hLl := l.lenL_leaves
  have hLr := r.lenL_leaves
  have hO0 := Own.start hG
  refine enter Tryz.func196 rfl rfl rfl 0 ?_
  refine SC.seq ?_
  refine SC.region ?_
  refine SO.val rfl rfl rfl rfl (.assign rfl rfl) ?_
  refine SO.val rfl rfl rfl rfl (.assign rfl rfl) ?_
  refine SO.val rfl rfl rfl rfl (.assign rfl rfl) ?_
  refine SO.val rfl rfl rfl rfl (.assign rfl rfl) ?_
  refine SO.nil ?_
  refine SQ.then_normal ?_
  refine SC.seq ?_
  refine SC.seq ?_
  refine SC.region ?_
  refine SO.val rfl rfl rfl rfl (.move rfl rfl) ?_
  refine SO.val rfl rfl rfl rfl (.nilCheck rfl rfl) ?_
  refine SO.val rfl rfl rfl rfl (.fieldAddr rfl rfl fa228_0) ?_
  first | refine SO.val rfl rfl rfl rfl (.load rfl rfl ag208 (cell_of' (hO0.heapO trivial ot) rfl)) ?_ | refine SO.val rfl rfl rfl rfl (.load rfl rfl ag208 (cell_of' (hO0.heapO trivial o1) rfl)) ?_
  refine SO.val rfl rfl rfl rfl (.ptrEq (b := false) rfl rfl rfl Tryz.underlying208 rfl) ?_
  refine SO.nil ?_
  refine SQ.then_normal ?_
  refine SC.no rfl ?_
  refine SC.skip ?_
  refine SQ.then_normal ?_
  refine SC.seq ?_
  refine SC.seq ?_
  refine SC.region ?_
  refine SO.val rfl rfl rfl rfl (.move rfl rfl) ?_
  refine SO.val rfl rfl rfl rfl (.move rfl rfl) ?_
  refine SO.val rfl rfl rfl rfl (.nilCheck rfl rfl) ?_
  refine SO.val rfl rfl rfl rfl (.fieldAddr rfl rfl fa228_0) ?_
  first | refine SO.val rfl rfl rfl rfl (.load rfl rfl ag208 (cell_of' (hO0.heapO trivial ot) rfl)) ?_ | refine SO.val rfl rfl rfl rfl (.load rfl rfl ag208 (cell_of' (hO0.heapO trivial o1) rfl)) ?_
  refine SO.val rfl rfl rfl rfl (.nilCheck rfl rfl) ?_
  refine SO.val rfl rfl rfl rfl (.fieldAddr rfl rfl fa228_3) ?_
  refine SO.val rfl rfl rfl rfl (.fieldAddr rfl rfl fa91_0) ?_
  first | refine SO.val rfl rfl rfl rfl (.load rfl rfl ag3 (cell_of' (hO0.heapO trivial ot) rfl)) ?_ | refine SO.val rfl rfl rfl rfl (.load rfl rfl ag3 (cell_of' (hO0.heapO trivial o1) rfl)) ?_
  refine SO.val rfl rfl rfl rfl (.lss rfl rfl rfl) ?_
  refine SO.nil ?_
  refine SQ.then_normal ?_
  refine SC.dec rfl (fun c1 => ?_) (fun c1 => ?_)
  ·
    refine SC.seq ?_
    refine SC.region ?_
    refine SO.val rfl rfl rfl rfl (.move rfl rfl) ?_
    refine SO.val rfl rfl rfl rfl (.nilCheck rfl rfl) ?_
    refine SO.val rfl rfl rfl rfl (.fieldAddr rfl rfl fa228_0) ?_
    first | refine SO.val rfl rfl rfl rfl (.load rfl rfl ag208 (cell_of' (hO0.heapO trivial ot) rfl)) ?_ | refine SO.val rfl rfl rfl rfl (.load rfl rfl ag208 (cell_of' (hO0.heapO trivial o1) rfl)) ?_
    refine SO.val rfl rfl rfl rfl (.move rfl rfl) ?_
    refine SO.call rfl rfl rfl rfl (.callF rfl rfl en196) (ihl _ _ _ (hO0.good hG) (hl.below (hO0.toBelow trivial)) (by omega) (by omega)) ?_
    rintro _ w2 ⟨p, q, u, v, s, k, rfl, hu, hv, hlv, hk, hks, hend, hbeg, hb2⟩
    have hO2 := hO0.below hb2
    refine ⟨_, rfl, ?_⟩
    have hlen2 := congrArg List.length hlv
    simp only [List.length_append, List.length_cons] at hlen2
    refine SO.val rfl rfl rfl rfl (.move rfl rfl) ?_
    refine SO.val rfl rfl rfl rfl (.extract rfl rfl rfl) ?_
    refine SO.val rfl rfl rfl rfl (.extract rfl rfl rfl) ?_
    refine SO.val rfl rfl rfl rfl (.extract rfl rfl rfl) ?_
    refine SO.val rfl rfl rfl rfl (.extract rfl rfl rfl) ?_
    refine SO.val rfl rfl rfl rfl (.assign rfl rfl) ?_
    refine SO.val rfl rfl rfl rfl (.assign rfl rfl) ?_
    refine SO.val rfl rfl rfl rfl (.assign rfl rfl) ?_
    refine SO.val rfl rfl rfl rfl (.assign rfl rfl) ?_
    refine SO.nil ?_
    refine SQ.then_normal ?_
    refine SC.seq ?_
    refine SC.region ?_
    refine SO.val rfl rfl rfl rfl (.move rfl rfl) ?_
    refine SO.val rfl rfl rfl rfl (.move rfl rfl) ?_
    refine SO.val rfl rfl rfl rfl (.move rfl rfl) ?_
    refine SO.val rfl rfl rfl rfl (.move rfl rfl) ?_
    refine SO.val rfl rfl rfl rfl (.move rfl rfl) ?_
    refine SO.val rfl rfl rfl rfl (.nilCheck rfl rfl) ?_
    refine SO.val rfl rfl rfl rfl (.fieldAddr rfl rfl fa228_1) ?_
    first | refine SO.val rfl rfl rfl rfl (.load rfl rfl ag208 (cell_of' (hO2.heapO trivial ot) rfl)) ?_ | refine SO.val rfl rfl rfl rfl (.load rfl rfl ag208 (cell_of' (hO2.heapO trivial o1) rfl)) ?_
    refine SO.call rfl rfl rfl rfl (.callF rfl rfl en194) (join_o v (some r) _ _ _ (hO2.good hG) hv ⟨_, rfl, hr.below (hO2.toBelow trivial)⟩ (by rw [oL_some]; omega)) ?_
    rintro _ w3 ⟨p2, t2, rfl, ht2, hl2, _, hb3⟩
    have hO3 := hO2.below hb3
    refine ⟨_, rfl, ?_⟩
    refine SO.val rfl rfl rfl rfl (.assign rfl rfl) ?_
    refine SO.val rfl rfl rfl rfl (.assign rfl rfl) ?_
    refine SO.val rfl rfl rfl rfl (.assign rfl rfl) ?_
    refine SO.val rfl rfl rfl rfl (.assign rfl rfl) ?_
    refine SO.nil ?_
    refine SQ.then_normal ?_
    refine SC.ret ?_
    refine SQ.then_ret ?_
    refine SQ.out (.inl rfl) (res4 rfl rfl rfl rfl rfl) ?_
    first | exact ⟨p, p2, u, t2, s, k, rfl, hu.below (by assumption), ht2, by rw [hl2, oL_some]; simp only [RT.leaves]; rw [← hlv]; simp, hk, hks, fun h => by simp only [RT.txt, List.length_append] at h; omega, fun h hp => hbeg h (pos1_left hp), hO3.toBelow trivial⟩ | exact ⟨p2, q, t2, v, s, k, rfl, ht2, hv.below (by assumption), by rw [hl2, oL_some]; simp only [RT.leaves]; rw [← hlv]; simp, by rw [hl2, lenL_append, oL_some]; omega, hks, fun h => hend (by simp only [RT.txt, List.length_append] at h; omega), fun h hp => absurd (pos1_size hp) (by omega), hO3.toBelow trivial⟩
  ·
    refine SC.skip ?_
    refine SQ.then_normal ?_
    refine SC.seq ?_
    refine SC.drawO mixed hO0 (fun hO5 => ?_)
    refine SA.take (by kernel_rfl) 0 rfl (by kernel_rfl) (by kernel_rfl) rfl rfl (fun _ _ _ h => h) rfl hO5 (fun v hv => .move rfl rfl) ?_
    refine SA.take (by kernel_rfl) 1 rfl (by kernel_rfl) (by kernel_rfl) rfl rfl (fun _ _ _ h => h) rfl hO5 (fun v hv => .nilCheck rfl rfl) ?_
    refine SA.take (by kernel_rfl) 2 rfl (by kernel_rfl) (by kernel_rfl) rfl rfl (fun _ _ _ h => h) rfl hO5 (fun v hv => .fieldAddr rfl rfl fa228_1) ?_
    first | refine SA.take (by kernel_rfl) 3 rfl (by kernel_rfl) (by kernel_rfl) rfl rfl (fun _ _ _ h => h) rfl hO5 (fun v hv => .load rfl rfl ag208 (cell_of' (hv.heapO trivial ot) rfl)) ?_ | refine SA.take (by kernel_rfl) 3 rfl (by kernel_rfl) (by kernel_rfl) rfl rfl (fun _ _ _ h => h) rfl hO5 (fun v hv => .load rfl rfl ag208 (cell_of' (hv.heapO trivial o1) rfl)) ?_
    refine SA.take (by kernel_rfl) 4 rfl (by kernel_rfl) (by kernel_rfl) rfl rfl (fun _ _ _ h => h) rfl hO5 (fun v hv => .move rfl rfl) ?_
    refine SA.take (by kernel_rfl) 5 rfl (by kernel_rfl) (by kernel_rfl) rfl rfl (fun _ _ _ h => h) rfl hO5 (fun v hv => .move rfl rfl) ?_
    refine SA.take (by kernel_rfl) 6 rfl (by kernel_rfl) (by kernel_rfl) rfl rfl (fun _ _ _ h => h) rfl hO5 (fun v hv => .nilCheck rfl rfl) ?_
    refine SA.take (by kernel_rfl) 7 rfl (by kernel_rfl) (by kernel_rfl) rfl rfl (fun _ _ _ h => h) rfl hO5 (fun v hv => .fieldAddr rfl rfl fa228_0) ?_
    first | refine SA.take (by kernel_rfl) 8 rfl (by kernel_rfl) (by kernel_rfl) rfl rfl (fun _ _ _ h => h) rfl hO5 (fun v hv => .load rfl rfl ag208 (cell_of' (hv.heapO trivial ot) rfl)) ?_ | refine SA.take (by kernel_rfl) 8 rfl (by kernel_rfl) (by kernel_rfl) rfl rfl (fun _ _ _ h => h) rfl hO5 (fun v hv => .load rfl rfl ag208 (cell_of' (hv.heapO trivial o1) rfl)) ?_
    refine SA.take (by kernel_rfl) 9 rfl (by kernel_rfl) (by kernel_rfl) rfl rfl (fun _ _ _ h => h) rfl hO5 (fun v hv => .nilCheck rfl rfl) ?_
    refine SA.take (by kernel_rfl) 10 rfl (by kernel_rfl) (by kernel_rfl) rfl rfl (fun _ _ _ h => h) rfl hO5 (fun v hv => .fieldAddr rfl rfl fa228_3) ?_
    refine SA.take (by kernel_rfl) 11 rfl (by kernel_rfl) (by kernel_rfl) rfl rfl (fun _ _ _ h => h) rfl hO5 (fun v hv => .fieldAddr rfl rfl fa91_0) ?_
    first | refine SA.take (by kernel_rfl) 12 rfl (by kernel_rfl) (by kernel_rfl) rfl rfl (fun _ _ _ h => h) rfl hO5 (fun v hv => .load rfl rfl ag3 (cell_of' (hv.heapO trivial ot) rfl)) ?_ | refine SA.take (by kernel_rfl) 12 rfl (by kernel_rfl) (by kernel_rfl) rfl rfl (fun _ _ _ h => h) rfl hO5 (fun v hv => .load rfl rfl ag3 (cell_of' (hv.heapO trivial o1) rfl)) ?_
    refine SA.take (by kernel_rfl) 13 rfl (by kernel_rfl) (by kernel_rfl) rfl rfl (fun _ _ _ h => h) rfl hO5 (fun v hv => .sub rfl rfl rfl (by omega)) ?_
    refine SA.one 14 (by kernel_rfl) ?_
    refine SB.call rfl rfl rfl rfl (.callF rfl rfl en196) (ihr _ _ _ (hO5.good hG) (hr.below (hO5.toBelow trivial)) (by omega) (by omega)) ?_
    rintro _ w6 ⟨p, q, u, v, s, k, rfl, hu, hv, hlv, hk, hks, hend, hbeg, hb6⟩
    have hO6 := hO5.below hb6
    refine ⟨_, rfl, hO6, ?_⟩
    have hlen2 := congrArg List.length hlv
    simp only [List.length_append, List.length_cons] at hlen2
    refine SA.take (by kernel_rfl) 15 rfl (by kernel_rfl) (by kernel_rfl) rfl rfl (fun _ _ _ h => h) rfl hO6 (fun v hv => .move rfl rfl) ?_
    refine SA.take (by kernel_rfl) 16 rfl (by kernel_rfl) (by kernel_rfl) rfl rfl (fun _ _ _ h => h) rfl hO6 (fun v hv => .extract rfl rfl rfl) ?_
    refine SA.take (by kernel_rfl) 17 rfl (by kernel_rfl) (by kernel_rfl) rfl rfl (fun _ _ _ h => h) rfl hO6 (fun v hv => .extract rfl rfl rfl) ?_
    refine SA.take (by kernel_rfl) 18 rfl (by kernel_rfl) (by kernel_rfl) rfl rfl (fun _ _ _ h => h) rfl hO6 (fun v hv => .extract rfl rfl rfl) ?_
    refine SA.take (by kernel_rfl) 19 rfl (by kernel_rfl) (by kernel_rfl) rfl rfl (fun _ _ _ h => h) rfl hO6 (fun v hv => .extract rfl rfl rfl) ?_
    refine SA.take (by kernel_rfl) 20 rfl (by kernel_rfl) (by kernel_rfl) rfl rfl (fun _ _ _ h => h) rfl hO6 (fun v hv => .assign rfl rfl) ?_
    refine SA.take (by kernel_rfl) 21 rfl (by kernel_rfl) (by kernel_rfl) rfl rfl (fun _ _ _ h => h) rfl hO6 (fun v hv => .assign rfl rfl) ?_
    refine SA.take (by kernel_rfl) 22 rfl (by kernel_rfl) (by kernel_rfl) rfl rfl (fun _ _ _ h => h) rfl hO6 (fun v hv => .assign rfl rfl) ?_
    refine SA.take (by kernel_rfl) 23 rfl (by kernel_rfl) (by kernel_rfl) rfl rfl (fun _ _ _ h => h) rfl hO6 (fun v hv => .assign rfl rfl) ?_
    refine SA.done (by kernel_rfl) ?_
    refine SQ.then_normal ?_
    refine SC.seq ?_
    refine SC.region ?_
    refine SO.val rfl rfl rfl rfl (.move rfl rfl) ?_
    refine SO.val rfl rfl rfl rfl (.nilCheck rfl rfl) ?_
    refine SO.val rfl rfl rfl rfl (.fieldAddr rfl rfl fa228_0) ?_
    first | refine SO.val rfl rfl rfl rfl (.load rfl rfl ag208 (cell_of' (hO6.heapO trivial ot) rfl)) ?_ | refine SO.val rfl rfl rfl rfl (.load rfl rfl ag208 (cell_of' (hO6.heapO trivial o1) rfl)) ?_
    refine SO.val rfl rfl rfl rfl (.move rfl rfl) ?_
    refine SO.call rfl rfl rfl rfl (.callF rfl rfl en194) (join_o (some l) u _ _ _ (hO6.good hG) ⟨_, rfl, hl.below (hO6.toBelow trivial)⟩ hu (by rw [oL_some]; omega)) ?_
    rintro _ w7 ⟨p2, t2, rfl, ht2, hl2, _, hb7⟩
    have hO7 := hO6.below hb7
    refine ⟨_, rfl, ?_⟩
    refine SO.val rfl rfl rfl rfl (.move rfl rfl) ?_
    refine SO.val rfl rfl rfl rfl (.move rfl rfl) ?_
    refine SO.val rfl rfl rfl rfl (.move rfl rfl) ?_
    refine SO.val rfl rfl rfl rfl (.assign rfl rfl) ?_
    refine SO.val rfl rfl rfl rfl (.assign rfl rfl) ?_
    refine SO.val rfl rfl rfl rfl (.assign rfl rfl) ?_
    refine SO.val rfl rfl rfl rfl (.assign rfl rfl) ?_
    refine SO.nil ?_
    refine SQ.then_normal ?_
    refine SC.ret ?_
    refine SQ.out (.inl rfl) (res4 rfl rfl rfl rfl rfl) ?_
    first | exact ⟨p, p2, u, t2, s, k, rfl, hu.below (by assumption), ht2, by rw [hl2, oL_some]; simp only [RT.leaves]; rw [← hlv]; simp, hk, hks, fun h => by simp only [RT.txt, List.length_append] at h; omega, fun h hp => hbeg h (pos1_left hp), hO7.toBelow trivial⟩ | exact ⟨p2, q, t2, v, s, k, rfl, ht2, hv.below (by assumption), by rw [hl2, oL_some]; simp only [RT.leaves]; rw [← hlv]; simp, by rw [hl2, lenL_append, oL_some]; omega, hks, fun h => hend (by simp only [RT.txt, List.length_append] at h; omega), fun h hp => absurd (pos1_size hp) (by omega), hO7.toBelow trivial⟩

theorem part_all : ∀ (t : RT) (y : Nat) (a : Int) (w : World), Good w → t.At w y → 0 ≤ a → a ≤ t.txt.length → t.leaves.length ≤ 1099511627776 → t.txt.length ≤ 1099511627776 →
      Calls Tryz.prog 196 #[.pointer (some ⟨y, 0, none⟩), .int .i64 a] w (PartRes t a w)
  | .leaf s, y, a, w, hG, ht, h0, h1, _, _ => part_leaf s y a w hG ht ⟨h0, h1⟩
  | .knot l r, y, a, w, hG, ht, h0, h1, h2, h3 => by
    have e2 : l.leaves.length + r.leaves.length ≤ 1099511627776 := by simpa [RT.leaves] using h2
    have e3 : l.txt.length + r.txt.length ≤ 1099511627776 := by simpa [RT.txt] using h3
    exact part_knot l r y a w hG ht h0 h2 h3 h1 (fun y' a' w' g1 g2 g3 g4 => part_all l y' a' w' g1 g2 g3 g4 (by omega) (by omega)) (fun y' a' w' g1 g2 g3 g4 => part_all r y' a' w' g1 g2 g3 g4 (by omega) (by omega))

end Go.Proofs.YtclgplkkajfenaaGreatDoor
