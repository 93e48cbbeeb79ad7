/- rope.join. -/
import Derived.Test.YtclgplkkajfenaaGreatDoorRopb
namespace Go.Proofs.YtclgplkkajfenaaGreatDoor
open Go Go.RowKit Ow
set_option maxRecDepth 20000 in
set_option maxHeartbeats 400000 in
theorem join_step (l r : RT) (y1 y2 : Nat) (w : World) (hG : Good w) (hl : l.At w y1) (hr : r.At w y2) (h1 : l.leaves.length + r.leaves.length ≤ 1099511627776) (ih : ∀ (l' r' : RT) (y1 y2 : Nat) (w : World), l'.leaves.length + r'.leaves.length < l.leaves.length + r.leaves.length → Good w → l'.At w y1 → r'.At w y2 →
      Calls Tryz.prog 194 #[.pointer (some ⟨y1, 0, none⟩), .pointer (some ⟨y2, 0, none⟩)] w fun e w' => ∃ (b : Nat) (t : RT), e = .returned (.pointer (some ⟨b, 0, none⟩)) ∧ t.At w' b ∧ t.leaves = l'.leaves ++ r'.leaves ∧ Below w.heap.size w w') :
    Calls Tryz.prog 194 #[.pointer (some ⟨y1, 0, none⟩), .pointer (some ⟨y2, 0, none⟩)] w fun e w' => ∃ (b : Nat) (t : RT), e = .returned (.pointer (some ⟨b, 0, none⟩)) ∧ t.At w' b ∧ t.leaves = l.leaves ++ r.leaves ∧ Below w.heap.size w w' := by
  obtain ⟨p1, q1, s1, o1⟩ := hl.obj
  obtain ⟨p2, q2, s2, o2⟩ := hr.obj
  have hh1 := ht_le (t := l) (by omega)
  have hh2 := ht_le (t := r) (by omega)
  have hO0 := Own.start hG
  refine enter Tryz.func194 rfl rfl rfl 0 ?_
  refine SC.seq ?_
  refine SC.region ?_
  refine SO.val rfl rfl rfl rfl (.assign rfl rfl) ?_
  refine SO.nil ?_
  refine SQ.then_normal ?_
  refine SC.seq ?_
  refine SC.block ?_
  refine SC.seq ?_
  refine SC.region ?_
  refine SO.val rfl rfl rfl rfl (.move rfl rfl) ?_
  refine SO.val rfl rfl rfl rfl (.ptrEq (b := false) rfl rfl rfl Tryz.underlying208 rfl) ?_
  refine SO.val rfl rfl rfl rfl (.assign rfl rfl) ?_
  refine SO.nil ?_
  refine SQ.then_normal ?_
  refine SC.no rfl ?_
  refine SC.seq ?_
  refine SC.region ?_
  refine SO.val rfl rfl rfl rfl (.move rfl rfl) ?_
  refine SO.val rfl rfl rfl rfl (.ptrEq (b := false) rfl rfl rfl Tryz.underlying208 rfl) ?_
  refine SO.val rfl rfl rfl rfl (.assign rfl rfl) ?_
  refine SO.nil ?_
  refine SQ.then_normal ?_
  refine SC.no rfl ?_
  refine SC.seq ?_
  refine SC.drawO mixed hO0 (fun hO1 => ?_)
  refine SA.take (by kernel_rfl) 0 rfl (by kernel_rfl) (by kernel_rfl) rfl rfl (fun _ _ _ h => h) rfl hO1 (fun v hv => .move rfl rfl) ?_
  refine SA.take (by kernel_rfl) 1 rfl (by kernel_rfl) (by kernel_rfl) rfl rfl (fun _ _ _ h => h) rfl hO1 (fun v hv => .nilCheck rfl rfl) ?_
  refine SA.take (by kernel_rfl) 2 rfl (by kernel_rfl) (by kernel_rfl) rfl rfl (fun _ _ _ h => h) rfl hO1 (fun v hv => .fieldAddr rfl rfl fa228_2) ?_
  first | refine SA.take (by kernel_rfl) 3 rfl (by kernel_rfl) (by kernel_rfl) rfl rfl (fun _ _ _ h => h) rfl hO1 (fun v hv => .load rfl rfl ag3 (cell_of' (hv.heapO trivial ol) rfl)) ?_ | refine SA.take (by kernel_rfl) 3 rfl (by kernel_rfl) (by kernel_rfl) rfl rfl (fun _ _ _ h => h) rfl hO1 (fun v hv => .load rfl rfl ag3 (cell_of' (hv.heapO trivial or_) rfl)) ?_ | refine SA.take (by kernel_rfl) 3 rfl (by kernel_rfl) (by kernel_rfl) rfl rfl (fun _ _ _ h => h) rfl hO1 (fun v hv => .load rfl rfl ag3 (cell_of' (hv.heapO trivial olr2) rfl)) ?_ | refine SA.take (by kernel_rfl) 3 rfl (by kernel_rfl) (by kernel_rfl) rfl rfl (fun _ _ _ h => h) rfl hO1 (fun v hv => .load rfl rfl ag3 (cell_of' (hv.heapO trivial orl2) rfl)) ?_ | refine SA.take (by kernel_rfl) 3 rfl (by kernel_rfl) (by kernel_rfl) rfl rfl (fun _ _ _ h => h) rfl hO1 (fun v hv => .load rfl rfl ag3 (cell_of' (hv.heapO trivial oll) rfl)) ?_ | refine SA.take (by kernel_rfl) 3 rfl (by kernel_rfl) (by kernel_rfl) rfl rfl (fun _ _ _ h => h) rfl hO1 (fun v hv => .load rfl rfl ag3 (cell_of' (hv.heapO trivial olr) rfl)) ?_ | refine SA.take (by kernel_rfl) 3 rfl (by kernel_rfl) (by kernel_rfl) rfl rfl (fun _ _ _ h => h) rfl hO1 (fun v hv => .load rfl rfl ag3 (cell_of' (hv.heapO trivial orl) rfl)) ?_ | refine SA.take (by kernel_rfl) 3 rfl (by kernel_rfl) (by kernel_rfl) rfl rfl (fun _ _ _ h => h) rfl hO1 (fun v hv => .load rfl rfl ag3 (cell_of' (hv.heapO trivial orr) rfl)) ?_ | refine SA.take (by kernel_rfl) 3 rfl (by kernel_rfl) (by kernel_rfl) rfl rfl (fun _ _ _ h => h) rfl hO1 (fun v hv => .load rfl rfl ag3 (cell_of' (hv.heapO trivial o1) rfl)) ?_ | refine SA.take (by kernel_rfl) 3 rfl (by kernel_rfl) (by kernel_rfl) rfl rfl (fun _ _ _ h => h) rfl hO1 (fun v hv => .load rfl rfl ag3 (cell_of' (hv.heapO trivial o2) rfl)) ?_
  refine SA.take (by kernel_rfl) 4 rfl (by kernel_rfl) (by kernel_rfl) rfl rfl (fun _ _ _ h => h) rfl hO1 (fun v hv => .move rfl rfl) ?_
  refine SA.take (by kernel_rfl) 5 rfl (by kernel_rfl) (by kernel_rfl) rfl rfl (fun _ _ _ h => h) rfl hO1 (fun v hv => .nilCheck rfl rfl) ?_
  refine SA.take (by kernel_rfl) 6 rfl (by kernel_rfl) (by kernel_rfl) rfl rfl (fun _ _ _ h => h) rfl hO1 (fun v hv => .fieldAddr rfl rfl fa228_2) ?_
  first | refine SA.take (by kernel_rfl) 7 rfl (by kernel_rfl) (by kernel_rfl) rfl rfl (fun _ _ _ h => h) rfl hO1 (fun v hv => .load rfl rfl ag3 (cell_of' (hv.heapO trivial ol) rfl)) ?_ | refine SA.take (by kernel_rfl) 7 rfl (by kernel_rfl) (by kernel_rfl) rfl rfl (fun _ _ _ h => h) rfl hO1 (fun v hv => .load rfl rfl ag3 (cell_of' (hv.heapO trivial or_) rfl)) ?_ | refine SA.take (by kernel_rfl) 7 rfl (by kernel_rfl) (by kernel_rfl) rfl rfl (fun _ _ _ h => h) rfl hO1 (fun v hv => .load rfl rfl ag3 (cell_of' (hv.heapO trivial olr2) rfl)) ?_ | refine SA.take (by kernel_rfl) 7 rfl (by kernel_rfl) (by kernel_rfl) rfl rfl (fun _ _ _ h => h) rfl hO1 (fun v hv => .load rfl rfl ag3 (cell_of' (hv.heapO trivial orl2) rfl)) ?_ | refine SA.take (by kernel_rfl) 7 rfl (by kernel_rfl) (by kernel_rfl) rfl rfl (fun _ _ _ h => h) rfl hO1 (fun v hv => .load rfl rfl ag3 (cell_of' (hv.heapO trivial oll) rfl)) ?_ | refine SA.take (by kernel_rfl) 7 rfl (by kernel_rfl) (by kernel_rfl) rfl rfl (fun _ _ _ h => h) rfl hO1 (fun v hv => .load rfl rfl ag3 (cell_of' (hv.heapO trivial olr) rfl)) ?_ | refine SA.take (by kernel_rfl) 7 rfl (by kernel_rfl) (by kernel_rfl) rfl rfl (fun _ _ _ h => h) rfl hO1 (fun v hv => .load rfl rfl ag3 (cell_of' (hv.heapO trivial orl) rfl)) ?_ | refine SA.take (by kernel_rfl) 7 rfl (by kernel_rfl) (by kernel_rfl) rfl rfl (fun _ _ _ h => h) rfl hO1 (fun v hv => .load rfl rfl ag3 (cell_of' (hv.heapO trivial orr) rfl)) ?_ | refine SA.take (by kernel_rfl) 7 rfl (by kernel_rfl) (by kernel_rfl) rfl rfl (fun _ _ _ h => h) rfl hO1 (fun v hv => .load rfl rfl ag3 (cell_of' (hv.heapO trivial o1) rfl)) ?_ | refine SA.take (by kernel_rfl) 7 rfl (by kernel_rfl) (by kernel_rfl) rfl rfl (fun _ _ _ h => h) rfl hO1 (fun v hv => .load rfl rfl ag3 (cell_of' (hv.heapO trivial o2) rfl)) ?_
  refine SA.take (by kernel_rfl) 8 rfl (by kernel_rfl) (by kernel_rfl) rfl rfl (fun _ _ _ h => h) rfl hO1 (fun v hv => .add rfl rfl rfl (by omega)) ?_
  refine SA.take (by kernel_rfl) 9 rfl (by kernel_rfl) (by kernel_rfl) rfl rfl (fun _ _ _ h => h) rfl hO1 (fun v hv => .gtr rfl rfl rfl) ?_
  refine SA.take (by kernel_rfl) 10 rfl (by kernel_rfl) (by kernel_rfl) rfl rfl (fun _ _ _ h => h) rfl hO1 (fun v hv => .assign rfl rfl) ?_
  refine SA.done (by kernel_rfl) ?_
  refine SQ.then_normal ?_
  refine SC.dec rfl (fun c2 => ?_) (fun c2 => ?_)
  ·
    obtain ⟨ll, lr, rfl⟩ := of_high (t := l) (by omega)
    obtain ⟨xl, xr, ol, hll, hlr⟩ := hl
    obtain ⟨pl, ql, sl1, oll⟩ := hll.obj
    obtain ⟨pr, qr, sr1, olr⟩ := hlr.obj
    simp only [RT.leaves, List.length_append] at h1
    have e1 := ht_le (t := ll) (by omega)
    have e2 := ht_le (t := lr) (by omega)
    have q1 := ll.leaves_pos
    refine SC.seq ?_
    refine SC.drawO mixed hO1 (fun hO3 => ?_)
    refine SA.take (by kernel_rfl) 0 rfl (by kernel_rfl) (by kernel_rfl) rfl rfl (fun _ _ _ h => h) rfl hO3 (fun v hv => .move rfl rfl) ?_
    refine SA.take (by kernel_rfl) 1 rfl (by kernel_rfl) (by kernel_rfl) rfl rfl (fun _ _ _ h => h) rfl hO3 (fun v hv => .nilCheck rfl rfl) ?_
    refine SA.take (by kernel_rfl) 2 rfl (by kernel_rfl) (by kernel_rfl) rfl rfl (fun _ _ _ h => h) rfl hO3 (fun v hv => .fieldAddr rfl rfl fa228_0) ?_
    first | refine SA.take (by kernel_rfl) 3 rfl (by kernel_rfl) (by kernel_rfl) rfl rfl (fun _ _ _ h => h) rfl hO3 (fun v hv => .load rfl rfl ag208 (cell_of' (hv.heapO trivial ol) rfl)) ?_ | refine SA.take (by kernel_rfl) 3 rfl (by kernel_rfl) (by kernel_rfl) rfl rfl (fun _ _ _ h => h) rfl hO3 (fun v hv => .load rfl rfl ag208 (cell_of' (hv.heapO trivial or_) rfl)) ?_ | refine SA.take (by kernel_rfl) 3 rfl (by kernel_rfl) (by kernel_rfl) rfl rfl (fun _ _ _ h => h) rfl hO3 (fun v hv => .load rfl rfl ag208 (cell_of' (hv.heapO trivial olr2) rfl)) ?_ | refine SA.take (by kernel_rfl) 3 rfl (by kernel_rfl) (by kernel_rfl) rfl rfl (fun _ _ _ h => h) rfl hO3 (fun v hv => .load rfl rfl ag208 (cell_of' (hv.heapO trivial orl2) rfl)) ?_ | refine SA.take (by kernel_rfl) 3 rfl (by kernel_rfl) (by kernel_rfl) rfl rfl (fun _ _ _ h => h) rfl hO3 (fun v hv => .load rfl rfl ag208 (cell_of' (hv.heapO trivial oll) rfl)) ?_ | refine SA.take (by kernel_rfl) 3 rfl (by kernel_rfl) (by kernel_rfl) rfl rfl (fun _ _ _ h => h) rfl hO3 (fun v hv => .load rfl rfl ag208 (cell_of' (hv.heapO trivial olr) rfl)) ?_ | refine SA.take (by kernel_rfl) 3 rfl (by kernel_rfl) (by kernel_rfl) rfl rfl (fun _ _ _ h => h) rfl hO3 (fun v hv => .load rfl rfl ag208 (cell_of' (hv.heapO trivial orl) rfl)) ?_ | refine SA.take (by kernel_rfl) 3 rfl (by kernel_rfl) (by kernel_rfl) rfl rfl (fun _ _ _ h => h) rfl hO3 (fun v hv => .load rfl rfl ag208 (cell_of' (hv.heapO trivial orr) rfl)) ?_ | refine SA.take (by kernel_rfl) 3 rfl (by kernel_rfl) (by kernel_rfl) rfl rfl (fun _ _ _ h => h) rfl hO3 (fun v hv => .load rfl rfl ag208 (cell_of' (hv.heapO trivial o1) rfl)) ?_ | refine SA.take (by kernel_rfl) 3 rfl (by kernel_rfl) (by kernel_rfl) rfl rfl (fun _ _ _ h => h) rfl hO3 (fun v hv => .load rfl rfl ag208 (cell_of' (hv.heapO trivial o2) rfl)) ?_
    refine SA.take (by kernel_rfl) 4 rfl (by kernel_rfl) (by kernel_rfl) rfl rfl (fun _ _ _ h => h) rfl hO3 (fun v hv => .move rfl rfl) ?_
    refine SA.take (by kernel_rfl) 5 rfl (by kernel_rfl) (by kernel_rfl) rfl rfl (fun _ _ _ h => h) rfl hO3 (fun v hv => .nilCheck rfl rfl) ?_
    refine SA.take (by kernel_rfl) 6 rfl (by kernel_rfl) (by kernel_rfl) rfl rfl (fun _ _ _ h => h) rfl hO3 (fun v hv => .fieldAddr rfl rfl fa228_1) ?_
    first | refine SA.take (by kernel_rfl) 7 rfl (by kernel_rfl) (by kernel_rfl) rfl rfl (fun _ _ _ h => h) rfl hO3 (fun v hv => .load rfl rfl ag208 (cell_of' (hv.heapO trivial ol) rfl)) ?_ | refine SA.take (by kernel_rfl) 7 rfl (by kernel_rfl) (by kernel_rfl) rfl rfl (fun _ _ _ h => h) rfl hO3 (fun v hv => .load rfl rfl ag208 (cell_of' (hv.heapO trivial or_) rfl)) ?_ | refine SA.take (by kernel_rfl) 7 rfl (by kernel_rfl) (by kernel_rfl) rfl rfl (fun _ _ _ h => h) rfl hO3 (fun v hv => .load rfl rfl ag208 (cell_of' (hv.heapO trivial olr2) rfl)) ?_ | refine SA.take (by kernel_rfl) 7 rfl (by kernel_rfl) (by kernel_rfl) rfl rfl (fun _ _ _ h => h) rfl hO3 (fun v hv => .load rfl rfl ag208 (cell_of' (hv.heapO trivial orl2) rfl)) ?_ | refine SA.take (by kernel_rfl) 7 rfl (by kernel_rfl) (by kernel_rfl) rfl rfl (fun _ _ _ h => h) rfl hO3 (fun v hv => .load rfl rfl ag208 (cell_of' (hv.heapO trivial oll) rfl)) ?_ | refine SA.take (by kernel_rfl) 7 rfl (by kernel_rfl) (by kernel_rfl) rfl rfl (fun _ _ _ h => h) rfl hO3 (fun v hv => .load rfl rfl ag208 (cell_of' (hv.heapO trivial olr) rfl)) ?_ | refine SA.take (by kernel_rfl) 7 rfl (by kernel_rfl) (by kernel_rfl) rfl rfl (fun _ _ _ h => h) rfl hO3 (fun v hv => .load rfl rfl ag208 (cell_of' (hv.heapO trivial orl) rfl)) ?_ | refine SA.take (by kernel_rfl) 7 rfl (by kernel_rfl) (by kernel_rfl) rfl rfl (fun _ _ _ h => h) rfl hO3 (fun v hv => .load rfl rfl ag208 (cell_of' (hv.heapO trivial orr) rfl)) ?_ | refine SA.take (by kernel_rfl) 7 rfl (by kernel_rfl) (by kernel_rfl) rfl rfl (fun _ _ _ h => h) rfl hO3 (fun v hv => .load rfl rfl ag208 (cell_of' (hv.heapO trivial o1) rfl)) ?_ | refine SA.take (by kernel_rfl) 7 rfl (by kernel_rfl) (by kernel_rfl) rfl rfl (fun _ _ _ h => h) rfl hO3 (fun v hv => .load rfl rfl ag208 (cell_of' (hv.heapO trivial o2) rfl)) ?_
    refine SA.take (by kernel_rfl) 8 rfl (by kernel_rfl) (by kernel_rfl) rfl rfl (fun _ _ _ h => h) rfl hO3 (fun v hv => .move rfl rfl) ?_
    refine SA.one 9 (by kernel_rfl) ?_
    refine SB.call rfl rfl rfl rfl (.callF rfl rfl en194) (ih lr r _ _ _ (by simp only [RT.leaves, List.length_append]; omega) (hO3.good hG) (hlr.below (hO3.toBelow trivial)) (hr.below (hO3.toBelow trivial))) ?_
    rintro _ w4 ⟨bj, tj, rfl, htj, hlj, hb4⟩
    have hO4 := hO3.below hb4
    refine ⟨_, rfl, hO4, ?_⟩
    have e5 : tj.leaves.length = lr.leaves.length + r.leaves.length := by rw [hlj, List.length_append]
    refine SA.one 10 (by kernel_rfl) ?_
    refine SB.call rfl rfl rfl rfl (.callF rfl rfl en209) (balanced_any ll tj _ _ _ (hO4.good hG) (hll.below (hO4.toBelow trivial)) htj (by omega)) ?_
    rintro _ w5 ⟨bk, tk, rfl, htk, hlk, hb5⟩
    have hO5 := hO4.below hb5
    refine ⟨_, rfl, hO5, ?_⟩
    refine SA.take (by kernel_rfl) 11 rfl (by kernel_rfl) (by kernel_rfl) rfl rfl (fun _ _ _ h => h) rfl hO5 (fun v hv => .assign rfl rfl) ?_
    refine SA.done (by kernel_rfl) ?_
    refine SQ.then_normal ?_
    refine SC.ret ?_
    refine SQ.block_ret ?_
    refine SQ.then_ret ?_
    refine SQ.out (.inl rfl) (res1 rfl rfl) ?_
    first | exact ⟨_, _, rfl, htk, by rw [hlk, hlj]; simp only [RT.leaves, List.append_assoc], hO5.toBelow trivial⟩ | exact ⟨_, _, rfl, hnk1, by simp only [RT.leaves], hO5.toBelow trivial⟩
  ·
    refine SC.seq ?_
    refine SC.drawO mixed hO1 (fun hO7 => ?_)
    refine SA.take (by kernel_rfl) 0 rfl (by kernel_rfl) (by kernel_rfl) rfl rfl (fun _ _ _ h => h) rfl hO7 (fun v hv => .move rfl rfl) ?_
    refine SA.take (by kernel_rfl) 1 rfl (by kernel_rfl) (by kernel_rfl) rfl rfl (fun _ _ _ h => h) rfl hO7 (fun v hv => .nilCheck rfl rfl) ?_
    refine SA.take (by kernel_rfl) 2 rfl (by kernel_rfl) (by kernel_rfl) rfl rfl (fun _ _ _ h => h) rfl hO7 (fun v hv => .fieldAddr rfl rfl fa228_2) ?_
    first | refine SA.take (by kernel_rfl) 3 rfl (by kernel_rfl) (by kernel_rfl) rfl rfl (fun _ _ _ h => h) rfl hO7 (fun v hv => .load rfl rfl ag3 (cell_of' (hv.heapO trivial ol) rfl)) ?_ | refine SA.take (by kernel_rfl) 3 rfl (by kernel_rfl) (by kernel_rfl) rfl rfl (fun _ _ _ h => h) rfl hO7 (fun v hv => .load rfl rfl ag3 (cell_of' (hv.heapO trivial or_) rfl)) ?_ | refine SA.take (by kernel_rfl) 3 rfl (by kernel_rfl) (by kernel_rfl) rfl rfl (fun _ _ _ h => h) rfl hO7 (fun v hv => .load rfl rfl ag3 (cell_of' (hv.heapO trivial olr2) rfl)) ?_ | refine SA.take (by kernel_rfl) 3 rfl (by kernel_rfl) (by kernel_rfl) rfl rfl (fun _ _ _ h => h) rfl hO7 (fun v hv => .load rfl rfl ag3 (cell_of' (hv.heapO trivial orl2) rfl)) ?_ | refine SA.take (by kernel_rfl) 3 rfl (by kernel_rfl) (by kernel_rfl) rfl rfl (fun _ _ _ h => h) rfl hO7 (fun v hv => .load rfl rfl ag3 (cell_of' (hv.heapO trivial oll) rfl)) ?_ | refine SA.take (by kernel_rfl) 3 rfl (by kernel_rfl) (by kernel_rfl) rfl rfl (fun _ _ _ h => h) rfl hO7 (fun v hv => .load rfl rfl ag3 (cell_of' (hv.heapO trivial olr) rfl)) ?_ | refine SA.take (by kernel_rfl) 3 rfl (by kernel_rfl) (by kernel_rfl) rfl rfl (fun _ _ _ h => h) rfl hO7 (fun v hv => .load rfl rfl ag3 (cell_of' (hv.heapO trivial orl) rfl)) ?_ | refine SA.take (by kernel_rfl) 3 rfl (by kernel_rfl) (by kernel_rfl) rfl rfl (fun _ _ _ h => h) rfl hO7 (fun v hv => .load rfl rfl ag3 (cell_of' (hv.heapO trivial orr) rfl)) ?_ | refine SA.take (by kernel_rfl) 3 rfl (by kernel_rfl) (by kernel_rfl) rfl rfl (fun _ _ _ h => h) rfl hO7 (fun v hv => .load rfl rfl ag3 (cell_of' (hv.heapO trivial o1) rfl)) ?_ | refine SA.take (by kernel_rfl) 3 rfl (by kernel_rfl) (by kernel_rfl) rfl rfl (fun _ _ _ h => h) rfl hO7 (fun v hv => .load rfl rfl ag3 (cell_of' (hv.heapO trivial o2) rfl)) ?_
    refine SA.take (by kernel_rfl) 4 rfl (by kernel_rfl) (by kernel_rfl) rfl rfl (fun _ _ _ h => h) rfl hO7 (fun v hv => .move rfl rfl) ?_
    refine SA.take (by kernel_rfl) 5 rfl (by kernel_rfl) (by kernel_rfl) rfl rfl (fun _ _ _ h => h) rfl hO7 (fun v hv => .nilCheck rfl rfl) ?_
    refine SA.take (by kernel_rfl) 6 rfl (by kernel_rfl) (by kernel_rfl) rfl rfl (fun _ _ _ h => h) rfl hO7 (fun v hv => .fieldAddr rfl rfl fa228_2) ?_
    first | refine SA.take (by kernel_rfl) 7 rfl (by kernel_rfl) (by kernel_rfl) rfl rfl (fun _ _ _ h => h) rfl hO7 (fun v hv => .load rfl rfl ag3 (cell_of' (hv.heapO trivial ol) rfl)) ?_ | refine SA.take (by kernel_rfl) 7 rfl (by kernel_rfl) (by kernel_rfl) rfl rfl (fun _ _ _ h => h) rfl hO7 (fun v hv => .load rfl rfl ag3 (cell_of' (hv.heapO trivial or_) rfl)) ?_ | refine SA.take (by kernel_rfl) 7 rfl (by kernel_rfl) (by kernel_rfl) rfl rfl (fun _ _ _ h => h) rfl hO7 (fun v hv => .load rfl rfl ag3 (cell_of' (hv.heapO trivial olr2) rfl)) ?_ | refine SA.take (by kernel_rfl) 7 rfl (by kernel_rfl) (by kernel_rfl) rfl rfl (fun _ _ _ h => h) rfl hO7 (fun v hv => .load rfl rfl ag3 (cell_of' (hv.heapO trivial orl2) rfl)) ?_ | refine SA.take (by kernel_rfl) 7 rfl (by kernel_rfl) (by kernel_rfl) rfl rfl (fun _ _ _ h => h) rfl hO7 (fun v hv => .load rfl rfl ag3 (cell_of' (hv.heapO trivial oll) rfl)) ?_ | refine SA.take (by kernel_rfl) 7 rfl (by kernel_rfl) (by kernel_rfl) rfl rfl (fun _ _ _ h => h) rfl hO7 (fun v hv => .load rfl rfl ag3 (cell_of' (hv.heapO trivial olr) rfl)) ?_ | refine SA.take (by kernel_rfl) 7 rfl (by kernel_rfl) (by kernel_rfl) rfl rfl (fun _ _ _ h => h) rfl hO7 (fun v hv => .load rfl rfl ag3 (cell_of' (hv.heapO trivial orl) rfl)) ?_ | refine SA.take (by kernel_rfl) 7 rfl (by kernel_rfl) (by kernel_rfl) rfl rfl (fun _ _ _ h => h) rfl hO7 (fun v hv => .load rfl rfl ag3 (cell_of' (hv.heapO trivial orr) rfl)) ?_ | refine SA.take (by kernel_rfl) 7 rfl (by kernel_rfl) (by kernel_rfl) rfl rfl (fun _ _ _ h => h) rfl hO7 (fun v hv => .load rfl rfl ag3 (cell_of' (hv.heapO trivial o1) rfl)) ?_ | refine SA.take (by kernel_rfl) 7 rfl (by kernel_rfl) (by kernel_rfl) rfl rfl (fun _ _ _ h => h) rfl hO7 (fun v hv => .load rfl rfl ag3 (cell_of' (hv.heapO trivial o2) rfl)) ?_
    refine SA.take (by kernel_rfl) 8 rfl (by kernel_rfl) (by kernel_rfl) rfl rfl (fun _ _ _ h => h) rfl hO7 (fun v hv => .add rfl rfl rfl (by omega)) ?_
    refine SA.take (by kernel_rfl) 9 rfl (by kernel_rfl) (by kernel_rfl) rfl rfl (fun _ _ _ h => h) rfl hO7 (fun v hv => .gtr rfl rfl rfl) ?_
    refine SA.take (by kernel_rfl) 10 rfl (by kernel_rfl) (by kernel_rfl) rfl rfl (fun _ _ _ h => h) rfl hO7 (fun v hv => .assign rfl rfl) ?_
    refine SA.done (by kernel_rfl) ?_
    refine SQ.then_normal ?_
    refine SC.dec rfl (fun c8 => ?_) (fun c8 => ?_)
    ·
      obtain ⟨rl, rr, rfl⟩ := of_high (t := r) (by omega)
      obtain ⟨zl, zr, or_, hrl, hrr⟩ := hr
      obtain ⟨pl, ql, sl1, orl⟩ := hrl.obj
      obtain ⟨pr, qr, sr1, orr⟩ := hrr.obj
      simp only [RT.leaves, List.length_append] at h1
      have e1 := ht_le (t := rl) (by omega)
      have e2 := ht_le (t := rr) (by omega)
      have q2 := rr.leaves_pos
      refine SC.seq ?_
      refine SC.drawO mixed hO7 (fun hO9 => ?_)
      refine SA.take (by kernel_rfl) 0 rfl (by kernel_rfl) (by kernel_rfl) rfl rfl (fun _ _ _ h => h) rfl hO9 (fun v hv => .move rfl rfl) ?_
      refine SA.take (by kernel_rfl) 1 rfl (by kernel_rfl) (by kernel_rfl) rfl rfl (fun _ _ _ h => h) rfl hO9 (fun v hv => .move rfl rfl) ?_
      refine SA.take (by kernel_rfl) 2 rfl (by kernel_rfl) (by kernel_rfl) rfl rfl (fun _ _ _ h => h) rfl hO9 (fun v hv => .nilCheck rfl rfl) ?_
      refine SA.take (by kernel_rfl) 3 rfl (by kernel_rfl) (by kernel_rfl) rfl rfl (fun _ _ _ h => h) rfl hO9 (fun v hv => .fieldAddr rfl rfl fa228_0) ?_
      first | refine SA.take (by kernel_rfl) 4 rfl (by kernel_rfl) (by kernel_rfl) rfl rfl (fun _ _ _ h => h) rfl hO9 (fun v hv => .load rfl rfl ag208 (cell_of' (hv.heapO trivial ol) rfl)) ?_ | refine SA.take (by kernel_rfl) 4 rfl (by kernel_rfl) (by kernel_rfl) rfl rfl (fun _ _ _ h => h) rfl hO9 (fun v hv => .load rfl rfl ag208 (cell_of' (hv.heapO trivial or_) rfl)) ?_ | refine SA.take (by kernel_rfl) 4 rfl (by kernel_rfl) (by kernel_rfl) rfl rfl (fun _ _ _ h => h) rfl hO9 (fun v hv => .load rfl rfl ag208 (cell_of' (hv.heapO trivial olr2) rfl)) ?_ | refine SA.take (by kernel_rfl) 4 rfl (by kernel_rfl) (by kernel_rfl) rfl rfl (fun _ _ _ h => h) rfl hO9 (fun v hv => .load rfl rfl ag208 (cell_of' (hv.heapO trivial orl2) rfl)) ?_ | refine SA.take (by kernel_rfl) 4 rfl (by kernel_rfl) (by kernel_rfl) rfl rfl (fun _ _ _ h => h) rfl hO9 (fun v hv => .load rfl rfl ag208 (cell_of' (hv.heapO trivial oll) rfl)) ?_ | refine SA.take (by kernel_rfl) 4 rfl (by kernel_rfl) (by kernel_rfl) rfl rfl (fun _ _ _ h => h) rfl hO9 (fun v hv => .load rfl rfl ag208 (cell_of' (hv.heapO trivial olr) rfl)) ?_ | refine SA.take (by kernel_rfl) 4 rfl (by kernel_rfl) (by kernel_rfl) rfl rfl (fun _ _ _ h => h) rfl hO9 (fun v hv => .load rfl rfl ag208 (cell_of' (hv.heapO trivial orl) rfl)) ?_ | refine SA.take (by kernel_rfl) 4 rfl (by kernel_rfl) (by kernel_rfl) rfl rfl (fun _ _ _ h => h) rfl hO9 (fun v hv => .load rfl rfl ag208 (cell_of' (hv.heapO trivial orr) rfl)) ?_ | refine SA.take (by kernel_rfl) 4 rfl (by kernel_rfl) (by kernel_rfl) rfl rfl (fun _ _ _ h => h) rfl hO9 (fun v hv => .load rfl rfl ag208 (cell_of' (hv.heapO trivial o1) rfl)) ?_ | refine SA.take (by kernel_rfl) 4 rfl (by kernel_rfl) (by kernel_rfl) rfl rfl (fun _ _ _ h => h) rfl hO9 (fun v hv => .load rfl rfl ag208 (cell_of' (hv.heapO trivial o2) rfl)) ?_
      refine SA.take (by kernel_rfl) 6 rfl (by kernel_rfl) (by kernel_rfl) rfl rfl (fun _ _ _ h => h) rfl hO9 (fun v hv => .move rfl rfl) ?_
      refine SA.take (by kernel_rfl) 7 rfl (by kernel_rfl) (by kernel_rfl) rfl rfl (fun _ _ _ h => h) rfl hO9 (fun v hv => .nilCheck rfl rfl) ?_
      refine SA.take (by kernel_rfl) 8 rfl (by kernel_rfl) (by kernel_rfl) rfl rfl (fun _ _ _ h => h) rfl hO9 (fun v hv => .fieldAddr rfl rfl fa228_1) ?_
      first | refine SA.take (by kernel_rfl) 9 rfl (by kernel_rfl) (by kernel_rfl) rfl rfl (fun _ _ _ h => h) rfl hO9 (fun v hv => .load rfl rfl ag208 (cell_of' (hv.heapO trivial ol) rfl)) ?_ | refine SA.take (by kernel_rfl) 9 rfl (by kernel_rfl) (by kernel_rfl) rfl rfl (fun _ _ _ h => h) rfl hO9 (fun v hv => .load rfl rfl ag208 (cell_of' (hv.heapO trivial or_) rfl)) ?_ | refine SA.take (by kernel_rfl) 9 rfl (by kernel_rfl) (by kernel_rfl) rfl rfl (fun _ _ _ h => h) rfl hO9 (fun v hv => .load rfl rfl ag208 (cell_of' (hv.heapO trivial olr2) rfl)) ?_ | refine SA.take (by kernel_rfl) 9 rfl (by kernel_rfl) (by kernel_rfl) rfl rfl (fun _ _ _ h => h) rfl hO9 (fun v hv => .load rfl rfl ag208 (cell_of' (hv.heapO trivial orl2) rfl)) ?_ | refine SA.take (by kernel_rfl) 9 rfl (by kernel_rfl) (by kernel_rfl) rfl rfl (fun _ _ _ h => h) rfl hO9 (fun v hv => .load rfl rfl ag208 (cell_of' (hv.heapO trivial oll) rfl)) ?_ | refine SA.take (by kernel_rfl) 9 rfl (by kernel_rfl) (by kernel_rfl) rfl rfl (fun _ _ _ h => h) rfl hO9 (fun v hv => .load rfl rfl ag208 (cell_of' (hv.heapO trivial olr) rfl)) ?_ | refine SA.take (by kernel_rfl) 9 rfl (by kernel_rfl) (by kernel_rfl) rfl rfl (fun _ _ _ h => h) rfl hO9 (fun v hv => .load rfl rfl ag208 (cell_of' (hv.heapO trivial orl) rfl)) ?_ | refine SA.take (by kernel_rfl) 9 rfl (by kernel_rfl) (by kernel_rfl) rfl rfl (fun _ _ _ h => h) rfl hO9 (fun v hv => .load rfl rfl ag208 (cell_of' (hv.heapO trivial orr) rfl)) ?_ | refine SA.take (by kernel_rfl) 9 rfl (by kernel_rfl) (by kernel_rfl) rfl rfl (fun _ _ _ h => h) rfl hO9 (fun v hv => .load rfl rfl ag208 (cell_of' (hv.heapO trivial o1) rfl)) ?_ | refine SA.take (by kernel_rfl) 9 rfl (by kernel_rfl) (by kernel_rfl) rfl rfl (fun _ _ _ h => h) rfl hO9 (fun v hv => .load rfl rfl ag208 (cell_of' (hv.heapO trivial o2) rfl)) ?_
      refine SA.one 5 (by kernel_rfl) ?_
      refine SB.call rfl rfl rfl rfl (.callF rfl rfl en194) (ih l rl _ _ _ (by simp only [RT.leaves, List.length_append]; omega) (hO9.good hG) (hl.below (hO9.toBelow trivial)) (hrl.below (hO9.toBelow trivial))) ?_
      rintro _ w10 ⟨bj, tj, rfl, htj, hlj, hb10⟩
      have hO10 := hO9.below hb10
      refine ⟨_, rfl, hO10, ?_⟩
      have e5 : tj.leaves.length = l.leaves.length + rl.leaves.length := by rw [hlj, List.length_append]
      refine SA.one 10 (by kernel_rfl) ?_
      refine SB.call rfl rfl rfl rfl (.callF rfl rfl en209) (balanced_any tj rr _ _ _ (hO10.good hG) htj (hrr.below (hO10.toBelow trivial)) (by omega)) ?_
      rintro _ w11 ⟨bk, tk, rfl, htk, hlk, hb11⟩
      have hO11 := hO10.below hb11
      refine ⟨_, rfl, hO11, ?_⟩
      refine SA.take (by kernel_rfl) 11 rfl (by kernel_rfl) (by kernel_rfl) rfl rfl (fun _ _ _ h => h) rfl hO11 (fun v hv => .assign rfl rfl) ?_
      refine SA.done (by kernel_rfl) ?_
      refine SQ.then_normal ?_
      refine SC.ret ?_
      refine SQ.block_ret ?_
      refine SQ.then_ret ?_
      refine SQ.out (.inl rfl) (res1 rfl rfl) ?_
      first | exact ⟨_, _, rfl, htk, by rw [hlk, hlj]; simp only [RT.leaves, List.append_assoc], hO11.toBelow trivial⟩ | exact ⟨_, _, rfl, hnk1, by simp only [RT.leaves], hO11.toBelow trivial⟩
    ·
      refine SC.skip ?_
      refine SQ.block_normal ?_
      refine SQ.then_normal ?_
      refine SC.seq ?_
      refine SC.region ?_
      refine SO.val rfl rfl rfl rfl (.move rfl rfl) ?_
      refine SO.val rfl rfl rfl rfl (.move rfl rfl) ?_
      refine SO.call rfl rfl rfl rfl (.callF rfl rfl en210) (knot_any (l) (r) _ _ _ (hO7.good hG) (hl.below (hO7.toBelow trivial)) (hr.below (hO7.toBelow trivial)) (by first | omega | (simp only [RT.ht]; omega)) (by first | omega | (simp only [RT.ht]; omega))) ?_
      rintro _ w13 ⟨k1, rfl, hk1, hnk1, hb13⟩
      have hO13 := hO7.below hb13
      refine ⟨_, rfl, ?_⟩
      refine SO.val rfl rfl rfl rfl (.assign rfl rfl) ?_
      refine SO.nil ?_
      refine SQ.then_normal ?_
      refine SC.ret ?_
      refine SQ.out (.inl rfl) (res1 rfl rfl) ?_
      first | exact ⟨_, _, rfl, htk, by rw [hlk, hlj]; simp only [RT.leaves, List.append_assoc], hO13.toBelow trivial⟩ | exact ⟨_, _, rfl, hnk1, by simp only [RT.leaves], hO13.toBelow trivial⟩

set_option maxRecDepth 20000 in
set_option maxHeartbeats 400000 in
theorem join_nl (p : Option Addr) (w : World) (hG : Good w) :
    Calls Tryz.prog 194 #[.pointer none, .pointer p] w fun e w' => e = .returned (.pointer p) ∧ Below w.heap.size w w' := by
  have hO0 := Own.start hG
  refine enter Tryz.func194 rfl rfl rfl 0 ?_
  refine SC.seq ?_
  refine SC.region ?_
  refine SO.val rfl rfl rfl rfl (.assign rfl rfl) ?_
  refine SO.nil ?_
  refine SQ.then_normal ?_
  refine SC.seq ?_
  refine SC.block ?_
  refine SC.seq ?_
  refine SC.region ?_
  refine SO.val rfl rfl rfl rfl (.move rfl rfl) ?_
  refine SO.val rfl rfl rfl rfl (.ptrEq (b := true) rfl rfl rfl Tryz.underlying208 rfl) ?_
  refine SO.val rfl rfl rfl rfl (.assign rfl rfl) ?_
  refine SO.nil ?_
  refine SQ.then_normal ?_
  refine SC.yes rfl ?_
  refine SC.seq ?_
  refine SC.region ?_
  refine SO.val rfl rfl rfl rfl (.move rfl rfl) ?_
  refine SO.val rfl rfl rfl rfl (.assign rfl rfl) ?_
  refine SO.nil ?_
  refine SQ.then_normal ?_
  refine SC.ret ?_
  refine SQ.block_ret ?_
  refine SQ.then_ret ?_
  refine SQ.out (.inl rfl) (res1 rfl rfl) ?_
  exact ⟨rfl, hO0.toBelow trivial⟩

set_option maxRecDepth 20000 in
set_option maxHeartbeats 400000 in
theorem join_nr (y : Nat) (w : World) (hG : Good w) :
    Calls Tryz.prog 194 #[.pointer (some ⟨y, 0, none⟩), .pointer none] w fun e w' => e = .returned (.pointer (some ⟨y, 0, none⟩)) ∧ Below w.heap.size w w' := by
  have hO0 := Own.start hG
  refine enter Tryz.func194 rfl rfl rfl 0 ?_
  refine SC.seq ?_
  refine SC.region ?_
  refine SO.val rfl rfl rfl rfl (.assign rfl rfl) ?_
  refine SO.nil ?_
  refine SQ.then_normal ?_
  refine SC.seq ?_
  refine SC.block ?_
  refine SC.seq ?_
  refine SC.region ?_
  refine SO.val rfl rfl rfl rfl (.move rfl rfl) ?_
  refine SO.val rfl rfl rfl rfl (.ptrEq (b := false) rfl rfl rfl Tryz.underlying208 rfl) ?_
  refine SO.val rfl rfl rfl rfl (.assign rfl rfl) ?_
  refine SO.nil ?_
  refine SQ.then_normal ?_
  refine SC.no rfl ?_
  refine SC.seq ?_
  refine SC.region ?_
  refine SO.val rfl rfl rfl rfl (.move rfl rfl) ?_
  refine SO.val rfl rfl rfl rfl (.ptrEq (b := true) rfl rfl rfl Tryz.underlying208 rfl) ?_
  refine SO.val rfl rfl rfl rfl (.assign rfl rfl) ?_
  refine SO.nil ?_
  refine SQ.then_normal ?_
  refine SC.yes rfl ?_
  refine SC.seq ?_
  refine SC.region ?_
  refine SO.val rfl rfl rfl rfl (.move rfl rfl) ?_
  refine SO.val rfl rfl rfl rfl (.assign rfl rfl) ?_
  refine SO.nil ?_
  refine SQ.then_normal ?_
  refine SC.ret ?_
  refine SQ.block_ret ?_
  refine SQ.then_ret ?_
  refine SQ.out (.inl rfl) (res1 rfl rfl) ?_
  exact ⟨rfl, hO0.toBelow trivial⟩

theorem join_all : ∀ (n : Nat) (l r : RT) (y1 y2 : Nat) (w : World), l.leaves.length + r.leaves.length ≤ n → n ≤ 1099511627776 → Good w → l.At w y1 → r.At w y2 →
      Calls Tryz.prog 194 #[.pointer (some ⟨y1, 0, none⟩), .pointer (some ⟨y2, 0, none⟩)] w fun e w' => ∃ (b : Nat) (t : RT), e = .returned (.pointer (some ⟨b, 0, none⟩)) ∧ t.At w' b ∧ t.leaves = l.leaves ++ r.leaves ∧ Below w.heap.size w w'
  | 0, l, r, _, _, _, h, _, _, _, _ => by have := l.leaves_pos; omega
  | n + 1, l, r, y1, y2, w, h, hn, hG, hl, hr => join_step l r y1 y2 w hG hl hr (by omega) fun l' r' y1' y2' w' hlt hG' hl' hr' => join_all n l' r' y1' y2' w' (by omega) (by omega) hG' hl' hr'
theorem join_o (l r : Option RT) (p q : Option Addr) (w : World) (hG : Good w) (hl : OAt w l p) (hr : OAt w r q) (hn : (oL l).length + (oL r).length ≤ 1099511627776) :
    Calls Tryz.prog 194 #[.pointer p, .pointer q] w fun e w' => ∃ (p' : Option Addr) (t' : Option RT), e = .returned (.pointer p') ∧ OAt w' t' p' ∧ oL t' = oL l ++ oL r ∧ (r.isSome = true → t'.isSome = true) ∧ Below w.heap.size w w' := by
  cases l with
  | none =>
    cases hl
    refine (join_nl q w hG).mono ?_
    rintro e w' ⟨rfl, hb⟩
    exact ⟨q, r, rfl, hr.below hb, rfl, fun h => h, hb⟩
  | some l =>
    obtain ⟨b, rfl, hl⟩ := hl
    cases r with
    | none =>
      cases hr
      refine (join_nr b w hG).mono ?_
      rintro e w' ⟨rfl, hb⟩
      exact ⟨_, some l, rfl, ⟨b, rfl, hl.below hb⟩, by simp [oL], fun _ => rfl, hb⟩
    | some r =>
      obtain ⟨c, rfl, hr⟩ := hr
      refine (join_all _ l r b c w (Nat.le_refl _) hn hG hl hr).mono ?_
      rintro e w' ⟨d, t, rfl, h1, h2, hb⟩
      exact ⟨_, some t, rfl, ⟨d, rfl, h1⟩, h2, fun _ => rfl, hb⟩
/-! What the numbers of a tree say -/
theorem aw_in {x y : Int} (h : -9223372036854775808 ≤ x + y ∧ x + y ≤ 9223372036854775807) : aw x y = x + y := by unfold aw; exact IntWalk.i64_in _ h
theorem join2_b {a b : Smy} (h : -9223372036854775808 ≤ a.b + b.b ∧ a.b + b.b ≤ 9223372036854775807) : (joinL zS [a, b]).b = a.b + b.b := by
  show (if (if zS = zS then a else pairS zS a) = zS then b else pairS (if zS = zS then a else pairS zS a) b).b = _
  rw [if_pos rfl]
  split
  · rename_i e; rw [e]; simp [zS]
  · exact aw_in h
theorem join2_nl {a b : Smy} (h : -9223372036854775808 ≤ a.nl + b.nl ∧ a.nl + b.nl ≤ 9223372036854775807) : (joinL zS [a, b]).nl = a.nl + b.nl := by
  show (if (if zS = zS then a else pairS zS a) = zS then b else pairS (if zS = zS then a else pairS zS a) b).nl = _
  rw [if_pos rfl]
  split
  · rename_i e; rw [e]; simp [zS]
  · exact aw_in h
theorem nlC_append (a b : Bs) : nlC (a ++ b) = nlC a + nlC b := by simp [nlC, Lib.countByte, List.count_append]
theorem nlC_le (a : Bs) : nlC a ≤ a.length := by simp only [nlC, Lib.countByte]; exact List.count_le_length
theorem RT.sm_b : ∀ t : RT, t.txt.length ≤ 4611686018427387904 → t.sm.b = t.txt.length
  | .leaf s, _ => rfl
  | .knot l r, h => by
    simp only [RT.txt, List.length_append] at h ⊢
    have h1 := l.sm_b (by omega); have h2 := r.sm_b (by omega)
    rw [RT.sm, join2_b (by omega), h1, h2]; omega
theorem RT.sm_nl : ∀ t : RT, t.txt.length ≤ 4611686018427387904 → t.sm.nl = nlC t.txt
  | .leaf s, _ => rfl
  | .knot l r, h => by
    simp only [RT.txt, List.length_append] at h ⊢
    have h1 := l.sm_nl (by omega); have h2 := r.sm_nl (by omega)
    have h3 := nlC_le l.txt; have h4 := nlC_le r.txt
    rw [RT.sm, join2_nl (by omega), h1, h2, nlC_append]; omega

end Go.Proofs.YtclgplkkajfenaaGreatDoor
