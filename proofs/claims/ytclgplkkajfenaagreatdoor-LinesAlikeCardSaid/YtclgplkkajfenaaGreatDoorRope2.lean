/- rope: what asks. -/
import Derived.Test.YtclgplkkajfenaaGreatDoorBld
namespace Go.Proofs.YtclgplkkajfenaaGreatDoor
open Go Go.RowKit Ow
/-- A piece of a text, its ends clamped. -/
def pc (l : Bs) (a c : Int) : Bs := (l.take (min c (l.length : Int)).toNat).drop (max a 0).toNat
theorem pc_nil {l : Bs} {a c : Int} (h : max a 0 ≥ min c (l.length : Int)) : pc l a c = [] := by
  unfold pc; exact List.drop_of_length_le (by simp; omega)
theorem pc_clamp (l : Bs) (a c : Int) : pc l (max a 0) (min c (l.length : Int)) = pc l a c := by
  unfold pc; congr 2 <;> omega
theorem pc_append (l1 l2 : Bs) (a c : Int) : pc (l1 ++ l2) a c = pc l1 a c ++ pc l2 (a - l1.length) (c - l1.length) := by
  unfold pc
  rw [List.length_append, List.take_append, List.drop_append]
  by_cases h : c ≤ (l1.length : Int)
  · have e1 : (min c ((l1.length + l2.length : Nat) : Int)).toNat = (min c (l1.length : Int)).toNat := by omega
    have e2 : (min (c - l1.length) (l2.length : Int)).toNat = 0 := by omega
    have e3 : (min c (l1.length : Int)).toNat - l1.length = 0 := by omega
    rw [e1, e2, e3]; simp
  · have e1 : (min c (l1.length : Int)).toNat = l1.length := by omega
    have e2 : (min c ((l1.length + l2.length : Nat) : Int)).toNat - l1.length = (min (c - l1.length) (l2.length : Int)).toNat := by omega
    rw [e2, e1, List.take_of_length_le (i := (min c ((l1.length + l2.length : Nat) : Int)).toNat) (by omega), List.take_of_length_le (Nat.le_refl _)]
    congr 2
    omega
theorem pc_length (l : Bs) (a c : Int) : (pc l a c).length ≤ l.length := by unfold pc; simp; omega
theorem pc_str (s : ByteArray) (a c : Int) (h0 : 0 ≤ a) (h1 : c ≤ s.size) : bl (s.extract a.toNat c.toNat) = pc (bl s) a c := by
  unfold pc; rw [bl_extract, bl_length]; congr 2 <;> omega

theorem isB_below {B b : Nat} {bs : List Value} {w w' : World} (h : Lib.IsBuilder 274 5 B b bs w) (hb : Below w.heap.size w w') : Lib.IsBuilder 274 5 B b bs w' := by
  rcases h with ⟨h1, v, h2, h3, h4⟩ | ⟨h1, v, h2, h3, h4⟩
  · exact .inl ⟨h1, v, (hb.block b (lt_of_heap h2)).trans h2, row_below h3 hb, h4⟩
  · exact .inr ⟨h1, v, (hb.block b (lt_of_heap h2)).trans h2, row_below h3 hb, h4⟩

set_option maxRecDepth 20000 in
set_option maxHeartbeats 400000 in
theorem tree_any (b y : Nat) (w : World) (hG : Good w) (hrb : w.heap[b]? = some (.cells [.pointer (some ⟨y, 0, none⟩)].toArray 211 (0, 0))) :
    Calls Tryz.prog 270 #[.pointer (some ⟨b, 0, none⟩)] w fun e w' => e = .returned (.pointer (some ⟨y, 0, none⟩)) ∧ Below w.heap.size w w' := by
  have hO0 := Own.start hG
  refine enter Tryz.func270 rfl rfl rfl 0 ?_
  refine SC.seq ?_
  refine SC.region ?_
  refine SO.val rfl rfl rfl rfl (.assign rfl rfl) ?_
  refine SO.nil ?_
  refine SQ.then_normal ?_
  refine SC.seq ?_
  refine SC.seq ?_
  refine SC.region ?_
  refine SO.val rfl rfl rfl rfl (.move rfl rfl) ?_
  refine SO.val rfl rfl rfl rfl (.ptrEq (b := false) rfl rfl rfl Tryz.underlying193 rfl) ?_
  refine SO.val rfl rfl rfl rfl (.move rfl rfl) ?_
  refine SO.val rfl rfl rfl rfl (.move rfl rfl) ?_
  refine SO.val rfl rfl rfl rfl (.nilCheck rfl rfl) ?_
  refine SO.val rfl rfl rfl rfl (.fieldAddr rfl rfl fa211_0) ?_
  refine SO.val rfl rfl rfl rfl (.load rfl rfl ag208 (cell_of' (hO0.heapO trivial hrb) rfl)) ?_
  refine SO.val rfl rfl rfl rfl (.ptrEq (b := false) rfl rfl rfl Tryz.underlying208 rfl) ?_
  refine SO.val rfl rfl rfl rfl (.pickF rfl rfl rfl) ?_
  refine SO.nil ?_
  refine SQ.then_normal ?_
  refine SC.no rfl ?_
  refine SC.skip ?_
  refine SQ.then_normal ?_
  refine SC.seq ?_
  refine SC.region ?_
  refine SO.val rfl rfl rfl rfl (.move rfl rfl) ?_
  refine SO.val rfl rfl rfl rfl (.nilCheck rfl rfl) ?_
  refine SO.val rfl rfl rfl rfl (.fieldAddr rfl rfl fa211_0) ?_
  refine SO.val rfl rfl rfl rfl (.load rfl rfl ag208 (cell_of' (hO0.heapO trivial hrb) rfl)) ?_
  refine SO.val rfl rfl rfl rfl (.assign rfl rfl) ?_
  refine SO.nil ?_
  refine SQ.then_normal ?_
  refine SC.ret ?_
  refine SQ.out (.inl rfl) (res1 rfl rfl) ?_
  exact ⟨rfl, hO0.toBelow trivial⟩

set_option maxRecDepth 20000 in
set_option maxHeartbeats 400000 in
theorem rope_len (b : Nat) (s : ByteArray) (w : World) (hG : Good w) (hr : RopeAt w b s) (hz : s.size ≤ 1099511627776) :
    Calls Tryz.prog 266 #[.pointer (some ⟨b, 0, none⟩)] w fun e w' => e = .returned (.int .i64 (s.size : Int)) ∧ Below w.heap.size w w' := by
  obtain ⟨y, t, hrb, htr, htx, hwf⟩ := hr
  have htl : t.txt.length = s.size := by rw [htx, bl_length]
  have hsb := t.sm_b (by omega)
  obtain ⟨pp, qq, ss, on⟩ := htr.obj
  have hO0 := Own.start hG
  refine enter Tryz.func266 rfl rfl rfl 0 ?_
  refine SC.seq ?_
  refine SC.region ?_
  refine SO.val rfl rfl rfl rfl (.assign rfl rfl) ?_
  refine SO.nil ?_
  refine SQ.then_normal ?_
  refine SC.seq ?_
  refine SC.region ?_
  refine SO.val rfl rfl rfl rfl (.move rfl rfl) ?_
  refine SO.call rfl rfl rfl rfl (.callF rfl rfl en270) (tree_any b y _ (hO0.good hG) (hO0.heapO trivial hrb)) ?_
  rintro _ w1 ⟨rfl, hb1⟩
  have hO1 := hO0.below hb1
  refine ⟨_, rfl, ?_⟩
  refine SO.val rfl rfl rfl rfl (.nilCheck rfl rfl) ?_
  refine SO.val rfl rfl rfl rfl (.fieldAddr rfl rfl fa228_3) ?_
  refine SO.val rfl rfl rfl rfl (.fieldAddr rfl rfl fa91_0) ?_
  refine SO.val rfl rfl rfl rfl (.load rfl rfl ag3 (cell_of' (hO1.heapO trivial on) rfl)) ?_
  refine SO.val rfl rfl rfl rfl (.assign rfl rfl) ?_
  refine SO.nil ?_
  refine SQ.then_normal ?_
  refine SC.ret ?_
  refine SQ.out (.inl rfl) (res1 rfl rfl) ?_
  exact ⟨(show Ending.returned (.int .i64 t.sm.b) = _ by rw [hsb, htl]), hO1.toBelow trivial⟩

set_option maxRecDepth 20000 in
set_option maxHeartbeats 400000 in
theorem rope_within (b : Nat) (s : ByteArray) (a c : Int) (w : World) (hG : Good w) (hr : RopeAt w b s) (hz : s.size ≤ 1099511627776) :
    Calls Tryz.prog 271 #[.pointer (some ⟨b, 0, none⟩), .int .i64 a, .int .i64 c] w fun e w' => e = .returned (.bool (decide (¬ bad s a c))) ∧ Below w.heap.size w w' := by
  have hO0 := Own.start hG
  refine enter Tryz.func271 rfl rfl rfl 0 ?_
  refine SC.seq ?_
  refine SC.region ?_
  refine SO.val rfl rfl rfl rfl (.assign rfl rfl) ?_
  refine SO.nil ?_
  refine SQ.then_normal ?_
  refine SC.seq ?_
  refine SC.region ?_
  refine SO.val rfl rfl rfl rfl (.move rfl rfl) ?_
  refine SO.val rfl rfl rfl rfl (.geq rfl rfl rfl) ?_
  refine SO.val rfl rfl rfl rfl (.move rfl rfl) ?_
  refine SO.dec 9 rfl (fun g1 => ?_) (fun g1 => ?_)
  ·
    refine SO.val rfl rfl rfl rfl (.move rfl rfl) ?_
    refine SO.val rfl rfl rfl rfl (.move rfl rfl) ?_
    refine SO.val rfl rfl rfl rfl (.geq rfl rfl rfl) ?_
    refine SO.val rfl rfl rfl rfl (.pickT rfl rfl rfl) ?_
    refine SO.val rfl rfl rfl rfl (.move rfl rfl) ?_
    refine SO.dec 14 rfl (fun g2 => ?_) (fun g2 => ?_)
    ·
      refine SO.val rfl rfl rfl rfl (.move rfl rfl) ?_
      refine SO.val rfl rfl rfl rfl (.move rfl rfl) ?_
      refine SO.call rfl rfl rfl rfl (.callF rfl rfl en266) (rope_len b s _ (hO0.good hG) (hr.below (hO0.toBelow trivial)) hz) ?_
      rintro _ w3 ⟨rfl, hb3⟩
      have hO3 := hO0.below hb3
      refine ⟨_, rfl, ?_⟩
      refine SO.val rfl rfl rfl rfl (.leq rfl rfl rfl) ?_
      refine SO.val rfl rfl rfl rfl (.pickT rfl rfl rfl) ?_
      refine SO.val rfl rfl rfl rfl (.assign rfl rfl) ?_
      refine SO.nil ?_
      refine SQ.then_normal ?_
      refine SC.ret ?_
      refine SQ.out (.inl rfl) (res1 rfl rfl) ?_
      refine ⟨?_, hO3.toBelow trivial⟩
      first | (rw [decide_eq_false (by unfold bad; omega)]) | (congr 2; exact decide_eq_decide.2 (by unfold bad; omega))
    ·
      refine SO.pass rfl rfl rfl ?_
      refine SO.pass rfl rfl rfl ?_
      refine SO.pass rfl rfl rfl ?_
      refine SO.pass rfl rfl rfl ?_
      refine SO.val rfl rfl rfl rfl (.pickF rfl rfl rfl) ?_
      refine SO.val rfl rfl rfl rfl (.assign rfl rfl) ?_
      refine SO.nil ?_
      refine SQ.then_normal ?_
      refine SC.ret ?_
      refine SQ.out (.inl rfl) (res1 rfl rfl) ?_
      refine ⟨?_, hO0.toBelow trivial⟩
      first | (rw [decide_eq_false (by unfold bad; omega)]) | (congr 2; exact decide_eq_decide.2 (by unfold bad; omega))
  ·
    refine SO.pass rfl rfl rfl ?_
    refine SO.pass rfl rfl rfl ?_
    refine SO.pass rfl rfl rfl ?_
    refine SO.val rfl rfl rfl rfl (.pickF rfl rfl rfl) ?_
    refine SO.val rfl rfl rfl rfl (.move rfl rfl) ?_
    refine SO.pass rfl rfl rfl ?_
    refine SO.pass rfl rfl rfl ?_
    refine SO.pass rfl rfl rfl ?_
    refine SO.pass rfl rfl rfl ?_
    refine SO.val rfl rfl rfl rfl (.pickF rfl rfl rfl) ?_
    refine SO.val rfl rfl rfl rfl (.assign rfl rfl) ?_
    refine SO.nil ?_
    refine SQ.then_normal ?_
    refine SC.ret ?_
    refine SQ.out (.inl rfl) (res1 rfl rfl) ?_
    refine ⟨?_, hO0.toBelow trivial⟩
    first | (rw [decide_eq_false (by unfold bad; omega)]) | (congr 2; exact decide_eq_decide.2 (by unfold bad; omega))

set_option maxRecDepth 20000 in
set_option maxHeartbeats 400000 in
theorem nslice_leaf (w0 : World) (s : ByteArray) (y : Nat) (h0 : (RT.leaf s).At w0 y) (b : Nat) (l0 : Bs) (a c : Int) (w : World) (hG : Good w) (hbw : Below w0.heap.size w0 w) (h2 : 2 ≤ w0.heap.size) (hb : Lib.IsBuilder 274 5 w0.heap.size b (Lib.byteCells l0) w) (hn : -1152921504606846976 ≤ a ∧ a ≤ 1152921504606846976 ∧ -1152921504606846976 ≤ c ∧ c ≤ 1152921504606846976) (hl : l0.length + s.size ≤ 70368744177664) :
    Calls Tryz.prog 273 #[.pointer (some ⟨y, 0, none⟩), .pointer (some ⟨b, 0, none⟩), .int .i64 a, .int .i64 c] w fun e w' => e = .returned (.tuple #[]) ∧ Lib.IsBuilder 274 5 w0.heap.size b (Lib.byteCells (l0 ++ pc (RT.leaf s).txt a c)) w' ∧ Below w0.heap.size w w' := by
  have ht := h0.below hbw
  have on : w.heap[y]? = some (.cells (ndC none none 0 (measS s) s).toArray 228 (0, 0)) := ht
  have hmb : (measS s).b = s.size := rfl
  have hO0 := Own.start hG
  refine enter Tryz.func273 rfl rfl rfl 0 ?_
  refine SC.seq ?_
  refine SC.drawO mixed hO0 (fun hO1 => ?_)
  refine SA.take (by kernel_rfl) 0 rfl (by kernel_rfl) (by kernel_rfl) rfl rfl (fun _ _ _ h => h) rfl hO1 (fun v hv => .move rfl rfl) ?_
  refine SA.take (by kernel_rfl) 1 rfl (by kernel_rfl) (by kernel_rfl) rfl rfl (fun _ _ _ h => h) rfl hO1 (fun v hv => .maxI rfl rfl rfl) ?_
  refine SA.take (by kernel_rfl) 2 rfl (by kernel_rfl) (by kernel_rfl) rfl rfl (fun _ _ _ h => h) rfl hO1 (fun v hv => .move rfl rfl) ?_
  refine SA.take (by kernel_rfl) 3 rfl (by kernel_rfl) (by kernel_rfl) rfl rfl (fun _ _ _ h => h) rfl hO1 (fun v hv => .move rfl rfl) ?_
  refine SA.take (by kernel_rfl) 4 rfl (by kernel_rfl) (by kernel_rfl) rfl rfl (fun _ _ _ h => h) rfl hO1 (fun v hv => .nilCheck rfl rfl) ?_
  refine SA.take (by kernel_rfl) 5 rfl (by kernel_rfl) (by kernel_rfl) rfl rfl (fun _ _ _ h => h) rfl hO1 (fun v hv => .fieldAddr rfl rfl fa228_3) ?_
  refine SA.take (by kernel_rfl) 6 rfl (by kernel_rfl) (by kernel_rfl) rfl rfl (fun _ _ _ h => h) rfl hO1 (fun v hv => .fieldAddr rfl rfl fa91_0) ?_
  refine SA.take (by kernel_rfl) 7 rfl (by kernel_rfl) (by kernel_rfl) rfl rfl (fun _ _ _ h => h) rfl hO1 (fun v hv => .load rfl rfl ag3 (cell_of' (hv.heapO trivial on) rfl)) ?_
  refine SA.take (by kernel_rfl) 8 rfl (by kernel_rfl) (by kernel_rfl) rfl rfl (fun _ _ _ h => h) rfl hO1 (fun v hv => .minI rfl rfl rfl) ?_
  refine SA.take (by kernel_rfl) 9 rfl (by kernel_rfl) (by kernel_rfl) rfl rfl (fun _ _ _ h => h) rfl hO1 (fun v hv => .assign rfl rfl) ?_
  refine SA.take (by kernel_rfl) 10 rfl (by kernel_rfl) (by kernel_rfl) rfl rfl (fun _ _ _ h => h) rfl hO1 (fun v hv => .assign rfl rfl) ?_
  refine SA.done (by kernel_rfl) ?_
  refine SQ.then_normal ?_
  refine SC.seq ?_
  refine SC.seq ?_
  refine SC.region ?_
  refine SO.val rfl rfl rfl rfl (.move rfl rfl) ?_
  refine SO.val rfl rfl rfl rfl (.move rfl rfl) ?_
  refine SO.val rfl rfl rfl rfl (.geq rfl rfl rfl) ?_
  refine SO.nil ?_
  refine SQ.then_normal ?_
  refine SC.dec rfl (fun c2 => ?_) (fun c2 => ?_)
  ·
    refine SC.ret ?_
    refine SQ.then_ret ?_
    refine SQ.out (.inl rfl) (res0 rfl) ?_
    first | exact ⟨rfl, by rw [show (RT.leaf s).txt = bl s from rfl, pc_nil (by rw [bl_length]; omega), List.append_nil]; exact isB_below hb (hO1.toBelow trivial), (hO1.toBelow trivial).mono hbw.size⟩ | exact ⟨rfl, by rw [show (RT.leaf s).txt = bl s from rfl, ← pc_clamp, bl_length, ← pc_str s _ _ (by omega) (by omega)]; exact hb2, hbl3⟩
  ·
    refine SC.skip ?_
    refine SQ.then_normal ?_
    refine SC.seq ?_
    refine SC.seq ?_
    refine SC.region ?_
    refine SO.val rfl rfl rfl rfl (.move rfl rfl) ?_
    refine SO.val rfl rfl rfl rfl (.nilCheck rfl rfl) ?_
    refine SO.val rfl rfl rfl rfl (.fieldAddr rfl rfl fa228_0) ?_
    refine SO.val rfl rfl rfl rfl (.load rfl rfl ag208 (cell_of' (hO1.heapO trivial on) rfl)) ?_
    refine SO.val rfl rfl rfl rfl (.ptrEq (b := true) rfl rfl rfl Tryz.underlying208 rfl) ?_
    refine SO.nil ?_
    refine SQ.then_normal ?_
    refine SC.yes rfl ?_
    refine SC.seq ?_
    refine SC.region ?_
    refine SO.val rfl rfl rfl rfl (.move rfl rfl) ?_
    refine SO.val rfl rfl rfl rfl (.move rfl rfl) ?_
    refine SO.val rfl rfl rfl rfl (.nilCheck rfl rfl) ?_
    refine SO.val rfl rfl rfl rfl (.fieldAddr rfl rfl fa228_4) ?_
    refine SO.val rfl rfl rfl rfl (.load rfl rfl ag9 (cell_of' (hO1.heapO trivial on) rfl)) ?_
    refine SO.val rfl rfl rfl rfl (.move rfl rfl) ?_
    refine SO.val rfl rfl rfl rfl (.move rfl rfl) ?_
    refine SO.val rfl rfl rfl rfl (.sliceLH rfl rfl rfl rfl Tryz.underlying9 (by omega)) ?_
    refine SO.call rfl rfl rfl rfl (.callF rfl rfl en275) (writeString_any w0.heap.size b l0 _ _ (hO1.good hG) h2 (Nat.le_trans hbw.size (hO1.toBelow trivial).size) (isB_below hb (hO1.toBelow trivial)) (by simp only [ByteArray.size_extract]; omega)) ?_
    rintro _ w4 ⟨rfl, hb2, hbl2⟩
    have hG2 := (hO1.good hG).mono hbl2 h2
    have hbl3 := ((hO1.toBelow trivial).mono hbw.size).trans hbl2
    have hO4 := Own.start hG2
    refine ⟨_, rfl, ?_⟩
    refine SO.nil ?_
    refine SQ.then_normal ?_
    refine SC.ret ?_
    refine SQ.then_ret ?_
    refine SQ.out (.inl rfl) (res0 rfl) ?_
    first | exact ⟨rfl, by rw [show (RT.leaf s).txt = bl s from rfl, pc_nil (by rw [bl_length]; omega), List.append_nil]; exact isB_below hb (hO4.toBelow trivial), (hO4.toBelow trivial).mono hbw.size⟩ | exact ⟨rfl, by rw [show (RT.leaf s).txt = bl s from rfl, ← pc_clamp, bl_length, ← pc_str s _ _ (by omega) (by omega)]; exact hb2, hbl3⟩

set_option maxRecDepth 20000 in
set_option maxHeartbeats 400000 in
theorem nslice_knot (w0 : World) (l r : RT) (y : Nat) (h0 : (RT.knot l r).At w0 y) (b : Nat) (l0 : Bs) (a c : Int) (w : World) (hG : Good w) (hbw : Below w0.heap.size w0 w) (h2 : 2 ≤ w0.heap.size) (hb : Lib.IsBuilder 274 5 w0.heap.size b (Lib.byteCells l0) w) (hn : -1152921504606846976 ≤ a ∧ a ≤ 1152921504606846976 ∧ -1152921504606846976 ≤ c ∧ c ≤ 1152921504606846976) (hl : l0.length + (RT.knot l r).txt.length ≤ 70368744177664) (ihl : ∀ (y b : Nat) (l0 : Bs) (a c : Int) (w : World), l.At w0 y → Good w → Below w0.heap.size w0 w → Lib.IsBuilder 274 5 w0.heap.size b (Lib.byteCells l0) w → (-1152921504606846976 ≤ a ∧ a ≤ 1152921504606846976 ∧ -1152921504606846976 ≤ c ∧ c ≤ 1152921504606846976) → l0.length + l.txt.length ≤ 70368744177664 →
      Calls Tryz.prog 273 #[.pointer (some ⟨y, 0, none⟩), .pointer (some ⟨b, 0, none⟩), .int .i64 a, .int .i64 c] w fun e w' => e = .returned (.tuple #[]) ∧ Lib.IsBuilder 274 5 w0.heap.size b (Lib.byteCells (l0 ++ pc l.txt a c)) w' ∧ Below w0.heap.size w w') (ihr : ∀ (y b : Nat) (l0 : Bs) (a c : Int) (w : World), r.At w0 y → Good w → Below w0.heap.size w0 w → Lib.IsBuilder 274 5 w0.heap.size b (Lib.byteCells l0) w → (-1152921504606846976 ≤ a ∧ a ≤ 1152921504606846976 ∧ -1152921504606846976 ≤ c ∧ c ≤ 1152921504606846976) → l0.length + r.txt.length ≤ 70368744177664 →
      Calls Tryz.prog 273 #[.pointer (some ⟨y, 0, none⟩), .pointer (some ⟨b, 0, none⟩), .int .i64 a, .int .i64 c] w fun e w' => e = .returned (.tuple #[]) ∧ Lib.IsBuilder 274 5 w0.heap.size b (Lib.byteCells (l0 ++ pc r.txt a c)) w' ∧ Below w0.heap.size w w') :
    Calls Tryz.prog 273 #[.pointer (some ⟨y, 0, none⟩), .pointer (some ⟨b, 0, none⟩), .int .i64 a, .int .i64 c] w fun e w' => e = .returned (.tuple #[]) ∧ Lib.IsBuilder 274 5 w0.heap.size b (Lib.byteCells (l0 ++ pc (RT.knot l r).txt a c)) w' ∧ Below w0.heap.size w w' := by
  obtain ⟨xl, xr, on0, hl0, hr0⟩ := h0
  have on := (hbw.block y (lt_of_heap on0)).trans on0
  obtain ⟨pl, ql, sl1, onl0⟩ := hl0.obj
  have onl := (hbw.block xl (lt_of_heap onl0)).trans onl0
  simp only [RT.txt, List.length_append] at hl
  have hsb := (RT.knot l r).sm_b (by simp only [RT.txt, List.length_append]; omega)
  have hsl := l.sm_b (by omega)
  have htt : (RT.knot l r).txt.length = l.txt.length + r.txt.length := by simp [RT.txt]
  have hO0 := Own.start hG
  refine enter Tryz.func273 rfl rfl rfl 0 ?_
  refine SC.seq ?_
  refine SC.drawO mixed hO0 (fun hO1 => ?_)
  refine SA.take (by kernel_rfl) 0 rfl (by kernel_rfl) (by kernel_rfl) rfl rfl (fun _ _ _ h => h) rfl hO1 (fun v hv => .move rfl rfl) ?_
  refine SA.take (by kernel_rfl) 1 rfl (by kernel_rfl) (by kernel_rfl) rfl rfl (fun _ _ _ h => h) rfl hO1 (fun v hv => .maxI rfl rfl rfl) ?_
  refine SA.take (by kernel_rfl) 2 rfl (by kernel_rfl) (by kernel_rfl) rfl rfl (fun _ _ _ h => h) rfl hO1 (fun v hv => .move rfl rfl) ?_
  refine SA.take (by kernel_rfl) 3 rfl (by kernel_rfl) (by kernel_rfl) rfl rfl (fun _ _ _ h => h) rfl hO1 (fun v hv => .move rfl rfl) ?_
  refine SA.take (by kernel_rfl) 4 rfl (by kernel_rfl) (by kernel_rfl) rfl rfl (fun _ _ _ h => h) rfl hO1 (fun v hv => .nilCheck rfl rfl) ?_
  refine SA.take (by kernel_rfl) 5 rfl (by kernel_rfl) (by kernel_rfl) rfl rfl (fun _ _ _ h => h) rfl hO1 (fun v hv => .fieldAddr rfl rfl fa228_3) ?_
  refine SA.take (by kernel_rfl) 6 rfl (by kernel_rfl) (by kernel_rfl) rfl rfl (fun _ _ _ h => h) rfl hO1 (fun v hv => .fieldAddr rfl rfl fa91_0) ?_
  first | refine SA.take (by kernel_rfl) 7 rfl (by kernel_rfl) (by kernel_rfl) rfl rfl (fun _ _ _ h => h) rfl hO1 (fun v hv => .load rfl rfl ag3 (cell_of' (hv.heapO trivial on) rfl)) ?_ | refine SA.take (by kernel_rfl) 7 rfl (by kernel_rfl) (by kernel_rfl) rfl rfl (fun _ _ _ h => h) rfl hO1 (fun v hv => .load rfl rfl ag3 (cell_of' (hv.heapO trivial onl) rfl)) ?_ | refine SA.take (by kernel_rfl) 7 rfl (by kernel_rfl) (by kernel_rfl) rfl rfl (fun _ _ _ h => h) rfl hO1 (fun v hv => .load rfl rfl ag3 (cell_of' (hv.heapO trivial on2) rfl)) ?_ | refine SA.take (by kernel_rfl) 7 rfl (by kernel_rfl) (by kernel_rfl) rfl rfl (fun _ _ _ h => h) rfl hO1 (fun v hv => .load rfl rfl ag3 (cell_of' (hv.heapO trivial onl2) rfl)) ?_
  refine SA.take (by kernel_rfl) 8 rfl (by kernel_rfl) (by kernel_rfl) rfl rfl (fun _ _ _ h => h) rfl hO1 (fun v hv => .minI rfl rfl rfl) ?_
  refine SA.take (by kernel_rfl) 9 rfl (by kernel_rfl) (by kernel_rfl) rfl rfl (fun _ _ _ h => h) rfl hO1 (fun v hv => .assign rfl rfl) ?_
  refine SA.take (by kernel_rfl) 10 rfl (by kernel_rfl) (by kernel_rfl) rfl rfl (fun _ _ _ h => h) rfl hO1 (fun v hv => .assign rfl rfl) ?_
  refine SA.done (by kernel_rfl) ?_
  refine SQ.then_normal ?_
  refine SC.seq ?_
  refine SC.seq ?_
  refine SC.region ?_
  refine SO.val rfl rfl rfl rfl (.move rfl rfl) ?_
  refine SO.val rfl rfl rfl rfl (.move rfl rfl) ?_
  refine SO.val rfl rfl rfl rfl (.geq rfl rfl rfl) ?_
  refine SO.nil ?_
  refine SQ.then_normal ?_
  refine SC.dec rfl (fun c2 => ?_) (fun c2 => ?_)
  ·
    refine SC.ret ?_
    refine SQ.then_ret ?_
    refine SQ.out (.inl rfl) (res0 rfl) ?_
    first | exact ⟨rfl, by rw [pc_nil (by omega), List.append_nil]; exact isB_below hb (hO1.toBelow trivial), (hO1.toBelow trivial).mono hbw.size⟩ | exact ⟨rfl, by rw [← pc_clamp, ← hsb, show (RT.knot l r).txt = l.txt ++ r.txt from rfl, pc_append, ← List.append_assoc, ← hsl]; exact hb3, hbl5⟩
  ·
    refine SC.skip ?_
    refine SQ.then_normal ?_
    refine SC.seq ?_
    refine SC.seq ?_
    refine SC.region ?_
    refine SO.val rfl rfl rfl rfl (.move rfl rfl) ?_
    refine SO.val rfl rfl rfl rfl (.nilCheck rfl rfl) ?_
    refine SO.val rfl rfl rfl rfl (.fieldAddr rfl rfl fa228_0) ?_
    first | refine SO.val rfl rfl rfl rfl (.load rfl rfl ag208 (cell_of' (hO1.heapO trivial on) rfl)) ?_ | refine SO.val rfl rfl rfl rfl (.load rfl rfl ag208 (cell_of' (hO1.heapO trivial onl) rfl)) ?_ | refine SO.val rfl rfl rfl rfl (.load rfl rfl ag208 (cell_of' (hO1.heapO trivial on2) rfl)) ?_ | refine SO.val rfl rfl rfl rfl (.load rfl rfl ag208 (cell_of' (hO1.heapO trivial onl2) rfl)) ?_
    refine SO.val rfl rfl rfl rfl (.ptrEq (b := false) rfl rfl rfl Tryz.underlying208 rfl) ?_
    refine SO.nil ?_
    refine SQ.then_normal ?_
    refine SC.no rfl ?_
    refine SC.skip ?_
    refine SQ.then_normal ?_
    refine SC.seq ?_
    refine SC.region ?_
    refine SO.val rfl rfl rfl rfl (.move rfl rfl) ?_
    refine SO.val rfl rfl rfl rfl (.nilCheck rfl rfl) ?_
    refine SO.val rfl rfl rfl rfl (.fieldAddr rfl rfl fa228_0) ?_
    first | refine SO.val rfl rfl rfl rfl (.load rfl rfl ag208 (cell_of' (hO1.heapO trivial on) rfl)) ?_ | refine SO.val rfl rfl rfl rfl (.load rfl rfl ag208 (cell_of' (hO1.heapO trivial onl) rfl)) ?_ | refine SO.val rfl rfl rfl rfl (.load rfl rfl ag208 (cell_of' (hO1.heapO trivial on2) rfl)) ?_ | refine SO.val rfl rfl rfl rfl (.load rfl rfl ag208 (cell_of' (hO1.heapO trivial onl2) rfl)) ?_
    refine SO.val rfl rfl rfl rfl (.move rfl rfl) ?_
    refine SO.val rfl rfl rfl rfl (.move rfl rfl) ?_
    refine SO.val rfl rfl rfl rfl (.move rfl rfl) ?_
    refine SO.call rfl rfl rfl rfl (.callF rfl rfl en273) (ihl _ b l0 _ _ _ hl0 (hO1.good hG) (hbw.trans ((hO1.toBelow trivial).mono hbw.size)) (isB_below hb (hO1.toBelow trivial)) (by omega) (by omega)) ?_
    rintro _ w4 ⟨rfl, hb2, hbl2⟩
    have hG2 := (hO1.good hG).mono hbl2 h2
    have hbl3 := ((hO1.toBelow trivial).mono hbw.size).trans hbl2
    have hbw2 := hbw.trans hbl3
    have on2 := (hbw2.block y (lt_of_heap on0)).trans on0
    have hpl := pc_length l.txt (max a 0) (min c (RT.knot l r).sm.b)
    have hO4 := Own.start hG2
    refine ⟨_, rfl, ?_⟩
    refine SO.nil ?_
    refine SQ.then_normal ?_
    have hbX := hbw2
    have onlS : ∀ {v : World}, Below w0.heap.size w0 v → v.heap[xl]? = some (.cells (ndC pl ql l.ht l.sm sl1).toArray 228 (0, 0)) := fun hv => (hv.block xl (lt_of_heap onl0)).trans onl0
    refine SC.draw mixed (fun v => Below w0.heap.size w0 v) ?_
    have hO5 := Own.drew hO4
    refine SA.take (by kernel_rfl) 0 rfl (by kernel_rfl) (by kernel_rfl) rfl rfl (fun _ _ _ h => h) rfl (hbX.trans ((hO5.toBelow trivial).mono hbX.size)) (fun v hv => .move rfl rfl) ?_
    refine SA.take (by kernel_rfl) 1 rfl (by kernel_rfl) (by kernel_rfl) rfl rfl (fun _ _ _ h => h) rfl (hbX.trans ((hO5.toBelow trivial).mono hbX.size)) (fun v hv => .nilCheck rfl rfl) ?_
    refine SA.take (by kernel_rfl) 2 rfl (by kernel_rfl) (by kernel_rfl) rfl rfl (fun _ _ _ h => h) rfl (hbX.trans ((hO5.toBelow trivial).mono hbX.size)) (fun v hv => .fieldAddr rfl rfl fa228_1) ?_
    first | refine SA.take (by kernel_rfl) 3 rfl (by kernel_rfl) (by kernel_rfl) rfl rfl (fun _ _ _ h => h) rfl (hbX.trans ((hO5.toBelow trivial).mono hbX.size)) (fun v hv => .load rfl rfl ag208 (cell_of' ((hv.block y (lt_of_heap on0)).trans on0) rfl)) ?_ | refine SA.take (by kernel_rfl) 3 rfl (by kernel_rfl) (by kernel_rfl) rfl rfl (fun _ _ _ h => h) rfl (hbX.trans ((hO5.toBelow trivial).mono hbX.size)) (fun v hv => .load rfl rfl ag208 (cell_of' (onlS hv) rfl)) ?_
    refine SA.take (by kernel_rfl) 4 rfl (by kernel_rfl) (by kernel_rfl) rfl rfl (fun _ _ _ h => h) rfl (hbX.trans ((hO5.toBelow trivial).mono hbX.size)) (fun v hv => .move rfl rfl) ?_
    refine SA.take (by kernel_rfl) 5 rfl (by kernel_rfl) (by kernel_rfl) rfl rfl (fun _ _ _ h => h) rfl (hbX.trans ((hO5.toBelow trivial).mono hbX.size)) (fun v hv => .move rfl rfl) ?_
    refine SA.take (by kernel_rfl) 6 rfl (by kernel_rfl) (by kernel_rfl) rfl rfl (fun _ _ _ h => h) rfl (hbX.trans ((hO5.toBelow trivial).mono hbX.size)) (fun v hv => .move rfl rfl) ?_
    refine SA.take (by kernel_rfl) 7 rfl (by kernel_rfl) (by kernel_rfl) rfl rfl (fun _ _ _ h => h) rfl (hbX.trans ((hO5.toBelow trivial).mono hbX.size)) (fun v hv => .nilCheck rfl rfl) ?_
    refine SA.take (by kernel_rfl) 8 rfl (by kernel_rfl) (by kernel_rfl) rfl rfl (fun _ _ _ h => h) rfl (hbX.trans ((hO5.toBelow trivial).mono hbX.size)) (fun v hv => .fieldAddr rfl rfl fa228_0) ?_
    first | refine SA.take (by kernel_rfl) 9 rfl (by kernel_rfl) (by kernel_rfl) rfl rfl (fun _ _ _ h => h) rfl (hbX.trans ((hO5.toBelow trivial).mono hbX.size)) (fun v hv => .load rfl rfl ag208 (cell_of' ((hv.block y (lt_of_heap on0)).trans on0) rfl)) ?_ | refine SA.take (by kernel_rfl) 9 rfl (by kernel_rfl) (by kernel_rfl) rfl rfl (fun _ _ _ h => h) rfl (hbX.trans ((hO5.toBelow trivial).mono hbX.size)) (fun v hv => .load rfl rfl ag208 (cell_of' (onlS hv) rfl)) ?_
    refine SA.take (by kernel_rfl) 10 rfl (by kernel_rfl) (by kernel_rfl) rfl rfl (fun _ _ _ h => h) rfl (hbX.trans ((hO5.toBelow trivial).mono hbX.size)) (fun v hv => .nilCheck rfl rfl) ?_
    refine SA.take (by kernel_rfl) 11 rfl (by kernel_rfl) (by kernel_rfl) rfl rfl (fun _ _ _ h => h) rfl (hbX.trans ((hO5.toBelow trivial).mono hbX.size)) (fun v hv => .fieldAddr rfl rfl fa228_3) ?_
    refine SA.take (by kernel_rfl) 12 rfl (by kernel_rfl) (by kernel_rfl) rfl rfl (fun _ _ _ h => h) rfl (hbX.trans ((hO5.toBelow trivial).mono hbX.size)) (fun v hv => .fieldAddr rfl rfl fa91_0) ?_
    first | refine SA.take (by kernel_rfl) 13 rfl (by kernel_rfl) (by kernel_rfl) rfl rfl (fun _ _ _ h => h) rfl (hbX.trans ((hO5.toBelow trivial).mono hbX.size)) (fun v hv => .load rfl rfl ag3 (cell_of' ((hv.block y (lt_of_heap on0)).trans on0) rfl)) ?_ | refine SA.take (by kernel_rfl) 13 rfl (by kernel_rfl) (by kernel_rfl) rfl rfl (fun _ _ _ h => h) rfl (hbX.trans ((hO5.toBelow trivial).mono hbX.size)) (fun v hv => .load rfl rfl ag3 (cell_of' (onlS hv) rfl)) ?_
    refine SA.take (by kernel_rfl) 14 rfl (by kernel_rfl) (by kernel_rfl) rfl rfl (fun _ _ _ h => h) rfl (hbX.trans ((hO5.toBelow trivial).mono hbX.size)) (fun v hv => .sub rfl rfl rfl (by omega)) ?_
    refine SA.take (by kernel_rfl) 15 rfl (by kernel_rfl) (by kernel_rfl) rfl rfl (fun _ _ _ h => h) rfl (hbX.trans ((hO5.toBelow trivial).mono hbX.size)) (fun v hv => .move rfl rfl) ?_
    refine SA.take (by kernel_rfl) 16 rfl (by kernel_rfl) (by kernel_rfl) rfl rfl (fun _ _ _ h => h) rfl (hbX.trans ((hO5.toBelow trivial).mono hbX.size)) (fun v hv => .move rfl rfl) ?_
    refine SA.take (by kernel_rfl) 17 rfl (by kernel_rfl) (by kernel_rfl) rfl rfl (fun _ _ _ h => h) rfl (hbX.trans ((hO5.toBelow trivial).mono hbX.size)) (fun v hv => .nilCheck rfl rfl) ?_
    refine SA.take (by kernel_rfl) 18 rfl (by kernel_rfl) (by kernel_rfl) rfl rfl (fun _ _ _ h => h) rfl (hbX.trans ((hO5.toBelow trivial).mono hbX.size)) (fun v hv => .fieldAddr rfl rfl fa228_0) ?_
    first | refine SA.take (by kernel_rfl) 19 rfl (by kernel_rfl) (by kernel_rfl) rfl rfl (fun _ _ _ h => h) rfl (hbX.trans ((hO5.toBelow trivial).mono hbX.size)) (fun v hv => .load rfl rfl ag208 (cell_of' ((hv.block y (lt_of_heap on0)).trans on0) rfl)) ?_ | refine SA.take (by kernel_rfl) 19 rfl (by kernel_rfl) (by kernel_rfl) rfl rfl (fun _ _ _ h => h) rfl (hbX.trans ((hO5.toBelow trivial).mono hbX.size)) (fun v hv => .load rfl rfl ag208 (cell_of' (onlS hv) rfl)) ?_
    refine SA.take (by kernel_rfl) 20 rfl (by kernel_rfl) (by kernel_rfl) rfl rfl (fun _ _ _ h => h) rfl (hbX.trans ((hO5.toBelow trivial).mono hbX.size)) (fun v hv => .nilCheck rfl rfl) ?_
    refine SA.take (by kernel_rfl) 21 rfl (by kernel_rfl) (by kernel_rfl) rfl rfl (fun _ _ _ h => h) rfl (hbX.trans ((hO5.toBelow trivial).mono hbX.size)) (fun v hv => .fieldAddr rfl rfl fa228_3) ?_
    refine SA.take (by kernel_rfl) 22 rfl (by kernel_rfl) (by kernel_rfl) rfl rfl (fun _ _ _ h => h) rfl (hbX.trans ((hO5.toBelow trivial).mono hbX.size)) (fun v hv => .fieldAddr rfl rfl fa91_0) ?_
    first | refine SA.take (by kernel_rfl) 23 rfl (by kernel_rfl) (by kernel_rfl) rfl rfl (fun _ _ _ h => h) rfl (hbX.trans ((hO5.toBelow trivial).mono hbX.size)) (fun v hv => .load rfl rfl ag3 (cell_of' ((hv.block y (lt_of_heap on0)).trans on0) rfl)) ?_ | refine SA.take (by kernel_rfl) 23 rfl (by kernel_rfl) (by kernel_rfl) rfl rfl (fun _ _ _ h => h) rfl (hbX.trans ((hO5.toBelow trivial).mono hbX.size)) (fun v hv => .load rfl rfl ag3 (cell_of' (onlS hv) rfl)) ?_
    refine SA.take (by kernel_rfl) 24 rfl (by kernel_rfl) (by kernel_rfl) rfl rfl (fun _ _ _ h => h) rfl (hbX.trans ((hO5.toBelow trivial).mono hbX.size)) (fun v hv => .sub rfl rfl rfl (by omega)) ?_
    refine SA.one 25 (by kernel_rfl) ?_
    refine SB.call rfl rfl rfl rfl (.callF rfl rfl en273) (ihr _ b _ _ _ _ hr0 (hO5.good hG2) (hbw2.trans ((hO5.toBelow trivial).mono hbw2.size)) (isB_below hb2 (hO5.toBelow trivial)) (by omega) (by rw [List.length_append]; omega)) ?_
    rintro _ w6 ⟨rfl, hb3, hbl4⟩
    have hbl5 := hbl3.trans (((hO5.toBelow trivial).mono hbw2.size).trans hbl4)
    have hbX := hbw.trans hbl5
    have hO6 := Own.start ((hO5.good hG2).mono hbl4 h2)
    refine ⟨_, rfl, (hbX.trans ((hO6.toBelow trivial).mono hbX.size)), ?_⟩
    refine SA.done (by kernel_rfl) ?_
    refine SQ.out (.inr rfl) (res0 rfl) ?_
    first | exact ⟨rfl, by rw [pc_nil (by omega), List.append_nil]; exact isB_below hb (hO6.toBelow trivial), (hO6.toBelow trivial).mono hbw.size⟩ | exact ⟨rfl, by rw [← pc_clamp, ← hsb, show (RT.knot l r).txt = l.txt ++ r.txt from rfl, pc_append, ← List.append_assoc, ← hsl]; exact hb3, hbl5⟩

theorem nslice_all (w0 : World) (h2 : 2 ≤ w0.heap.size) : ∀ (t : RT) (y b : Nat) (l0 : Bs) (a c : Int) (w : World), t.At w0 y → Good w → Below w0.heap.size w0 w → Lib.IsBuilder 274 5 w0.heap.size b (Lib.byteCells l0) w → (-1152921504606846976 ≤ a ∧ a ≤ 1152921504606846976 ∧ -1152921504606846976 ≤ c ∧ c ≤ 1152921504606846976) → l0.length + t.txt.length ≤ 70368744177664 →
      Calls Tryz.prog 273 #[.pointer (some ⟨y, 0, none⟩), .pointer (some ⟨b, 0, none⟩), .int .i64 a, .int .i64 c] w fun e w' => e = .returned (.tuple #[]) ∧ Lib.IsBuilder 274 5 w0.heap.size b (Lib.byteCells (l0 ++ pc t.txt a c)) w' ∧ Below w0.heap.size w w'
  | .leaf s, y, b, l0, a, c, w, h0, hG, hbw, hb, hn, hl => nslice_leaf w0 s y h0 b l0 a c w hG hbw h2 hb hn hl
  | .knot l r, y, b, l0, a, c, w, h0, hG, hbw, hb, hn, hl => nslice_knot w0 l r y h0 b l0 a c w hG hbw h2 hb hn hl (nslice_all w0 h2 l) (nslice_all w0 h2 r)

end Go.Proofs.YtclgplkkajfenaaGreatDoor
