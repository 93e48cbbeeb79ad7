/- rope.leaf, knot. -/
import Derived.Test.YtclgplkkajfenaaGreatDoorGapl
namespace Go.Proofs.YtclgplkkajfenaaGreatDoor
open Go Go.RowKit Ow
/-! Ropes -/
inductive RT where
  | leaf (s : ByteArray)
  | knot (l r : RT)
def RT.ht : RT → Nat
  | .leaf _ => 0
  | .knot l r => max l.ht r.ht + 1
def RT.sm : RT → Smy
  | .leaf s => measS s
  | .knot l r => joinL zS [l.sm, r.sm]
def RT.txt : RT → Bs
  | .leaf s => bl s
  | .knot l r => l.txt ++ r.txt
def RT.leaves : RT → List ByteArray
  | .leaf s => [s]
  | .knot l r => l.leaves ++ r.leaves
theorem RT.leaves_pos : ∀ t : RT, 0 < t.leaves.length
  | .leaf _ => by simp [RT.leaves]
  | .knot l r => by have := l.leaves_pos; simp [RT.leaves]; omega
theorem RT.ht_lt : ∀ t : RT, t.ht < t.leaves.length
  | .leaf _ => by simp [RT.leaves, RT.ht]
  | .knot l r => by
    have h1 := l.ht_lt; have h2 := r.ht_lt
    have h3 := l.leaves_pos; have h4 := r.leaves_pos
    simp only [RT.leaves, RT.ht, List.length_append]; omega
theorem RT.sm_ok : ∀ t : RT, SOk t.sm
  | .leaf s => SOk.meas s
  | .knot l r => joinL_ok _ _ SOk.zero (fun p hp => by
    simp only [List.mem_cons, List.not_mem_nil, or_false] at hp
    rcases hp with rfl | rfl
    · exact l.sm_ok
    · exact r.sm_ok)
theorem RT.txt_leaves : ∀ t : RT, t.txt = (t.leaves.map bl).flatten
  | .leaf s => by simp [RT.txt, RT.leaves]
  | .knot l r => by simp [RT.txt, RT.leaves, l.txt_leaves, r.txt_leaves]
/-- Little enough for the machine's numbers. -/
def RT.Fit (t : RT) : Prop := t.leaves.length ≤ 1099511627776 ∧ t.txt.length ≤ 1099511627776
abbrev ndC (p q : Option Addr) (h : Nat) (m : Smy) (s : ByteArray) : List Value := [.pointer p, .pointer q, .int .i64 (h : Int), .int .i64 m.b, .int .i64 m.u, .int .i64 m.c, .int .i64 m.k, .int .i64 m.nl, .string m.h, .string m.t, .string s]
def ptr (b : Nat) : Option Addr := some ⟨b, 0, none⟩
def RT.At (w : World) : RT → Nat → Prop
  | .leaf s, b => w.heap[b]? = some (.cells (ndC none none 0 (measS s) s).toArray 228 (0, 0))
  | .knot l r, b => ∃ bl br, w.heap[b]? = some (.cells (ndC (some ⟨bl, 0, none⟩) (some ⟨br, 0, none⟩) (RT.knot l r).ht (RT.knot l r).sm ⟨#[]⟩).toArray 228 (0, 0)) ∧ l.At w bl ∧ r.At w br
theorem RT.At.below {w w' : World} : ∀ {t : RT} {b : Nat}, t.At w b → Below w.heap.size w w' → t.At w' b
  | .leaf _, b, h, hb => (hb.block b (lt_of_heap h)).trans h
  | .knot _ _, b, ⟨x, y, h, h1, h2⟩, hb => ⟨x, y, (hb.block b (lt_of_heap h)).trans h, h1.below hb, h2.below hb⟩
theorem RT.At.obj {w : World} : ∀ {t : RT} {b : Nat}, t.At w b → ∃ p q s, w.heap[b]? = some (.cells (ndC p q t.ht t.sm s).toArray 228 (0, 0))
  | .leaf s, _, h => ⟨none, none, s, h⟩
  | .knot _ _, _, ⟨_x, _y, h, _⟩ => ⟨_, _, _, h⟩

theorem bd228_4_3_Rope (x0 : ByteArray) (x1 : Int) (x2 : Int) (x3 : Int) (x4 : Int) (x5 : Int) (x6 : ByteArray) (x7 : ByteArray) : ∀ w, (Instr.build 228 [(4, .string x0), (3, .agg [.int .i64 x1, .int .i64 x2, .int .i64 x3, .int .i64 x4, .int .i64 x5, .string x6, .string x7].toArray)].toArray).run Tryz.prog w = .ok (.agg [.pointer none, .pointer none, .int .i64 0, .int .i64 x1, .int .i64 x2, .int .i64 x3, .int .i64 x4, .int .i64 x5, .string x6, .string x7, .string x0].toArray) w := fun _ => by kernel_rfl
set_option maxRecDepth 20000 in
set_option maxHeartbeats 400000 in
theorem leaf_any (s : ByteArray) (w : World) (hG : Good w) (hz : s.size ≤ 4000000000000000000) :
    Calls Tryz.prog 195 #[.string s] w fun e w' => ∃ b : Nat, e = .returned (.pointer (some ⟨b, 0, none⟩)) ∧ w.heap.size ≤ b ∧ (RT.leaf s).At w' b ∧ Below w.heap.size w w' := by
  have hO0 := Own.start hG
  refine enter Tryz.func195 rfl rfl rfl 0 ?_
  refine SC.seq ?_
  refine SC.region ?_
  refine SO.val rfl rfl rfl rfl (.assign rfl rfl) ?_
  refine SO.nil ?_
  refine SQ.then_normal ?_
  refine SC.seq ?_
  refine SC.region ?_
  refine SO.val rfl rfl rfl rfl (.move rfl rfl) ?_
  refine SO.val rfl rfl rfl rfl (.move rfl rfl) ?_
  refine SO.call rfl rfl rfl rfl (.callF rfl rfl en211) (measure_any _ _ (hO0.good hG) (by omega)) ?_
  rintro _ w1 ⟨rfl, hb1⟩
  have hO1 := hO0.below hb1
  refine ⟨_, rfl, ?_⟩
  refine SO.val rfl rfl rfl rfl (.build rfl rfl (bd228_4_3_Rope _ _ _ _ _ _ _ _)) ?_
  refine SO.box hO1 rfl rfl rfl rfl rfl [_, _, _, _, _, _, _, _, _, _, _] rfl ?_
  intro b2 w2 hb2 hO2
  refine SO.val rfl rfl rfl rfl (.assign rfl rfl) ?_
  refine SO.nil ?_
  refine SQ.then_normal ?_
  refine SC.ret ?_
  refine SQ.out (.inl rfl) (res1 rfl rfl) ?_
  exact ⟨_, rfl, by assumption, hO2.at (i := 0) rfl, hO2.toBelow ⟨hb2, trivial⟩⟩

theorem bd228_0_1_2_3_Rope (x0 : Option Addr) (x1 : Option Addr) (x2 : Int) (x3 : Int) (x4 : Int) (x5 : Int) (x6 : Int) (x7 : Int) (x8 : ByteArray) (x9 : ByteArray) : ∀ w, (Instr.build 228 [(0, .pointer x0), (1, .pointer x1), (2, .int .i64 x2), (3, .agg [.int .i64 x3, .int .i64 x4, .int .i64 x5, .int .i64 x6, .int .i64 x7, .string x8, .string x9].toArray)].toArray).run Tryz.prog w = .ok (.agg [.pointer x0, .pointer x1, .int .i64 x2, .int .i64 x3, .int .i64 x4, .int .i64 x5, .int .i64 x6, .int .i64 x7, .string x8, .string x9, .string ⟨#[]⟩].toArray) w := fun _ => by kernel_rfl
theorem bs246_2_0_1_Rope (x0 : Int) (x1 : Int) (x2 : Int) (x3 : Int) (x4 : Int) (x5 : ByteArray) (x6 : ByteArray) (x7 : Int) (x8 : Int) (x9 : Int) (x10 : Int) (x11 : Int) (x12 : ByteArray) (x13 : ByteArray) : ∀ w, (Instr.buildSlice 246 2 [(0, .agg [.int .i64 x0, .int .i64 x1, .int .i64 x2, .int .i64 x3, .int .i64 x4, .string x5, .string x6].toArray), (1, .agg [.int .i64 x7, .int .i64 x8, .int .i64 x9, .int .i64 x10, .int .i64 x11, .string x12, .string x13].toArray)].toArray).run Tryz.prog w = .ok (.slice (some ⟨w.heap.size, 0, none⟩) 2 2) (w.alloc (.cells [.int .i64 x0, .int .i64 x1, .int .i64 x2, .int .i64 x3, .int .i64 x4, .string x5, .string x6, .int .i64 x7, .int .i64 x8, .int .i64 x9, .int .i64 x10, .int .i64 x11, .string x12, .string x13].toArray 91)) := fun _ => by kernel_rfl
set_option maxRecDepth 20000 in
set_option maxHeartbeats 400000 in
theorem knot_any (l r : RT) (y1 y2 : Nat) (w : World) (hG : Good w) (hl : l.At w y1) (hr : r.At w y2) (h1 : l.ht ≤ 4611686018427387904) (h2 : r.ht ≤ 4611686018427387904) :
    Calls Tryz.prog 210 #[.pointer (some ⟨y1, 0, none⟩), .pointer (some ⟨y2, 0, none⟩)] w fun e w' => ∃ b : Nat, e = .returned (.pointer (some ⟨b, 0, none⟩)) ∧ w.heap.size ≤ b ∧ (RT.knot l r).At w' b ∧ Below w.heap.size w w' := by
  obtain ⟨p1, q1, s1, o1⟩ := hl.obj
  obtain ⟨p2, q2, s2, o2⟩ := hr.obj
  have hjr : rows [l.sm, r.sm] = smC l.sm ++ smC r.sm := by simp [rows]
  have hO0 := Own.start hG
  refine enter Tryz.func210 rfl rfl rfl 0 ?_
  refine SC.seq ?_
  refine SC.region ?_
  refine SO.val rfl rfl rfl rfl (.assign rfl rfl) ?_
  refine SO.nil ?_
  refine SQ.then_normal ?_
  refine SC.seq ?_
  refine SC.drawO mixed hO0 (fun hO1 => ?_)
  refine SA.take (by kernel_rfl) 0 rfl (by kernel_rfl) (by kernel_rfl) rfl rfl (fun _ _ _ h => h) rfl hO1 (fun v hv => .move rfl rfl) ?_
  refine SA.take (by kernel_rfl) 1 rfl (by kernel_rfl) (by kernel_rfl) rfl rfl (fun _ _ _ h => h) rfl hO1 (fun v hv => .move rfl rfl) ?_
  refine SA.take (by kernel_rfl) 2 rfl (by kernel_rfl) (by kernel_rfl) rfl rfl (fun _ _ _ h => h) rfl hO1 (fun v hv => .move rfl rfl) ?_
  refine SA.take (by kernel_rfl) 3 rfl (by kernel_rfl) (by kernel_rfl) rfl rfl (fun _ _ _ h => h) rfl hO1 (fun v hv => .nilCheck rfl rfl) ?_
  refine SA.take (by kernel_rfl) 4 rfl (by kernel_rfl) (by kernel_rfl) rfl rfl (fun _ _ _ h => h) rfl hO1 (fun v hv => .fieldAddr rfl rfl fa228_2) ?_
  first | refine SA.take (by kernel_rfl) 5 rfl (by kernel_rfl) (by kernel_rfl) rfl rfl (fun _ _ _ h => h) rfl hO1 (fun v hv => .load rfl rfl ag3 (cell_of' (hv.heapO trivial o1) rfl)) ?_ | refine SA.take (by kernel_rfl) 5 rfl (by kernel_rfl) (by kernel_rfl) rfl rfl (fun _ _ _ h => h) rfl hO1 (fun v hv => .load rfl rfl ag3 (cell_of' (hv.heapO trivial o2) rfl)) ?_
  refine SA.take (by kernel_rfl) 6 rfl (by kernel_rfl) (by kernel_rfl) rfl rfl (fun _ _ _ h => h) rfl hO1 (fun v hv => .move rfl rfl) ?_
  refine SA.take (by kernel_rfl) 7 rfl (by kernel_rfl) (by kernel_rfl) rfl rfl (fun _ _ _ h => h) rfl hO1 (fun v hv => .nilCheck rfl rfl) ?_
  refine SA.take (by kernel_rfl) 8 rfl (by kernel_rfl) (by kernel_rfl) rfl rfl (fun _ _ _ h => h) rfl hO1 (fun v hv => .fieldAddr rfl rfl fa228_2) ?_
  first | refine SA.take (by kernel_rfl) 9 rfl (by kernel_rfl) (by kernel_rfl) rfl rfl (fun _ _ _ h => h) rfl hO1 (fun v hv => .load rfl rfl ag3 (cell_of' (hv.heapO trivial o1) rfl)) ?_ | refine SA.take (by kernel_rfl) 9 rfl (by kernel_rfl) (by kernel_rfl) rfl rfl (fun _ _ _ h => h) rfl hO1 (fun v hv => .load rfl rfl ag3 (cell_of' (hv.heapO trivial o2) rfl)) ?_
  refine SA.take (by kernel_rfl) 10 rfl (by kernel_rfl) (by kernel_rfl) rfl rfl (fun _ _ _ h => h) rfl hO1 (fun v hv => .maxI rfl rfl rfl) ?_
  refine SA.take (by kernel_rfl) 11 rfl (by kernel_rfl) (by kernel_rfl) rfl rfl (fun _ _ _ h => h) rfl hO1 (fun v hv => .add rfl rfl rfl (by omega)) ?_
  refine SA.take (by kernel_rfl) 12 rfl (by kernel_rfl) (by kernel_rfl) rfl rfl (fun _ _ _ h => h) rfl hO1 (fun v hv => .move rfl rfl) ?_
  refine SA.take (by kernel_rfl) 13 rfl (by kernel_rfl) (by kernel_rfl) rfl rfl (fun _ _ _ h => h) rfl hO1 (fun v hv => .nilCheck rfl rfl) ?_
  refine SA.take (by kernel_rfl) 14 rfl (by kernel_rfl) (by kernel_rfl) rfl rfl (fun _ _ _ h => h) rfl hO1 (fun v hv => .fieldAddr rfl rfl fa228_3) ?_
  first | refine SA.take (by kernel_rfl) 15 rfl (by kernel_rfl) (by kernel_rfl) rfl rfl (fun _ _ _ h => h) rfl hO1 (fun v hv => .loadB [_, _, _, _, _, _, _] rfl rfl ag91 sz91 (hv.heapO trivial o1) rfl rfl) ?_ | refine SA.take (by kernel_rfl) 15 rfl (by kernel_rfl) (by kernel_rfl) rfl rfl (fun _ _ _ h => h) rfl hO1 (fun v hv => .loadB [_, _, _, _, _, _, _] rfl rfl ag91 sz91 (hv.heapO trivial o2) rfl rfl) ?_
  refine SA.take (by kernel_rfl) 16 rfl (by kernel_rfl) (by kernel_rfl) rfl rfl (fun _ _ _ h => h) rfl hO1 (fun v hv => .move rfl rfl) ?_
  refine SA.take (by kernel_rfl) 17 rfl (by kernel_rfl) (by kernel_rfl) rfl rfl (fun _ _ _ h => h) rfl hO1 (fun v hv => .nilCheck rfl rfl) ?_
  refine SA.take (by kernel_rfl) 18 rfl (by kernel_rfl) (by kernel_rfl) rfl rfl (fun _ _ _ h => h) rfl hO1 (fun v hv => .fieldAddr rfl rfl fa228_3) ?_
  first | refine SA.take (by kernel_rfl) 19 rfl (by kernel_rfl) (by kernel_rfl) rfl rfl (fun _ _ _ h => h) rfl hO1 (fun v hv => .loadB [_, _, _, _, _, _, _] rfl rfl ag91 sz91 (hv.heapO trivial o1) rfl rfl) ?_ | refine SA.take (by kernel_rfl) 19 rfl (by kernel_rfl) (by kernel_rfl) rfl rfl (fun _ _ _ h => h) rfl hO1 (fun v hv => .loadB [_, _, _, _, _, _, _] rfl rfl ag91 sz91 (hv.heapO trivial o2) rfl rfl) ?_
  refine SA.one 20 (by kernel_rfl) ?_
  refine SB.buildSlice hO1 rfl rfl rfl rfl rfl rfl (bs246_2_0_1_Rope _ _ _ _ _ _ _ _ _ _ _ _ _ _) ?_
  intro b2 w2 hb2 hO2
  refine ⟨(hO2.tail hb2), ?_⟩
  refine SA.one 21 (by kernel_rfl) ?_
  refine SB.call rfl rfl rfl rfl (.callF rfl rfl en216) (join_any [l.sm, r.sm] _ _ (hO2.good hG) (by simp) (fun p hp => by simp only [List.mem_cons, List.not_mem_nil, or_false] at hp; rcases hp with rfl | rfl; exact l.sm_ok; exact r.sm_ok) (by rw [hjr]; exact hO2.at (i := 0) rfl)) ?_
  rintro _ w3 ⟨rfl, hb3⟩
  have hO3 := hO2.below hb3
  refine ⟨_, rfl, (hO3.tail hb2), ?_⟩
  refine SA.take (by kernel_rfl) 22 rfl (by kernel_rfl) (by kernel_rfl) rfl rfl (fun _ _ _ h => h) rfl (hO3.tail hb2) (fun v hv => .build rfl rfl (bd228_0_1_2_3_Rope _ _ _ _ _ _ _ _ _ _)) ?_
  refine SA.one 23 (by kernel_rfl) ?_
  refine SB.box hO3 rfl rfl rfl rfl rfl rfl [_, _, _, _, _, _, _, _, _, _, _] rfl ?_
  intro b4 w4 hb4 hO4
  refine ⟨((hO4.tail hb4).tail hb2), ?_⟩
  refine SA.take (by kernel_rfl) 24 rfl (by kernel_rfl) (by kernel_rfl) rfl rfl (fun _ _ _ h => h) rfl ((hO4.tail hb4).tail hb2) (fun v hv => .assign rfl rfl) ?_
  refine SA.done (by kernel_rfl) ?_
  refine SQ.then_normal ?_
  refine SC.ret ?_
  refine SQ.out (.inl rfl) (res1 rfl rfl) ?_
  have ht : (max (l.ht : Int) (r.ht : Int) + 1) = (((RT.knot l r).ht : Nat) : Int) := by simp only [RT.ht]; omega
  rw [ht] at hO4
  exact ⟨_, rfl, by assumption, ⟨y1, y2, hO4.at (i := 0) rfl, hl.below (hO4.toBelow ⟨hb4, hb2, trivial⟩), hr.below (hO4.toBelow ⟨hb4, hb2, trivial⟩)⟩, hO4.toBelow ⟨hb4, hb2, trivial⟩⟩

end Go.Proofs.YtclgplkkajfenaaGreatDoor
