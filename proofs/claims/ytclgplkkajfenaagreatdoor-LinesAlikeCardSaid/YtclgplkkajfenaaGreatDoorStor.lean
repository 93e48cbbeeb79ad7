/- store: what asks. -/
import Derived.Test.YtclgplkkajfenaaGreatDoorRope3
namespace Go.Proofs.YtclgplkkajfenaaGreatDoor
open Go Go.RowKit Ow
theorem mt57_Len (v : Value) : ∀ w, (method (Tryz.prog.types.size + Made.depth) 57 v "Len").run Tryz.prog w = .ok (254, v) w := fun _ => by kernel_rfl
theorem mt57_Slice (v : Value) : ∀ w, (method (Tryz.prog.types.size + Made.depth) 57 v "Slice").run Tryz.prog w = .ok (257, v) w := fun _ => by kernel_rfl
theorem mt57_Measure (v : Value) : ∀ w, (method (Tryz.prog.types.size + Made.depth) 57 v "Measure").run Tryz.prog w = .ok (255, v) w := fun _ => by kernel_rfl
theorem mt57_Replace (v : Value) : ∀ w, (method (Tryz.prog.types.size + Made.depth) 57 v "Replace").run Tryz.prog w = .ok (256, v) w := fun _ => by kernel_rfl
theorem mt152_Len (v : Value) : ∀ w, (method (Tryz.prog.types.size + Made.depth) 152 v "Len").run Tryz.prog w = .ok (262, v) w := fun _ => by kernel_rfl
theorem mt152_Slice (v : Value) : ∀ w, (method (Tryz.prog.types.size + Made.depth) 152 v "Slice").run Tryz.prog w = .ok (265, v) w := fun _ => by kernel_rfl
theorem mt152_Measure (v : Value) : ∀ w, (method (Tryz.prog.types.size + Made.depth) 152 v "Measure").run Tryz.prog w = .ok (263, v) w := fun _ => by kernel_rfl
theorem mt152_Replace (v : Value) : ∀ w, (method (Tryz.prog.types.size + Made.depth) 152 v "Replace").run Tryz.prog w = .ok (264, v) w := fun _ => by kernel_rfl
theorem mt56_Len (v : Value) : ∀ w, (method (Tryz.prog.types.size + Made.depth) 56 v "Len").run Tryz.prog w = .ok (91, v) w := fun _ => by kernel_rfl
theorem mt56_Slice (v : Value) : ∀ w, (method (Tryz.prog.types.size + Made.depth) 56 v "Slice").run Tryz.prog w = .ok (95, v) w := fun _ => by kernel_rfl
theorem mt56_Measure (v : Value) : ∀ w, (method (Tryz.prog.types.size + Made.depth) 56 v "Measure").run Tryz.prog w = .ok (105, v) w := fun _ => by kernel_rfl
/-- All objects but those of a type are as they were. -/
def KeepT (T : Nat) (w w' : World) : Prop := ∀ (k : Nat) (cs : Array Value) (E : Nat), w.heap[k]? = some (.cells cs E (0, 0)) → E ≠ T → w'.heap[k]? = some (.cells cs E (0, 0))
theorem KeepT.of_below {T : Nat} {w w' : World} (h : Below w.heap.size w w') : KeepT T w w' := fun k _ _ hk _ => (h.block k (lt_of_heap hk)).trans hk
theorem KeepT.of_own {T b : Nat} {w w' : World} {cs : Array Value} {o : Obj} (h : Ow.Own w [(b, o)] w') (hb : w.heap[b]? = some (.cells cs T (0, 0))) : KeepT T w w' := fun k _ E hk hE => by
  refine (h.old k (lt_of_heap hk) fun p hp => ?_).trans hk
  simp only [List.mem_singleton] at hp
  subst hp
  intro e
  have e' : b = k := e
  subst e'
  rw [hb] at hk
  simp at hk
  exact hE hk.2.symm
theorem GapAt.keep {w w' : World} {T b : Nat} {s : ByteArray} {lim : Nat} (h : GapAt w b s lim) (hk : KeepT T w w') (h1 : 146 ≠ T) (h2 : 5 ≠ T) : GapAt w' b s lim := by
  obtain ⟨rb, l, fr, tu, h3, h4, h5⟩ := h
  exact ⟨rb, l, fr, tu, hk _ _ _ h3 h1, hk _ _ _ h4 h2, h5⟩
theorem RT.At.keep {w w' : World} {T : Nat} (hk : KeepT T w w') (h1 : 228 ≠ T) : ∀ {t : RT} {b : Nat}, t.At w b → t.At w' b
  | .leaf _, _, h => hk _ _ _ h h1
  | .knot _ _, _, ⟨x, y, h, h2, h3⟩ => ⟨x, y, hk _ _ _ h h1, h2.keep hk h1, h3.keep hk h1⟩
theorem RopeAt.keep {w w' : World} {T b : Nat} {s : ByteArray} (h : RopeAt w b s) (hk : KeepT T w w') (h1 : 228 ≠ T) (h2 : 211 ≠ T) : RopeAt w' b s := by
  obtain ⟨y, t, h3, h4, h5⟩ := h
  exact ⟨y, t, hk _ _ _ h3 h2, h4.keep hk h1, h5⟩
/-- A rope with a limit. -/
def RopedAt (w : World) (b : Nat) (s : ByteArray) (lim : Nat) : Prop := ∃ rb : Nat, w.heap[b]? = some (.cells [.pointer (some ⟨rb, 0, none⟩), .int .i64 (lim : Int)].toArray 196 (0, 0)) ∧ RopeAt w rb s ∧ lim ≤ 1073741824 ∧ s.size ≤ lim
theorem RopedAt.keep {w w' : World} {T b : Nat} {s : ByteArray} {lim : Nat} (h : RopedAt w b s lim) (hk : KeepT T w w') (h1 : 228 ≠ T) (h2 : 211 ≠ T) (h3 : 196 ≠ T) : RopedAt w' b s lim := by
  obtain ⟨rb, g1, g2, g3⟩ := h
  exact ⟨rb, hk _ _ _ g1 h3, g2.keep hk h1 h2, g3⟩
/-- What lies under a store: backend 1, a gap buffer; backend 2, a rope. -/
def UnderAt (w : World) (u : Value) (s : ByteArray) (lim : Nat) : Prop :=
  (∃ b : Nat, u = .iface 57 (.pointer (some ⟨b, 0, none⟩)) ∧ GapAt w b s lim) ∨ (∃ b : Nat, u = .iface 152 (.pointer (some ⟨b, 0, none⟩)) ∧ RopedAt w b s lim)
theorem UnderAt.keep {w w' : World} {T : Nat} {u : Value} {s : ByteArray} {lim : Nat} (h : UnderAt w u s lim) (hk : KeepT T w w') (hT : 146 ≠ T ∧ 5 ≠ T ∧ 228 ≠ T ∧ 211 ≠ T ∧ 196 ≠ T) : UnderAt w' u s lim := by
  rcases h with ⟨b, e, h⟩ | ⟨b, e, h⟩
  · exact .inl ⟨b, e, h.keep hk hT.1 hT.2.1⟩
  · exact .inr ⟨b, e, h.keep hk hT.2.2.1 hT.2.2.2.1 hT.2.2.2.2⟩
theorem RopedAt.below {w w' : World} {b : Nat} {s : ByteArray} {lim : Nat} (h : RopedAt w b s lim) (hb : Below w.heap.size w w') : RopedAt w' b s lim := h.keep (T := 0) (.of_below hb) (by decide) (by decide) (by decide)
theorem UnderAt.below {w w' : World} {u : Value} {s : ByteArray} {lim : Nat} (h : UnderAt w u s lim) (hb : Below w.heap.size w w') : UnderAt w' u s lim := h.keep (T := 0) (.of_below hb) (by decide)
theorem UnderAt.iface {w : World} {u : Value} {s : ByteArray} {lim : Nat} (h : UnderAt w u s lim) : ∃ (T : Nat) (x : Value), u = .iface T x := by
  rcases h with ⟨b, e, _⟩ | ⟨b, e, _⟩
  · exact ⟨_, _, e⟩
  · exact ⟨_, _, e⟩
theorem UnderAt.sizes {w : World} {u : Value} {s : ByteArray} {lim : Nat} (h : UnderAt w u s lim) : lim ≤ 1073741824 ∧ s.size ≤ lim := by
  rcases h with ⟨b, _, rb, l, fr, tu, _, _, h⟩ | ⟨b, _, rb, _, _, h⟩
  · exact ⟨h.lm, h.fits⟩
  · exact h

set_option maxRecDepth 20000 in
set_option maxHeartbeats 400000 in
theorem roped_len (b : Nat) (s : ByteArray) (lim : Nat) (w : World) (hG : Good w) (hp : RopedAt w b s lim) :
    Calls Tryz.prog 262 #[.pointer (some ⟨b, 0, none⟩)] w fun e w' => e = .returned (.int .i64 (s.size : Int)) ∧ Below w.heap.size w w' := by
  obtain ⟨rb, on, hr, hlim, hfit⟩ := hp
  have hz : s.size ≤ 1099511627776 := by omega
  have hO0 := Own.start hG
  refine enter Tryz.func262 rfl rfl rfl 0 ?_
  refine SC.seq ?_
  refine SC.region ?_
  refine SO.val rfl rfl rfl rfl (.assign rfl rfl) ?_
  refine SO.nil ?_
  refine SQ.then_normal ?_
  refine SC.seq ?_
  refine SC.region ?_
  refine SO.val rfl rfl rfl rfl (.move rfl rfl) ?_
  refine SO.val rfl rfl rfl rfl (.nilCheck rfl rfl) ?_
  refine SO.val rfl rfl rfl rfl (.fieldAddr rfl rfl fa196_0) ?_
  refine SO.val rfl rfl rfl rfl (.load rfl rfl ag193 (cell_of' (hO0.heapO trivial on) rfl)) ?_
  refine SO.call rfl rfl rfl rfl (.callF rfl rfl en266) (rope_len rb s _ (hO0.good hG) (hr.below (hO0.toBelow trivial)) hz) ?_
  rintro _ w1 ⟨rfl, hb1⟩
  have hO1 := hO0.below hb1
  refine ⟨_, rfl, ?_⟩
  refine SO.val rfl rfl rfl rfl (.assign rfl rfl) ?_
  refine SO.nil ?_
  refine SQ.then_normal ?_
  refine SC.ret ?_
  refine SQ.out (.inl rfl) (res1 rfl rfl) ?_
  exact ⟨rfl, hO1.toBelow trivial⟩

set_option maxRecDepth 20000 in
set_option maxHeartbeats 400000 in
theorem roped_slice (b : Nat) (s : ByteArray) (lim : Nat) (a c : Int) (w : World) (hG : Good w) (hp : RopedAt w b s lim) :
    Calls Tryz.prog 265 #[.pointer (some ⟨b, 0, none⟩), .int .i64 a, .int .i64 c] w fun e w' => e = .returned (.tuple #[.string (slT s a c), .int .i64 (slE s a c)]) ∧ Below w.heap.size w w' := by
  obtain ⟨rb, on, hr, hlim, hfit⟩ := hp
  have hz : s.size ≤ 1099511627776 := by omega
  have hO0 := Own.start hG
  refine enter Tryz.func265 rfl rfl rfl 0 ?_
  refine SC.seq ?_
  refine SC.region ?_
  refine SO.val rfl rfl rfl rfl (.assign rfl rfl) ?_
  refine SO.val rfl rfl rfl rfl (.assign rfl rfl) ?_
  refine SO.nil ?_
  refine SQ.then_normal ?_
  refine SC.seq ?_
  refine SC.region ?_
  refine SO.val rfl rfl rfl rfl (.move rfl rfl) ?_
  refine SO.val rfl rfl rfl rfl (.nilCheck rfl rfl) ?_
  refine SO.val rfl rfl rfl rfl (.fieldAddr rfl rfl fa196_0) ?_
  refine SO.val rfl rfl rfl rfl (.load rfl rfl ag193 (cell_of' (hO0.heapO trivial on) rfl)) ?_
  refine SO.val rfl rfl rfl rfl (.move rfl rfl) ?_
  refine SO.val rfl rfl rfl rfl (.move rfl rfl) ?_
  refine SO.call rfl rfl rfl rfl (.callF rfl rfl en269) (rope_slice rb s _ _ _ (hO0.good hG) (hr.below (hO0.toBelow trivial)) hz) ?_
  rintro _ w1 ⟨rfl, hb1⟩
  have hO1 := hO0.below hb1
  refine ⟨_, rfl, ?_⟩
  refine SO.val rfl rfl rfl rfl (.extract rfl rfl rfl) ?_
  refine SO.val rfl rfl rfl rfl (.extract rfl rfl rfl) ?_
  refine SO.val rfl rfl rfl rfl (.assign rfl rfl) ?_
  refine SO.val rfl rfl rfl rfl (.assign rfl rfl) ?_
  refine SO.nil ?_
  refine SQ.then_normal ?_
  refine SC.ret ?_
  refine SQ.out (.inl rfl) (res2 rfl rfl rfl) ?_
  exact ⟨rfl, hO1.toBelow trivial⟩

set_option maxRecDepth 20000 in
set_option maxHeartbeats 400000 in
theorem roped_measure (b : Nat) (s : ByteArray) (lim : Nat) (a c : Int) (w : World) (hG : Good w) (hp : RopedAt w b s lim) :
    Calls Tryz.prog 263 #[.pointer (some ⟨b, 0, none⟩), .int .i64 a, .int .i64 c] w fun e w' => ∃ m : Smy, e = .returned (.tuple #[smV m, .int .i64 (slE s a c)]) ∧ (¬ bad s a c → m.nl = nlC (pc (bl s) a c)) ∧ Below w.heap.size w w' := by
  obtain ⟨rb, on, hr, hlim, hfit⟩ := hp
  have hz : s.size ≤ 1099511627776 := by omega
  have hO0 := Own.start hG
  refine enter Tryz.func263 rfl rfl rfl 0 ?_
  refine SC.seq ?_
  refine SC.region ?_
  refine SO.alloc hO0 rfl rfl rfl rfl zv91 [_, _, _, _, _, _, _] rfl ?_
  intro b1 w1 hb1 hO1
  refine SO.val rfl rfl rfl rfl (.assign rfl rfl) ?_
  refine SO.nil ?_
  refine SQ.then_normal ?_
  refine SC.seq ?_
  refine SC.region ?_
  refine SO.val rfl rfl rfl rfl (.move rfl rfl) ?_
  refine SO.val rfl rfl rfl rfl (.nilCheck rfl rfl) ?_
  refine SO.val rfl rfl rfl rfl (.fieldAddr rfl rfl fa196_0) ?_
  refine SO.val rfl rfl rfl rfl (.load rfl rfl ag193 (cell_of' (hO1.heapO ⟨hb1, trivial⟩ on) rfl)) ?_
  refine SO.val rfl rfl rfl rfl (.move rfl rfl) ?_
  refine SO.val rfl rfl rfl rfl (.move rfl rfl) ?_
  refine SO.call rfl rfl rfl rfl (.callF rfl rfl en267) (rope_measure rb s _ _ _ (hO1.good hG) (hr.below (hO1.toBelow ⟨hb1, trivial⟩)) hz) ?_
  rintro _ w2 ⟨m, rfl, hm, hb2⟩
  have hO2 := hO1.below hb2
  refine ⟨_, rfl, ?_⟩
  refine SO.val rfl rfl rfl rfl (.extract rfl rfl rfl) ?_
  refine SO.val rfl rfl rfl rfl (.extract rfl rfl rfl) ?_
  refine SO.store hO2 (i := 0) rfl rfl rfl rfl rfl rfl sz91 rfl rfl [(_, .cells [_, _, _, _, _, _, _].toArray _ _)] rfl ?_
  intro w3 hO3
  refine SO.val rfl rfl rfl rfl (.assign rfl rfl) ?_
  refine SO.nil ?_
  refine SQ.then_normal ?_
  refine SC.ret ?_
  refine SQ.out (.inl rfl) (resCT [_, _, _, _, _, _, _] rfl rfl rfl ag91 sz91 (hO3.at (i := 0) rfl) rfl rfl) ?_
  exact ⟨m, rfl, hm, hO3.toBelow ⟨hb1, trivial⟩⟩

/-- A method's call on what an interface value holds. -/
def MC (name : String) (v : Value) (args : List Value) (w : World) (R : Ending → World → Prop) : Prop :=
  ∃ (T : Nat) (u : Value) (f : Nat) (r : Value), v = .iface T u ∧ (∀ w, (method (Tryz.prog.types.size + Made.depth) T u name).run Tryz.prog w = .ok (f, r) w) ∧ (∀ args w, (callFunc f args).run Tryz.prog w = .ok (.enter f args) w) ∧ Calls Tryz.prog f (r :: args).toArray w R
theorem under_len {u : Value} {s : ByteArray} {lim : Nat} {w : World} (hG : Good w) (h : UnderAt w u s lim) : MC "Len" u [] w fun e w' => e = .returned (.int .i64 (s.size : Int)) ∧ Below w.heap.size w w' := by
  rcases h with ⟨b, e, h⟩ | ⟨b, e, h⟩
  · exact ⟨_, _, _, _, e, mt57_Len _, en254, gap_len b s lim w hG h⟩
  · exact ⟨_, _, _, _, e, mt152_Len _, en262, roped_len b s lim w hG h⟩
theorem under_slice {u : Value} {s : ByteArray} {lim : Nat} {w : World} (hG : Good w) (h : UnderAt w u s lim) (a c : Int) : MC "Slice" u [.int .i64 a, .int .i64 c] w fun e w' => e = .returned (.tuple #[.string (slT s a c), .int .i64 (slE s a c)]) ∧ Below w.heap.size w w' := by
  rcases h with ⟨b, e, h⟩ | ⟨b, e, h⟩
  · exact ⟨_, _, _, _, e, mt57_Slice _, en257, gap_slice b s lim a c w hG h⟩
  · exact ⟨_, _, _, _, e, mt152_Slice _, en265, roped_slice b s lim a c w hG h⟩
theorem under_measure {u : Value} {s : ByteArray} {lim : Nat} {w : World} (hG : Good w) (h : UnderAt w u s lim) (a c : Int) : MC "Measure" u [.int .i64 a, .int .i64 c] w fun e w' => ∃ m : Smy, e = .returned (.tuple #[smV m, .int .i64 (slE s a c)]) ∧ (¬ bad s a c → m.nl = nlC (pc (bl s) a c)) ∧ Below w.heap.size w w' := by
  rcases h with ⟨b, e, h⟩ | ⟨b, e, h⟩
  · refine ⟨_, _, _, _, e, mt57_Measure _, en255, (gap_measure b s lim a c w hG h).mono ?_⟩
    rintro e w' ⟨rfl, hb⟩
    refine ⟨_, rfl, fun hn => ?_, hb⟩
    have hn2 := hn
    unfold bad at hn2
    unfold msT; rw [if_neg hn, ← pc_str s a c (by omega) (by omega)]; rfl
  · exact ⟨_, _, _, _, e, mt152_Measure _, en263, roped_measure b s lim a c w hG h⟩
theorem slT_all (s : ByteArray) : slT s 0 (s.size : Int) = s := by
  unfold slT
  rw [if_neg (by unfold bad; omega)]
  refine bl_inj ?_
  rw [bl_extract]
  simp only [Int.toNat_zero, List.drop_zero, Int.toNat_natCast]
  exact List.take_of_length_le (by rw [bl_length]; exact Nat.le_refl _)
/-- Which backend. -/
def bkV : Value → Int
  | .iface 152 _ => 2
  | _ => 1
/-- A store. -/
def stO (u : Value) (k lo tp : Int) (lim : Nat) (mv fo ed : Int) : Obj := .cells [u, .int .i64 k, .int .i64 lo, .int .i64 tp, .int .i64 (lim : Int), .int .i64 mv, .int .i64 fo, .int .i64 ed].toArray 103 (0, 0)
def StoreAt (w : World) (b : Nat) (s : ByteArray) (lim : Nat) : Prop := ∃ u k lo tp mv fo ed, w.heap[b]? = some (stO u k lo tp lim mv fo ed) ∧ UnderAt w u s lim
theorem StoreAt.below {w w' : World} {b : Nat} {s : ByteArray} {lim : Nat} (h : StoreAt w b s lim) (hb : Below w.heap.size w w') : StoreAt w' b s lim := by
  obtain ⟨u, k, lo, tp, mv, fo, ed, h1, h2⟩ := h
  exact ⟨u, k, lo, tp, mv, fo, ed, (hb.block b (lt_of_heap h1)).trans h1, h2.below hb⟩

set_option maxRecDepth 20000 in
set_option maxHeartbeats 400000 in
theorem under_any (b : Nat) (u : Value) (k lo tp mv fo ed : Int) (lim : Nat) (s : ByteArray) (w : World) (hG : Good w) (on : w.heap[b]? = some (stO u k lo tp lim mv fo ed)) (hu : UnderAt w u s lim) :
    Calls Tryz.prog 93 #[.pointer (some ⟨b, 0, none⟩)] w fun e w' => e = .returned u ∧ Below w.heap.size w w' := by
  obtain ⟨uT, ux, rfl⟩ := hu.iface
  have hO0 := Own.start hG
  refine enter Tryz.func93 rfl rfl rfl 0 ?_
  refine SC.seq ?_
  refine SC.region ?_
  refine SO.val rfl rfl rfl rfl (.assign rfl rfl) ?_
  refine SO.nil ?_
  refine SQ.then_normal ?_
  refine SC.seq ?_
  refine SC.seq ?_
  refine SC.region ?_
  refine SO.val rfl rfl rfl rfl (.move rfl rfl) ?_
  refine SO.val rfl rfl rfl rfl (.ptrEq (b := false) rfl rfl rfl Tryz.underlying56 rfl) ?_
  refine SO.nil ?_
  refine SQ.then_normal ?_
  refine SC.no rfl ?_
  refine SC.skip ?_
  refine SQ.then_normal ?_
  refine SC.seq ?_
  refine SC.seq ?_
  refine SC.region ?_
  refine SO.val rfl rfl rfl rfl (.move rfl rfl) ?_
  refine SO.val rfl rfl rfl rfl (.nilCheck rfl rfl) ?_
  refine SO.val rfl rfl rfl rfl (.fieldAddr rfl rfl fa103_0) ?_
  refine SO.val rfl rfl rfl rfl (.load rfl rfl ag28 (cell_of' (hO0.heapO trivial on) rfl)) ?_
  refine SO.val rfl rfl rfl rfl (.ifaceNilF rfl rfl Tryz.underlying28) ?_
  refine SO.nil ?_
  refine SQ.then_normal ?_
  refine SC.no rfl ?_
  refine SC.skip ?_
  refine SQ.then_normal ?_
  refine SC.seq ?_
  refine SC.region ?_
  refine SO.val rfl rfl rfl rfl (.move rfl rfl) ?_
  refine SO.val rfl rfl rfl rfl (.nilCheck rfl rfl) ?_
  refine SO.val rfl rfl rfl rfl (.fieldAddr rfl rfl fa103_0) ?_
  refine SO.val rfl rfl rfl rfl (.load rfl rfl ag28 (cell_of' (hO0.heapO trivial on) rfl)) ?_
  refine SO.val rfl rfl rfl rfl (.assign rfl rfl) ?_
  refine SO.nil ?_
  refine SQ.then_normal ?_
  refine SC.ret ?_
  refine SQ.out (.inl rfl) (res1 rfl rfl) ?_
  exact ⟨rfl, hO0.toBelow trivial⟩

set_option maxRecDepth 20000 in
set_option maxHeartbeats 400000 in
theorem store_len (b : Nat) (s : ByteArray) (lim : Nat) (w : World) (hG : Good w) (hp : StoreAt w b s lim) :
    Calls Tryz.prog 91 #[.pointer (some ⟨b, 0, none⟩)] w fun e w' => e = .returned (.int .i64 (s.size : Int)) ∧ Below w.heap.size w w' := by
  obtain ⟨u, k, lo, tp, mv, fo, ed, on, hu⟩ := hp
  have hO0 := Own.start hG
  refine enter Tryz.func91 rfl rfl rfl 0 ?_
  refine SC.seq ?_
  refine SC.region ?_
  refine SO.val rfl rfl rfl rfl (.assign rfl rfl) ?_
  refine SO.nil ?_
  refine SQ.then_normal ?_
  refine SC.seq ?_
  refine SC.region ?_
  refine SO.val rfl rfl rfl rfl (.move rfl rfl) ?_
  refine SO.call rfl rfl rfl rfl (.callF rfl rfl en93) (under_any b u k lo tp mv fo ed lim s _ (hO0.good hG) (hO0.heapO trivial on) (hu.below (hO0.toBelow trivial))) ?_
  rintro _ w1 ⟨rfl, hb1⟩
  have hO1 := hO0.below hb1
  refine ⟨_, rfl, ?_⟩
  obtain ⟨T1, u1, f1, r1, rfl, hm1, he1, hc1⟩ := under_len (hO1.good hG) (hu.below (hO1.toBelow trivial))
  refine SO.call rfl rfl rfl rfl (.callI rfl rfl rfl hm1 he1) (hc1) ?_
  rintro _ w2 ⟨rfl, hb2⟩
  have hO2 := hO1.below hb2
  refine ⟨_, rfl, ?_⟩
  refine SO.val rfl rfl rfl rfl (.assign rfl rfl) ?_
  refine SO.nil ?_
  refine SQ.then_normal ?_
  refine SC.ret ?_
  refine SQ.out (.inl rfl) (res1 rfl rfl) ?_
  exact ⟨rfl, hO2.toBelow trivial⟩

set_option maxRecDepth 20000 in
set_option maxHeartbeats 400000 in
theorem store_slice (b : Nat) (s : ByteArray) (lim : Nat) (a c : Int) (w : World) (hG : Good w) (hp : StoreAt w b s lim) :
    Calls Tryz.prog 95 #[.pointer (some ⟨b, 0, none⟩), .int .i64 a, .int .i64 c] w fun e w' => e = .returned (.tuple #[.string (slT s a c), .int .i64 (slE s a c)]) ∧ Below w.heap.size w w' := by
  obtain ⟨u, k, lo, tp, mv, fo, ed, on, hu⟩ := hp
  have hO0 := Own.start hG
  refine enter Tryz.func95 rfl rfl rfl 0 ?_
  refine SC.seq ?_
  refine SC.region ?_
  refine SO.val rfl rfl rfl rfl (.assign rfl rfl) ?_
  refine SO.val rfl rfl rfl rfl (.assign rfl rfl) ?_
  refine SO.nil ?_
  refine SQ.then_normal ?_
  refine SC.seq ?_
  refine SC.region ?_
  refine SO.val rfl rfl rfl rfl (.move rfl rfl) ?_
  refine SO.call rfl rfl rfl rfl (.callF rfl rfl en93) (under_any b u k lo tp mv fo ed lim s _ (hO0.good hG) (hO0.heapO trivial on) (hu.below (hO0.toBelow trivial))) ?_
  rintro _ w1 ⟨rfl, hb1⟩
  have hO1 := hO0.below hb1
  refine ⟨_, rfl, ?_⟩
  refine SO.val rfl rfl rfl rfl (.move rfl rfl) ?_
  refine SO.val rfl rfl rfl rfl (.move rfl rfl) ?_
  obtain ⟨T1, u1, f1, r1, rfl, hm1, he1, hc1⟩ := under_slice (hO1.good hG) (hu.below (hO1.toBelow trivial)) a c
  refine SO.call rfl rfl rfl rfl (.callI rfl rfl rfl hm1 he1) (hc1) ?_
  rintro _ w2 ⟨rfl, hb2⟩
  have hO2 := hO1.below hb2
  refine ⟨_, rfl, ?_⟩
  refine SO.val rfl rfl rfl rfl (.extract rfl rfl rfl) ?_
  refine SO.val rfl rfl rfl rfl (.extract rfl rfl rfl) ?_
  refine SO.val rfl rfl rfl rfl (.assign rfl rfl) ?_
  refine SO.val rfl rfl rfl rfl (.assign rfl rfl) ?_
  refine SO.nil ?_
  refine SQ.then_normal ?_
  refine SC.ret ?_
  refine SQ.out (.inl rfl) (res2 rfl rfl rfl) ?_
  exact ⟨rfl, hO2.toBelow trivial⟩

set_option maxRecDepth 20000 in
set_option maxHeartbeats 400000 in
theorem store_measure (b : Nat) (s : ByteArray) (lim : Nat) (a c : Int) (w : World) (hG : Good w) (hp : StoreAt w b s lim) :
    Calls Tryz.prog 105 #[.pointer (some ⟨b, 0, none⟩), .int .i64 a, .int .i64 c] w fun e w' => ∃ m : Smy, e = .returned (.tuple #[smV m, .int .i64 (slE s a c)]) ∧ (¬ bad s a c → m.nl = nlC (pc (bl s) a c)) ∧ Below w.heap.size w w' := by
  obtain ⟨u, k, lo, tp, mv, fo, ed, on, hu⟩ := hp
  have hO0 := Own.start hG
  refine enter Tryz.func105 rfl rfl rfl 0 ?_
  refine SC.seq ?_
  refine SC.region ?_
  refine SO.alloc hO0 rfl rfl rfl rfl zv91 [_, _, _, _, _, _, _] rfl ?_
  intro b1 w1 hb1 hO1
  refine SO.val rfl rfl rfl rfl (.assign rfl rfl) ?_
  refine SO.nil ?_
  refine SQ.then_normal ?_
  refine SC.seq ?_
  refine SC.region ?_
  refine SO.val rfl rfl rfl rfl (.move rfl rfl) ?_
  refine SO.call rfl rfl rfl rfl (.callF rfl rfl en93) (under_any b u k lo tp mv fo ed lim s _ (hO1.good hG) (hO1.heapO ⟨hb1, trivial⟩ on) (hu.below (hO1.toBelow ⟨hb1, trivial⟩))) ?_
  rintro _ w2 ⟨rfl, hb2⟩
  have hO2 := hO1.below hb2
  refine ⟨_, rfl, ?_⟩
  refine SO.val rfl rfl rfl rfl (.move rfl rfl) ?_
  refine SO.val rfl rfl rfl rfl (.move rfl rfl) ?_
  obtain ⟨T1, u1, f1, r1, rfl, hm1, he1, hc1⟩ := under_measure (hO2.good hG) (hu.below (hO2.toBelow ⟨hb1, trivial⟩)) a c
  refine SO.call rfl rfl rfl rfl (.callI rfl rfl rfl hm1 he1) (hc1) ?_
  rintro _ w3 ⟨m, rfl, hm, hb3⟩
  have hO3 := hO2.below hb3
  refine ⟨_, rfl, ?_⟩
  refine SO.val rfl rfl rfl rfl (.extract rfl rfl rfl) ?_
  refine SO.val rfl rfl rfl rfl (.extract rfl rfl rfl) ?_
  refine SO.store hO3 (i := 0) rfl rfl rfl rfl rfl rfl sz91 rfl rfl [(_, .cells [_, _, _, _, _, _, _].toArray _ _)] rfl ?_
  intro w4 hO4
  refine SO.val rfl rfl rfl rfl (.assign rfl rfl) ?_
  refine SO.nil ?_
  refine SQ.then_normal ?_
  refine SC.ret ?_
  refine SQ.out (.inl rfl) (resCT [_, _, _, _, _, _, _] rfl rfl rfl ag91 sz91 (hO4.at (i := 0) rfl) rfl rfl) ?_
  exact ⟨m, rfl, hm, hO4.toBelow ⟨hb1, trivial⟩⟩

set_option maxRecDepth 20000 in
set_option maxHeartbeats 400000 in
theorem store_text (b : Nat) (s : ByteArray) (lim : Nat) (w : World) (hG : Good w) (hp : StoreAt w b s lim) :
    Calls Tryz.prog 47 #[.pointer (some ⟨b, 0, none⟩)] w fun e w' => e = .returned (.string s) ∧ Below w.heap.size w w' := by
  have hO0 := Own.start hG
  refine enter Tryz.func47 rfl rfl rfl 0 ?_
  refine SC.seq ?_
  refine SC.region ?_
  refine SO.val rfl rfl rfl rfl (.assign rfl rfl) ?_
  refine SO.nil ?_
  refine SQ.then_normal ?_
  refine SC.seq ?_
  refine SC.region ?_
  refine SO.val rfl rfl rfl rfl (.move rfl rfl) ?_
  refine SO.val rfl rfl rfl rfl (.move rfl rfl) ?_
  refine SO.call rfl rfl rfl rfl (.callF rfl rfl en91) (store_len b s lim _ (hO0.good hG) (hp.below (hO0.toBelow trivial))) ?_
  rintro _ w1 ⟨rfl, hb1⟩
  have hO1 := hO0.below hb1
  refine ⟨_, rfl, ?_⟩
  refine SO.call rfl rfl rfl rfl (.callF rfl rfl en95) (store_slice b s lim _ _ _ (hO1.good hG) (hp.below (hO1.toBelow trivial))) ?_
  rintro _ w2 ⟨rfl, hb2⟩
  have hO2 := hO1.below hb2
  refine ⟨_, rfl, ?_⟩
  refine SO.val rfl rfl rfl rfl (.move rfl rfl) ?_
  refine SO.val rfl rfl rfl rfl (.extract rfl rfl rfl) ?_
  refine SO.val rfl rfl rfl rfl (.extract rfl rfl rfl) ?_
  refine SO.val rfl rfl rfl rfl (.assign rfl rfl) ?_
  refine SO.val rfl rfl rfl rfl (.assign rfl rfl) ?_
  refine SO.nil ?_
  refine SQ.then_normal ?_
  refine SC.seq ?_
  refine SC.region ?_
  refine SO.val rfl rfl rfl rfl (.move rfl rfl) ?_
  refine SO.val rfl rfl rfl rfl (.assign rfl rfl) ?_
  refine SO.nil ?_
  refine SQ.then_normal ?_
  refine SC.ret ?_
  refine SQ.out (.inl rfl) (res1 rfl rfl) ?_
  exact ⟨(show Ending.returned (.string (slT s 0 (s.size : Int))) = _ by rw [slT_all]), hO2.toBelow trivial⟩

theorem bd196_0_1_Stor (x0 : Option Addr) (x1 : Int) : ∀ w, (Instr.build 196 [(0, .pointer x0), (1, .int .i64 x1)].toArray).run Tryz.prog w = .ok (.agg [.pointer x0, .int .i64 x1].toArray) w := fun _ => by kernel_rfl
theorem mi57_Stor : ∀ v w, (Instr.makeInterface 57 v).run Tryz.prog w = .ok (.iface 57 v) w := fun _ _ => by kernel_rfl
theorem mi152_Stor : ∀ v w, (Instr.makeInterface 152 v).run Tryz.prog w = .ok (.iface 152 v) w := fun _ _ => by kernel_rfl
set_option maxRecDepth 20000 in
set_option maxHeartbeats 400000 in
theorem kept_any (bk li : Int) (lim : Nat) (s : ByteArray) (w : World) (hG : Good w) (hli : li = (lim : Nat)) (hlim : lim ≤ 1073741824) (hz : s.size ≤ lim) :
    Calls Tryz.prog 92 #[.int .i64 bk, .int .i64 li, .string s] w fun e w' => ∃ u, e = .returned u ∧ UnderAt w' u s lim ∧ bkV u = (if bk = 2 then 2 else 1) ∧ Below w.heap.size w w' := by
  subst hli
  have hO0 := Own.start hG
  refine enter Tryz.func92 rfl rfl rfl 0 ?_
  refine SC.seq ?_
  refine SC.region ?_
  refine SO.val rfl rfl rfl rfl (.assign rfl rfl) ?_
  refine SO.nil ?_
  refine SQ.then_normal ?_
  refine SC.seq ?_
  refine SC.seq ?_
  refine SC.region ?_
  refine SO.val rfl rfl rfl rfl (.move rfl rfl) ?_
  refine SO.val rfl rfl rfl rfl (.eql rfl rfl rfl) ?_
  refine SO.nil ?_
  refine SQ.then_normal ?_
  refine SC.dec rfl (fun c1 => ?_) (fun c1 => ?_)
  ·
    have hbk : bk = 2 := c1
    refine SC.seq ?_
    refine SC.region ?_
    refine SO.val rfl rfl rfl rfl (.move rfl rfl) ?_
    refine SO.call rfl rfl rfl rfl (.callF rfl rfl en146) (rope_new _ _ (hO0.good hG) (by omega)) ?_
    rintro _ w2 ⟨br, rfl, hbr, hra, hb2⟩
    have hOb := hO0.below hb2
    have hGb := hOb.good hG
    have hBb := hOb.toBelow trivial
    have hO2 := Own.start hGb
    refine ⟨_, rfl, ?_⟩
    refine SO.val rfl rfl rfl rfl (.move rfl rfl) ?_
    refine SO.val rfl rfl rfl rfl (.build rfl rfl (bd196_0_1_Stor _ _)) ?_
    refine SO.box hO2 rfl rfl rfl rfl rfl [_, _] rfl ?_
    intro b3 w3 hb3 hO3
    refine SO.val rfl rfl rfl rfl (.iface rfl rfl mi152_Stor) ?_
    refine SO.val rfl rfl rfl rfl (.assign rfl rfl) ?_
    refine SO.nil ?_
    refine SQ.then_normal ?_
    refine SC.ret ?_
    refine SQ.then_ret ?_
    refine SQ.out (.inl rfl) (res1 rfl rfl) ?_
    first | (have hE := hO3.toBelow ⟨hb3, trivial⟩; exact ⟨_, rfl, .inr ⟨_, rfl, br, hO3.at (i := 0) rfl, hra.below hE, hlim, hz⟩, (by rw [if_pos hbk]; rfl), hBb.trans (hE.mono hBb.size)⟩) | exact ⟨_, rfl, .inl ⟨bg, rfl, hga⟩, (by rw [if_neg hbk]; rfl), hO3.toBelow ⟨hb3, trivial⟩⟩
  ·
    have hbk : ¬ bk = 2 := c1
    refine SC.skip ?_
    refine SQ.then_normal ?_
    refine SC.seq ?_
    refine SC.region ?_
    refine SO.val rfl rfl rfl rfl (.move rfl rfl) ?_
    refine SO.val rfl rfl rfl rfl (.move rfl rfl) ?_
    refine SO.call rfl rfl rfl rfl (.callF rfl rfl en40) (gap_new _ _ _ (hO0.good hG)) ?_
    rintro _ w5 hgn
    have hld : held (lim : Int) = lim := by unfold held; omega
    rw [hld] at hgn
    rcases hgn with ⟨_, hlt, _⟩ | ⟨bg, rfl, hbg, hga, _, hb5⟩
    · omega
    have hO5 := hO0.below hb5
    refine ⟨_, rfl, ?_⟩
    refine SO.val rfl rfl rfl rfl (.move rfl rfl) ?_
    refine SO.val rfl rfl rfl rfl (.extract rfl rfl rfl) ?_
    refine SO.val rfl rfl rfl rfl (.extract rfl rfl rfl) ?_
    refine SO.val rfl rfl rfl rfl (.assign rfl rfl) ?_
    refine SO.val rfl rfl rfl rfl (.assign rfl rfl) ?_
    refine SO.nil ?_
    refine SQ.then_normal ?_
    refine SC.seq ?_
    refine SC.region ?_
    refine SO.val rfl rfl rfl rfl (.move rfl rfl) ?_
    refine SO.val rfl rfl rfl rfl (.iface rfl rfl mi57_Stor) ?_
    refine SO.val rfl rfl rfl rfl (.assign rfl rfl) ?_
    refine SO.nil ?_
    refine SQ.then_normal ?_
    refine SC.ret ?_
    refine SQ.out (.inl rfl) (res1 rfl rfl) ?_
    first | (have hE := hO5.toBelow trivial; exact ⟨_, rfl, .inr ⟨_, rfl, br, hO5.at (i := 0) rfl, hra.below hE, hlim, hz⟩, (by rw [if_pos hbk]; rfl), hBb.trans (hE.mono hBb.size)⟩) | exact ⟨_, rfl, .inl ⟨bg, rfl, hga⟩, (by rw [if_neg hbk]; rfl), hO5.toBelow trivial⟩

end Go.Proofs.YtclgplkkajfenaaGreatDoor
