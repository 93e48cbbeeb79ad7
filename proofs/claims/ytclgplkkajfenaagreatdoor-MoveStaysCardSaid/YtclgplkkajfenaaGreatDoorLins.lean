/- The store, what asks; lines. -/
import Derived.Test.YtclgplkkajfenaaGreatDoorRop2
import Derived.Test.YtclgplkkajfenaaGreatDoorWalks1
/- store: what asks. -/
namespace Go.Proofs.YtclgplkkajfenaaGreatDoor
open Go Go.RowKit Ow
theorem mt57_Len (v : Value) : ∀ w, (method (Tryz.prog.types.size + Made.depth) 57 v "Len").run Tryz.prog w = .ok (254, v) w := fun _ => by kernel_rfl
theorem mt57_Slice (v : Value) : ∀ w, (method (Tryz.prog.types.size + Made.depth) 57 v "Slice").run Tryz.prog w = .ok (257, v) w := fun _ => by kernel_rfl
theorem mt57_Measure (v : Value) : ∀ w, (method (Tryz.prog.types.size + Made.depth) 57 v "Measure").run Tryz.prog w = .ok (255, v) w := fun _ => by kernel_rfl
theorem mt57_Replace (v : Value) : ∀ w, (method (Tryz.prog.types.size + Made.depth) 57 v "Replace").run Tryz.prog w = .ok (256, v) w := fun _ => by kernel_rfl
theorem mt152_Len (v : Value) : ∀ w, (method (Tryz.prog.types.size + Made.depth) 152 v "Len").run Tryz.prog w = .ok (262, v) w := fun _ => by kernel_rfl
theorem mt152_Slice (v : Value) : ∀ w, (method (Tryz.prog.types.size + Made.depth) 152 v "Slice").run Tryz.prog w = .ok (265, v) w := fun _ => by kernel_rfl
theorem mt152_Measure (v : Value) : ∀ w, (method (Tryz.prog.types.size + Made.depth) 152 v "Measure").run Tryz.prog w = .ok (263, v) w := fun _ => by kernel_rfl
theorem mt152_Replace (v : Value) : ∀ w, (method (Tryz.prog.types.size + Made.depth) 152 v "Replace").run Tryz.prog w = .ok (264, v) w := fun _ => by kernel_rfl
theorem mt56_Len (v : Value) : ∀ w, (method (Tryz.prog.types.size + Made.depth) 56 v "Len").run Tryz.prog w = .ok (91, v) w := fun _ => by kernel_rfl
theorem mt56_Slice (v : Value) : ∀ w, (method (Tryz.prog.types.size + Made.depth) 56 v "Slice").run Tryz.prog w = .ok (95, v) w := fun _ => by kernel_rfl
theorem mt56_Measure (v : Value) : ∀ w, (method (Tryz.prog.types.size + Made.depth) 56 v "Measure").run Tryz.prog w = .ok (105, v) w := fun _ => by kernel_rfl
/-- All objects but those of a type are as they were. -/
def KeepT (T : Nat) (w w' : World) : Prop := ∀ (k : Nat) (cs : Array Value) (E : Nat), w.heap[k]? = some (.cells cs E (0, 0)) → E ≠ T → w'.heap[k]? = some (.cells cs E (0, 0))
theorem KeepT.of_below {T : Nat} {w w' : World} (h : Below w.heap.size w w') : KeepT T w w' := fun k _ _ hk _ => (h.block k (lt_of_heap hk)).trans hk
theorem KeepT.of_own {T b : Nat} {w w' : World} {cs : Array Value} {o : Obj} (h : Ow.Own w [(b, o)] w') (hb : w.heap[b]? = some (.cells cs T (0, 0))) : KeepT T w w' := fun k _ E hk hE => by
  refine (h.old k (lt_of_heap hk) fun p hp => ?_).trans hk
  simp only [List.mem_singleton] at hp
  subst hp
  intro e
  have e' : b = k := e
  subst e'
  rw [hb] at hk
  simp at hk
  exact hE hk.2.symm
theorem GapAt.keep {w w' : World} {T b : Nat} {s : ByteArray} {lim : Nat} (h : GapAt w b s lim) (hk : KeepT T w w') (h1 : 146 ≠ T) (h2 : 5 ≠ T) : GapAt w' b s lim := by
  obtain ⟨rb, l, fr, tu, h3, h4, h5⟩ := h
  exact ⟨rb, l, fr, tu, hk _ _ _ h3 h1, hk _ _ _ h4 h2, h5⟩
theorem RT.At.keep {w w' : World} {T : Nat} (hk : KeepT T w w') (h1 : 228 ≠ T) : ∀ {t : RT} {b : Nat}, t.At w b → t.At w' b
  | .leaf _, _, h => hk _ _ _ h h1
  | .knot _ _, _, ⟨x, y, h, h2, h3⟩ => ⟨x, y, hk _ _ _ h h1, h2.keep hk h1, h3.keep hk h1⟩
theorem RopeAt.keep {w w' : World} {T b : Nat} {s : ByteArray} (h : RopeAt w b s) (hk : KeepT T w w') (h1 : 228 ≠ T) (h2 : 211 ≠ T) : RopeAt w' b s := by
  obtain ⟨y, t, h3, h4, h5⟩ := h
  exact ⟨y, t, hk _ _ _ h3 h2, h4.keep hk h1, h5⟩
/-- A rope with a limit. -/
def RopedAt (w : World) (b : Nat) (s : ByteArray) (lim : Nat) : Prop := ∃ rb : Nat, w.heap[b]? = some (.cells [.pointer (some ⟨rb, 0, none⟩), .int .i64 (lim : Int)].toArray 196 (0, 0)) ∧ RopeAt w rb s ∧ lim ≤ 1073741824 ∧ s.size ≤ lim
theorem RopedAt.keep {w w' : World} {T b : Nat} {s : ByteArray} {lim : Nat} (h : RopedAt w b s lim) (hk : KeepT T w w') (h1 : 228 ≠ T) (h2 : 211 ≠ T) (h3 : 196 ≠ T) : RopedAt w' b s lim := by
  obtain ⟨rb, g1, g2, g3⟩ := h
  exact ⟨rb, hk _ _ _ g1 h3, g2.keep hk h1 h2, g3⟩
/-- What lies under a store: backend 1, a gap buffer; backend 2, a rope. -/
def UnderAt (w : World) (u : Value) (s : ByteArray) (lim : Nat) : Prop :=
  (∃ b : Nat, u = .iface 57 (.pointer (some ⟨b, 0, none⟩)) ∧ GapAt w b s lim) ∨ (∃ b : Nat, u = .iface 152 (.pointer (some ⟨b, 0, none⟩)) ∧ RopedAt w b s lim)
theorem UnderAt.keep {w w' : World} {T : Nat} {u : Value} {s : ByteArray} {lim : Nat} (h : UnderAt w u s lim) (hk : KeepT T w w') (hT : 146 ≠ T ∧ 5 ≠ T ∧ 228 ≠ T ∧ 211 ≠ T ∧ 196 ≠ T) : UnderAt w' u s lim := by
  rcases h with ⟨b, e, h⟩ | ⟨b, e, h⟩
  · exact .inl ⟨b, e, h.keep hk hT.1 hT.2.1⟩
  · exact .inr ⟨b, e, h.keep hk hT.2.2.1 hT.2.2.2.1 hT.2.2.2.2⟩
theorem RopedAt.below {w w' : World} {b : Nat} {s : ByteArray} {lim : Nat} (h : RopedAt w b s lim) (hb : Below w.heap.size w w') : RopedAt w' b s lim := h.keep (T := 0) (.of_below hb) (by decide) (by decide) (by decide)
theorem UnderAt.below {w w' : World} {u : Value} {s : ByteArray} {lim : Nat} (h : UnderAt w u s lim) (hb : Below w.heap.size w w') : UnderAt w' u s lim := h.keep (T := 0) (.of_below hb) (by decide)
theorem UnderAt.iface {w : World} {u : Value} {s : ByteArray} {lim : Nat} (h : UnderAt w u s lim) : ∃ (T : Nat) (x : Value), u = .iface T x := by
  rcases h with ⟨b, e, _⟩ | ⟨b, e, _⟩
  · exact ⟨_, _, e⟩
  · exact ⟨_, _, e⟩
theorem UnderAt.sizes {w : World} {u : Value} {s : ByteArray} {lim : Nat} (h : UnderAt w u s lim) : lim ≤ 1073741824 ∧ s.size ≤ lim := by
  rcases h with ⟨b, _, rb, l, fr, tu, _, _, h⟩ | ⟨b, _, rb, _, _, h⟩
  · exact ⟨h.lm, h.fits⟩
  · exact h

set_option maxRecDepth 20000 in
set_option maxHeartbeats 400000 in
theorem roped_len (b : Nat) (s : ByteArray) (lim : Nat) (w : World) (hG : Good w) (hp : RopedAt w b s lim) :
    Calls Tryz.prog 262 #[.pointer (some ⟨b, 0, none⟩)] w fun e w' => e = .returned (.int .i64 (s.size : Int)) ∧ Below w.heap.size w w' := by
  obtain ⟨rb, on, hr, hlim, hfit⟩ := hp
  have hz : s.size ≤ 1099511627776 := by omega
  have hO0 := Own.start hG
  refine enter Tryz.func262 rfl rfl rfl 0 ?_
  refine SC.sr ?_
  refine SO.as ?_
  refine SO.nn ?_
  refine SC.sr ?_
  refine SO.mv ?_
  refine SO.v (.nilCheck rfl rfl) ?_
  refine SO.v (.fieldAddr rfl rfl fa196_0) ?_
  refine SO.v (.load rfl rfl ag193 (cell_of' (hO0.heapO trivial on) rfl)) ?_
  refine SO.call rfl rfl rfl rfl (.callF rfl rfl en266) (rope_len rb s _ (hO0.good hG) (hr.below (hO0.toBelow trivial)) hz) ?_
  rintro _ w1 ⟨rfl, hb1⟩
  have hO1 := hO0.below hb1
  refine ⟨_, rfl, ?_⟩
  refine SO.as ?_
  refine SO.nn ?_
  refine SC.ret ?_
  refine SQ.out (.inl rfl) (res1 rfl rfl) ?_
  exact ⟨rfl, hO1.toBelow trivial⟩

set_option maxRecDepth 20000 in
set_option maxHeartbeats 400000 in
theorem roped_slice (b : Nat) (s : ByteArray) (lim : Nat) (a c : Int) (w : World) (hG : Good w) (hp : RopedAt w b s lim) :
    Calls Tryz.prog 265 #[.pointer (some ⟨b, 0, none⟩), .int .i64 a, .int .i64 c] w fun e w' => e = .returned (.tuple #[.string (slT s a c), .int .i64 (slE s a c)]) ∧ Below w.heap.size w w' := by
  obtain ⟨rb, on, hr, hlim, hfit⟩ := hp
  have hz : s.size ≤ 1099511627776 := by omega
  have hO0 := Own.start hG
  refine enter Tryz.func265 rfl rfl rfl 0 ?_
  refine SC.sr ?_
  refine SO.as ?_
  refine SO.as ?_
  refine SO.nn ?_
  refine SC.sr ?_
  refine SO.mv ?_
  refine SO.v (.nilCheck rfl rfl) ?_
  refine SO.v (.fieldAddr rfl rfl fa196_0) ?_
  refine SO.v (.load rfl rfl ag193 (cell_of' (hO0.heapO trivial on) rfl)) ?_
  refine SO.mv ?_
  refine SO.mv ?_
  refine SO.call rfl rfl rfl rfl (.callF rfl rfl en269) (rope_slice rb s _ _ _ (hO0.good hG) (hr.below (hO0.toBelow trivial)) hz) ?_
  rintro _ w1 ⟨rfl, hb1⟩
  have hO1 := hO0.below hb1
  refine ⟨_, rfl, ?_⟩
  refine SO.v (.extract rfl rfl rfl) ?_
  refine SO.v (.extract rfl rfl rfl) ?_
  refine SO.as ?_
  refine SO.as ?_
  refine SO.nn ?_
  refine SC.ret ?_
  refine SQ.out (.inl rfl) (res2 rfl rfl rfl) ?_
  exact ⟨rfl, hO1.toBelow trivial⟩

set_option maxRecDepth 20000 in
set_option maxHeartbeats 400000 in
theorem roped_measure (b : Nat) (s : ByteArray) (lim : Nat) (a c : Int) (w : World) (hG : Good w) (hp : RopedAt w b s lim) :
    Calls Tryz.prog 263 #[.pointer (some ⟨b, 0, none⟩), .int .i64 a, .int .i64 c] w fun e w' => ∃ m : Smy, e = .returned (.tuple #[smV m, .int .i64 (slE s a c)]) ∧ (¬ bad s a c → m.nl = nlC (pc (bl s) a c)) ∧ Below w.heap.size w w' := by
  obtain ⟨rb, on, hr, hlim, hfit⟩ := hp
  have hz : s.size ≤ 1099511627776 := by omega
  have hO0 := Own.start hG
  refine enter Tryz.func263 rfl rfl rfl 0 ?_
  refine SC.sr ?_
  refine SO.alloc hO0 rfl rfl rfl rfl zv91 [_, _, _, _, _, _, _] rfl ?_
  intro b1 w1 hb1 hO1
  refine SO.as ?_
  refine SO.nn ?_
  refine SC.sr ?_
  refine SO.mv ?_
  refine SO.v (.nilCheck rfl rfl) ?_
  refine SO.v (.fieldAddr rfl rfl fa196_0) ?_
  refine SO.v (.load rfl rfl ag193 (cell_of' (hO1.heapO ⟨hb1, trivial⟩ on) rfl)) ?_
  refine SO.mv ?_
  refine SO.mv ?_
  refine SO.call rfl rfl rfl rfl (.callF rfl rfl en267) (rope_measure rb s _ _ _ (hO1.good hG) (hr.below (hO1.toBelow ⟨hb1, trivial⟩)) hz) ?_
  rintro _ w2 ⟨m, rfl, hm, hb2⟩
  have hO2 := hO1.below hb2
  refine ⟨_, rfl, ?_⟩
  refine SO.v (.extract rfl rfl rfl) ?_
  refine SO.v (.extract rfl rfl rfl) ?_
  refine SO.store hO2 (i := 0) rfl rfl rfl rfl rfl rfl sz91 rfl rfl [(_, .cells [_, _, _, _, _, _, _].toArray _ _)] rfl ?_
  intro w3 hO3
  refine SO.as ?_
  refine SO.nn ?_
  refine SC.ret ?_
  refine SQ.out (.inl rfl) (resCT [_, _, _, _, _, _, _] rfl rfl rfl ag91 sz91 (hO3.at (i := 0) rfl) rfl rfl) ?_
  exact ⟨m, rfl, hm, hO3.toBelow ⟨hb1, trivial⟩⟩

/-- A method's call on what an interface value holds. -/
def MC (name : String) (v : Value) (args : List Value) (w : World) (R : Ending → World → Prop) : Prop :=
  ∃ (T : Nat) (u : Value) (f : Nat) (r : Value), v = .iface T u ∧ (∀ w, (method (Tryz.prog.types.size + Made.depth) T u name).run Tryz.prog w = .ok (f, r) w) ∧ (∀ args w, (callFunc f args).run Tryz.prog w = .ok (.enter f args) w) ∧ Calls Tryz.prog f (r :: args).toArray w R
theorem under_len {u : Value} {s : ByteArray} {lim : Nat} {w : World} (hG : Good w) (h : UnderAt w u s lim) : MC "Len" u [] w fun e w' => e = .returned (.int .i64 (s.size : Int)) ∧ Below w.heap.size w w' := by
  rcases h with ⟨b, e, h⟩ | ⟨b, e, h⟩
  · exact ⟨_, _, _, _, e, mt57_Len _, en254, gap_len b s lim w hG h⟩
  · exact ⟨_, _, _, _, e, mt152_Len _, en262, roped_len b s lim w hG h⟩
theorem under_slice {u : Value} {s : ByteArray} {lim : Nat} {w : World} (hG : Good w) (h : UnderAt w u s lim) (a c : Int) : MC "Slice" u [.int .i64 a, .int .i64 c] w fun e w' => e = .returned (.tuple #[.string (slT s a c), .int .i64 (slE s a c)]) ∧ Below w.heap.size w w' := by
  rcases h with ⟨b, e, h⟩ | ⟨b, e, h⟩
  · exact ⟨_, _, _, _, e, mt57_Slice _, en257, gap_slice b s lim a c w hG h⟩
  · exact ⟨_, _, _, _, e, mt152_Slice _, en265, roped_slice b s lim a c w hG h⟩
theorem under_measure {u : Value} {s : ByteArray} {lim : Nat} {w : World} (hG : Good w) (h : UnderAt w u s lim) (a c : Int) : MC "Measure" u [.int .i64 a, .int .i64 c] w fun e w' => ∃ m : Smy, e = .returned (.tuple #[smV m, .int .i64 (slE s a c)]) ∧ (¬ bad s a c → m.nl = nlC (pc (bl s) a c)) ∧ Below w.heap.size w w' := by
  rcases h with ⟨b, e, h⟩ | ⟨b, e, h⟩
  · refine ⟨_, _, _, _, e, mt57_Measure _, en255, (gap_measure b s lim a c w hG h).mono ?_⟩
    rintro e w' ⟨rfl, hb⟩
    refine ⟨_, rfl, fun hn => ?_, hb⟩
    have hn2 := hn
    unfold bad at hn2
    unfold msT; rw [if_neg hn, ← pc_str s a c (by omega) (by omega)]; rfl
  · exact ⟨_, _, _, _, e, mt152_Measure _, en263, roped_measure b s lim a c w hG h⟩
theorem slT_all (s : ByteArray) : slT s 0 (s.size : Int) = s := by
  unfold slT
  rw [if_neg (by unfold bad; omega)]
  refine bl_inj ?_
  rw [bl_extract]
  simp only [Int.toNat_zero, List.drop_zero, Int.toNat_natCast]
  exact List.take_of_length_le (by rw [bl_length]; exact Nat.le_refl _)
/-- Which backend. -/
def bkV : Value → Int
  | .iface 152 _ => 2
  | _ => 1
/-- A store. -/
def stO (u : Value) (k lo tp : Int) (lim : Nat) (mv fo ed : Int) : Obj := .cells [u, .int .i64 k, .int .i64 lo, .int .i64 tp, .int .i64 (lim : Int), .int .i64 mv, .int .i64 fo, .int .i64 ed].toArray 103 (0, 0)
def StoreAt (w : World) (b : Nat) (s : ByteArray) (lim : Nat) : Prop := ∃ u k lo tp mv fo ed, w.heap[b]? = some (stO u k lo tp lim mv fo ed) ∧ UnderAt w u s lim
theorem StoreAt.below {w w' : World} {b : Nat} {s : ByteArray} {lim : Nat} (h : StoreAt w b s lim) (hb : Below w.heap.size w w') : StoreAt w' b s lim := by
  obtain ⟨u, k, lo, tp, mv, fo, ed, h1, h2⟩ := h
  exact ⟨u, k, lo, tp, mv, fo, ed, (hb.block b (lt_of_heap h1)).trans h1, h2.below hb⟩

set_option maxRecDepth 20000 in
set_option maxHeartbeats 400000 in
theorem under_any (b : Nat) (u : Value) (k lo tp mv fo ed : Int) (lim : Nat) (s : ByteArray) (w : World) (hG : Good w) (on : w.heap[b]? = some (stO u k lo tp lim mv fo ed)) (hu : UnderAt w u s lim) :
    Calls Tryz.prog 93 #[.pointer (some ⟨b, 0, none⟩)] w fun e w' => e = .returned u ∧ Below w.heap.size w w' := by
  obtain ⟨uT, ux, rfl⟩ := hu.iface
  have hO0 := Own.start hG
  refine enter Tryz.func93 rfl rfl rfl 0 ?_
  refine SC.sr ?_
  refine SO.as ?_
  refine SO.nn ?_
  refine SC.seq ?_
  refine SC.sr ?_
  refine SO.mv ?_
  refine SO.v (.ptrEq (b := false) rfl rfl rfl Tryz.underlying56 rfl) ?_
  refine SO.nn ?_
  refine SC.no rfl ?_
  refine SC.skip ?_
  refine SQ.then_normal ?_
  refine SC.seq ?_
  refine SC.sr ?_
  refine SO.mv ?_
  refine SO.v (.nilCheck rfl rfl) ?_
  refine SO.v (.fieldAddr rfl rfl fa103_0) ?_
  refine SO.v (.load rfl rfl ag28 (cell_of' (hO0.heapO trivial on) rfl)) ?_
  refine SO.v (.ifaceNilF rfl rfl Tryz.underlying28) ?_
  refine SO.nn ?_
  refine SC.no rfl ?_
  refine SC.skip ?_
  refine SQ.then_normal ?_
  refine SC.sr ?_
  refine SO.mv ?_
  refine SO.v (.nilCheck rfl rfl) ?_
  refine SO.v (.fieldAddr rfl rfl fa103_0) ?_
  refine SO.v (.load rfl rfl ag28 (cell_of' (hO0.heapO trivial on) rfl)) ?_
  refine SO.as ?_
  refine SO.nn ?_
  refine SC.ret ?_
  refine SQ.out (.inl rfl) (res1 rfl rfl) ?_
  exact ⟨rfl, hO0.toBelow trivial⟩

set_option maxRecDepth 20000 in
set_option maxHeartbeats 400000 in
theorem store_len (b : Nat) (s : ByteArray) (lim : Nat) (w : World) (hG : Good w) (hp : StoreAt w b s lim) :
    Calls Tryz.prog 91 #[.pointer (some ⟨b, 0, none⟩)] w fun e w' => e = .returned (.int .i64 (s.size : Int)) ∧ Below w.heap.size w w' := by
  obtain ⟨u, k, lo, tp, mv, fo, ed, on, hu⟩ := hp
  have hO0 := Own.start hG
  refine enter Tryz.func91 rfl rfl rfl 0 ?_
  refine SC.sr ?_
  refine SO.as ?_
  refine SO.nn ?_
  refine SC.sr ?_
  refine SO.mv ?_
  refine SO.call rfl rfl rfl rfl (.callF rfl rfl en93) (under_any b u k lo tp mv fo ed lim s _ (hO0.good hG) (hO0.heapO trivial on) (hu.below (hO0.toBelow trivial))) ?_
  rintro _ w1 ⟨rfl, hb1⟩
  have hO1 := hO0.below hb1
  refine ⟨_, rfl, ?_⟩
  obtain ⟨T1, u1, f1, r1, rfl, hm1, he1, hc1⟩ := under_len (hO1.good hG) (hu.below (hO1.toBelow trivial))
  refine SO.call rfl rfl rfl rfl (.callI rfl rfl rfl hm1 he1) (hc1) ?_
  rintro _ w2 ⟨rfl, hb2⟩
  have hO2 := hO1.below hb2
  refine ⟨_, rfl, ?_⟩
  refine SO.as ?_
  refine SO.nn ?_
  refine SC.ret ?_
  refine SQ.out (.inl rfl) (res1 rfl rfl) ?_
  exact ⟨rfl, hO2.toBelow trivial⟩

set_option maxRecDepth 20000 in
set_option maxHeartbeats 400000 in
theorem store_slice (b : Nat) (s : ByteArray) (lim : Nat) (a c : Int) (w : World) (hG : Good w) (hp : StoreAt w b s lim) :
    Calls Tryz.prog 95 #[.pointer (some ⟨b, 0, none⟩), .int .i64 a, .int .i64 c] w fun e w' => e = .returned (.tuple #[.string (slT s a c), .int .i64 (slE s a c)]) ∧ Below w.heap.size w w' := by
  obtain ⟨u, k, lo, tp, mv, fo, ed, on, hu⟩ := hp
  have hO0 := Own.start hG
  refine enter Tryz.func95 rfl rfl rfl 0 ?_
  refine SC.sr ?_
  refine SO.as ?_
  refine SO.as ?_
  refine SO.nn ?_
  refine SC.sr ?_
  refine SO.mv ?_
  refine SO.call rfl rfl rfl rfl (.callF rfl rfl en93) (under_any b u k lo tp mv fo ed lim s _ (hO0.good hG) (hO0.heapO trivial on) (hu.below (hO0.toBelow trivial))) ?_
  rintro _ w1 ⟨rfl, hb1⟩
  have hO1 := hO0.below hb1
  refine ⟨_, rfl, ?_⟩
  refine SO.mv ?_
  refine SO.mv ?_
  obtain ⟨T1, u1, f1, r1, rfl, hm1, he1, hc1⟩ := under_slice (hO1.good hG) (hu.below (hO1.toBelow trivial)) a c
  refine SO.call rfl rfl rfl rfl (.callI rfl rfl rfl hm1 he1) (hc1) ?_
  rintro _ w2 ⟨rfl, hb2⟩
  have hO2 := hO1.below hb2
  refine ⟨_, rfl, ?_⟩
  refine SO.v (.extract rfl rfl rfl) ?_
  refine SO.v (.extract rfl rfl rfl) ?_
  refine SO.as ?_
  refine SO.as ?_
  refine SO.nn ?_
  refine SC.ret ?_
  refine SQ.out (.inl rfl) (res2 rfl rfl rfl) ?_
  exact ⟨rfl, hO2.toBelow trivial⟩

set_option maxRecDepth 20000 in
set_option maxHeartbeats 400000 in
theorem store_measure (b : Nat) (s : ByteArray) (lim : Nat) (a c : Int) (w : World) (hG : Good w) (hp : StoreAt w b s lim) :
    Calls Tryz.prog 105 #[.pointer (some ⟨b, 0, none⟩), .int .i64 a, .int .i64 c] w fun e w' => ∃ m : Smy, e = .returned (.tuple #[smV m, .int .i64 (slE s a c)]) ∧ (¬ bad s a c → m.nl = nlC (pc (bl s) a c)) ∧ Below w.heap.size w w' := by
  obtain ⟨u, k, lo, tp, mv, fo, ed, on, hu⟩ := hp
  have hO0 := Own.start hG
  refine enter Tryz.func105 rfl rfl rfl 0 ?_
  refine SC.sr ?_
  refine SO.alloc hO0 rfl rfl rfl rfl zv91 [_, _, _, _, _, _, _] rfl ?_
  intro b1 w1 hb1 hO1
  refine SO.as ?_
  refine SO.nn ?_
  refine SC.sr ?_
  refine SO.mv ?_
  refine SO.call rfl rfl rfl rfl (.callF rfl rfl en93) (under_any b u k lo tp mv fo ed lim s _ (hO1.good hG) (hO1.heapO ⟨hb1, trivial⟩ on) (hu.below (hO1.toBelow ⟨hb1, trivial⟩))) ?_
  rintro _ w2 ⟨rfl, hb2⟩
  have hO2 := hO1.below hb2
  refine ⟨_, rfl, ?_⟩
  refine SO.mv ?_
  refine SO.mv ?_
  obtain ⟨T1, u1, f1, r1, rfl, hm1, he1, hc1⟩ := under_measure (hO2.good hG) (hu.below (hO2.toBelow ⟨hb1, trivial⟩)) a c
  refine SO.call rfl rfl rfl rfl (.callI rfl rfl rfl hm1 he1) (hc1) ?_
  rintro _ w3 ⟨m, rfl, hm, hb3⟩
  have hO3 := hO2.below hb3
  refine ⟨_, rfl, ?_⟩
  refine SO.v (.extract rfl rfl rfl) ?_
  refine SO.v (.extract rfl rfl rfl) ?_
  refine SO.store hO3 (i := 0) rfl rfl rfl rfl rfl rfl sz91 rfl rfl [(_, .cells [_, _, _, _, _, _, _].toArray _ _)] rfl ?_
  intro w4 hO4
  refine SO.as ?_
  refine SO.nn ?_
  refine SC.ret ?_
  refine SQ.out (.inl rfl) (resCT [_, _, _, _, _, _, _] rfl rfl rfl ag91 sz91 (hO4.at (i := 0) rfl) rfl rfl) ?_
  exact ⟨m, rfl, hm, hO4.toBelow ⟨hb1, trivial⟩⟩

set_option maxRecDepth 20000 in
set_option maxHeartbeats 400000 in
theorem store_text (b : Nat) (s : ByteArray) (lim : Nat) (w : World) (hG : Good w) (hp : StoreAt w b s lim) :
    Calls Tryz.prog 47 #[.pointer (some ⟨b, 0, none⟩)] w fun e w' => e = .returned (.string s) ∧ Below w.heap.size w w' := by
  have hO0 := Own.start hG
  refine enter Tryz.func47 rfl rfl rfl 0 ?_
  refine SC.sr ?_
  refine SO.as ?_
  refine SO.nn ?_
  refine SC.sr ?_
  refine SO.mv ?_
  refine SO.mv ?_
  refine SO.call rfl rfl rfl rfl (.callF rfl rfl en91) (store_len b s lim _ (hO0.good hG) (hp.below (hO0.toBelow trivial))) ?_
  rintro _ w1 ⟨rfl, hb1⟩
  have hO1 := hO0.below hb1
  refine ⟨_, rfl, ?_⟩
  refine SO.call rfl rfl rfl rfl (.callF rfl rfl en95) (store_slice b s lim _ _ _ (hO1.good hG) (hp.below (hO1.toBelow trivial))) ?_
  rintro _ w2 ⟨rfl, hb2⟩
  have hO2 := hO1.below hb2
  refine ⟨_, rfl, ?_⟩
  refine SO.mv ?_
  refine SO.v (.extract rfl rfl rfl) ?_
  refine SO.v (.extract rfl rfl rfl) ?_
  refine SO.as ?_
  refine SO.as ?_
  refine SO.nn ?_
  refine SC.sr ?_
  refine SO.mv ?_
  refine SO.as ?_
  refine SO.nn ?_
  refine SC.ret ?_
  refine SQ.out (.inl rfl) (res1 rfl rfl) ?_
  exact ⟨(show Ending.returned (.string (slT s 0 (s.size : Int))) = _ by rw [slT_all]), hO2.toBelow trivial⟩

theorem bd196_0_1_Stor (x0 : Option Addr) (x1 : Int) : ∀ w, (Instr.build 196 [(0, .pointer x0), (1, .int .i64 x1)].toArray).run Tryz.prog w = .ok (.agg [.pointer x0, .int .i64 x1].toArray) w := fun _ => by kernel_rfl
theorem mi57_Stor : ∀ v w, (Instr.makeInterface 57 v).run Tryz.prog w = .ok (.iface 57 v) w := fun _ _ => by kernel_rfl
theorem mi152_Stor : ∀ v w, (Instr.makeInterface 152 v).run Tryz.prog w = .ok (.iface 152 v) w := fun _ _ => by kernel_rfl
set_option maxRecDepth 20000 in
set_option maxHeartbeats 400000 in
theorem kept_any (bk li : Int) (lim : Nat) (s : ByteArray) (w : World) (hG : Good w) (hli : li = (lim : Nat)) (hlim : lim ≤ 1073741824) (hz : s.size ≤ lim) :
    Calls Tryz.prog 92 #[.int .i64 bk, .int .i64 li, .string s] w fun e w' => ∃ u, e = .returned u ∧ UnderAt w' u s lim ∧ bkV u = (if bk = 2 then 2 else 1) ∧ Below w.heap.size w w' := by
  subst hli
  have hO0 := Own.start hG
  refine enter Tryz.func92 rfl rfl rfl 0 ?_
  refine SC.sr ?_
  refine SO.as ?_
  refine SO.nn ?_
  refine SC.seq ?_
  refine SC.sr ?_
  refine SO.mv ?_
  refine SO.v (.eql rfl rfl rfl) ?_
  refine SO.nn ?_
  refine SC.dec rfl (fun c1 => ?_) (fun c1 => ?_)
  ·
   have hbk : bk = 2 := c1
   refine SC.sr ?_
   refine SO.mv ?_
   refine SO.call rfl rfl rfl rfl (.callF rfl rfl en146) (rope_new _ _ (hO0.good hG) (by omega)) ?_
   rintro _ w2 ⟨br, rfl, hbr, hra, hb2⟩
   have hOb := hO0.below hb2
   have hGb := hOb.good hG
   have hBb := hOb.toBelow trivial
   have hO2 := Own.start hGb
   refine ⟨_, rfl, ?_⟩
   refine SO.mv ?_
   refine SO.v (.build rfl rfl (bd196_0_1_Stor _ _)) ?_
   refine SO.box hO2 rfl rfl rfl rfl rfl [_, _] rfl ?_
   intro b3 w3 hb3 hO3
   refine SO.v (.iface rfl rfl mi152_Stor) ?_
   refine SO.as ?_
   refine SO.nn ?_
   refine SC.ret ?_
   refine SQ.then_ret ?_
   refine SQ.out (.inl rfl) (res1 rfl rfl) ?_
   (have hE := hO3.toBelow ⟨hb3, trivial⟩; exact ⟨_, rfl, .inr ⟨_, rfl, br, hO3.at (i := 0) rfl, hra.below hE, hlim, hz⟩, (by rw [if_pos hbk]; rfl), hBb.trans (hE.mono hBb.size)⟩)
  ·
   have hbk : ¬ bk = 2 := c1
   refine SC.skip ?_
   refine SQ.then_normal ?_
   refine SC.sr ?_
   refine SO.mv ?_
   refine SO.mv ?_
   refine SO.call rfl rfl rfl rfl (.callF rfl rfl en40) (gap_new _ _ _ (hO0.good hG)) ?_
   rintro _ w5 hgn
   have hld : held (lim : Int) = lim := by unfold held; omega
   rw [hld] at hgn
   rcases hgn with ⟨_, hlt, _⟩ | ⟨bg, rfl, hbg, hga, _, hb5⟩
   · omega
   have hO5 := hO0.below hb5
   refine ⟨_, rfl, ?_⟩
   refine SO.mv ?_
   refine SO.v (.extract rfl rfl rfl) ?_
   refine SO.v (.extract rfl rfl rfl) ?_
   refine SO.as ?_
   refine SO.as ?_
   refine SO.nn ?_
   refine SC.sr ?_
   refine SO.mv ?_
   refine SO.v (.iface rfl rfl mi57_Stor) ?_
   refine SO.as ?_
   refine SO.nn ?_
   refine SC.ret ?_
   refine SQ.out (.inl rfl) (res1 rfl rfl) ?_
   exact ⟨_, rfl, .inl ⟨bg, rfl, hga⟩, (by rw [if_neg hbk]; rfl), hO5.toBelow trivial⟩

end Go.Proofs.YtclgplkkajfenaaGreatDoor
/- store.New. -/
namespace Go.Proofs.YtclgplkkajfenaaGreatDoor
open Go Go.RowKit Ow
theorem bd103_1_2_4_Storn (x0 : Int) (x1 : Int) (x2 : Int) : ∀ w, (Instr.build 103 [(1, .int .i64 x0), (2, .int .i64 x1), (4, .int .i64 x2)].toArray).run Tryz.prog w = .ok (.agg [.nilIface, .int .i64 x0, .int .i64 x1, .int .i64 0, .int .i64 x2, .int .i64 0, .int .i64 0, .int .i64 0].toArray) w := fun _ => by kernel_rfl
set_option maxRecDepth 20000 in
set_option maxHeartbeats 400000 in
theorem store_new (k lo hi i : Int) (s : ByteArray) (w : World) (hG : Good w) (hhi : -4611686018427387904 ≤ hi ∧ hi ≤ 9223372036854775807) :
    Calls Tryz.prog 43 #[.int .i64 k, .int .i64 lo, .int .i64 hi, .int .i64 i, .string s] w fun e w' => (e = .returned (.tuple #[.pointer none, .int .i64 2]) ∧ held i < s.size ∧ Below w.heap.size w w') ∨
      ∃ (b : Nat) (u : Value) (kd tp : Int), e = .returned (.tuple #[.pointer (some ⟨b, 0, none⟩), .int .i64 0]) ∧ w.heap.size ≤ b ∧ s.size ≤ held i ∧ w'.heap[b]? = some (stO u kd (min (max lo 0) 1073741824) tp (held i) 0 0 0) ∧ UnderAt w' u s (held i) ∧
        kd = (if k ≠ 1 ∧ k ≠ 2 then 3 else k) ∧ tp = max hi (min (max lo 0) 1073741824 + 1) ∧ bkV u = (if k = 2 ∨ (k ≠ 1 ∧ tp ≤ s.size) then 2 else 1) ∧ Below w.heap.size w w' := by
  have hh := held_le i
  have hli : min (max i 0) 1073741824 = ((held i : Nat) : Int) := by unfold held; omega
  have hO0 := Own.start hG
  refine enter Tryz.func43 rfl rfl rfl 0 ?_
  refine SC.sr ?_
  refine SO.as ?_
  refine SO.as ?_
  refine SO.nn ?_
  refine SC.sr ?_
  refine SO.mv ?_
  refine SO.mv ?_
  refine SO.v (.maxI rfl rfl rfl) ?_
  refine SO.v (.minI rfl rfl rfl) ?_
  refine SO.mv ?_
  refine SO.v (.maxI rfl rfl rfl) ?_
  refine SO.v (.minI rfl rfl rfl) ?_
  refine SO.v (.build rfl rfl (bd103_1_2_4_Storn _ _ _)) ?_
  refine SO.box hO0 rfl rfl rfl rfl rfl [_, _, _, _, _, _, _, _] rfl ?_
  intro b1 w1 hb1 hO1
  refine SO.as ?_
  refine SO.nn ?_
  refine SC.sr ?_
  refine SO.mv ?_
  refine SO.mv ?_
  refine SO.mv ?_
  refine SO.v (.nilCheck rfl rfl) ?_
  refine SO.v (.fieldAddr rfl rfl fa103_2) ?_
  refine SO.v (.load rfl rfl ag3 (cell_of' (hO1.at (i := 0) rfl) rfl)) ?_
  refine SO.v (.add rfl rfl rfl (by omega)) ?_
  refine SO.v (.maxI rfl rfl rfl) ?_
  refine SO.v (.nilCheck rfl rfl) ?_
  refine SO.v (.fieldAddr rfl rfl fa103_3) ?_
  refine SO.store hO1 (i := 0) rfl rfl rfl rfl rfl rfl sz3 rfl rfl [(_, .cells [_, _, _, _, _, _, _, _].toArray _ _)] rfl ?_
  intro w2 hO2
  refine SO.nn ?_
  refine SC.seq ?_
  refine SC.sr ?_
  refine SO.mv ?_
  refine SO.v (.lenS rfl rfl Tryz.underlying9) ?_
  refine SO.mv ?_
  refine SO.v (.nilCheck rfl rfl) ?_
  refine SO.v (.fieldAddr rfl rfl fa103_4) ?_
  refine SO.v (.load rfl rfl ag3 (cell_of' (hO2.at (i := 0) rfl) rfl)) ?_
  refine SO.v (.gtr rfl rfl rfl) ?_
  refine SO.nn ?_
  refine SC.dec rfl (fun c3 => ?_) (fun c3 => ?_)
  ·
   refine SC.sr ?_
   refine SO.as ?_
   refine SO.as ?_
   refine SO.nn ?_
   refine SC.ret ?_
   refine SQ.then_ret ?_
   refine SQ.out (.inl rfl) (res2 rfl rfl rfl) ?_
   exact .inl ⟨rfl, by omega, hO2.toBelow ⟨hb1, trivial⟩⟩
  ·
   refine SC.skip ?_
   refine SQ.then_normal ?_
   refine SC.sr ?_
   refine SO.mv ?_
   refine SO.as ?_
   refine SO.nn ?_
   refine SC.seq ?_
   refine SC.sr ?_
   refine SO.mv ?_
   refine SO.v (.neq rfl rfl rfl) ?_
   refine SO.mv ?_
   refine SO.dec 43 rfl (fun g5 => ?_) (fun g5 => ?_)
   ·
    refine SO.mv ?_
    refine SO.v (.neq rfl rfl rfl) ?_
    refine SO.v (.pickT rfl rfl rfl) ?_
    refine SO.nn ?_
    refine SC.dec rfl (fun c6 => ?_) (fun c6 => ?_)
    ·
     refine SC.sr ?_
     refine SO.mv ?_
     refine SO.v (.nilCheck rfl rfl) ?_
     refine SO.v (.fieldAddr rfl rfl fa103_1) ?_
     refine SO.store hO2 (i := 0) rfl rfl rfl rfl rfl rfl sz60 rfl rfl [(_, .cells [_, _, _, _, _, _, _, _].toArray _ _)] rfl ?_
     intro w7 hO7
     refine SO.as ?_
     refine SO.nn ?_
     refine SC.sr ?_
     refine SO.mv ?_
     refine SO.v (.lenS rfl rfl Tryz.underlying9) ?_
     refine SO.mv ?_
     refine SO.v (.nilCheck rfl rfl) ?_
     refine SO.v (.fieldAddr rfl rfl fa103_3) ?_
     refine SO.v (.load rfl rfl ag3 (cell_of' (hO7.at (i := 0) rfl) rfl)) ?_
     refine SO.v (.geq rfl rfl rfl) ?_
     refine SO.nn ?_
     refine SC.dec rfl (fun c8 => ?_) (fun c8 => ?_)
     ·
      refine SC.region ?_
      refine SO.as ?_
      refine SO.nn ?_
      refine SC.sr ?_
      refine SO.mv ?_
      refine SO.mv ?_
      refine SO.mv ?_
      refine SO.v (.nilCheck rfl rfl) ?_
      refine SO.v (.fieldAddr rfl rfl fa103_4) ?_
      refine SO.v (.load rfl rfl ag3 (cell_of' (hO7.at (i := 0) rfl) rfl)) ?_
      refine SO.mv ?_
      refine SO.call rfl rfl rfl rfl (.callF rfl rfl en92) (kept_any _ _ (held i) s _ (hO7.good hG) hli hh (by omega)) ?_
      rintro _ w9 ⟨u, rfl, hu, hbk, hb9⟩
      obtain ⟨uT, ux, rfl⟩ := hu.iface
      have hOa := hO7.below hb9
      have hO9 := hOa.adopt
      refine ⟨_, rfl, ?_⟩
      refine SO.v (.nilCheck rfl rfl) ?_
      refine SO.v (.fieldAddr rfl rfl fa103_0) ?_
      refine SO.store hO9 (i := 0) rfl rfl rfl rfl rfl rfl sz28 rfl rfl [(_, .cells [_, _, _, _, _, _, _, _].toArray _ _)] rfl ?_
      intro w10 hO10
      refine SO.nn ?_
      refine SC.sr ?_
      refine SO.mv ?_
      refine SO.as ?_
      refine SO.as ?_
      refine SO.nn ?_
      refine SC.ret ?_
      refine SQ.out (.inl rfl) (res2 rfl rfl rfl) ?_
      (have hE := hOa.comp hO10 rfl; have hK := KeepT.of_own hO10 (hOa.at (i := 0) rfl); rw [hli] at hE; exact .inr ⟨_, _, _, _, rfl, by assumption, by omega, hE.at (i := 0) rfl, hu.keep hK (by decide), (by first | (rw [if_pos (by omega)]; done) | (rw [if_neg (by omega)]; done)), rfl, (by rw [hbk]; first | (rw [if_pos (by omega), if_pos (by omega)]; done) | (rw [if_neg (by omega), if_neg (by omega)]; done)), hE.toBelow ⟨by assumption, trivial⟩⟩)
     ·
      refine SC.skip ?_
      refine SQ.then_normal ?_
      refine SC.sr ?_
      refine SO.mv ?_
      refine SO.mv ?_
      refine SO.mv ?_
      refine SO.v (.nilCheck rfl rfl) ?_
      refine SO.v (.fieldAddr rfl rfl fa103_4) ?_
      refine SO.v (.load rfl rfl ag3 (cell_of' (hO7.at (i := 0) rfl) rfl)) ?_
      refine SO.mv ?_
      refine SO.call rfl rfl rfl rfl (.callF rfl rfl en92) (kept_any _ _ (held i) s _ (hO7.good hG) hli hh (by omega)) ?_
      rintro _ w12 ⟨u, rfl, hu, hbk, hb12⟩
      obtain ⟨uT, ux, rfl⟩ := hu.iface
      have hOa := hO7.below hb12
      have hO12 := hOa.adopt
      refine ⟨_, rfl, ?_⟩
      refine SO.v (.nilCheck rfl rfl) ?_
      refine SO.v (.fieldAddr rfl rfl fa103_0) ?_
      refine SO.store hO12 (i := 0) rfl rfl rfl rfl rfl rfl sz28 rfl rfl [(_, .cells [_, _, _, _, _, _, _, _].toArray _ _)] rfl ?_
      intro w13 hO13
      refine SO.nn ?_
      refine SC.sr ?_
      refine SO.mv ?_
      refine SO.as ?_
      refine SO.as ?_
      refine SO.nn ?_
      refine SC.ret ?_
      refine SQ.out (.inl rfl) (res2 rfl rfl rfl) ?_
      (have hE := hOa.comp hO13 rfl; have hK := KeepT.of_own hO13 (hOa.at (i := 0) rfl); rw [hli] at hE; exact .inr ⟨_, _, _, _, rfl, by assumption, by omega, hE.at (i := 0) rfl, hu.keep hK (by decide), (by first | (rw [if_pos (by omega)]; done) | (rw [if_neg (by omega)]; done)), rfl, (by rw [hbk]; first | (rw [if_pos (by omega), if_pos (by omega)]; done) | (rw [if_neg (by omega), if_neg (by omega)]; done)), hE.toBelow ⟨by assumption, trivial⟩⟩)
    ·
     refine SC.skip ?_
     refine SQ.then_normal ?_
     refine SC.sr ?_
     refine SO.mv ?_
     refine SO.mv ?_
     refine SO.mv ?_
     refine SO.v (.nilCheck rfl rfl) ?_
     refine SO.v (.fieldAddr rfl rfl fa103_4) ?_
     refine SO.v (.load rfl rfl ag3 (cell_of' (hO2.at (i := 0) rfl) rfl)) ?_
     refine SO.mv ?_
     refine SO.call rfl rfl rfl rfl (.callF rfl rfl en92) (kept_any _ _ (held i) s _ (hO2.good hG) hli hh (by omega)) ?_
     rintro _ w15 ⟨u, rfl, hu, hbk, hb15⟩
     obtain ⟨uT, ux, rfl⟩ := hu.iface
     have hOa := hO2.below hb15
     have hO15 := hOa.adopt
     refine ⟨_, rfl, ?_⟩
     refine SO.v (.nilCheck rfl rfl) ?_
     refine SO.v (.fieldAddr rfl rfl fa103_0) ?_
     refine SO.store hO15 (i := 0) rfl rfl rfl rfl rfl rfl sz28 rfl rfl [(_, .cells [_, _, _, _, _, _, _, _].toArray _ _)] rfl ?_
     intro w16 hO16
     refine SO.nn ?_
     refine SC.sr ?_
     refine SO.mv ?_
     refine SO.as ?_
     refine SO.as ?_
     refine SO.nn ?_
     refine SC.ret ?_
     refine SQ.out (.inl rfl) (res2 rfl rfl rfl) ?_
     (have hE := hOa.comp hO16 rfl; have hK := KeepT.of_own hO16 (hOa.at (i := 0) rfl); rw [hli] at hE; exact .inr ⟨_, _, _, _, rfl, by assumption, by omega, hE.at (i := 0) rfl, hu.keep hK (by decide), (by first | (rw [if_pos (by omega)]; done) | (rw [if_neg (by omega)]; done)), rfl, (by rw [hbk]; first | (rw [if_pos (by omega), if_pos (by omega)]; done) | (rw [if_neg (by omega), if_neg (by omega)]; done)), hE.toBelow ⟨by assumption, trivial⟩⟩)
   ·
    refine SO.ps ?_
    refine SO.ps ?_
    refine SO.v (.pickF rfl rfl rfl) ?_
    refine SO.nn ?_
    refine SC.no rfl ?_
    refine SC.skip ?_
    refine SQ.then_normal ?_
    refine SC.sr ?_
    refine SO.mv ?_
    refine SO.mv ?_
    refine SO.mv ?_
    refine SO.v (.nilCheck rfl rfl) ?_
    refine SO.v (.fieldAddr rfl rfl fa103_4) ?_
    refine SO.v (.load rfl rfl ag3 (cell_of' (hO2.at (i := 0) rfl) rfl)) ?_
    refine SO.mv ?_
    refine SO.call rfl rfl rfl rfl (.callF rfl rfl en92) (kept_any _ _ (held i) s _ (hO2.good hG) hli hh (by omega)) ?_
    rintro _ w18 ⟨u, rfl, hu, hbk, hb18⟩
    obtain ⟨uT, ux, rfl⟩ := hu.iface
    have hOa := hO2.below hb18
    have hO18 := hOa.adopt
    refine ⟨_, rfl, ?_⟩
    refine SO.v (.nilCheck rfl rfl) ?_
    refine SO.v (.fieldAddr rfl rfl fa103_0) ?_
    refine SO.store hO18 (i := 0) rfl rfl rfl rfl rfl rfl sz28 rfl rfl [(_, .cells [_, _, _, _, _, _, _, _].toArray _ _)] rfl ?_
    intro w19 hO19
    refine SO.nn ?_
    refine SC.sr ?_
    refine SO.mv ?_
    refine SO.as ?_
    refine SO.as ?_
    refine SO.nn ?_
    refine SC.ret ?_
    refine SQ.out (.inl rfl) (res2 rfl rfl rfl) ?_
    (have hE := hOa.comp hO19 rfl; have hK := KeepT.of_own hO19 (hOa.at (i := 0) rfl); rw [hli] at hE; exact .inr ⟨_, _, _, _, rfl, by assumption, by omega, hE.at (i := 0) rfl, hu.keep hK (by decide), (by first | (rw [if_pos (by omega)]; done) | (rw [if_neg (by omega)]; done)), rfl, (by rw [hbk]; first | (rw [if_pos (by omega), if_pos (by omega)]; done) | (rw [if_neg (by omega), if_neg (by omega)]; done)), hE.toBelow ⟨by assumption, trivial⟩⟩)

end Go.Proofs.YtclgplkkajfenaaGreatDoor
/- lines: length, newlines, begin, Count, Of. -/
namespace Go.Proofs.YtclgplkkajfenaaGreatDoor
open Go Go.RowKit Ow
/-- A text that somebody keeps. -/
def TextAt (w : World) (v : Value) (s : ByteArray) : Prop :=
  (∃ (b lim : Nat), v = .iface 57 (.pointer (some ⟨b, 0, none⟩)) ∧ GapAt w b s lim) ∨ (∃ (b lim : Nat), v = .iface 56 (.pointer (some ⟨b, 0, none⟩)) ∧ StoreAt w b s lim)
theorem TextAt.below {w w' : World} {v : Value} {s : ByteArray} (h : TextAt w v s) (hb : Below w.heap.size w w') : TextAt w' v s := by
  rcases h with ⟨b, lim, e, h⟩ | ⟨b, lim, e, h⟩
  · exact .inl ⟨b, lim, e, h.below hb⟩
  · exact .inr ⟨b, lim, e, h.below hb⟩
theorem TextAt.iface {w : World} {v : Value} {s : ByteArray} (h : TextAt w v s) : ∃ (T : Nat) (x : Value), v = .iface T x := by
  rcases h with ⟨b, _, e, _⟩ | ⟨b, _, e, _⟩
  · exact ⟨_, _, e⟩
  · exact ⟨_, _, e⟩
theorem TextAt.size {w : World} {v : Value} {s : ByteArray} (h : TextAt w v s) : s.size ≤ 1073741824 := by
  rcases h with ⟨b, lim, _, rb, l, fr, tu, _, _, h⟩ | ⟨b, lim, _, u, k, lo, tp, mv, fo, ed, _, h⟩
  · exact Nat.le_trans h.fits h.lm
  · exact Nat.le_trans h.sizes.2 h.sizes.1
theorem text_len {v : Value} {s : ByteArray} {w : World} (hG : Good w) (h : TextAt w v s) : MC "Len" v [] w fun e w' => e = .returned (.int .i64 (s.size : Int)) ∧ Below w.heap.size w w' := by
  rcases h with ⟨b, lim, e, h⟩ | ⟨b, lim, e, h⟩
  · exact ⟨_, _, _, _, e, mt57_Len _, en254, gap_len b s lim w hG h⟩
  · exact ⟨_, _, _, _, e, mt56_Len _, en91, store_len b s lim w hG h⟩
theorem text_slice {v : Value} {s : ByteArray} {w : World} (hG : Good w) (h : TextAt w v s) (a c : Int) : MC "Slice" v [.int .i64 a, .int .i64 c] w fun e w' => e = .returned (.tuple #[.string (slT s a c), .int .i64 (slE s a c)]) ∧ Below w.heap.size w w' := by
  rcases h with ⟨b, lim, e, h⟩ | ⟨b, lim, e, h⟩
  · exact ⟨_, _, _, _, e, mt57_Slice _, en257, gap_slice b s lim a c w hG h⟩
  · exact ⟨_, _, _, _, e, mt56_Slice _, en95, store_slice b s lim a c w hG h⟩
theorem text_measure {v : Value} {s : ByteArray} {w : World} (hG : Good w) (h : TextAt w v s) (a c : Int) : MC "Measure" v [.int .i64 a, .int .i64 c] w fun e w' => ∃ m : Smy, e = .returned (.tuple #[smV m, .int .i64 (slE s a c)]) ∧ (¬ bad s a c → m.nl = nlC (pc (bl s) a c)) ∧ Below w.heap.size w w' := by
  rcases h with ⟨b, lim, e, h⟩ | ⟨b, lim, e, h⟩
  · obtain ⟨T, u, f, r, e1, h1, h2, h3⟩ := under_measure hG (.inl ⟨b, e, h⟩) a c
    exact ⟨T, u, f, r, e1, h1, h2, h3⟩
  · exact ⟨_, _, _, _, e, mt56_Measure _, en105, store_measure b s lim a c w hG h⟩
/-- How many newlines stand ahead of i. -/
def nlT (l : Bs) (i : Nat) : Nat := nlC (l.take i)
theorem nlT_mono (l : Bs) {i j : Nat} (h : i ≤ j) : nlT l i ≤ nlT l j := by
  have e : l.take i = (l.take j).take i := by rw [List.take_take, Nat.min_eq_left h]
  unfold nlT; rw [e]
  have := nlC_append ((l.take j).take i) ((l.take j).drop i)
  rw [List.take_append_drop] at this
  omega
theorem pc_zero (l : Bs) (i : Nat) (h : i ≤ l.length) : pc l 0 (i : Int) = l.take i := by
  unfold pc
  rw [show (max (0 : Int) 0).toNat = 0 by omega, List.drop_zero]
  congr 1; omega
theorem nlT_len (l : Bs) : nlT l l.length = nlC l := by unfold nlT; rw [List.take_of_length_le (Nat.le_refl _)]
theorem nlT_le (l : Bs) (i : Nat) : nlT l i ≤ i := by
  have := nlC_le (l.take i)
  simp only [List.length_take] at this
  unfold nlT; omega
/-- Where a line begins. -/
def bgn : Bs → Int → Nat
  | [], _ => 0
  | x :: r, k => if k ≤ 0 then 0 else 1 + bgn r (if x = 10 then k - 1 else k)
theorem nlT_cons (x : UInt8) (r : Bs) (i : Nat) : nlT (x :: r) (i + 1) = (if x = 10 then 1 else 0) + nlT r i := by
  unfold nlT nlC Lib.countByte
  rw [List.take_succ_cons, List.count_cons]
  by_cases h : x = 10
  · subst h; simp; omega
  · rw [if_neg h]; simp [h]
theorem nlT_zero (l : Bs) : nlT l 0 = 0 := by simp [nlT, nlC, Lib.countByte]
theorem bgn_le (l : Bs) : ∀ k, bgn l k ≤ l.length := by
  induction l with
  | nil => intro k; exact Nat.le_refl _
  | cons x r ih =>
    intro k
    rw [bgn]; split
    · exact Nat.zero_le _
    · have := ih (if x = 10 then k - 1 else k); simp only [List.length_cons]; omega
theorem bgn_eq (l : Bs) : ∀ (k : Int) (n : Nat), n ≤ l.length → (∀ t, t < n → ¬ k ≤ nlT l t) → (n < l.length → k ≤ nlT l n) → bgn l k = n := by
  induction l with
  | nil => intro k n h _ _; simp at h; rw [h]; rfl
  | cons x r ih =>
    intro k n h h1 h2
    rw [bgn]
    cases n with
    | zero =>
      have := h2 (by simp)
      rw [nlT_zero] at this
      rw [if_pos (by simpa using this)]
    | succ n =>
      have h0 := h1 0 (by omega)
      rw [nlT_zero] at h0
      rw [if_neg (by simpa using h0), ih (if x = 10 then k - 1 else k) n (by simpa using h)]
      · omega
      · intro t ht hk
        refine h1 (t + 1) (by omega) ?_
        rw [nlT_cons]
        split at hk <;> rename_i e <;> simp only [e, if_true, if_false] <;> omega
      · intro hn
        have := h2 (by simpa using hn)
        rw [nlT_cons] at this
        split <;> rename_i e <;> simp only [e, if_true, if_false] at this <;> omega

set_option maxRecDepth 20000 in
set_option maxHeartbeats 400000 in
theorem lines_length (v : Value) (s : ByteArray) (w : World) (hG : Good w) (ht : TextAt w v s) :
    Calls Tryz.prog 80 #[v] w fun e w' => e = .returned (.int .i64 (s.size : Int)) ∧ Below w.heap.size w w' := by
  have hsz := ht.size
  obtain ⟨tT, tx, rfl⟩ := ht.iface
  have hO0 := Own.start hG
  refine enter Tryz.func80 rfl rfl rfl 0 ?_
  refine SC.sr ?_
  refine SO.as ?_
  refine SO.nn ?_
  refine SC.seq ?_
  refine SC.sr ?_
  refine SO.mv ?_
  refine SO.v (.ifaceNilF rfl rfl Tryz.underlying28) ?_
  refine SO.nn ?_
  refine SC.no rfl ?_
  refine SC.skip ?_
  refine SQ.then_normal ?_
  refine SC.sr ?_
  refine SO.mv ?_
  obtain ⟨T1, u1, f1, r1, e1, hm1, he1, hc1⟩ := text_len (hO0.good hG) (ht.below (hO0.toBelow trivial))
  cases e1
  refine SO.call rfl rfl rfl rfl (.callI rfl rfl rfl hm1 he1) (hc1) ?_
  rintro _ w1 ⟨rfl, hb1⟩
  have hO1 := hO0.below hb1
  refine ⟨_, rfl, ?_⟩
  refine SO.as ?_
  refine SO.nn ?_
  refine SC.ret ?_
  refine SQ.out (.inl rfl) (res1 rfl rfl) ?_
  exact ⟨rfl, hO1.toBelow trivial⟩

set_option maxRecDepth 20000 in
set_option maxHeartbeats 400000 in
theorem lines_slice (v : Value) (s : ByteArray) (a c : Int) (w : World) (hG : Good w) (ht : TextAt w v s) :
    Calls Tryz.prog 77 #[v, .int .i64 a, .int .i64 c] w fun e w' => e = .returned (.string (slT s a c)) ∧ Below w.heap.size w w' := by
  have hsz := ht.size
  obtain ⟨tT, tx, rfl⟩ := ht.iface
  have hO0 := Own.start hG
  refine enter Tryz.func77 rfl rfl rfl 0 ?_
  refine SC.sr ?_
  refine SO.as ?_
  refine SO.nn ?_
  refine SC.seq ?_
  refine SC.sr ?_
  refine SO.mv ?_
  refine SO.v (.ifaceNilF rfl rfl Tryz.underlying28) ?_
  refine SO.nn ?_
  refine SC.no rfl ?_
  refine SC.skip ?_
  refine SQ.then_normal ?_
  refine SC.sr ?_
  refine SO.mv ?_
  refine SO.mv ?_
  refine SO.mv ?_
  obtain ⟨T1, u1, f1, r1, e1, hm1, he1, hc1⟩ := text_slice (hO0.good hG) (ht.below (hO0.toBelow trivial)) a c
  cases e1
  refine SO.call rfl rfl rfl rfl (.callI rfl rfl rfl hm1 he1) (hc1) ?_
  rintro _ w1 ⟨rfl, hb1⟩
  have hO1 := hO0.below hb1
  refine ⟨_, rfl, ?_⟩
  refine SO.mv ?_
  refine SO.v (.extract rfl rfl rfl) ?_
  refine SO.v (.extract rfl rfl rfl) ?_
  refine SO.as ?_
  refine SO.as ?_
  refine SO.nn ?_
  refine SC.sr ?_
  refine SO.mv ?_
  refine SO.as ?_
  refine SO.nn ?_
  refine SC.ret ?_
  refine SQ.out (.inl rfl) (res1 rfl rfl) ?_
  exact ⟨rfl, hO1.toBelow trivial⟩

set_option maxRecDepth 20000 in
set_option maxHeartbeats 400000 in
theorem lines_newlines (v : Value) (s : ByteArray) (i : Nat) (w : World) (hG : Good w) (ht : TextAt w v s) (hi : i ≤ s.size) :
    Calls Tryz.prog 81 #[v, .int .i64 (i : Nat)] w fun e w' => e = .returned (.int .i64 (nlT (bl s) i)) ∧ Below w.heap.size w w' := by
  have hsz := ht.size
  obtain ⟨tT, tx, rfl⟩ := ht.iface
  have hO0 := Own.start hG
  refine enter Tryz.func81 rfl rfl rfl 0 ?_
  refine SC.sr ?_
  refine SO.as ?_
  refine SO.nn ?_
  refine SC.seq ?_
  refine SC.sr ?_
  refine SO.mv ?_
  refine SO.v (.ifaceNilF rfl rfl Tryz.underlying28) ?_
  refine SO.nn ?_
  refine SC.no rfl ?_
  refine SC.skip ?_
  refine SQ.then_normal ?_
  refine SC.sr ?_
  refine SO.mv ?_
  refine SO.mv ?_
  obtain ⟨T1, u1, f1, r1, e1, hm1, he1, hc1⟩ := text_measure (hO0.good hG) (ht.below (hO0.toBelow trivial)) 0 i
  cases e1
  refine SO.call rfl rfl rfl rfl (.callI rfl rfl rfl hm1 he1) (hc1) ?_
  rintro _ w1 ⟨m, rfl, hm, hb1⟩
  have hO1 := hO0.below hb1
  refine ⟨_, rfl, ?_⟩
  refine SO.mv ?_
  refine SO.v (.extract rfl rfl rfl) ?_
  refine SO.v (.extract rfl rfl rfl) ?_
  refine SO.alloc hO1 rfl rfl rfl rfl zv91 [_, _, _, _, _, _, _] rfl ?_
  intro b2 w2 hb2 hO2
  refine SO.store hO2 (i := 0) rfl rfl rfl rfl rfl rfl sz91 rfl rfl [(_, .cells [_, _, _, _, _, _, _].toArray _ _)] rfl ?_
  intro w3 hO3
  refine SO.as ?_
  refine SO.nn ?_
  refine SC.sr ?_
  refine SO.v (.fieldAddr rfl rfl fa91_4) ?_
  refine SO.v (.load rfl rfl ag3 (cell_of' (hO3.at (i := 0) rfl) rfl)) ?_
  refine SO.as ?_
  refine SO.nn ?_
  refine SC.ret ?_
  refine SQ.out (.inl rfl) (res1 rfl rfl) ?_
  exact ⟨(show Ending.returned (.int .i64 m.nl) = _ by rw [hm (by unfold bad; omega), pc_zero _ _ (by rw [bl_length]; exact hi)]; rfl), hO3.toBelow ⟨hb2, trivial⟩⟩

set_option maxRecDepth 20000 in
set_option maxHeartbeats 400000 in
theorem begin1_any (v : Value) (s : ByteArray) (k : Int) (y1 y2 : Nat) (i : Nat) (w : World) (hG : Good w) (ht : TextAt w v s) (hi : i ≤ s.size) (h1 : w.heap[y1]? = some (.cells [v].toArray 28 (0, 0))) (h2 : w.heap[y2]? = some (.cells [.int .i64 k].toArray 3 (0, 0))) :
    Calls Tryz.prog 143 #[.int .i64 i, .pointer (some ⟨y1, 0, none⟩), .pointer (some ⟨y2, 0, none⟩)] w fun e w' => e = .returned (.bool (decide (k ≤ nlT (bl s) i))) ∧ Below w.heap.size w w' := by
  have hsz := ht.size
  obtain ⟨tT, tx, rfl⟩ := ht.iface
  have hO0 := Own.start hG
  refine enter Tryz.func143 rfl rfl rfl 0 ?_
  refine SC.sr ?_
  refine SO.as ?_
  refine SO.nn ?_
  refine SC.seq ?_
  refine SC.drawO mixed hO0 (fun hO1 => ?_)
  refine SA.tk 0 rfl hO1 (fun v hv => .load rfl rfl ag28 (cell_of' (hv.heapO trivial h1) rfl)) ?_
  refine SA.tm 1 rfl hO1 ?_
  refine SA.tk 3 rfl hO1 (fun v hv => .load rfl rfl ag3 (cell_of' (hv.heapO trivial h2) rfl)) ?_
  refine SA.one 2 (by kernel_rfl) ?_
  refine SB.call rfl rfl rfl rfl (.callF rfl rfl en81) (lines_newlines _ s i _ (hO1.good hG) (ht.below (hO1.toBelow trivial)) hi) ?_
  rintro _ w2 ⟨rfl, hb2⟩
  have hO2 := hO1.below hb2
  refine ⟨_, rfl, hO2, ?_⟩
  refine SA.tk 4 rfl hO2 (fun v hv => .geq rfl rfl rfl) ?_
  refine SA.ta 5 rfl hO2 ?_
  refine SA.done (by kernel_rfl) ?_
  refine SQ.then_normal ?_
  refine SC.ret ?_
  refine SQ.out (.inl rfl) (res1 rfl rfl) ?_
  exact ⟨rfl, hO2.toBelow trivial⟩

set_option maxRecDepth 20000 in
set_option maxHeartbeats 400000 in
theorem lines_begin (v : Value) (s : ByteArray) (k : Int) (w : World) (hG : Good w) (ht : TextAt w v s) :
    Calls Tryz.prog 82 #[v, .int .i64 k] w fun e w' => e = .returned (.int .i64 (bgn (bl s) k)) ∧ Below w.heap.size w w' := by
  have hsz := ht.size
  obtain ⟨tT, tx, rfl⟩ := ht.iface
  have hO0 := Own.start hG
  refine enter Tryz.func82 rfl rfl rfl 0 ?_
  refine SC.sr ?_
  refine SO.box hO0 rfl rfl rfl rfl rfl [_] rfl ?_
  intro b1 w1 hb1 hO1
  refine SO.box hO1 rfl rfl rfl rfl rfl [_] rfl ?_
  intro b2 w2 hb2 hO2
  refine SO.as ?_
  refine SO.nn ?_
  refine SC.sr ?_
  refine SO.v (.load rfl rfl ag28 (cell_of' (hO2.at (i := 1) rfl) rfl)) ?_
  refine SO.call rfl rfl rfl rfl (.callF rfl rfl en80) (lines_length _ s _ (hO2.good hG) (ht.below (hO2.toBelow ⟨hb2, hb1, trivial⟩))) ?_
  rintro _ w3 ⟨rfl, hb3⟩
  have hO3 := hO2.below hb3
  refine ⟨_, rfl, ?_⟩
  refine SO.v (.makeFunc rfl rfl) ?_
  refine SO.call rfl rfl rfl rfl (.callF rfl rfl en142) (search_any s.size 143 #[] _ (fun t => k ≤ nlT (bl s) t) _ (hO3.good hG) (by omega) en143 (fun i j hij _ h => Int.le_trans h (Int.ofNat_le.2 (nlT_mono _ hij))) (fun i hi w' hb => begin1_any _ s k b1 b2 i w' ((hO3.below hb).good hG) (ht.below ((hO3.below hb).toBelow ⟨hb2, hb1, trivial⟩)) (Nat.le_of_lt hi) ((hO3.below hb).at (i := 1) rfl) ((hO3.below hb).at (i := 0) rfl))) ?_
  rintro _ w4 ⟨r, rfl, hr, hlo, hhi, hb4⟩
  have hO4 := hO3.below hb4
  refine ⟨_, rfl, ?_⟩
  refine SO.as ?_
  refine SO.nn ?_
  refine SC.ret ?_
  refine SQ.out (.inl rfl) (res1 rfl rfl) ?_
  exact ⟨by rw [bgn_eq (bl s) k r (by rw [bl_length]; exact hr) hlo (fun h => hhi r (Nat.le_refl _) (by rw [bl_length] at h; exact h))], hO4.toBelow ⟨hb2, hb1, trivial⟩⟩

set_option maxRecDepth 20000 in
set_option maxHeartbeats 400000 in
theorem lines_count (v : Value) (s : ByteArray) (w : World) (hG : Good w) (ht : TextAt w v s) :
    Calls Tryz.prog 29 #[v] w fun e w' => e = .returned (.int .i64 (nlC (bl s) + 1 : Nat)) ∧ Below w.heap.size w w' := by
  have hsz := ht.size
  obtain ⟨tT, tx, rfl⟩ := ht.iface
  have hnl := nlC_le (bl s)
  rw [bl_length] at hnl
  have hO0 := Own.start hG
  refine enter Tryz.func29 rfl rfl rfl 0 ?_
  refine SC.sr ?_
  refine SO.as ?_
  refine SO.nn ?_
  refine SC.sr ?_
  refine SO.mv ?_
  refine SO.mv ?_
  refine SO.call rfl rfl rfl rfl (.callF rfl rfl en80) (lines_length _ s _ (hO0.good hG) (ht.below (hO0.toBelow trivial))) ?_
  rintro _ w1 ⟨rfl, hb1⟩
  have hO1 := hO0.below hb1
  refine ⟨_, rfl, ?_⟩
  refine SO.call rfl rfl rfl rfl (.callF rfl rfl en81) (lines_newlines _ s s.size _ (hO1.good hG) (ht.below (hO1.toBelow trivial)) (Nat.le_refl _)) ?_
  rintro _ w2 ⟨rfl, hb2⟩
  have hO2 := hO1.below hb2
  refine ⟨_, rfl, ?_⟩
  refine SO.v (.add rfl rfl rfl (by have := nlT_le (bl s) s.size; omega)) ?_
  refine SO.as ?_
  refine SO.nn ?_
  refine SC.ret ?_
  refine SQ.out (.inl rfl) (res1 rfl rfl) ?_
  exact ⟨(show Ending.returned (.int .i64 ((nlT (bl s) s.size : Nat) + 1)) = _ by rw [show s.size = (bl s).length from rfl, nlT_len]; rfl), hO2.toBelow trivial⟩

def ofN (l : Bs) (a : Int) : Int := if a < 0 ∨ a > l.length then 0 else nlT l a.toNat
def ofE (l : Bs) (a : Int) : Int := if a < 0 ∨ a > l.length then 1 else 0
/-- Where a line ends. -/
def lend (l : Bs) (k : Int) : Nat :=
  if k + 1 < (nlC l + 1 : Nat) then if bgn l (k + 1) - 1 > bgn l k ∧ by' l (bgn l (k + 1) - 1 - 1) = 13 then bgn l (k + 1) - 1 - 1 else bgn l (k + 1) - 1 else l.length
def noLine (l : Bs) (k : Int) : Prop := k < 0 ∨ k ≥ (nlC l + 1 : Nat)
instance (l : Bs) (k : Int) : Decidable (noLine l k) := by unfold noLine; infer_instance
def spF (l : Bs) (k : Int) : Nat := if noLine l k then 0 else bgn l k
def spT (l : Bs) (k : Int) : Nat := if noLine l k then 0 else lend l k
def spE (l : Bs) (k : Int) : Int := if noLine l k then 1 else 0

set_option maxRecDepth 20000 in
set_option maxHeartbeats 400000 in
theorem lines_of (v : Value) (s : ByteArray) (a : Int) (w : World) (hG : Good w) (ht : TextAt w v s) :
    Calls Tryz.prog 27 #[v, .int .i64 a] w fun e w' => e = .returned (.tuple #[.int .i64 (ofN (bl s) a), .int .i64 (ofE (bl s) a)]) ∧ Below w.heap.size w w' := by
  have hsz := ht.size
  obtain ⟨tT, tx, rfl⟩ := ht.iface
  have hO0 := Own.start hG
  refine enter Tryz.func27 rfl rfl rfl 0 ?_
  refine SC.sr ?_
  refine SO.as ?_
  refine SO.as ?_
  refine SO.nn ?_
  refine SC.seq ?_
  refine SC.sr ?_
  refine SO.mv ?_
  refine SO.v (.lss rfl rfl rfl) ?_
  refine SO.mv ?_
  refine SO.dec 8 rfl (fun g1 => ?_) (fun g1 => ?_)
  ·
   refine SO.ps ?_
   refine SO.ps ?_
   refine SO.ps ?_
   refine SO.ps ?_
   refine SO.v (.pickT rfl rfl rfl) ?_
   refine SO.nn ?_
   refine SC.yes rfl ?_
   refine SC.sr ?_
   refine SO.as ?_
   refine SO.as ?_
   refine SO.nn ?_
   refine SC.ret ?_
   refine SQ.then_ret ?_
   refine SQ.out (.inl rfl) (res2 rfl rfl rfl) ?_
   refine ⟨?_, hO0.toBelow trivial⟩
   unfold ofN ofE
   rw [bl_length]
   rw [if_pos (by omega), if_pos (by omega)]
  ·
   refine SO.mv ?_
   refine SO.mv ?_
   refine SO.call rfl rfl rfl rfl (.callF rfl rfl en80) (lines_length _ s _ (hO0.good hG) (ht.below (hO0.toBelow trivial))) ?_
   rintro _ w3 ⟨rfl, hb3⟩
   have hO3 := hO0.below hb3
   refine ⟨_, rfl, ?_⟩
   refine SO.v (.gtr rfl rfl rfl) ?_
   refine SO.v (.pickF rfl rfl rfl) ?_
   refine SO.nn ?_
   refine SC.dec rfl (fun c4 => ?_) (fun c4 => ?_)
   ·
    refine SC.sr ?_
    refine SO.as ?_
    refine SO.as ?_
    refine SO.nn ?_
    refine SC.ret ?_
    refine SQ.then_ret ?_
    refine SQ.out (.inl rfl) (res2 rfl rfl rfl) ?_
    refine ⟨?_, hO3.toBelow trivial⟩
    unfold ofN ofE
    rw [bl_length]
    rw [if_pos (by omega), if_pos (by omega)]
   ·
    refine SC.skip ?_
    refine SQ.then_normal ?_
    refine SC.seq ?_
    obtain ⟨i, rfl⟩ := Int.eq_ofNat_of_zero_le (show 0 ≤ a by omega)
    refine SC.region ?_
    refine SO.mv ?_
    refine SO.mv ?_
    refine SO.call rfl rfl rfl rfl (.callF rfl rfl en81) (lines_newlines _ s i _ (hO3.good hG) (ht.below (hO3.toBelow trivial)) (by omega)) ?_
    rintro _ w6 ⟨rfl, hb6⟩
    have hO6 := hO3.below hb6
    refine ⟨_, rfl, ?_⟩
    refine SO.as ?_
    refine SO.as ?_
    refine SO.nn ?_
    refine SC.ret ?_
    refine SQ.out (.inl rfl) (res2 rfl rfl rfl) ?_
    refine ⟨?_, hO6.toBelow trivial⟩
    unfold ofN ofE
    rw [bl_length]
    (rw [if_neg (by omega), if_neg (by omega)]; rfl)

end Go.Proofs.YtclgplkkajfenaaGreatDoor
/- The calculus: ranges over functions, with something said of what was gone through. -/
namespace Go.Proofs.YtclgplkkajfenaaGreatDoor
namespace Ow
open Go Go.RowKit
variable {P : Program} {ro : Option Nat} {n : Nat} {ops : Array Oper} {Q : Exit → Act → World → Prop} {N : Nat} {D : List Deferred} {e : Env} {w w0 : World} {o : Oper} {L : List (Nat × Obj)}

/-- How a round may be left. -/
def RoundP {α : Type} (Pf : List α → Prop) (w0 : World) (B : Nat) (Kp : World → World → Prop) (Lf : List α → List (Nat × Obj)) (X : Code → List α → Prop) (Lx : Code → List α → List (Nat × Obj)) (xs : List α) (W : World) : Exit → Act → World → Prop :=
  ownPostG B Kp (fun pre W' => Pf pre ∧ Own w0 (Lf pre) W') (fun c pre W' => X c pre ∧ Own w0 (Lx c pre) W') xs W
theorem SQ.goesP {α : Type} {Pf : List α → Prop} {B : Nat} {Kp : World → World → Prop} {Lf : List α → List (Nat × Obj)} {X : Code → List α → Prop} {Lx : Code → List α → List (Nat × Obj)} {xs : List α} {W : World}
    (h1 : KeepsFrom B W w) (h2 : Kp W w) (hP : Pf xs) (h3 : Own w0 (Lf xs) w) : SQ (RoundP Pf w0 B Kp Lf X Lx xs W) .normal N D e w := fun _ _ _ _ => ⟨h1, h2, hP, h3⟩
theorem SQ.breaksP {α : Type} {Pf : List α → Prop} {B : Nat} {Kp : World → World → Prop} {Lf : List α → List (Nat × Obj)} {X : Code → List α → Prop} {Lx : Code → List α → List (Nat × Obj)} {xs : List α} {W : World} {id : Nat}
    (h1 : KeepsFrom B W w) (h2 : X (.exit id) xs) (h3 : Own w0 (Lx (.exit id) xs) w) : SQ (RoundP Pf w0 B Kp Lf X Lx xs W) (.exit id) N D e w := fun _ _ _ _ => ⟨h1, h2, h3⟩
theorem SQ.returnsP {α : Type} {Pf : List α → Prop} {B : Nat} {Kp : World → World → Prop} {Lf : List α → List (Nat × Obj)} {X : Code → List α → Prop} {Lx : Code → List α → List (Nat × Obj)} {xs : List α} {W : World}
    (h1 : KeepsFrom B W w) (h2 : X .ret xs) (h3 : Own w0 (Lx .ret xs) w) : SQ (RoundP Pf w0 B Kp Lf X Lx xs W) .ret N D e w := fun _ _ _ _ => ⟨h1, h2, h3⟩
theorem SC.rangeP {α β : Type} (Pf : List α → Prop) (hP0 : Pf []) {g : Operand} {ps : List Nat} {assign body : Code} (hO : Own w0 L w) {gf : Nat} {lb : Array Value} (hg : ev e g = some (.func (.func gf) #[] lb))
    (eg : ∀ args w, (callFunc gf args).run P w = .ok (.enter gf args) w) {encs : α → List Value} {Kp : World → World → Prop} {S Sp : List α → Prop} {NN : Nat} (hn : 1 ≤ n)
    (hseq : SeqStopsK (Fc none) (n - 1) P gf lb (fun x => (encs x).toArray) Kp S Sp NN w) (hKt : ∀ {A B C : World}, Kp A B → Kp B C → Kp A C)
    (hKb : ∀ (W : World) (l : Nat) (o o' : Obj), w.heap.size ≤ l → W.heap[l]? = some o → o.isCells = false → o.isWalk = false → Kp W (W.putObj l o'))
    (hps : ∀ x, (encs x).length = ps.length) (hpN : ∀ p ∈ ps, p < N)
    (Lf : List α → List (Nat × Obj)) (X : Code → List α → Prop) (Lx : Code → List α → List (Nat × Obj)) (hL0 : Lf [] = L)
    (hLf : ∀ pre, (Lf pre).map (·.1) = L.map (·.1)) (hLx : ∀ c pre, X c pre → (Lx c pre).map (·.1) = L.map (·.1))
    (E : α → β → Env) (M : α → β → World → Prop) (hM : ∀ x u, OwnFrom w.heap.size (fun (_ : Unit) W => M x u W))
    (hassign : ∀ (l : Nat) (pre : List α) (x : α) (W : World), Own w0 (Lf pre) W → w.heap.size ≤ W.heap.size →
      SC P (some l) (n - 1 - 1) assign (Exit.then (AssK (E x) (M x) w0 w.heap.size Kp (Lf pre) N W) (fun _ _ _ => False)) N [] (penv (ps.zip (encs x)) e) W)
    (hbody : ∀ (l : Nat) (pre : List α) (x : α) (u : β) (W : World), Pf pre → Own w0 (Lf pre) W → w.heap.size ≤ W.heap.size → M x u W → pre.length < NN →
      SC P (some l) (n - 1 - 1) body (RoundP Pf w0 w.heap.size Kp Lf X Lx (pre ++ [x]) W) N [] (E x u) W)
    (hdone : ∀ (d : Nat) (xs : List α) (W : World), w0.heap.size ≤ d → S xs → Pf xs → Own w0 ((d, markO) :: Lf xs) W → SQ Q .normal N (coll d :: D) e W)
    (hstop : ∀ (d : Nat) (c : Code) (pre : List α) (W : World), w0.heap.size ≤ d → Sp pre → X c pre → Own w0 ((d, markO) :: Lx c pre) W → SC P none n c Q N (coll d :: D) e W) :
    SC P none n (.rangeFunc g ps.toArray assign body) Q N D e w := by
  intro a h1 h2 h3
  have hB := hO.size
  have hlt := hO.lt
  refine wpIn_rangeFunc_ownH (F := Fc none) rfl hn (ev_eval h3 hg) trivial eg hseq hKt hKb (Below.refl _ _) (fun x => by simp [hps])
    (fun pre W => Pf pre ∧ (Own w0 (Lf pre) W ∧ w.heap.size ≤ W.heap.size)) (fun c pre W => X c pre ∧ Own w0 (Lx c pre) W) ?_ ?_ ⟨hP0, hL0 ▸ hO, Nat.le_refl _⟩
    (fun x a' W => ∃ u, Fits (E x u) a' ∧ a'.tmps.size = N ∧ a'.defers = [] ∧ M x u W) ?_ ?_ ?_ ?_ ?_
  · exact fun s A B row hs hg hr => ⟨hs.1, hs.2.1.grown hB hg (fun r e => (hr r e).1) (names_lt (hLf s) hlt), Nat.le_trans hs.2.2 hg.size⟩
  · exact fun c s A B row hs hg hr => ⟨hs.1, hs.2.grown hB hg (fun r e => (hr r e).1) (names_lt (hLx c s hs.1) hlt)⟩
  · rintro x a' _ A B row ⟨u, g1, g2, g3, g4⟩ hg hr
    exact ⟨u, g1, g2, g3, hM x u () A B row g4 hg hr⟩
  · rintro l pre x W K ⟨hP, hI, hIw⟩ hK
    have hz := fits_foldl (N := N) (ps.zip (encs x)) e a.tmps [] h1 (fun p hp => hpN _ (List.of_mem_zip hp).1) h3
    refine wpIn_mono (hassign l pre x W hI hIw _ (by simpa using hz.2) rfl (by simpa using hz.1)) fun ex a' W' hq => ?_
    cases ex with
    | normal =>
      obtain ⟨u, g1, g2, g3, g4, g5, g6, g7⟩ := hq
      exact hK a' W' g5 g6 ⟨hP, g7, Nat.le_trans hIw g5.size⟩ ⟨u, g1, g2, g3, g4⟩
    | _ => exact hq
  · rintro l pre x a' W _ _ ⟨hP, hI, hIw⟩ ⟨u, g1, g2, g3, g4⟩ hlen
    refine wpIn_mono (hbody l pre x u W hP hI hIw g4 hlen a' g2 g3 g1) fun ex a2 W' hq => ?_
    cases ex with
    | normal => exact ⟨hq.1, hq.2.1, hq.2.2.1, hq.2.2.2, Nat.le_trans hIw hq.1.size⟩
    | _ => exact hq
  · rintro d xs W hd hS ⟨hP, hI, _⟩ hK
    exact hdone d xs W (Nat.le_trans hB hd) hS hP (hI.learn hK (fun p hp => by have := names_lt (hLf xs) hlt p hp; omega) (Nat.le_trans hB hd)) _ h1 (by simp [h2, coll]) (fun t v ht => h3 t v ht)
  · rintro d c pre W hd hS ⟨hX, hI⟩ hK
    exact hstop d c pre W (Nat.le_trans hB hd) hS hX (hI.learn hK (fun p hp => by have := names_lt (hLx c pre hX) hlt p hp; omega) (Nat.le_trans hB hd)) _ h1 (by simp [h2, coll]) (fun t v ht => h3 t v ht)
end Ow
end Go.Proofs.YtclgplkkajfenaaGreatDoor
/- lines: Span, Line, Column. -/
  namespace Go.Proofs.YtclgplkkajfenaaGreatDoor
open Go Go.RowKit Ow
theorem slT_one {s : ByteArray} {n : Nat} {a c : Int} (ha : a = (n : Nat)) (hc : c = (n : Nat) + 1) (h : n + 1 ≤ s.size) : slT s a c = ⟨#[13]⟩ ↔ by' (bl s) n = 13 := by
  subst ha; subst hc
  unfold slT
  rw [if_neg (by unfold bad; omega)]
  have e : bl (s.extract (n : Int).toNat ((n : Int) + 1).toNat) = [(bl s)[n]'(by rw [bl_length]; omega)] := by
    rw [bl_extract, show ((n : Int) + 1).toNat = n + 1 by omega, Int.toNat_natCast]
    have h1 : n < (bl s).length := by rw [bl_length]; omega
    rw [List.drop_take, List.drop_eq_getElem_cons h1, show n + 1 - n = 1 by omega]; rfl
  have h1 : n < (bl s).length := by rw [bl_length]; omega
  have e2 : by' (bl s) n = ((bl s)[n]).toNat := by unfold by'; rw [List.getD_eq_getElem?_getD, List.getElem?_eq_getElem h1]; rfl
  rw [e2]
  constructor
  · intro h2
    rw [h2] at e
    have e3 : [(13 : UInt8)] = [(bl s)[n]] := e
    rw [← (List.cons.inj e3).1]; rfl
  · intro h2
    refine bl_inj ?_
    rw [e]
    have : (bl s)[n] = 13 := UInt8.toNat_inj.1 h2
    rw [this]
theorem bgn_pos {l : Bs} {k : Int} (h : 0 < k) (hk : k ≤ nlC l) : 1 ≤ bgn l k := by
  cases l with
  | nil =>
    exfalso
    have h2 : nlC [] = 0 := rfl
    omega
  | cons x r =>
    rw [bgn, if_neg (by omega)]
    exact Nat.le_add_right _ _

theorem span_val {l : Bs} {k : Int} {a c : Int} (hn : ¬ noLine l k) (ha : a = (bgn l k : Nat)) (hc : c = (lend l k : Nat)) :
    Ending.returned (.tuple #[.agg #[.int .i64 a, .int .i64 c], .int .i64 0]) = .returned (.tuple #[.agg #[.int .i64 (spF l k : Nat), .int .i64 (spT l k : Nat)], .int .i64 (spE l k)]) := by
  unfold spF spT spE
  rw [if_neg hn, if_neg hn, if_neg hn, ha, hc]
theorem lend_le (l : Bs) (k : Int) : lend l k ≤ l.length := by
  unfold lend
  have := bgn_le l (k + 1)
  split
  · split <;> omega
  · exact Nat.le_refl _
theorem spT_le (l : Bs) (k : Int) : spT l k ≤ l.length := by
  unfold spT; split
  · exact Nat.zero_le _
  · exact lend_le l k
theorem spF_le (l : Bs) (k : Int) : spF l k ≤ l.length := by
  unfold spF; split
  · exact Nat.zero_le _
  · exact bgn_le l k

theorem bd41_0_1_Lin2 (x0 : Int) (x1 : Int) : ∀ w, (Instr.build 41 [(0, .int .i64 x0), (1, .int .i64 x1)].toArray).run Tryz.prog w = .ok (.agg [.int .i64 x0, .int .i64 x1].toArray) w := fun _ => by kernel_rfl
theorem bd41_z_Lin2  : ∀ w, (Instr.build 41 [].toArray).run Tryz.prog w = .ok (.agg [.int .i64 0, .int .i64 0].toArray) w := fun _ => by kernel_rfl
set_option maxRecDepth 20000 in
set_option maxHeartbeats 400000 in
theorem lines_span (v : Value) (s : ByteArray) (k : Int) (w : World) (hG : Good w) (ht : TextAt w v s) :
    Calls Tryz.prog 28 #[v, .int .i64 k] w fun e w' => e = .returned (.tuple #[.agg #[.int .i64 (spF (bl s) k : Nat), .int .i64 (spT (bl s) k : Nat)], .int .i64 (spE (bl s) k)]) ∧ Below w.heap.size w w' := by
  have hsz := ht.size
  obtain ⟨tT, tx, rfl⟩ := ht.iface
  have hnl := nlC_le (bl s)
  rw [bl_length] at hnl
  have hO0 := Own.start hG
  refine enter Tryz.func28 rfl rfl rfl 0 ?_
  refine SC.sr ?_
  refine SO.alloc hO0 rfl rfl rfl rfl zv41 [_, _] rfl ?_
  intro b1 w1 hb1 hO1
  refine SO.as ?_
  refine SO.nn ?_
  refine SC.sr ?_
  refine SO.mv ?_
  refine SO.call rfl rfl rfl rfl (.callF rfl rfl en29) (lines_count _ s _ (hO1.good hG) (ht.below (hO1.toBelow ⟨hb1, trivial⟩))) ?_
  rintro _ w2 ⟨rfl, hb2⟩
  have hO2 := hO1.below hb2
  refine ⟨_, rfl, ?_⟩
  refine SO.as ?_
  refine SO.nn ?_
  refine SC.seq ?_
  refine SC.sr ?_
  refine SO.mv ?_
  refine SO.v (.lss rfl rfl rfl) ?_
  refine SO.mv ?_
  refine SO.dec 12 rfl (fun g3 => ?_) (fun g3 => ?_)
  ·
   refine SO.ps ?_
   refine SO.ps ?_
   refine SO.ps ?_
   refine SO.v (.pickT rfl rfl rfl) ?_
   refine SO.nn ?_
   refine SC.yes rfl ?_
   refine SC.sr ?_
   refine SO.v (.build rfl rfl (bd41_z_Lin2)) ?_
   refine SO.store hO2 (i := 0) rfl rfl rfl rfl rfl rfl sz41 rfl rfl [(_, .cells [_, _].toArray _ _)] rfl ?_
   intro w4 hO4
   refine SO.as ?_
   refine SO.nn ?_
   refine SC.ret ?_
   refine SQ.then_ret ?_
   refine SQ.out (.inl rfl) (resCT [_, _] rfl rfl rfl ag41 sz41 (hO4.at (i := 0) rfl) rfl rfl) ?_
   exact ⟨by rw [show spF (bl s) k = 0 by unfold spF; rw [if_pos (by unfold noLine; omega)], show spT (bl s) k = 0 by unfold spT; rw [if_pos (by unfold noLine; omega)], show spE (bl s) k = 1 by unfold spE; rw [if_pos (by unfold noLine; omega)]]; rfl, hO4.toBelow ⟨hb1, trivial⟩⟩
  ·
   refine SO.mv ?_
   refine SO.mv ?_
   refine SO.v (.geq rfl rfl rfl) ?_
   refine SO.v (.pickF rfl rfl rfl) ?_
   refine SO.nn ?_
   refine SC.dec rfl (fun c6 => ?_) (fun c6 => ?_)
   ·
    refine SC.sr ?_
    refine SO.v (.build rfl rfl (bd41_z_Lin2)) ?_
    refine SO.store hO2 (i := 0) rfl rfl rfl rfl rfl rfl sz41 rfl rfl [(_, .cells [_, _].toArray _ _)] rfl ?_
    intro w7 hO7
    refine SO.as ?_
    refine SO.nn ?_
    refine SC.ret ?_
    refine SQ.then_ret ?_
    refine SQ.out (.inl rfl) (resCT [_, _] rfl rfl rfl ag41 sz41 (hO7.at (i := 0) rfl) rfl rfl) ?_
    exact ⟨by rw [show spF (bl s) k = 0 by unfold spF; rw [if_pos (by unfold noLine; omega)], show spT (bl s) k = 0 by unfold spT; rw [if_pos (by unfold noLine; omega)], show spE (bl s) k = 1 by unfold spE; rw [if_pos (by unfold noLine; omega)]]; rfl, hO7.toBelow ⟨hb1, trivial⟩⟩
   ·
    refine SC.skip ?_
    refine SQ.then_normal ?_
    refine SC.seq ?_
    have hno : ¬ noLine (bl s) k := by unfold noLine; omega
    have hq0 := bgn_le (bl s) k
    rw [bl_length] at hq0
    refine SC.region ?_
    refine SO.mv ?_
    refine SO.mv ?_
    refine SO.call rfl rfl rfl rfl (.callF rfl rfl en82) (lines_begin _ s _ _ (hO2.good hG) (ht.below (hO2.toBelow ⟨hb1, trivial⟩))) ?_
    rintro _ w9 ⟨rfl, hb9⟩
    have hO9 := hO2.below hb9
    refine ⟨_, rfl, ?_⟩
    refine SO.mv ?_
    refine SO.call rfl rfl rfl rfl (.callF rfl rfl en80) (lines_length _ s _ (hO9.good hG) (ht.below (hO9.toBelow ⟨hb1, trivial⟩))) ?_
    rintro _ w10 ⟨rfl, hb10⟩
    have hO10 := hO9.below hb10
    refine ⟨_, rfl, ?_⟩
    refine SO.v (.build rfl rfl (bd41_0_1_Lin2 _ _)) ?_
    refine SO.alloc hO10 rfl rfl rfl rfl zv41 [_, _] rfl ?_
    intro b11 w11 hb11 hO11
    refine SO.store hO11 (i := 0) rfl rfl rfl rfl rfl rfl sz41 rfl rfl [(_, .cells [_, _].toArray _ _), _] rfl ?_
    intro w12 hO12
    refine SO.nn ?_
    refine SC.seq ?_
    refine SC.sr ?_
    refine SO.mv ?_
    refine SO.v (.add rfl rfl rfl (by omega)) ?_
    refine SO.mv ?_
    refine SO.v (.lss rfl rfl rfl) ?_
    refine SO.nn ?_
    refine SC.dec rfl (fun c13 => ?_) (fun c13 => ?_)
    ·
     refine SC.seq ?_
     have hq1 := bgn_le (bl s) (k + 1)
     rw [bl_length] at hq1
     have hq2 := bgn_pos (l := bl s) (k := k + 1) (by omega) (by omega)
     refine SC.region ?_
     refine SO.mv ?_
     refine SO.mv ?_
     refine SO.v (.add rfl rfl rfl (by omega)) ?_
     refine SO.call rfl rfl rfl rfl (.callF rfl rfl en82) (lines_begin _ s _ _ (hO12.good hG) (ht.below (hO12.toBelow ⟨hb11, hb1, trivial⟩))) ?_
     rintro _ w14 ⟨rfl, hb14⟩
     have hO14 := hO12.below hb14
     refine ⟨_, rfl, ?_⟩
     refine SO.v (.sub rfl rfl rfl (by omega)) ?_
     refine SO.v (.fieldAddr rfl rfl fa41_1) ?_
     refine SO.store hO14 (i := 0) rfl rfl rfl rfl rfl rfl sz3 rfl rfl [(_, .cells [_, _].toArray _ _), _] rfl ?_
     intro w15 hO15
     refine SO.nn ?_
     refine SC.sr ?_
     refine SO.v (.fieldAddr rfl rfl fa41_1) ?_
     refine SO.v (.load rfl rfl ag3 (cell_of' (hO15.at (i := 0) rfl) rfl)) ?_
     refine SO.v (.fieldAddr rfl rfl fa41_0) ?_
     refine SO.v (.load rfl rfl ag3 (cell_of' (hO15.at (i := 0) rfl) rfl)) ?_
     refine SO.v (.gtr rfl rfl rfl) ?_
     refine SO.mv ?_
     refine SO.dec 39 rfl (fun g16 => ?_) (fun g16 => ?_)
     ·
      refine SO.mv ?_
      refine SO.v (.fieldAddr rfl rfl fa41_1) ?_
      refine SO.v (.load rfl rfl ag3 (cell_of' (hO15.at (i := 0) rfl) rfl)) ?_
      refine SO.v (.sub rfl rfl rfl (by omega)) ?_
      refine SO.v (.fieldAddr rfl rfl fa41_1) ?_
      refine SO.v (.load rfl rfl ag3 (cell_of' (hO15.at (i := 0) rfl) rfl)) ?_
      refine SO.call rfl rfl rfl rfl (.callF rfl rfl en77) (lines_slice _ s _ _ _ (hO15.good hG) (ht.below (hO15.toBelow ⟨hb11, hb1, trivial⟩))) ?_
      rintro _ w17 ⟨rfl, hb17⟩
      have hO17 := hO15.below hb17
      refine ⟨_, rfl, ?_⟩
      have h13 := slT_one (s := s) (n := bgn (bl s) (k + 1) - 1 - 1) (a := ((bgn (bl s) (k + 1) : Nat) : Int) - 1 - 1) (c := ((bgn (bl s) (k + 1) : Nat) : Int) - 1) (by omega) (by omega) (by omega)
      refine SO.v (.strEq rfl rfl rfl) ?_
      refine SO.v (.pickT rfl rfl rfl) ?_
      refine SO.nn ?_
      refine SC.dec rfl (fun c18 => ?_) (fun c18 => ?_)
      ·
       refine SC.region ?_
       refine SO.v (.fieldAddr rfl rfl fa41_1) ?_
       refine SO.v (.load rfl rfl ag3 (cell_of' (hO17.at (i := 0) rfl) rfl)) ?_
       refine SO.v (.sub rfl rfl rfl (by omega)) ?_
       refine SO.v (.fieldAddr rfl rfl fa41_1) ?_
       refine SO.store hO17 (i := 0) rfl rfl rfl rfl rfl rfl sz3 rfl rfl [(_, .cells [_, _].toArray _ _), _] rfl ?_
       intro w19 hO19
       refine SO.nn ?_
       refine SC.sr ?_
       refine SO.v (.loadB [_, _] rfl rfl ag41 sz41 (hO19.at (i := 0) rfl) rfl rfl) ?_
       refine SO.store hO19 (i := 1) rfl rfl rfl rfl rfl rfl sz41 rfl rfl [_, (_, .cells [_, _].toArray _ _)] rfl ?_
       intro w20 hO20
       refine SO.as ?_
       refine SO.nn ?_
       refine SC.ret ?_
       refine SQ.out (.inl rfl) (resCT [_, _] rfl rfl rfl ag41 sz41 (hO20.at (i := 1) rfl) rfl rfl) ?_
       (refine ⟨span_val hno rfl ?_, hO20.toBelow ⟨hb11, hb1, trivial⟩⟩; unfold lend; first | (rw [if_neg (by omega), bl_length]; done) | (rw [if_pos (by omega), if_neg (by omega)]; omega) | (rw [if_pos (by omega), if_neg (fun h => by have := h13.2 h.2; contradiction)]; omega) | (rw [if_pos (by omega), if_pos ⟨by omega, h13.1 (by assumption)⟩]; omega))
      ·
       refine SC.skip ?_
       refine SQ.then_normal ?_
       refine SC.sr ?_
       refine SO.v (.loadB [_, _] rfl rfl ag41 sz41 (hO17.at (i := 0) rfl) rfl rfl) ?_
       refine SO.store hO17 (i := 1) rfl rfl rfl rfl rfl rfl sz41 rfl rfl [_, (_, .cells [_, _].toArray _ _)] rfl ?_
       intro w22 hO22
       refine SO.as ?_
       refine SO.nn ?_
       refine SC.ret ?_
       refine SQ.out (.inl rfl) (resCT [_, _] rfl rfl rfl ag41 sz41 (hO22.at (i := 1) rfl) rfl rfl) ?_
       (refine ⟨span_val hno rfl ?_, hO22.toBelow ⟨hb11, hb1, trivial⟩⟩; unfold lend; first | (rw [if_neg (by omega), bl_length]; done) | (rw [if_pos (by omega), if_neg (by omega)]; omega) | (rw [if_pos (by omega), if_neg (fun h => by have := h13.2 h.2; contradiction)]; omega) | (rw [if_pos (by omega), if_pos ⟨by omega, h13.1 (by assumption)⟩]; omega))
     ·
      refine SO.ps ?_
      refine SO.ps ?_
      refine SO.ps ?_
      refine SO.ps ?_
      refine SO.ps ?_
      refine SO.ps ?_
      refine SO.ps ?_
      refine SO.ps ?_
      refine SO.v (.pickF rfl rfl rfl) ?_
      refine SO.nn ?_
      refine SC.no rfl ?_
      refine SC.skip ?_
      refine SQ.then_normal ?_
      refine SC.sr ?_
      refine SO.v (.loadB [_, _] rfl rfl ag41 sz41 (hO15.at (i := 0) rfl) rfl rfl) ?_
      refine SO.store hO15 (i := 1) rfl rfl rfl rfl rfl rfl sz41 rfl rfl [_, (_, .cells [_, _].toArray _ _)] rfl ?_
      intro w24 hO24
      refine SO.as ?_
      refine SO.nn ?_
      refine SC.ret ?_
      refine SQ.out (.inl rfl) (resCT [_, _] rfl rfl rfl ag41 sz41 (hO24.at (i := 1) rfl) rfl rfl) ?_
      (refine ⟨span_val hno rfl ?_, hO24.toBelow ⟨hb11, hb1, trivial⟩⟩; unfold lend; first | (rw [if_neg (by omega), bl_length]; done) | (rw [if_pos (by omega), if_neg (by omega)]; omega) | (rw [if_pos (by omega), if_neg (fun h => by have := h13.2 h.2; contradiction)]; omega) | (rw [if_pos (by omega), if_pos ⟨by omega, h13.1 (by assumption)⟩]; omega))
    ·
     refine SC.skip ?_
     refine SQ.then_normal ?_
     refine SC.sr ?_
     refine SO.v (.loadB [_, _] rfl rfl ag41 sz41 (hO12.at (i := 0) rfl) rfl rfl) ?_
     refine SO.store hO12 (i := 1) rfl rfl rfl rfl rfl rfl sz41 rfl rfl [_, (_, .cells [_, _].toArray _ _)] rfl ?_
     intro w26 hO26
     refine SO.as ?_
     refine SO.nn ?_
     refine SC.ret ?_
     refine SQ.out (.inl rfl) (resCT [_, _] rfl rfl rfl ag41 sz41 (hO26.at (i := 1) rfl) rfl rfl) ?_
     (refine ⟨span_val hno rfl ?_, hO26.toBelow ⟨hb11, hb1, trivial⟩⟩; unfold lend; first | (rw [if_neg (by omega), bl_length]; done) | (rw [if_pos (by omega), if_neg (by omega)]; omega) | (rw [if_pos (by omega), if_neg (fun h => by have := h13.2 h.2; contradiction)]; omega) | (rw [if_pos (by omega), if_pos ⟨by omega, h13.1 (by assumption)⟩]; omega))

def lnT (s : ByteArray) (k : Int) : ByteArray := if spE (bl s) k ≠ 0 then ⟨#[]⟩ else slT s (spF (bl s) k) (spT (bl s) k)
/-- A line's bytes. -/
def lineB (s : ByteArray) (k : Int) : ByteArray := slT s (spF (bl s) k : Nat) (spT (bl s) k : Nat)
/-- Does a cluster end behind a place? -/
def past (F : Int) (a : Int) (c : Nat × Nat) : Prop := aw F c.2 > a
instance (F a : Int) (c : Nat × Nat) : Decidable (past F a c) := by unfold past; infer_instance
def colW (s : ByteArray) (k a : Int) : Int := nCells (bl (lineB s k)) ((clusters (bl (lineB s k))).takeWhile fun c => decide (¬ past (spF (bl s) k : Nat) a c))
def colR (s : ByteArray) (a : Int) : Int := if ofE (bl s) a ≠ 0 then 0 else colW s (ofN (bl s) a) a
theorem tw_all {α : Type} {p : α → Prop} [DecidablePred p] : ∀ {xs : List α}, (∀ y ∈ xs, ¬ p y) → xs.takeWhile (fun c => decide (¬ p c)) = xs
  | [], _ => rfl
  | x :: xs, h => by
    rw [List.takeWhile_cons, decide_eq_true (h x (by simp)), if_pos rfl, tw_all fun y hy => h y (List.mem_cons_of_mem _ hy)]
theorem tw_stop {α : Type} {p : α → Prop} [DecidablePred p] : ∀ {xs : List α} {x : α} {r : List α}, (∀ y ∈ xs, ¬ p y) → p x → (xs ++ x :: r).takeWhile (fun c => decide (¬ p c)) = xs
  | [], x, r, _, hx => by rw [List.nil_append, List.takeWhile_cons, decide_eq_false (by simpa using hx)]; rfl
  | y :: xs, x, r, h, hx => by
    rw [List.cons_append, List.takeWhile_cons, decide_eq_true (h y (by simp)), if_pos rfl, tw_stop (fun z hz => h z (List.mem_cons_of_mem _ hz)) hx]

set_option maxRecDepth 20000 in
set_option maxHeartbeats 400000 in
theorem lines_line (v : Value) (s : ByteArray) (k : Int) (w : World) (hG : Good w) (ht : TextAt w v s) :
    Calls Tryz.prog 35 #[v, .int .i64 k] w fun e w' => e = .returned (.tuple #[.string (lnT s k), .int .i64 (spE (bl s) k)]) ∧ Below w.heap.size w w' := by
  have hsz := ht.size
  obtain ⟨tT, tx, rfl⟩ := ht.iface
  have hO0 := Own.start hG
  refine enter Tryz.func35 rfl rfl rfl 0 ?_
  refine SC.sr ?_
  refine SO.as ?_
  refine SO.as ?_
  refine SO.nn ?_
  refine SC.sr ?_
  refine SO.mv ?_
  refine SO.mv ?_
  refine SO.call rfl rfl rfl rfl (.callF rfl rfl en28) (lines_span _ s _ _ (hO0.good hG) (ht.below (hO0.toBelow trivial))) ?_
  rintro _ w1 ⟨rfl, hb1⟩
  have hO1 := hO0.below hb1
  refine ⟨_, rfl, ?_⟩
  refine SO.mv ?_
  refine SO.v (.extract rfl rfl rfl) ?_
  refine SO.v (.extract rfl rfl rfl) ?_
  refine SO.alloc hO1 rfl rfl rfl rfl zv41 [_, _] rfl ?_
  intro b2 w2 hb2 hO2
  refine SO.store hO2 (i := 0) rfl rfl rfl rfl rfl rfl sz41 rfl rfl [(_, .cells [_, _].toArray _ _)] rfl ?_
  intro w3 hO3
  refine SO.as ?_
  refine SO.nn ?_
  refine SC.seq ?_
  refine SC.sr ?_
  refine SO.mv ?_
  refine SO.v (.neq rfl rfl rfl) ?_
  refine SO.nn ?_
  refine SC.dec rfl (fun c4 => ?_) (fun c4 => ?_)
  ·
   refine SC.sr ?_
   refine SO.mv ?_
   refine SO.as ?_
   refine SO.as ?_
   refine SO.nn ?_
   refine SC.ret ?_
   refine SQ.then_ret ?_
   refine SQ.out (.inl rfl) (res2 rfl rfl rfl) ?_
   refine ⟨?_, hO3.toBelow ⟨hb2, trivial⟩⟩
   unfold lnT
   (rw [if_pos (by assumption)]; rfl)
  ·
   refine SC.skip ?_
   refine SQ.then_normal ?_
   refine SC.sr ?_
   refine SO.mv ?_
   refine SO.v (.fieldAddr rfl rfl fa41_0) ?_
   refine SO.v (.load rfl rfl ag3 (cell_of' (hO3.at (i := 0) rfl) rfl)) ?_
   refine SO.v (.fieldAddr rfl rfl fa41_1) ?_
   refine SO.v (.load rfl rfl ag3 (cell_of' (hO3.at (i := 0) rfl) rfl)) ?_
   refine SO.call rfl rfl rfl rfl (.callF rfl rfl en77) (lines_slice _ s _ _ _ (hO3.good hG) (ht.below (hO3.toBelow ⟨hb2, trivial⟩))) ?_
   rintro _ w6 ⟨rfl, hb6⟩
   have hO6 := hO3.below hb6
   refine ⟨_, rfl, ?_⟩
   refine SO.as ?_
   refine SO.as ?_
   refine SO.nn ?_
   refine SC.ret ?_
   refine SQ.out (.inl rfl) (res2 rfl rfl rfl) ?_
   refine ⟨?_, hO6.toBelow ⟨hb2, trivial⟩⟩
   unfold lnT
   rw [if_neg (by assumption), show spE (bl s) k = 0 by omega]

set_option maxRecDepth 20000 in
set_option maxHeartbeats 400000 in
theorem lines_column (v : Value) (s : ByteArray) (a : Int) (w : World) (hG : Good w) (ht : TextAt w v s) :
    Calls Tryz.prog 23 #[v, .int .i64 a] w fun e w' => e = .returned (.tuple #[.int .i64 (colR s a), .int .i64 (ofE (bl s) a)]) ∧ Below w.heap.size w w' := by
  have hsz := ht.size
  obtain ⟨tT, tx, rfl⟩ := ht.iface
  have hsl := slT_size s (spF (bl s) (ofN (bl s) a) : Nat) (spT (bl s) (ofN (bl s) a) : Nat)
  have hcl := clusters_length (bl (lineB s (ofN (bl s) a)))
  rw [bl_length] at hcl
  have hsl2 : ((lineB s (ofN (bl s) a))).size ≤ s.size := hsl
  have hO0 := Own.start hG
  refine enterM Tryz.func23 rfl rfl rfl 5 ?_
  refine SC.sr ?_
  refine SO.box hO0 rfl rfl rfl rfl rfl [_] rfl ?_
  intro b1 w1 hb1 hO1
  refine SO.as ?_
  refine SO.as ?_
  refine SO.nn ?_
  refine SC.sr ?_
  refine SO.mv ?_
  refine SO.v (.load rfl rfl ag3 (cell_of' (hO1.at (i := 0) rfl) rfl)) ?_
  refine SO.call rfl rfl rfl rfl (.callF rfl rfl en27) (lines_of _ s _ _ (hO1.good hG) (ht.below (hO1.toBelow ⟨hb1, trivial⟩))) ?_
  rintro _ w2 ⟨rfl, hb2⟩
  have hO2 := hO1.below hb2
  refine ⟨_, rfl, ?_⟩
  refine SO.mv ?_
  refine SO.v (.extract rfl rfl rfl) ?_
  refine SO.v (.extract rfl rfl rfl) ?_
  refine SO.as ?_
  refine SO.as ?_
  refine SO.nn ?_
  refine SC.seq ?_
  refine SC.sr ?_
  refine SO.mv ?_
  refine SO.v (.neq rfl rfl rfl) ?_
  refine SO.nn ?_
  refine SC.dec rfl (fun c3 => ?_) (fun c3 => ?_)
  ·
   have hse := c3
   refine SC.sr ?_
   refine SO.mv ?_
   refine SO.as ?_
   refine SO.as ?_
   refine SO.nn ?_
   refine SC.ret ?_
   refine SQ.then_ret ?_
   refine SQ.outM [] hO2 (fun _ h => by cases h) (.inl rfl) (fun w4 hO4 => ⟨_, res2 (t := 4) (u := 5) rfl rfl rfl, ?_⟩)
   exact ⟨by unfold colR; rw [if_pos hse]; rfl, hO4.toBelow ⟨hb1, trivial⟩⟩
  ·
   have hse : ofE (bl s) a = 0 := by omega
   refine SC.skip ?_
   refine SQ.then_normal ?_
   refine SC.sr ?_
   refine SO.mv ?_
   refine SO.mv ?_
   refine SO.call rfl rfl rfl rfl (.callF rfl rfl en28) (lines_span _ s _ _ (hO2.good hG) (ht.below (hO2.toBelow ⟨hb1, trivial⟩))) ?_
   rintro _ w5 ⟨rfl, hb5⟩
   have hO5 := hO2.below hb5
   refine ⟨_, rfl, ?_⟩
   refine SO.mv ?_
   refine SO.v (.extract rfl rfl rfl) ?_
   refine SO.v (.extract rfl rfl rfl) ?_
   refine SO.alloc hO5 rfl rfl rfl rfl zv41 [_, _] rfl ?_
   intro b6 w6 hb6 hO6
   refine SO.store hO6 (i := 0) rfl rfl rfl rfl rfl rfl sz41 rfl rfl [(_, .cells [_, _].toArray _ _), _] rfl ?_
   intro w7 hO7
   refine SO.as ?_
   refine SO.nn ?_
   refine SC.sr ?_
   refine SO.alloc hO7 rfl rfl rfl rfl zv3 [_] rfl ?_
   intro b8 w8 hb8 hO8
   refine SO.store hO8 (i := 0) rfl rfl rfl rfl rfl rfl sz3 rfl rfl [(_, .cells [_].toArray _ _), _, _] rfl ?_
   intro w9 hO9
   refine SO.nn ?_
   refine SC.seq ?_
   refine SC.sr ?_
   refine SO.mv ?_
   refine SO.v (.fieldAddr rfl rfl fa41_0) ?_
   refine SO.v (.load rfl rfl ag3 (cell_of' (hO9.at (i := 1) rfl) rfl)) ?_
   refine SO.v (.fieldAddr rfl rfl fa41_1) ?_
   refine SO.v (.load rfl rfl ag3 (cell_of' (hO9.at (i := 1) rfl) rfl)) ?_
   refine SO.call rfl rfl rfl rfl (.callF rfl rfl en77) (lines_slice _ s _ _ _ (hO9.good hG) (ht.below (hO9.toBelow ⟨hb8, hb6, hb1, trivial⟩))) ?_
   rintro _ w10 ⟨rfl, hb10⟩
   have hO10 := hO9.below hb10
   refine ⟨_, rfl, ?_⟩
   refine SO.call rfl rfl rfl rfl (.callF rfl rfl en76) (walk_any (lineB s (ofN (bl s) a)) _ (hO10.good hG)) ?_
   rintro _ w11 ⟨bs, rfl, hbs, hbox, hb11⟩
   have hO11 := hO10.learnB hb11 hbs hbox
   replace hbs := Nat.le_trans hO10.size hbs
   refine ⟨_, rfl, ?_⟩
   refine SO.nn ?_
   refine SC.block ?_
   have hlt12 : ∀ b ∈ [bs, b8, b6, b1], b < w11.heap.size := hO11.ltN
   have hsz12 := hO11.size
   refine SC.rangeP (α := Nat × Nat) (β := Nat) (fun pre => ∀ y ∈ pre, ¬ past (spF (bl s) (ofN (bl s) a) : Nat) a y) (by simp) hO11 rfl en136 (encs := fun c => [clV (bl (lineB s (ofN (bl s) a))) c]) (by omega) (walk_stops (lineB s (ofN (bl s) a)) bs _ _ (hO11.good hG) (by omega) (hO11.at (i := 0) rfl)) KpW.trans (fun W l o1 o2 hl hx _ _ => KpW.put (lt_of_heap (hO11.at (i := 0) rfl)) (Nat.le_trans hO11.base hO11.size) W l o1 o2 hl hx) (fun _ => rfl) (by decide) (fun pre => [(bs, boxS (lineB s (ofN (bl s) a))), (b8, .cells #[.int .i64 (nCells (bl (lineB s (ofN (bl s) a))) pre)] 3 (0, 0)), (b6, .cells #[.int .i64 (spF (bl s) (ofN (bl s) a) : Nat), .int .i64 (spT (bl s) (ofN (bl s) a) : Nat)] 41 (0, 0)), (b1, .cells #[.int .i64 a] 3 (0, 0))]) (fun c xs => c = .exit 0 ∧ ∃ p x, xs = p ++ [x] ∧ (∀ y ∈ p, ¬ past (spF (bl s) (ofN (bl s) a) : Nat) a y) ∧ past (spF (bl s) (ofN (bl s) a) : Nat) a x) (fun _ xs => [(bs, boxS (lineB s (ofN (bl s) a))), (b8, .cells #[.int .i64 (nCells (bl (lineB s (ofN (bl s) a))) xs.dropLast)] 3 (0, 0)), (b6, .cells #[.int .i64 (spF (bl s) (ofN (bl s) a) : Nat), .int .i64 (spT (bl s) (ofN (bl s) a) : Nat)] 41 (0, 0)), (b1, .cells #[.int .i64 a] 3 (0, 0))]) rfl (fun _ => rfl) (fun _ _ _ => rfl) (fun _ u => [(8, .pointer (some ⟨b6, 0, none⟩)), (3, .pointer (some ⟨b1, 0, none⟩)), (10, .pointer (some ⟨b8, 0, none⟩)), (11, .pointer (some ⟨u, 0, none⟩))]) (fun x u W => w11.heap.size ≤ u ∧ W.heap[u]? = some (.cells #[.int .i64 (x.1 : Int), .int .i64 (x.2 : Int), .int .i64 (clCls (bl (lineB s (ofN (bl s) a))) x.1), .int .i64 (clCells (bl (lineB s (ofN (bl s) a))) x.1)] 138 (0, 0))) (fun _ u => fun _ A B row h hg hr => ⟨h.1, (hg.block u (lt_of_heap h.2) (fun e => by obtain ⟨_, o, ho, hc⟩ := hr u e.symm; rw [h.2] at ho; cases ho; cases hc)).trans h.2⟩) ?_ ?_ ?_ ?_
   · intro l pre x W hI hW
     have hA12 := hI.adopt
     refine SC.region ?_
     refine SO.alloc hA12 rfl rfl rfl rfl zv138 [_, _, _, _] rfl ?_
     intro b13 w13 hb13 hO13
     refine SO.store hO13 (i := 0) rfl rfl rfl rfl rfl rfl sz138 rfl rfl [(_, .cells [_, _, _, _].toArray _ _), _, _, _, _] rfl ?_
     intro w14 hO14
     refine SO.nil ?_
     have hE := (hO14.tail hb13)
     exact SQ.assigned b13 ⟨rfl, rfl, rfl, rfl, trivial⟩ ⟨Nat.le_trans hW hb13, hO14.at (i := 0) rfl⟩ (hE.keeps (namesLt rfl hlt12)) ⟨fun _ => hE.at (i := 0) rfl, fun h => hE.good h⟩ (hI.comp hE rfl)
   · intro l pre x u W hP hI hW hM hlen
     have hB12 := hI.adopt.know hM.2 (namesNe rfl hlt12 hM.1) (by have := hM.1; have := hO0.base; omega)
     have hr1 := nCells_range (bl (lineB s (ofN (bl s) a))) pre
     have hr2 := clCells_range (bl (lineB s (ofN (bl s) a))) x.1
     refine SC.block ?_
     refine SC.seq ?_
     refine SC.sr ?_
     refine SO.v (.fieldAddr rfl rfl fa41_0) ?_
     refine SO.v (.load rfl rfl ag3 (cell_of' (hB12.at (i := 3) rfl) rfl)) ?_
     refine SO.v (.fieldAddr rfl rfl fa138_1) ?_
     refine SO.v (.load rfl rfl ag3 (cell_of' (hB12.at (i := 0) rfl) rfl)) ?_
     refine SO.v (.addW rfl rfl rfl) ?_
     refine SO.v (.load rfl rfl ag3 (cell_of' (hB12.at (i := 4) rfl) rfl)) ?_
     refine SO.v (.gtr rfl rfl rfl) ?_
     refine SO.nn ?_
     refine SC.dec rfl (fun c15 => ?_) (fun c15 => ?_)
     ·
      refine SC.exit ?_
      refine SQ.then_exit ?_
      refine SQ.block_pass rfl ?_
      have hE := (hB12.forget hM.2)
      rw [← List.dropLast_concat (l₁ := pre) (b := x)] at hE
      exact SQ.breaksP (hE.keeps (namesLt rfl hlt12)) ⟨rfl, pre, x, rfl, hP, by assumption⟩ (hI.comp hE rfl)
     ·
      refine SC.skip ?_
      refine SQ.then_normal ?_
      refine SC.region ?_
      refine SO.v (.load rfl rfl ag3 (cell_of' (hB12.at (i := 2) rfl) rfl)) ?_
      refine SO.v (.fieldAddr rfl rfl fa138_3) ?_
      refine SO.v (.load rfl rfl ag3 (cell_of' (hB12.at (i := 0) rfl) rfl)) ?_
      refine SO.v (.add rfl rfl rfl (by omega)) ?_
      refine SO.store hB12 (i := 2) rfl rfl rfl rfl rfl rfl sz3 rfl rfl [_, _, (_, .cells [_].toArray _ _), _, _] rfl ?_
      intro w16 hO16
      refine SO.nil ?_
      refine SQ.block_normal ?_
      have hE := (hO16.forget hM.2)
      rw [← nCells_snoc] at hE
      have hPn : ∀ y ∈ pre ++ [x], ¬ past (spF (bl s) (ofN (bl s) a) : Nat) a y := fun y hy => by
        rcases List.mem_append.1 hy with h | h
        · exact hP y h
        · simp only [List.mem_singleton] at h; subst h; assumption
      exact SQ.goesP (hE.keeps (namesLt rfl hlt12)) ⟨fun _ => hE.at (i := 0) rfl, fun h => hE.good h⟩ hPn (hI.comp hE rfl)
   · intro d17 xs W hd17 hS hP hO17
     subst hS
     have hcol : nCells (bl (lineB s (ofN (bl s) a))) (clusters (bl (lineB s (ofN (bl s) a)))) = colW s (ofN (bl s) a) a := by unfold colW; rw [tw_all hP]
     refine SQ.block_normal ?_
     refine SQ.then_normal ?_
     refine SC.sr ?_
     refine SO.v (.load rfl rfl ag3 (cell_of' (hO17.at (i := 2) rfl) rfl)) ?_
     refine SO.as ?_
     refine SO.as ?_
     refine SO.nn ?_
     refine SC.ret ?_
     refine SQ.outM [d17] hO17 (List.forall_mem_cons.2 ⟨hd17, fun _ h => by cases h⟩) (.inl rfl) (fun w18 hO18 => ⟨_, res2 (t := 4) (u := 5) rfl rfl rfl, ?_⟩)
     exact ⟨by unfold colR; rw [if_neg (by omega), ← hcol, hse]; rfl, hO18.toBelow ⟨hbs, hb8, hb6, hb1, trivial⟩⟩
   · intro d19 c pre W hd19 hSp hX hO19
     obtain ⟨rfl, p, x, rfl, hp1, hp2⟩ := hX
     obtain ⟨r, hr⟩ := hSp
     rw [List.dropLast_concat] at hO19
     have hcol : nCells (bl (lineB s (ofN (bl s) a))) p = colW s (ofN (bl s) a) a := by unfold colW; rw [← hr, List.append_assoc, List.singleton_append, tw_stop hp1 hp2]
     refine SC.exit ?_
     refine SQ.block_exit ?_
     refine SQ.then_normal ?_
     refine SC.sr ?_
     refine SO.v (.load rfl rfl ag3 (cell_of' (hO19.at (i := 2) rfl) rfl)) ?_
     refine SO.as ?_
     refine SO.as ?_
     refine SO.nn ?_
     refine SC.ret ?_
     refine SQ.outM [d19] hO19 (List.forall_mem_cons.2 ⟨hd19, fun _ h => by cases h⟩) (.inl rfl) (fun w20 hO20 => ⟨_, res2 (t := 4) (u := 5) rfl rfl rfl, ?_⟩)
     exact ⟨by unfold colR; rw [if_neg (by omega), ← hcol, hse]; rfl, hO20.toBelow ⟨hbs, hb8, hb6, hb1, trivial⟩⟩

end Go.Proofs.YtclgplkkajfenaaGreatDoor
/- lines: At. -/
namespace Go.Proofs.YtclgplkkajfenaaGreatDoor
open Go Go.RowKit Ow
/-- The cells of the clusters up to and with the last. -/
def upto (lb : Bs) (q : Int) : List (Nat × Nat) → Int → List (Nat × Nat)
  | [], _ => []
  | c :: cs, n => if n + clCells lb c.1 > q then [] else c :: upto lb q cs (n + clCells lb c.1)
/-- Do all clusters of a beginning lie within a column? -/
def within (lb : Bs) (q : Int) (pre : List (Nat × Nat)) : Prop := ∀ p r, pre = p ++ r → nCells lb p ≤ q ∨ p = []
theorem upto_all {lb : Bs} {q : Int} : ∀ (cs : List (Nat × Nat)) (n : Int), (∀ p x r, cs = p ++ x :: r → ¬ n + nCells lb (p ++ [x]) > q) → upto lb q cs n = cs
  | [], _, _ => rfl
  | c :: cs, n, h => by
    have h0 := h [] c cs rfl
    simp only [nCells, List.nil_append, List.map_cons, List.map_nil, List.sum_cons, List.sum_nil, Int.add_zero] at h0
    rw [upto, if_neg h0, upto_all cs]
    intro p x r e
    have := h (c :: p) x r (by rw [e]; rfl)
    simp only [nCells, List.cons_append, List.map_cons, List.sum_cons] at this ⊢
    omega
theorem upto_stop {lb : Bs} {q : Int} : ∀ (p : List (Nat × Nat)) (x : Nat × Nat) (r : List (Nat × Nat)) (n : Int), (∀ p' y r', p = p' ++ y :: r' → ¬ n + nCells lb (p' ++ [y]) > q) → n + nCells lb (p ++ [x]) > q → upto lb q (p ++ x :: r) n = p
  | [], x, r, n, _, hx => by
    simp only [nCells, List.nil_append, List.map_cons, List.map_nil, List.sum_cons, List.sum_nil, Int.add_zero] at hx
    rw [List.nil_append, upto, if_pos hx]
  | c :: p, x, r, n, h, hx => by
    have h0 := h [] c p rfl
    simp only [nCells, List.nil_append, List.map_cons, List.map_nil, List.sum_cons, List.sum_nil, Int.add_zero] at h0
    rw [List.cons_append, upto, if_neg h0, upto_stop p x r]
    · intro p' y r' e
      have := h (c :: p') y r' (by rw [e]; rfl)
      simp only [nCells, List.cons_append, List.map_cons, List.sum_cons] at this ⊢
      omega
    · simp only [nCells, List.cons_append, List.map_cons, List.sum_cons] at hx ⊢
      omega
/-- Where the last cluster ends. -/
def lastTo (F : Int) : List (Nat × Nat) → Int
  | [] => F
  | [c] => aw F c.2
  | _ :: c :: cs => lastTo F (c :: cs)
theorem lastTo_snoc (F : Int) : ∀ (p : List (Nat × Nat)) (x : Nat × Nat), lastTo F (p ++ [x]) = aw F x.2
  | [], _ => rfl
  | [_], _ => rfl
  | _ :: c :: cs, x => by
    rw [List.cons_append, List.cons_append, lastTo, ← List.cons_append]
    exact lastTo_snoc F (c :: cs) x
def InCol (lb : Bs) (q : Int) (pre : List (Nat × Nat)) : Prop := ∀ p x r, pre = p ++ x :: r → ¬ nCells lb (p ++ [x]) > q
theorem InCol.nil (lb : Bs) (q : Int) : InCol lb q [] := fun p x r h => by simp at h
theorem InCol.snoc {lb : Bs} {q : Int} {pre : List (Nat × Nat)} {x : Nat × Nat} (h : InCol lb q pre) (hx : ¬ nCells lb pre + clCells lb x.1 > q) : InCol lb q (pre ++ [x]) := fun p y r e => by
  rcases List.eq_nil_or_concat r with rfl | ⟨r', z, rfl⟩
  · have h1 := List.append_inj' e rfl
    rw [← h1.1, ← (List.cons.inj h1.2).1, nCells_snoc]; exact hx
  · have e2 : pre ++ [x] = (p ++ y :: r') ++ [z] := by rw [e]; simp
    have h1 := List.append_inj' e2 rfl
    exact h p y r' h1.1
def atR (s : ByteArray) (k q : Int) : Int := if spE (bl s) k ≠ 0 then 0 else lastTo (spF (bl s) k : Nat) (upto (bl (lineB s k)) q (clusters (bl (lineB s k))) 0)

set_option maxRecDepth 20000 in
set_option maxHeartbeats 400000 in
theorem lines_at (v : Value) (s : ByteArray) (k q : Int) (w : World) (hG : Good w) (ht : TextAt w v s) :
    Calls Tryz.prog 25 #[v, .int .i64 k, .int .i64 q] w fun e w' => e = .returned (.tuple #[.int .i64 (atR s k q), .int .i64 (spE (bl s) k)]) ∧ Below w.heap.size w w' := by
  have hsz := ht.size
  obtain ⟨tT, tx, rfl⟩ := ht.iface
  have hsl := slT_size s (spF (bl s) k : Nat) (spT (bl s) k : Nat)
  have hcl := clusters_length (bl (lineB s k))
  rw [bl_length] at hcl
  have hsl2 : ((lineB s k)).size ≤ s.size := hsl
  have hO0 := Own.start hG
  refine enterM Tryz.func25 rfl rfl rfl 5 ?_
  refine SC.sr ?_
  refine SO.box hO0 rfl rfl rfl rfl rfl [_] rfl ?_
  intro b1 w1 hb1 hO1
  refine SO.as ?_
  refine SO.as ?_
  refine SO.nn ?_
  refine SC.sr ?_
  refine SO.mv ?_
  refine SO.mv ?_
  refine SO.call rfl rfl rfl rfl (.callF rfl rfl en28) (lines_span _ s _ _ (hO1.good hG) (ht.below (hO1.toBelow ⟨hb1, trivial⟩))) ?_
  rintro _ w2 ⟨rfl, hb2⟩
  have hO2 := hO1.below hb2
  refine ⟨_, rfl, ?_⟩
  refine SO.mv ?_
  refine SO.v (.extract rfl rfl rfl) ?_
  refine SO.v (.extract rfl rfl rfl) ?_
  refine SO.alloc hO2 rfl rfl rfl rfl zv41 [_, _] rfl ?_
  intro b3 w3 hb3 hO3
  refine SO.store hO3 (i := 0) rfl rfl rfl rfl rfl rfl sz41 rfl rfl [(_, .cells [_, _].toArray _ _), _] rfl ?_
  intro w4 hO4
  refine SO.as ?_
  refine SO.nn ?_
  refine SC.seq ?_
  refine SC.sr ?_
  refine SO.mv ?_
  refine SO.v (.neq rfl rfl rfl) ?_
  refine SO.nn ?_
  refine SC.dec rfl (fun c5 => ?_) (fun c5 => ?_)
  ·
   have hse := c5
   refine SC.sr ?_
   refine SO.mv ?_
   refine SO.as ?_
   refine SO.as ?_
   refine SO.nn ?_
   refine SC.ret ?_
   refine SQ.then_ret ?_
   refine SQ.outM [] hO4 (fun _ h => by cases h) (.inl rfl) (fun w6 hO6 => ⟨_, res2 (t := 6) (u := 7) rfl rfl rfl, ?_⟩)
   exact ⟨by unfold atR; rw [if_pos hse]; rfl, hO6.toBelow ⟨hb3, hb1, trivial⟩⟩
  ·
   have hse : spE (bl s) k = 0 := by omega
   refine SC.skip ?_
   refine SQ.then_normal ?_
   refine SC.sr ?_
   refine SO.v (.fieldAddr rfl rfl fa41_0) ?_
   refine SO.v (.load rfl rfl ag3 (cell_of' (hO4.at (i := 0) rfl) rfl)) ?_
   refine SO.alloc hO4 rfl rfl rfl rfl zv3 [_] rfl ?_
   intro b7 w7 hb7 hO7
   refine SO.alloc hO7 rfl rfl rfl rfl zv3 [_] rfl ?_
   intro b8 w8 hb8 hO8
   refine SO.store hO8 (i := 1) rfl rfl rfl rfl rfl rfl sz3 rfl rfl [_, (_, .cells [_].toArray _ _), _, _] rfl ?_
   intro w9 hO9
   refine SO.store hO9 (i := 0) rfl rfl rfl rfl rfl rfl sz3 rfl rfl [(_, .cells [_].toArray _ _), _, _, _] rfl ?_
   intro w10 hO10
   refine SO.nn ?_
   refine SC.seq ?_
   refine SC.sr ?_
   refine SO.mv ?_
   refine SO.v (.fieldAddr rfl rfl fa41_0) ?_
   refine SO.v (.load rfl rfl ag3 (cell_of' (hO10.at (i := 2) rfl) rfl)) ?_
   refine SO.v (.fieldAddr rfl rfl fa41_1) ?_
   refine SO.v (.load rfl rfl ag3 (cell_of' (hO10.at (i := 2) rfl) rfl)) ?_
   refine SO.call rfl rfl rfl rfl (.callF rfl rfl en77) (lines_slice _ s _ _ _ (hO10.good hG) (ht.below (hO10.toBelow ⟨hb8, hb7, hb3, hb1, trivial⟩))) ?_
   rintro _ w11 ⟨rfl, hb11⟩
   have hO11 := hO10.below hb11
   refine ⟨_, rfl, ?_⟩
   refine SO.call rfl rfl rfl rfl (.callF rfl rfl en76) (walk_any (lineB s k) _ (hO11.good hG)) ?_
   rintro _ w12 ⟨bs, rfl, hbs, hbox, hb12⟩
   have hO12 := hO11.learnB hb12 hbs hbox
   replace hbs := Nat.le_trans hO11.size hbs
   refine ⟨_, rfl, ?_⟩
   refine SO.nn ?_
   refine SC.block ?_
   have hlt13 : ∀ b ∈ [bs, b8, b7, b3, b1], b < w12.heap.size := hO12.ltN
   have hsz13 := hO12.size
   refine SC.rangeP (α := Nat × Nat) (β := Nat) (fun pre => InCol (bl (lineB s k)) q pre) (InCol.nil _ _) hO12 rfl en136 (encs := fun c => [clV (bl (lineB s k)) c]) (by omega) (walk_stops (lineB s k) bs _ _ (hO12.good hG) (by omega) (hO12.at (i := 0) rfl)) KpW.trans (fun W l o1 o2 hl hx _ _ => KpW.put (lt_of_heap (hO12.at (i := 0) rfl)) (Nat.le_trans hO12.base hO12.size) W l o1 o2 hl hx) (fun _ => rfl) (by decide) (fun pre => [(bs, boxS (lineB s k)), (b8, .cells #[.int .i64 (nCells (bl (lineB s k)) pre)] 3 (0, 0)), (b7, .cells #[.int .i64 (lastTo (spF (bl s) k : Nat) pre)] 3 (0, 0)), (b3, .cells #[.int .i64 (spF (bl s) k : Nat), .int .i64 (spT (bl s) k : Nat)] 41 (0, 0)), (b1, .cells #[.int .i64 q] 3 (0, 0))]) (fun c xs => c = .exit 0 ∧ ∃ p x, xs = p ++ [x] ∧ InCol (bl (lineB s k)) q p ∧ nCells (bl (lineB s k)) p + clCells (bl (lineB s k)) x.1 > q) (fun _ xs => [(bs, boxS (lineB s k)), (b8, .cells #[.int .i64 (nCells (bl (lineB s k)) xs)] 3 (0, 0)), (b7, .cells #[.int .i64 (lastTo (spF (bl s) k : Nat) xs.dropLast)] 3 (0, 0)), (b3, .cells #[.int .i64 (spF (bl s) k : Nat), .int .i64 (spT (bl s) k : Nat)] 41 (0, 0)), (b1, .cells #[.int .i64 q] 3 (0, 0))]) rfl (fun _ => rfl) (fun _ _ _ => rfl) (fun _ u => [(8, .pointer (some ⟨b3, 0, none⟩)), (5, .pointer (some ⟨b1, 0, none⟩)), (10, .pointer (some ⟨b7, 0, none⟩)), (11, .pointer (some ⟨b8, 0, none⟩)), (12, .pointer (some ⟨u, 0, none⟩))]) (fun x u W => w12.heap.size ≤ u ∧ W.heap[u]? = some (.cells #[.int .i64 (x.1 : Int), .int .i64 (x.2 : Int), .int .i64 (clCls (bl (lineB s k)) x.1), .int .i64 (clCells (bl (lineB s k)) x.1)] 138 (0, 0))) (fun _ u => fun _ A B row h hg hr => ⟨h.1, (hg.block u (lt_of_heap h.2) (fun e => by obtain ⟨_, o, ho, hc⟩ := hr u e.symm; rw [h.2] at ho; cases ho; cases hc)).trans h.2⟩) ?_ ?_ ?_ ?_
   · intro l pre x W hI hW
     have hA13 := hI.adopt
     refine SC.region ?_
     refine SO.alloc hA13 rfl rfl rfl rfl zv138 [_, _, _, _] rfl ?_
     intro b14 w14 hb14 hO14
     refine SO.store hO14 (i := 0) rfl rfl rfl rfl rfl rfl sz138 rfl rfl [(_, .cells [_, _, _, _].toArray _ _), _, _, _, _, _] rfl ?_
     intro w15 hO15
     refine SO.nil ?_
     have hE := (hO15.tail hb14)
     exact SQ.assigned b14 ⟨rfl, rfl, rfl, rfl, rfl, trivial⟩ ⟨Nat.le_trans hW hb14, hO15.at (i := 0) rfl⟩ (hE.keeps (namesLt rfl hlt13)) ⟨fun _ => hE.at (i := 0) rfl, fun h => hE.good h⟩ (hI.comp hE rfl)
   · intro l pre x u W hP hI hW hM hlen
     have hB13 := hI.adopt.know hM.2 (namesNe rfl hlt13 hM.1) (by have := hM.1; have := hO0.base; omega)
     have hr1 := nCells_range (bl (lineB s k)) pre
     have hr2 := clCells_range (bl (lineB s k)) x.1
     refine SC.block ?_
     refine SC.sr ?_
     refine SO.v (.load rfl rfl ag3 (cell_of' (hB13.at (i := 2) rfl) rfl)) ?_
     refine SO.v (.fieldAddr rfl rfl fa138_3) ?_
     refine SO.v (.load rfl rfl ag3 (cell_of' (hB13.at (i := 0) rfl) rfl)) ?_
     refine SO.v (.add rfl rfl rfl (by omega)) ?_
     refine SO.store hB13 (i := 2) rfl rfl rfl rfl rfl rfl sz3 rfl rfl [_, _, (_, .cells [_].toArray _ _), _, _, _] rfl ?_
     intro w16 hO16
     refine SO.nn ?_
     refine SC.seq ?_
     refine SC.sr ?_
     refine SO.v (.load rfl rfl ag3 (cell_of' (hO16.at (i := 2) rfl) rfl)) ?_
     refine SO.v (.load rfl rfl ag3 (cell_of' (hO16.at (i := 5) rfl) rfl)) ?_
     refine SO.v (.gtr rfl rfl rfl) ?_
     refine SO.nn ?_
     refine SC.dec rfl (fun c17 => ?_) (fun c17 => ?_)
     ·
      refine SC.exit ?_
      refine SQ.then_exit ?_
      refine SQ.block_pass rfl ?_
      have hE := (hO16.forget hM.2)
      rw [← nCells_snoc] at hE
      have e9 : lastTo (spF (bl s) k : Nat) pre = lastTo (spF (bl s) k : Nat) (pre ++ [x]).dropLast := by rw [List.dropLast_concat]
      rw [e9] at hE
      exact SQ.breaksP (hE.keeps (namesLt rfl hlt13)) ⟨rfl, pre, x, rfl, hP, by assumption⟩ (hI.comp hE rfl)
     ·
      refine SC.skip ?_
      refine SQ.then_normal ?_
      refine SC.region ?_
      refine SO.v (.fieldAddr rfl rfl fa41_0) ?_
      refine SO.v (.load rfl rfl ag3 (cell_of' (hO16.at (i := 4) rfl) rfl)) ?_
      refine SO.v (.fieldAddr rfl rfl fa138_1) ?_
      refine SO.v (.load rfl rfl ag3 (cell_of' (hO16.at (i := 0) rfl) rfl)) ?_
      refine SO.v (.addW rfl rfl rfl) ?_
      refine SO.store hO16 (i := 3) rfl rfl rfl rfl rfl rfl sz3 rfl rfl [_, _, _, (_, .cells [_].toArray _ _), _, _] rfl ?_
      intro w18 hO18
      refine SO.nil ?_
      refine SQ.block_normal ?_
      have hE := (hO18.forget hM.2)
      rw [← nCells_snoc] at hE
      have hPn := hP.snoc (x := x) (by assumption)
      have hE2 := hE
      rw [show IntKind.i64.wrap (((spF (bl s) k : Nat) : Int) + (x.2 : Int)) = lastTo (spF (bl s) k : Nat) (pre ++ [x]) from (lastTo_snoc _ _ _).symm] at hE
      exact SQ.goesP (hE.keeps (namesLt rfl hlt13)) ⟨fun _ => hE.at (i := 0) rfl, fun h => hE.good h⟩ hPn (hI.comp hE rfl)
   · intro d19 xs W hd19 hS hP hO19
     subst hS
     have hat : lastTo (spF (bl s) k : Nat) (clusters (bl (lineB s k))) = lastTo (spF (bl s) k : Nat) (upto (bl (lineB s k)) q (clusters (bl (lineB s k))) 0) := by rw [upto_all _ _ (fun p x r e => by rw [Int.zero_add]; exact hP p x r e)]
     refine SQ.block_normal ?_
     refine SQ.then_normal ?_
     refine SC.sr ?_
     refine SO.v (.load rfl rfl ag3 (cell_of' (hO19.at (i := 3) rfl) rfl)) ?_
     refine SO.as ?_
     refine SO.as ?_
     refine SO.nn ?_
     refine SC.ret ?_
     refine SQ.outM [d19] hO19 (List.forall_mem_cons.2 ⟨hd19, fun _ h => by cases h⟩) (.inl rfl) (fun w20 hO20 => ⟨_, res2 (t := 6) (u := 7) rfl rfl rfl, ?_⟩)
     exact ⟨by unfold atR; rw [if_neg (by omega), ← hat, hse]; rfl, hO20.toBelow ⟨hbs, hb8, hb7, hb3, hb1, trivial⟩⟩
   · intro d21 c pre W hd21 hSp hX hO21
     obtain ⟨rfl, p, x, rfl, hp1, hp2⟩ := hX
     obtain ⟨r, hr⟩ := hSp
     rw [List.dropLast_concat] at hO21
     have hat : lastTo (spF (bl s) k : Nat) p = lastTo (spF (bl s) k : Nat) (upto (bl (lineB s k)) q (clusters (bl (lineB s k))) 0) := by rw [← hr, List.append_assoc, List.singleton_append, upto_stop p x r 0 (fun p' y r' e => by rw [Int.zero_add]; exact hp1 p' y r' e) (by rw [Int.zero_add, nCells_snoc]; exact hp2)]
     refine SC.exit ?_
     refine SQ.block_exit ?_
     refine SQ.then_normal ?_
     refine SC.sr ?_
     refine SO.v (.load rfl rfl ag3 (cell_of' (hO21.at (i := 3) rfl) rfl)) ?_
     refine SO.as ?_
     refine SO.as ?_
     refine SO.nn ?_
     refine SC.ret ?_
     refine SQ.outM [d21] hO21 (List.forall_mem_cons.2 ⟨hd21, fun _ h => by cases h⟩) (.inl rfl) (fun w22 hO22 => ⟨_, res2 (t := 6) (u := 7) rfl rfl rfl, ?_⟩)
     exact ⟨by unfold atR; rw [if_neg (by omega), ← hat, hse]; rfl, hO22.toBelow ⟨hbs, hb8, hb7, hb3, hb1, trivial⟩⟩

end Go.Proofs.YtclgplkkajfenaaGreatDoor
