/- metric.Measure. -/
import Derived.Test.YtclgplkkajfenaaGreatDoorCnt
import Derived.Test.YtclgplkkajfenaaGreatDoorShelf
namespace Go.Proofs.YtclgplkkajfenaaGreatDoor
open Go Go.RowKit Ow
/-- A summary, plainly. -/
structure Smy where
  b : Int
  u : Int
  c : Int
  k : Int
  nl : Int
  h : ByteArray
  t : ByteArray
deriving DecidableEq
abbrev smC (m : Smy) : List Value := [.int .i64 m.b, .int .i64 m.u, .int .i64 m.c, .int .i64 m.k, .int .i64 m.nl, .string m.h, .string m.t]
abbrev smV (m : Smy) : Value := .agg (smC m).toArray
def zS : Smy := ⟨0, 0, 0, 0, 0, ⟨#[]⟩, ⟨#[]⟩⟩
def headB (s : ByteArray) : ByteArray := s.extract 0 (min s.size 16)
def tailB (s : ByteArray) : ByteArray := s.extract (s.size - min s.size 16) s.size
theorem headB_size (s : ByteArray) : (headB s).size ≤ 16 := by simp [headB]; omega
theorem tailB_size (s : ByteArray) : (tailB s).size ≤ 16 := by simp [tailB]; omega
/-- How many newlines. -/
def nlC (l : Bs) : Nat := Lib.countByte l 10
def unitsN (s : ByteArray) : Nat := Lib.runeCount s
def clN (s : ByteArray) : Nat := (clusters (bl s)).length
def ceN (s : ByteArray) : Int := nCells (bl s) (clusters (bl s))
def measS (s : ByteArray) : Smy := ⟨s.size, unitsN s, clN s, ceN s, nlC (bl s), headB s, tailB s⟩
theorem unitsN_any (s : ByteArray) (w : World) (hG : Good w) (hz : s.size ≤ 4000000000000000000) :
    Calls Tryz.prog 225 #[.string s] w fun e w' => e = .returned (.int .i64 (unitsN s)) ∧ Below w.heap.size w w' := by
  refine (Tryz.utf8_RuneCountInString s w (by omega)).mono ?_
  rintro e w' ⟨rfl, pos, rfl⟩
  refine ⟨rfl, ?_⟩
  have := (Own.start hG).alloc (.stringIter s pos)
  exact this.toBelow ⟨Nat.le_refl _, trivial⟩
theorem nl_any (s : ByteArray) (w : World) :
    Calls Tryz.prog 219 #[.string s, .string ⟨#[10]⟩] w fun e w' => e = .returned (.int .i64 (nlC (bl s))) ∧ Below w.heap.size w w' := by
  refine (Tryz.strings_Count_one s 10 w).mono ?_
  rintro e w' ⟨rfl, rfl⟩
  exact ⟨rfl, Below.refl _ _⟩
/-- Sums and differences as the machine has them. -/
def aw (x y : Int) : Int := IntKind.i64.wrap (x + y)
def sw (x y : Int) : Int := IntKind.i64.wrap (x - y)
def pairS (a b : Smy) : Smy :=
  ⟨aw a.b b.b, sw (sw (aw (aw a.u b.u) (unitsN (a.t ++ b.h))) (unitsN a.t)) (unitsN b.h), sw (sw (aw (aw a.c b.c) (clN (a.t ++ b.h))) (clN a.t)) (clN b.h),
   sw (sw (aw (aw a.k b.k) (ceN (a.t ++ b.h))) (ceN a.t)) (ceN b.h), aw a.nl b.nl,
   if a.h.size < 16 then headB (a.h ++ b.h) else a.h, if b.t.size < 16 then tailB (a.t ++ b.t) else b.t⟩
/-- A summary whose ends are as long as ends are. -/
def SOk (m : Smy) : Prop := m.h.size ≤ 16 ∧ m.t.size ≤ 16
theorem SOk.meas (s : ByteArray) : SOk (measS s) := ⟨headB_size s, tailB_size s⟩
theorem SOk.zero : SOk zS := ⟨by decide, by decide⟩
theorem SOk.pair {a b : Smy} (ha : SOk a) (hb : SOk b) : SOk (pairS a b) := by
  refine ⟨?_, ?_⟩
  · show (if a.h.size < 16 then headB (a.h ++ b.h) else a.h).size ≤ 16
    split
    · exact headB_size _
    · exact ha.1
  · show (if b.t.size < 16 then tailB (a.t ++ b.t) else b.t).size ≤ 16
    split
    · exact tailB_size _
    · exact hb.2

set_option maxRecDepth 20000 in
set_option maxHeartbeats 400000 in
theorem ucount_any (s : ByteArray) (w : World) (hG : Good w) (hz : s.size ≤ 4000000000000000000) :
    Calls Tryz.prog 217 #[.string s] w fun e w' => e = .returned (.int .i64 (unitsN s)) ∧ Below w.heap.size w w' := by
  have hO0 := Own.start hG
  refine enter Tryz.func217 rfl rfl rfl 0 ?_
  refine SC.seq ?_
  refine SC.region ?_
  refine SO.val rfl rfl rfl rfl (.assign rfl rfl) ?_
  refine SO.nil ?_
  refine SQ.then_normal ?_
  refine SC.seq ?_
  refine SC.region ?_
  refine SO.val rfl rfl rfl rfl (.move rfl rfl) ?_
  refine SO.call rfl rfl rfl rfl (.callF rfl rfl en225) (unitsN_any _ _ (hO0.good hG) (by omega)) ?_
  rintro _ w1 ⟨rfl, hb1⟩
  have hO1 := hO0.below hb1
  refine ⟨_, rfl, ?_⟩
  refine SO.val rfl rfl rfl rfl (.assign rfl rfl) ?_
  refine SO.nil ?_
  refine SQ.then_normal ?_
  refine SC.ret ?_
  refine SQ.out (.inl rfl) (res1 rfl rfl) ?_
  exact ⟨rfl, hO1.toBelow trivial⟩

set_option maxRecDepth 20000 in
set_option maxHeartbeats 400000 in
theorem head_any (s : ByteArray) (w : World) (hG : Good w) :
    Calls Tryz.prog 220 #[.string s] w fun e w' => e = .returned (.string (headB s)) ∧ Below w.heap.size w w' := by
  have hO0 := Own.start hG
  refine enter Tryz.func220 rfl rfl rfl 0 ?_
  refine SC.seq ?_
  refine SC.region ?_
  refine SO.val rfl rfl rfl rfl (.assign rfl rfl) ?_
  refine SO.nil ?_
  refine SQ.then_normal ?_
  refine SC.seq ?_
  refine SC.region ?_
  refine SO.val rfl rfl rfl rfl (.move rfl rfl) ?_
  refine SO.val rfl rfl rfl rfl (.move rfl rfl) ?_
  refine SO.val rfl rfl rfl rfl (.lenS rfl rfl Tryz.underlying9) ?_
  refine SO.val rfl rfl rfl rfl (.minI rfl rfl rfl) ?_
  refine SO.val rfl rfl rfl rfl (.sliceH rfl rfl rfl Tryz.underlying9 (by omega)) ?_
  refine SO.val rfl rfl rfl rfl (.assign rfl rfl) ?_
  refine SO.nil ?_
  refine SQ.then_normal ?_
  refine SC.ret ?_
  refine SQ.out (.inl rfl) (res1 rfl rfl) ?_
  refine ⟨?_, hO0.toBelow trivial⟩
  unfold headB; congr 3; omega

set_option maxRecDepth 20000 in
set_option maxHeartbeats 400000 in
theorem tail_any (s : ByteArray) (w : World) (hG : Good w) (hz : s.size ≤ 4000000000000000000) :
    Calls Tryz.prog 221 #[.string s] w fun e w' => e = .returned (.string (tailB s)) ∧ Below w.heap.size w w' := by
  have hO0 := Own.start hG
  refine enter Tryz.func221 rfl rfl rfl 0 ?_
  refine SC.seq ?_
  refine SC.region ?_
  refine SO.val rfl rfl rfl rfl (.assign rfl rfl) ?_
  refine SO.nil ?_
  refine SQ.then_normal ?_
  refine SC.seq ?_
  refine SC.region ?_
  refine SO.val rfl rfl rfl rfl (.move rfl rfl) ?_
  refine SO.val rfl rfl rfl rfl (.move rfl rfl) ?_
  refine SO.val rfl rfl rfl rfl (.lenS rfl rfl Tryz.underlying9) ?_
  refine SO.val rfl rfl rfl rfl (.move rfl rfl) ?_
  refine SO.val rfl rfl rfl rfl (.lenS rfl rfl Tryz.underlying9) ?_
  refine SO.val rfl rfl rfl rfl (.minI rfl rfl rfl) ?_
  refine SO.val rfl rfl rfl rfl (.sub rfl rfl rfl (by omega)) ?_
  refine SO.val rfl rfl rfl rfl (.sliceL rfl rfl rfl Tryz.underlying9 (by omega)) ?_
  refine SO.val rfl rfl rfl rfl (.assign rfl rfl) ?_
  refine SO.nil ?_
  refine SQ.then_normal ?_
  refine SC.ret ?_
  refine SQ.out (.inl rfl) (res1 rfl rfl) ?_
  refine ⟨?_, hO0.toBelow trivial⟩
  unfold tailB; congr 3; omega

theorem bd91_0_1_2_3_4_5_6_Met (x0 : Int) (x1 : Int) (x2 : Int) (x3 : Int) (x4 : Int) (x5 : ByteArray) (x6 : ByteArray) : ∀ w, (Instr.build 91 [(0, .int .i64 x0), (1, .int .i64 x1), (2, .int .i64 x2), (3, .int .i64 x3), (4, .int .i64 x4), (5, .string x5), (6, .string x6)].toArray).run Tryz.prog w = .ok (.agg [.int .i64 x0, .int .i64 x1, .int .i64 x2, .int .i64 x3, .int .i64 x4, .string x5, .string x6].toArray) w := fun _ => by kernel_rfl
set_option maxRecDepth 20000 in
set_option maxHeartbeats 400000 in
theorem measure_any (s : ByteArray) (w : World) (hG : Good w) (hz : s.size ≤ 4000000000000000000) :
    Calls Tryz.prog 211 #[.string s] w fun e w' => e = .returned (smV (measS s)) ∧ Below w.heap.size w w' := by
  have hO0 := Own.start hG
  refine enter Tryz.func211 rfl rfl rfl 0 ?_
  refine SC.seq ?_
  refine SC.region ?_
  refine SO.alloc hO0 rfl rfl rfl rfl zv91 [_, _, _, _, _, _, _] rfl ?_
  intro b1 w1 hb1 hO1
  refine SO.nil ?_
  refine SQ.then_normal ?_
  refine SC.seq ?_
  refine SC.region ?_
  refine SO.val rfl rfl rfl rfl (.move rfl rfl) ?_
  refine SO.val rfl rfl rfl rfl (.lenS rfl rfl Tryz.underlying9) ?_
  refine SO.val rfl rfl rfl rfl (.move rfl rfl) ?_
  refine SO.call rfl rfl rfl rfl (.callF rfl rfl en217) (ucount_any _ _ (hO1.good hG) (by omega)) ?_
  rintro _ w2 ⟨rfl, hb2⟩
  have hO2 := hO1.below hb2
  refine ⟨_, rfl, ?_⟩
  refine SO.val rfl rfl rfl rfl (.move rfl rfl) ?_
  refine SO.call rfl rfl rfl rfl (.callF rfl rfl en218) (ccount_any _ _ (hO2.good hG) (by omega)) ?_
  rintro _ w3 ⟨rfl, hb3⟩
  have hO3 := hO2.below hb3
  refine ⟨_, rfl, ?_⟩
  refine SO.val rfl rfl rfl rfl (.move rfl rfl) ?_
  refine SO.call rfl rfl rfl rfl (.callF rfl rfl en31) (ccellsum_any _ _ (hO3.good hG) (by omega)) ?_
  rintro _ w4 ⟨rfl, hb4⟩
  have hO4 := hO3.below hb4
  refine ⟨_, rfl, ?_⟩
  refine SO.val rfl rfl rfl rfl (.move rfl rfl) ?_
  refine SO.call rfl rfl rfl rfl (.callF rfl rfl en219) (nl_any _ _) ?_
  rintro _ w5 ⟨rfl, hb5⟩
  have hO5 := hO4.below hb5
  refine ⟨_, rfl, ?_⟩
  refine SO.val rfl rfl rfl rfl (.move rfl rfl) ?_
  refine SO.call rfl rfl rfl rfl (.callF rfl rfl en220) (head_any _ _ (hO5.good hG)) ?_
  rintro _ w6 ⟨rfl, hb6⟩
  have hO6 := hO5.below hb6
  refine ⟨_, rfl, ?_⟩
  refine SO.val rfl rfl rfl rfl (.move rfl rfl) ?_
  refine SO.call rfl rfl rfl rfl (.callF rfl rfl en221) (tail_any _ _ (hO6.good hG) (by omega)) ?_
  rintro _ w7 ⟨rfl, hb7⟩
  have hO7 := hO6.below hb7
  refine ⟨_, rfl, ?_⟩
  refine SO.val rfl rfl rfl rfl (.build rfl rfl (bd91_0_1_2_3_4_5_6_Met _ _ _ _ _ _ _)) ?_
  refine SO.store hO7 (i := 0) rfl rfl rfl rfl rfl rfl sz91 rfl rfl [(_, .cells [_, _, _, _, _, _, _].toArray _ _)] rfl ?_
  intro w8 hO8
  refine SO.nil ?_
  refine SQ.then_normal ?_
  refine SC.ret ?_
  refine SQ.out (.inl rfl) (resC [_, _, _, _, _, _, _] rfl rfl ag91 sz91 (hO8.at (i := 0) rfl) rfl rfl) ?_
  exact ⟨rfl, hO8.toBelow ⟨hb1, trivial⟩⟩

end Go.Proofs.YtclgplkkajfenaaGreatDoor
