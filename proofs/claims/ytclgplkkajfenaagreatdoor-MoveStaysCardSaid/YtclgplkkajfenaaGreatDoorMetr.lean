/- metric: Measure, pair. -/
import Derived.Test.YtclgplkkajfenaaGreatDoorWalks1
import Derived.Test.YtclgplkkajfenaaGreatDoorShelf
/- metric.Measure. -/
  namespace Go.Proofs.YtclgplkkajfenaaGreatDoor
open Go Go.RowKit Ow
/-- A summary, plainly. -/
structure Smy where
  b : Int
  u : Int
  c : Int
  k : Int
  nl : Int
  h : ByteArray
  t : ByteArray
deriving DecidableEq
abbrev smC (m : Smy) : List Value := [.int .i64 m.b, .int .i64 m.u, .int .i64 m.c, .int .i64 m.k, .int .i64 m.nl, .string m.h, .string m.t]
abbrev smV (m : Smy) : Value := .agg (smC m).toArray
def zS : Smy := ⟨0, 0, 0, 0, 0, ⟨#[]⟩, ⟨#[]⟩⟩
def headB (s : ByteArray) : ByteArray := s.extract 0 (min s.size 16)
def tailB (s : ByteArray) : ByteArray := s.extract (s.size - min s.size 16) s.size
theorem headB_size (s : ByteArray) : (headB s).size ≤ 16 := by simp [headB]; omega
theorem tailB_size (s : ByteArray) : (tailB s).size ≤ 16 := by simp [tailB]; omega
/-- How many newlines. -/
def nlC (l : Bs) : Nat := Lib.countByte l 10
def unitsN (s : ByteArray) : Nat := Lib.runeCount s
def clN (s : ByteArray) : Nat := (clusters (bl s)).length
def ceN (s : ByteArray) : Int := nCells (bl s) (clusters (bl s))
def measS (s : ByteArray) : Smy := ⟨s.size, unitsN s, clN s, ceN s, nlC (bl s), headB s, tailB s⟩
theorem unitsN_any (s : ByteArray) (w : World) (hG : Good w) (hz : s.size ≤ 4000000000000000000) :
    Calls Tryz.prog 225 #[.string s] w fun e w' => e = .returned (.int .i64 (unitsN s)) ∧ Below w.heap.size w w' := by
  refine (Tryz.utf8_RuneCountInString s w (by omega)).mono ?_
  rintro e w' ⟨rfl, pos, rfl⟩
  refine ⟨rfl, ?_⟩
  have := (Own.start hG).alloc (.stringIter s pos)
  exact this.toBelow ⟨Nat.le_refl _, trivial⟩
theorem nl_any (s : ByteArray) (w : World) :
    Calls Tryz.prog 219 #[.string s, .string ⟨#[10]⟩] w fun e w' => e = .returned (.int .i64 (nlC (bl s))) ∧ Below w.heap.size w w' := by
  refine (Tryz.strings_Count_one s 10 w).mono ?_
  rintro e w' ⟨rfl, rfl⟩
  exact ⟨rfl, Below.refl _ _⟩
/-- Sums and differences as the machine has them. -/
def aw (x y : Int) : Int := IntKind.i64.wrap (x + y)
def sw (x y : Int) : Int := IntKind.i64.wrap (x - y)
def pairS (a b : Smy) : Smy :=
  ⟨aw a.b b.b, sw (sw (aw (aw a.u b.u) (unitsN (a.t ++ b.h))) (unitsN a.t)) (unitsN b.h), sw (sw (aw (aw a.c b.c) (clN (a.t ++ b.h))) (clN a.t)) (clN b.h),
   sw (sw (aw (aw a.k b.k) (ceN (a.t ++ b.h))) (ceN a.t)) (ceN b.h), aw a.nl b.nl,
   if a.h.size < 16 then headB (a.h ++ b.h) else a.h, if b.t.size < 16 then tailB (a.t ++ b.t) else b.t⟩
/-- A summary whose ends are as long as ends are. -/
def SOk (m : Smy) : Prop := m.h.size ≤ 16 ∧ m.t.size ≤ 16
theorem SOk.meas (s : ByteArray) : SOk (measS s) := ⟨headB_size s, tailB_size s⟩
theorem SOk.zero : SOk zS := ⟨by decide, by decide⟩
theorem SOk.pair {a b : Smy} (ha : SOk a) (hb : SOk b) : SOk (pairS a b) := by
  refine ⟨?_, ?_⟩
  · show (if a.h.size < 16 then headB (a.h ++ b.h) else a.h).size ≤ 16
    split
    · exact headB_size _
    · exact ha.1
  · show (if b.t.size < 16 then tailB (a.t ++ b.t) else b.t).size ≤ 16
    split
    · exact tailB_size _
    · exact hb.2

set_option maxRecDepth 20000 in
set_option maxHeartbeats 400000 in
theorem ucount_any (s : ByteArray) (w : World) (hG : Good w) (hz : s.size ≤ 4000000000000000000) :
    Calls Tryz.prog 217 #[.string s] w fun e w' => e = .returned (.int .i64 (unitsN s)) ∧ Below w.heap.size w w' := by
  have hO0 := Own.start hG
  refine enter Tryz.func217 rfl rfl rfl 0 ?_
  refine SC.sr ?_
  refine SO.as ?_
  refine SO.nn ?_
  refine SC.sr ?_
  refine SO.mv ?_
  refine SO.call rfl rfl rfl rfl (.callF rfl rfl en225) (unitsN_any _ _ (hO0.good hG) (by omega)) ?_
  rintro _ w1 ⟨rfl, hb1⟩
  have hO1 := hO0.below hb1
  refine ⟨_, rfl, ?_⟩
  refine SO.as ?_
  refine SO.nn ?_
  refine SC.ret ?_
  refine SQ.out (.inl rfl) (res1 rfl rfl) ?_
  exact ⟨rfl, hO1.toBelow trivial⟩

set_option maxRecDepth 20000 in
set_option maxHeartbeats 400000 in
theorem head_any (s : ByteArray) (w : World) (hG : Good w) :
    Calls Tryz.prog 220 #[.string s] w fun e w' => e = .returned (.string (headB s)) ∧ Below w.heap.size w w' := by
  have hO0 := Own.start hG
  refine enter Tryz.func220 rfl rfl rfl 0 ?_
  refine SC.sr ?_
  refine SO.as ?_
  refine SO.nn ?_
  refine SC.sr ?_
  refine SO.mv ?_
  refine SO.mv ?_
  refine SO.v (.lenS rfl rfl Tryz.underlying9) ?_
  refine SO.v (.minI rfl rfl rfl) ?_
  refine SO.v (.sliceH rfl rfl rfl Tryz.underlying9 (by omega)) ?_
  refine SO.as ?_
  refine SO.nn ?_
  refine SC.ret ?_
  refine SQ.out (.inl rfl) (res1 rfl rfl) ?_
  refine ⟨?_, hO0.toBelow trivial⟩
  unfold headB; congr 3; omega

set_option maxRecDepth 20000 in
set_option maxHeartbeats 400000 in
theorem tail_any (s : ByteArray) (w : World) (hG : Good w) (hz : s.size ≤ 4000000000000000000) :
    Calls Tryz.prog 221 #[.string s] w fun e w' => e = .returned (.string (tailB s)) ∧ Below w.heap.size w w' := by
  have hO0 := Own.start hG
  refine enter Tryz.func221 rfl rfl rfl 0 ?_
  refine SC.sr ?_
  refine SO.as ?_
  refine SO.nn ?_
  refine SC.sr ?_
  refine SO.mv ?_
  refine SO.mv ?_
  refine SO.v (.lenS rfl rfl Tryz.underlying9) ?_
  refine SO.mv ?_
  refine SO.v (.lenS rfl rfl Tryz.underlying9) ?_
  refine SO.v (.minI rfl rfl rfl) ?_
  refine SO.v (.sub rfl rfl rfl (by omega)) ?_
  refine SO.v (.sliceL rfl rfl rfl Tryz.underlying9 (by omega)) ?_
  refine SO.as ?_
  refine SO.nn ?_
  refine SC.ret ?_
  refine SQ.out (.inl rfl) (res1 rfl rfl) ?_
  refine ⟨?_, hO0.toBelow trivial⟩
  unfold tailB; congr 3; omega

theorem bd91_0_1_2_3_4_5_6_Met (x0 : Int) (x1 : Int) (x2 : Int) (x3 : Int) (x4 : Int) (x5 : ByteArray) (x6 : ByteArray) : ∀ w, (Instr.build 91 [(0, .int .i64 x0), (1, .int .i64 x1), (2, .int .i64 x2), (3, .int .i64 x3), (4, .int .i64 x4), (5, .string x5), (6, .string x6)].toArray).run Tryz.prog w = .ok (.agg [.int .i64 x0, .int .i64 x1, .int .i64 x2, .int .i64 x3, .int .i64 x4, .string x5, .string x6].toArray) w := fun _ => by kernel_rfl
set_option maxRecDepth 20000 in
set_option maxHeartbeats 400000 in
theorem measure_any (s : ByteArray) (w : World) (hG : Good w) (hz : s.size ≤ 4000000000000000000) :
    Calls Tryz.prog 211 #[.string s] w fun e w' => e = .returned (smV (measS s)) ∧ Below w.heap.size w w' := by
  have hO0 := Own.start hG
  refine enter Tryz.func211 rfl rfl rfl 0 ?_
  refine SC.sr ?_
  refine SO.alloc hO0 rfl rfl rfl rfl zv91 [_, _, _, _, _, _, _] rfl ?_
  intro b1 w1 hb1 hO1
  refine SO.nn ?_
  refine SC.sr ?_
  refine SO.mv ?_
  refine SO.v (.lenS rfl rfl Tryz.underlying9) ?_
  refine SO.mv ?_
  refine SO.call rfl rfl rfl rfl (.callF rfl rfl en217) (ucount_any _ _ (hO1.good hG) (by omega)) ?_
  rintro _ w2 ⟨rfl, hb2⟩
  have hO2 := hO1.below hb2
  refine ⟨_, rfl, ?_⟩
  refine SO.mv ?_
  refine SO.call rfl rfl rfl rfl (.callF rfl rfl en218) (ccount_any _ _ (hO2.good hG) (by omega)) ?_
  rintro _ w3 ⟨rfl, hb3⟩
  have hO3 := hO2.below hb3
  refine ⟨_, rfl, ?_⟩
  refine SO.mv ?_
  refine SO.call rfl rfl rfl rfl (.callF rfl rfl en31) (ccellsum_any _ _ (hO3.good hG) (by omega)) ?_
  rintro _ w4 ⟨rfl, hb4⟩
  have hO4 := hO3.below hb4
  refine ⟨_, rfl, ?_⟩
  refine SO.mv ?_
  refine SO.call rfl rfl rfl rfl (.callF rfl rfl en219) (nl_any _ _) ?_
  rintro _ w5 ⟨rfl, hb5⟩
  have hO5 := hO4.below hb5
  refine ⟨_, rfl, ?_⟩
  refine SO.mv ?_
  refine SO.call rfl rfl rfl rfl (.callF rfl rfl en220) (head_any _ _ (hO5.good hG)) ?_
  rintro _ w6 ⟨rfl, hb6⟩
  have hO6 := hO5.below hb6
  refine ⟨_, rfl, ?_⟩
  refine SO.mv ?_
  refine SO.call rfl rfl rfl rfl (.callF rfl rfl en221) (tail_any _ _ (hO6.good hG) (by omega)) ?_
  rintro _ w7 ⟨rfl, hb7⟩
  have hO7 := hO6.below hb7
  refine ⟨_, rfl, ?_⟩
  refine SO.v (.build rfl rfl (bd91_0_1_2_3_4_5_6_Met _ _ _ _ _ _ _)) ?_
  refine SO.store hO7 (i := 0) rfl rfl rfl rfl rfl rfl sz91 rfl rfl [(_, .cells [_, _, _, _, _, _, _].toArray _ _)] rfl ?_
  intro w8 hO8
  refine SO.nn ?_
  refine SC.ret ?_
  refine SQ.out (.inl rfl) (resC [_, _, _, _, _, _, _] rfl rfl ag91 sz91 (hO8.at (i := 0) rfl) rfl rfl) ?_
  exact ⟨rfl, hO8.toBelow ⟨hb1, trivial⟩⟩

end Go.Proofs.YtclgplkkajfenaaGreatDoor
/- metric.pair. -/
namespace Go.Proofs.YtclgplkkajfenaaGreatDoor
open Go Go.RowKit Ow
theorem bd91_0_1_2_3_4_5_6_Metp (x0 : Int) (x1 : Int) (x2 : Int) (x3 : Int) (x4 : Int) (x5 : ByteArray) (x6 : ByteArray) : ∀ w, (Instr.build 91 [(0, .int .i64 x0), (1, .int .i64 x1), (2, .int .i64 x2), (3, .int .i64 x3), (4, .int .i64 x4), (5, .string x5), (6, .string x6)].toArray).run Tryz.prog w = .ok (.agg [.int .i64 x0, .int .i64 x1, .int .i64 x2, .int .i64 x3, .int .i64 x4, .string x5, .string x6].toArray) w := fun _ => by kernel_rfl
set_option maxRecDepth 100000 in
set_option maxHeartbeats 4000000 in
theorem pair_any (a b : Smy) (w : World) (hG : Good w) (ha : SOk a) (hb : SOk b) :
    Calls Tryz.prog 224 #[smV a, smV b] w fun e w' => e = .returned (smV (pairS a b)) ∧ Below w.heap.size w w' := by
  have h1 := ha.1; have h2 := ha.2; have h3 := hb.1; have h4 := hb.2
  have h5 : (a.t ++ b.h).size = a.t.size + b.h.size := ByteArray.size_append
  have h6 : (a.h ++ b.h).size = a.h.size + b.h.size := ByteArray.size_append
  have h7 : (a.t ++ b.t).size = a.t.size + b.t.size := ByteArray.size_append
  have hO0 := Own.start hG
  refine enter Tryz.func224 rfl rfl rfl 0 ?_
  refine SC.sr ?_
  refine SO.box hO0 rfl rfl rfl rfl rfl [_, _, _, _, _, _, _] rfl ?_
  intro b1 w1 hb1 hO1
  refine SO.box hO1 rfl rfl rfl rfl rfl [_, _, _, _, _, _, _] rfl ?_
  intro b2 w2 hb2 hO2
  refine SO.alloc hO2 rfl rfl rfl rfl zv91 [_, _, _, _, _, _, _] rfl ?_
  intro b3 w3 hb3 hO3
  refine SO.nn ?_
  refine SC.seq ?_
  refine SC.drawO mixed hO3 (fun hO4 => ?_)
  refine SA.tk 0 rfl hO4 (fun v hv => .fieldAddr rfl rfl fa91_6) ?_
  refine SA.tk 1 rfl hO4 (fun v hv => .load rfl rfl ag9 (cell_of' (hv.at (i := 2) rfl) rfl)) ?_
  refine SA.tk 2 rfl hO4 (fun v hv => .fieldAddr rfl rfl fa91_5) ?_
  refine SA.tk 3 rfl hO4 (fun v hv => .load rfl rfl ag9 (cell_of' (hv.at (i := 1) rfl) rfl)) ?_
  refine SA.tk 4 rfl hO4 (fun v hv => .fieldAddr rfl rfl fa91_6) ?_
  refine SA.tk 5 rfl hO4 (fun v hv => .load rfl rfl ag9 (cell_of' (hv.at (i := 2) rfl) rfl)) ?_
  refine SA.tk 6 rfl hO4 (fun v hv => .fieldAddr rfl rfl fa91_5) ?_
  refine SA.tk 7 rfl hO4 (fun v hv => .load rfl rfl ag9 (cell_of' (hv.at (i := 1) rfl) rfl)) ?_
  refine SA.tk 8 rfl hO4 (fun v hv => .strAdd rfl rfl rfl (by omega)) ?_
  refine SA.ta 9 rfl hO4 ?_
  refine SA.ta 10 rfl hO4 ?_
  refine SA.ta 11 rfl hO4 ?_
  refine SA.done (by kernel_rfl) ?_
  refine SQ.then_normal ?_
  refine SC.seq ?_
  refine SC.drawO mixed hO4 (fun hO5 => ?_)
  refine SA.tk 0 rfl hO5 (fun v hv => .fieldAddr rfl rfl fa91_0) ?_
  refine SA.tk 1 rfl hO5 (fun v hv => .load rfl rfl ag3 (cell_of' (hv.at (i := 2) rfl) rfl)) ?_
  refine SA.tk 2 rfl hO5 (fun v hv => .fieldAddr rfl rfl fa91_0) ?_
  refine SA.tk 3 rfl hO5 (fun v hv => .load rfl rfl ag3 (cell_of' (hv.at (i := 1) rfl) rfl)) ?_
  refine SA.tk 4 rfl hO5 (fun v hv => .addW rfl rfl rfl) ?_
  refine SA.tk 5 rfl hO5 (fun v hv => .fieldAddr rfl rfl fa91_1) ?_
  refine SA.tk 6 rfl hO5 (fun v hv => .load rfl rfl ag3 (cell_of' (hv.at (i := 2) rfl) rfl)) ?_
  refine SA.tk 7 rfl hO5 (fun v hv => .fieldAddr rfl rfl fa91_1) ?_
  refine SA.tk 8 rfl hO5 (fun v hv => .load rfl rfl ag3 (cell_of' (hv.at (i := 1) rfl) rfl)) ?_
  refine SA.tk 9 rfl hO5 (fun v hv => .addW rfl rfl rfl) ?_
  refine SA.tm 10 rfl hO5 ?_
  refine SA.tm 13 rfl hO5 ?_
  refine SA.tm 16 rfl hO5 ?_
  refine SA.tk 19 rfl hO5 (fun v hv => .fieldAddr rfl rfl fa91_2) ?_
  refine SA.tk 20 rfl hO5 (fun v hv => .load rfl rfl ag3 (cell_of' (hv.at (i := 2) rfl) rfl)) ?_
  refine SA.tk 21 rfl hO5 (fun v hv => .fieldAddr rfl rfl fa91_2) ?_
  refine SA.tk 22 rfl hO5 (fun v hv => .load rfl rfl ag3 (cell_of' (hv.at (i := 1) rfl) rfl)) ?_
  refine SA.tk 23 rfl hO5 (fun v hv => .addW rfl rfl rfl) ?_
  refine SA.tm 24 rfl hO5 ?_
  refine SA.tm 27 rfl hO5 ?_
  refine SA.tm 30 rfl hO5 ?_
  refine SA.tk 33 rfl hO5 (fun v hv => .fieldAddr rfl rfl fa91_3) ?_
  refine SA.tk 34 rfl hO5 (fun v hv => .load rfl rfl ag3 (cell_of' (hv.at (i := 2) rfl) rfl)) ?_
  refine SA.tk 35 rfl hO5 (fun v hv => .fieldAddr rfl rfl fa91_3) ?_
  refine SA.tk 36 rfl hO5 (fun v hv => .load rfl rfl ag3 (cell_of' (hv.at (i := 1) rfl) rfl)) ?_
  refine SA.tk 37 rfl hO5 (fun v hv => .addW rfl rfl rfl) ?_
  refine SA.tm 38 rfl hO5 ?_
  refine SA.tm 41 rfl hO5 ?_
  refine SA.tm 44 rfl hO5 ?_
  refine SA.tk 47 rfl hO5 (fun v hv => .fieldAddr rfl rfl fa91_4) ?_
  refine SA.tk 48 rfl hO5 (fun v hv => .load rfl rfl ag3 (cell_of' (hv.at (i := 2) rfl) rfl)) ?_
  refine SA.tk 49 rfl hO5 (fun v hv => .fieldAddr rfl rfl fa91_4) ?_
  refine SA.tk 50 rfl hO5 (fun v hv => .load rfl rfl ag3 (cell_of' (hv.at (i := 1) rfl) rfl)) ?_
  refine SA.tk 51 rfl hO5 (fun v hv => .addW rfl rfl rfl) ?_
  refine SA.tk 52 rfl hO5 (fun v hv => .fieldAddr rfl rfl fa91_5) ?_
  refine SA.tk 53 rfl hO5 (fun v hv => .load rfl rfl ag9 (cell_of' (hv.at (i := 2) rfl) rfl)) ?_
  refine SA.tk 54 rfl hO5 (fun v hv => .fieldAddr rfl rfl fa91_6) ?_
  refine SA.tk 55 rfl hO5 (fun v hv => .load rfl rfl ag9 (cell_of' (hv.at (i := 1) rfl) rfl)) ?_
  refine SA.two 11 57 (by kernel_rfl) ?_ ?_
  ·
   refine SB.call rfl rfl rfl rfl (.callF rfl rfl en217) (ucount_any _ _ (hO5.good hG) (by omega)) ?_
   rintro _ w6 ⟨rfl, hb6⟩
   have hO6 := hO5.below hb6
   refine ⟨_, rfl, hO6, ?_⟩
   refine SA.tk 12 rfl hO6 (fun v hv => .addW rfl rfl rfl) ?_
   refine SA.two 14 57 (by kernel_rfl) ?_ ?_
   ·
    refine SB.call rfl rfl rfl rfl (.callF rfl rfl en217) (ucount_any _ _ (hO6.good hG) (by omega)) ?_
    rintro _ w7 ⟨rfl, hb7⟩
    have hO7 := hO6.below hb7
    refine ⟨_, rfl, hO7, ?_⟩
    refine SA.tk 15 rfl hO7 (fun v hv => .subW rfl rfl rfl) ?_
    refine SA.two 17 57 (by kernel_rfl) ?_ ?_
    ·
     refine SB.call rfl rfl rfl rfl (.callF rfl rfl en217) (ucount_any _ _ (hO7.good hG) (by omega)) ?_
     rintro _ w8 ⟨rfl, hb8⟩
     have hO8 := hO7.below hb8
     refine ⟨_, rfl, hO8, ?_⟩
     refine SA.tk 18 rfl hO8 (fun v hv => .subW rfl rfl rfl) ?_
     refine SA.two 25 57 (by kernel_rfl) ?_ ?_
     ·
      refine SB.call rfl rfl rfl rfl (.callF rfl rfl en218) (ccount_any _ _ (hO8.good hG) (by omega)) ?_
      rintro _ w9 ⟨rfl, hb9⟩
      have hO9 := hO8.below hb9
      refine ⟨_, rfl, hO9, ?_⟩
      refine SA.tk 26 rfl hO9 (fun v hv => .addW rfl rfl rfl) ?_
      refine SA.two 28 57 (by kernel_rfl) ?_ ?_
      ·
       refine SB.call rfl rfl rfl rfl (.callF rfl rfl en218) (ccount_any _ _ (hO9.good hG) (by omega)) ?_
       rintro _ w10 ⟨rfl, hb10⟩
       have hO10 := hO9.below hb10
       refine ⟨_, rfl, hO10, ?_⟩
       refine SA.tk 29 rfl hO10 (fun v hv => .subW rfl rfl rfl) ?_
       refine SA.two 31 57 (by kernel_rfl) ?_ ?_
       ·
        refine SB.call rfl rfl rfl rfl (.callF rfl rfl en218) (ccount_any _ _ (hO10.good hG) (by omega)) ?_
        rintro _ w11 ⟨rfl, hb11⟩
        have hO11 := hO10.below hb11
        refine ⟨_, rfl, hO11, ?_⟩
        refine SA.tk 32 rfl hO11 (fun v hv => .subW rfl rfl rfl) ?_
        refine SA.two 39 57 (by kernel_rfl) ?_ ?_
        ·
         refine SB.call rfl rfl rfl rfl (.callF rfl rfl en31) (ccellsum_any _ _ (hO11.good hG) (by omega)) ?_
         rintro _ w12 ⟨rfl, hb12⟩
         have hO12 := hO11.below hb12
         refine ⟨_, rfl, hO12, ?_⟩
         refine SA.tk 40 rfl hO12 (fun v hv => .addW rfl rfl rfl) ?_
         refine SA.two 42 57 (by kernel_rfl) ?_ ?_
         ·
          refine SB.call rfl rfl rfl rfl (.callF rfl rfl en31) (ccellsum_any _ _ (hO12.good hG) (by omega)) ?_
          rintro _ w13 ⟨rfl, hb13⟩
          have hO13 := hO12.below hb13
          refine ⟨_, rfl, hO13, ?_⟩
          refine SA.tk 43 rfl hO13 (fun v hv => .subW rfl rfl rfl) ?_
          refine SA.two 45 57 (by kernel_rfl) ?_ ?_
          ·
           refine SB.call rfl rfl rfl rfl (.callF rfl rfl en31) (ccellsum_any _ _ (hO13.good hG) (by omega)) ?_
           rintro _ w14 ⟨rfl, hb14⟩
           have hO14 := hO13.below hb14
           refine ⟨_, rfl, hO14, ?_⟩
           refine SA.tk 46 rfl hO14 (fun v hv => .subW rfl rfl rfl) ?_
           refine SA.tk 56 rfl hO14 (fun v hv => .build rfl rfl (bd91_0_1_2_3_4_5_6_Metp _ _ _ _ _ _ _)) ?_
           refine SA.one 57 (by kernel_rfl) ?_
           refine SB.alloc hO14 rfl rfl rfl rfl rfl zv91 [_, _, _, _, _, _, _] rfl ?_
           intro b15 w15 hb15 hO15
           refine ⟨(hO15.tail hb15), ?_⟩
           refine SA.one 58 (by kernel_rfl) ?_
           refine SB.store hO15 (j := 0) rfl rfl rfl rfl rfl rfl rfl sz91 rfl rfl [(_, .cells [_, _, _, _, _, _, _].toArray _ _), _, _, _] rfl ?_
           intro w16 hO16
           refine ⟨(hO16.tail hb15), ?_⟩
           refine SA.done (by kernel_rfl) ?_
           refine SQ.then_normal ?_
           refine SC.seq ?_
           refine SC.sr ?_
           refine SO.v (.fieldAddr rfl rfl fa91_5) ?_
           refine SO.v (.load rfl rfl ag9 (cell_of' (hO16.at (i := 3) rfl) rfl)) ?_
           refine SO.v (.lenS rfl rfl Tryz.underlying9) ?_
           refine SO.v (.lss rfl rfl rfl) ?_
           refine SO.nn ?_
           refine SC.dec rfl (fun c17 => ?_) (fun c17 => ?_)
           ·
            refine SC.region ?_
            refine SO.v (.fieldAddr rfl rfl fa91_5) ?_
            refine SO.v (.load rfl rfl ag9 (cell_of' (hO16.at (i := 3) rfl) rfl)) ?_
            refine SO.v (.fieldAddr rfl rfl fa91_5) ?_
            refine SO.v (.load rfl rfl ag9 (cell_of' (hO16.at (i := 2) rfl) rfl)) ?_
            refine SO.v (.strAdd rfl rfl rfl (by omega)) ?_
            refine SO.call rfl rfl rfl rfl (.callF rfl rfl en220) (head_any _ _ (hO16.good hG)) ?_
            rintro _ w18 ⟨rfl, hb18⟩
            have hO18 := hO16.below hb18
            refine ⟨_, rfl, ?_⟩
            refine SO.v (.fieldAddr rfl rfl fa91_5) ?_
            refine SO.store hO18 (i := 0) rfl rfl rfl rfl rfl rfl sz9 rfl rfl [(_, .cells [_, _, _, _, _, _, _].toArray _ _), _, _, _] rfl ?_
            intro w19 hO19
            refine SO.nn ?_
            refine SC.seq ?_
            refine SC.sr ?_
            refine SO.v (.fieldAddr rfl rfl fa91_6) ?_
            refine SO.v (.load rfl rfl ag9 (cell_of' (hO19.at (i := 2) rfl) rfl)) ?_
            refine SO.v (.lenS rfl rfl Tryz.underlying9) ?_
            refine SO.v (.lss rfl rfl rfl) ?_
            refine SO.nn ?_
            refine SC.dec rfl (fun c20 => ?_) (fun c20 => ?_)
            ·
             refine SC.region ?_
             refine SO.v (.fieldAddr rfl rfl fa91_6) ?_
             refine SO.v (.load rfl rfl ag9 (cell_of' (hO19.at (i := 3) rfl) rfl)) ?_
             refine SO.v (.fieldAddr rfl rfl fa91_6) ?_
             refine SO.v (.load rfl rfl ag9 (cell_of' (hO19.at (i := 2) rfl) rfl)) ?_
             refine SO.v (.strAdd rfl rfl rfl (by omega)) ?_
             refine SO.call rfl rfl rfl rfl (.callF rfl rfl en221) (tail_any _ _ (hO19.good hG) (by omega)) ?_
             rintro _ w21 ⟨rfl, hb21⟩
             have hO21 := hO19.below hb21
             refine ⟨_, rfl, ?_⟩
             refine SO.v (.fieldAddr rfl rfl fa91_6) ?_
             refine SO.store hO21 (i := 0) rfl rfl rfl rfl rfl rfl sz9 rfl rfl [(_, .cells [_, _, _, _, _, _, _].toArray _ _), _, _, _] rfl ?_
             intro w22 hO22
             refine SO.nn ?_
             refine SC.sr ?_
             refine SO.v (.loadB [_, _, _, _, _, _, _] rfl rfl ag91 sz91 (hO22.at (i := 0) rfl) rfl rfl) ?_
             refine SO.store hO22 (i := 1) rfl rfl rfl rfl rfl rfl sz91 rfl rfl [_, (_, .cells [_, _, _, _, _, _, _].toArray _ _), _, _] rfl ?_
             intro w23 hO23
             refine SO.nn ?_
             refine SC.ret ?_
             refine SQ.out (.inl rfl) (resC [_, _, _, _, _, _, _] rfl rfl ag91 sz91 (hO23.at (i := 1) rfl) rfl rfl) ?_
             refine ⟨?_, hO23.toBelow ⟨hb15, hb3, hb2, hb1, trivial⟩⟩
             unfold pairS smV smC
             (rw [if_pos (by omega), if_pos (by omega)]; rfl)
            ·
             refine SC.skip ?_
             refine SQ.then_normal ?_
             refine SC.sr ?_
             refine SO.v (.loadB [_, _, _, _, _, _, _] rfl rfl ag91 sz91 (hO19.at (i := 0) rfl) rfl rfl) ?_
             refine SO.store hO19 (i := 1) rfl rfl rfl rfl rfl rfl sz91 rfl rfl [_, (_, .cells [_, _, _, _, _, _, _].toArray _ _), _, _] rfl ?_
             intro w25 hO25
             refine SO.nn ?_
             refine SC.ret ?_
             refine SQ.out (.inl rfl) (resC [_, _, _, _, _, _, _] rfl rfl ag91 sz91 (hO25.at (i := 1) rfl) rfl rfl) ?_
             refine ⟨?_, hO25.toBelow ⟨hb15, hb3, hb2, hb1, trivial⟩⟩
             unfold pairS smV smC
             (rw [if_pos (by omega), if_neg (by omega)]; rfl)
           ·
            refine SC.skip ?_
            refine SQ.then_normal ?_
            refine SC.seq ?_
            refine SC.sr ?_
            refine SO.v (.fieldAddr rfl rfl fa91_6) ?_
            refine SO.v (.load rfl rfl ag9 (cell_of' (hO16.at (i := 2) rfl) rfl)) ?_
            refine SO.v (.lenS rfl rfl Tryz.underlying9) ?_
            refine SO.v (.lss rfl rfl rfl) ?_
            refine SO.nn ?_
            refine SC.dec rfl (fun c27 => ?_) (fun c27 => ?_)
            ·
             refine SC.region ?_
             refine SO.v (.fieldAddr rfl rfl fa91_6) ?_
             refine SO.v (.load rfl rfl ag9 (cell_of' (hO16.at (i := 3) rfl) rfl)) ?_
             refine SO.v (.fieldAddr rfl rfl fa91_6) ?_
             refine SO.v (.load rfl rfl ag9 (cell_of' (hO16.at (i := 2) rfl) rfl)) ?_
             refine SO.v (.strAdd rfl rfl rfl (by omega)) ?_
             refine SO.call rfl rfl rfl rfl (.callF rfl rfl en221) (tail_any _ _ (hO16.good hG) (by omega)) ?_
             rintro _ w28 ⟨rfl, hb28⟩
             have hO28 := hO16.below hb28
             refine ⟨_, rfl, ?_⟩
             refine SO.v (.fieldAddr rfl rfl fa91_6) ?_
             refine SO.store hO28 (i := 0) rfl rfl rfl rfl rfl rfl sz9 rfl rfl [(_, .cells [_, _, _, _, _, _, _].toArray _ _), _, _, _] rfl ?_
             intro w29 hO29
             refine SO.nn ?_
             refine SC.sr ?_
             refine SO.v (.loadB [_, _, _, _, _, _, _] rfl rfl ag91 sz91 (hO29.at (i := 0) rfl) rfl rfl) ?_
             refine SO.store hO29 (i := 1) rfl rfl rfl rfl rfl rfl sz91 rfl rfl [_, (_, .cells [_, _, _, _, _, _, _].toArray _ _), _, _] rfl ?_
             intro w30 hO30
             refine SO.nn ?_
             refine SC.ret ?_
             refine SQ.out (.inl rfl) (resC [_, _, _, _, _, _, _] rfl rfl ag91 sz91 (hO30.at (i := 1) rfl) rfl rfl) ?_
             refine ⟨?_, hO30.toBelow ⟨hb15, hb3, hb2, hb1, trivial⟩⟩
             unfold pairS smV smC
             (rw [if_neg (by omega), if_pos (by omega)]; rfl)
            ·
             refine SC.skip ?_
             refine SQ.then_normal ?_
             refine SC.sr ?_
             refine SO.v (.loadB [_, _, _, _, _, _, _] rfl rfl ag91 sz91 (hO16.at (i := 0) rfl) rfl rfl) ?_
             refine SO.store hO16 (i := 1) rfl rfl rfl rfl rfl rfl sz91 rfl rfl [_, (_, .cells [_, _, _, _, _, _, _].toArray _ _), _, _] rfl ?_
             intro w32 hO32
             refine SO.nn ?_
             refine SC.ret ?_
             refine SQ.out (.inl rfl) (resC [_, _, _, _, _, _, _] rfl rfl ag91 sz91 (hO32.at (i := 1) rfl) rfl rfl) ?_
             refine ⟨?_, hO32.toBelow ⟨hb15, hb3, hb2, hb1, trivial⟩⟩
             unfold pairS smV smC
             (rw [if_neg (by omega), if_neg (by omega)]; rfl)
          ·
           refine SB.alloc hO13 rfl rfl rfl rfl rfl zv91 [_, _, _, _, _, _, _] rfl ?_
           intro b34 w34 hb34 hO34
           refine ⟨(hO34.tail hb34), ?_⟩
           refine SA.one 45 (by kernel_rfl) ?_
           refine SB.call rfl rfl rfl rfl (.callF rfl rfl en31) (ccellsum_any _ _ (hO34.good hG) (by omega)) ?_
           rintro _ w35 ⟨rfl, hb35⟩
           have hO35 := hO34.below hb35
           refine ⟨_, rfl, (hO35.tail hb34), ?_⟩
           refine SA.tk 46 rfl (hO35.tail hb34) (fun v hv => .subW rfl rfl rfl) ?_
           refine SA.tk 56 rfl (hO35.tail hb34) (fun v hv => .build rfl rfl (bd91_0_1_2_3_4_5_6_Metp _ _ _ _ _ _ _)) ?_
           refine SA.one 58 (by kernel_rfl) ?_
           refine SB.store hO35 (j := 0) rfl rfl rfl rfl rfl rfl rfl sz91 rfl rfl [(_, .cells [_, _, _, _, _, _, _].toArray _ _), _, _, _] rfl ?_
           intro w36 hO36
           refine ⟨(hO36.tail hb34), ?_⟩
           refine SA.done (by kernel_rfl) ?_
           refine SQ.then_normal ?_
           refine SC.seq ?_
           refine SC.sr ?_
           refine SO.v (.fieldAddr rfl rfl fa91_5) ?_
           refine SO.v (.load rfl rfl ag9 (cell_of' (hO36.at (i := 3) rfl) rfl)) ?_
           refine SO.v (.lenS rfl rfl Tryz.underlying9) ?_
           refine SO.v (.lss rfl rfl rfl) ?_
           refine SO.nn ?_
           refine SC.dec rfl (fun c37 => ?_) (fun c37 => ?_)
           ·
            refine SC.region ?_
            refine SO.v (.fieldAddr rfl rfl fa91_5) ?_
            refine SO.v (.load rfl rfl ag9 (cell_of' (hO36.at (i := 3) rfl) rfl)) ?_
            refine SO.v (.fieldAddr rfl rfl fa91_5) ?_
            refine SO.v (.load rfl rfl ag9 (cell_of' (hO36.at (i := 2) rfl) rfl)) ?_
            refine SO.v (.strAdd rfl rfl rfl (by omega)) ?_
            refine SO.call rfl rfl rfl rfl (.callF rfl rfl en220) (head_any _ _ (hO36.good hG)) ?_
            rintro _ w38 ⟨rfl, hb38⟩
            have hO38 := hO36.below hb38
            refine ⟨_, rfl, ?_⟩
            refine SO.v (.fieldAddr rfl rfl fa91_5) ?_
            refine SO.store hO38 (i := 0) rfl rfl rfl rfl rfl rfl sz9 rfl rfl [(_, .cells [_, _, _, _, _, _, _].toArray _ _), _, _, _] rfl ?_
            intro w39 hO39
            refine SO.nn ?_
            refine SC.seq ?_
            refine SC.sr ?_
            refine SO.v (.fieldAddr rfl rfl fa91_6) ?_
            refine SO.v (.load rfl rfl ag9 (cell_of' (hO39.at (i := 2) rfl) rfl)) ?_
            refine SO.v (.lenS rfl rfl Tryz.underlying9) ?_
            refine SO.v (.lss rfl rfl rfl) ?_
            refine SO.nn ?_
            refine SC.dec rfl (fun c40 => ?_) (fun c40 => ?_)
            ·
             refine SC.region ?_
             refine SO.v (.fieldAddr rfl rfl fa91_6) ?_
             refine SO.v (.load rfl rfl ag9 (cell_of' (hO39.at (i := 3) rfl) rfl)) ?_
             refine SO.v (.fieldAddr rfl rfl fa91_6) ?_
             refine SO.v (.load rfl rfl ag9 (cell_of' (hO39.at (i := 2) rfl) rfl)) ?_
             refine SO.v (.strAdd rfl rfl rfl (by omega)) ?_
             refine SO.call rfl rfl rfl rfl (.callF rfl rfl en221) (tail_any _ _ (hO39.good hG) (by omega)) ?_
             rintro _ w41 ⟨rfl, hb41⟩
             have hO41 := hO39.below hb41
             refine ⟨_, rfl, ?_⟩
             refine SO.v (.fieldAddr rfl rfl fa91_6) ?_
             refine SO.store hO41 (i := 0) rfl rfl rfl rfl rfl rfl sz9 rfl rfl [(_, .cells [_, _, _, _, _, _, _].toArray _ _), _, _, _] rfl ?_
             intro w42 hO42
             refine SO.nn ?_
             refine SC.sr ?_
             refine SO.v (.loadB [_, _, _, _, _, _, _] rfl rfl ag91 sz91 (hO42.at (i := 0) rfl) rfl rfl) ?_
             refine SO.store hO42 (i := 1) rfl rfl rfl rfl rfl rfl sz91 rfl rfl [_, (_, .cells [_, _, _, _, _, _, _].toArray _ _), _, _] rfl ?_
             intro w43 hO43
             refine SO.nn ?_
             refine SC.ret ?_
             refine SQ.out (.inl rfl) (resC [_, _, _, _, _, _, _] rfl rfl ag91 sz91 (hO43.at (i := 1) rfl) rfl rfl) ?_
             refine ⟨?_, hO43.toBelow ⟨hb34, hb3, hb2, hb1, trivial⟩⟩
             unfold pairS smV smC
             (rw [if_pos (by omega), if_pos (by omega)]; rfl)
            ·
             refine SC.skip ?_
             refine SQ.then_normal ?_
             refine SC.sr ?_
             refine SO.v (.loadB [_, _, _, _, _, _, _] rfl rfl ag91 sz91 (hO39.at (i := 0) rfl) rfl rfl) ?_
             refine SO.store hO39 (i := 1) rfl rfl rfl rfl rfl rfl sz91 rfl rfl [_, (_, .cells [_, _, _, _, _, _, _].toArray _ _), _, _] rfl ?_
             intro w45 hO45
             refine SO.nn ?_
             refine SC.ret ?_
             refine SQ.out (.inl rfl) (resC [_, _, _, _, _, _, _] rfl rfl ag91 sz91 (hO45.at (i := 1) rfl) rfl rfl) ?_
             refine ⟨?_, hO45.toBelow ⟨hb34, hb3, hb2, hb1, trivial⟩⟩
             unfold pairS smV smC
             (rw [if_pos (by omega), if_neg (by omega)]; rfl)
           ·
            refine SC.skip ?_
            refine SQ.then_normal ?_
            refine SC.seq ?_
            refine SC.sr ?_
            refine SO.v (.fieldAddr rfl rfl fa91_6) ?_
            refine SO.v (.load rfl rfl ag9 (cell_of' (hO36.at (i := 2) rfl) rfl)) ?_
            refine SO.v (.lenS rfl rfl Tryz.underlying9) ?_
            refine SO.v (.lss rfl rfl rfl) ?_
            refine SO.nn ?_
            refine SC.dec rfl (fun c47 => ?_) (fun c47 => ?_)
            ·
             refine SC.region ?_
             refine SO.v (.fieldAddr rfl rfl fa91_6) ?_
             refine SO.v (.load rfl rfl ag9 (cell_of' (hO36.at (i := 3) rfl) rfl)) ?_
             refine SO.v (.fieldAddr rfl rfl fa91_6) ?_
             refine SO.v (.load rfl rfl ag9 (cell_of' (hO36.at (i := 2) rfl) rfl)) ?_
             refine SO.v (.strAdd rfl rfl rfl (by omega)) ?_
             refine SO.call rfl rfl rfl rfl (.callF rfl rfl en221) (tail_any _ _ (hO36.good hG) (by omega)) ?_
             rintro _ w48 ⟨rfl, hb48⟩
             have hO48 := hO36.below hb48
             refine ⟨_, rfl, ?_⟩
             refine SO.v (.fieldAddr rfl rfl fa91_6) ?_
             refine SO.store hO48 (i := 0) rfl rfl rfl rfl rfl rfl sz9 rfl rfl [(_, .cells [_, _, _, _, _, _, _].toArray _ _), _, _, _] rfl ?_
             intro w49 hO49
             refine SO.nn ?_
             refine SC.sr ?_
             refine SO.v (.loadB [_, _, _, _, _, _, _] rfl rfl ag91 sz91 (hO49.at (i := 0) rfl) rfl rfl) ?_
             refine SO.store hO49 (i := 1) rfl rfl rfl rfl rfl rfl sz91 rfl rfl [_, (_, .cells [_, _, _, _, _, _, _].toArray _ _), _, _] rfl ?_
             intro w50 hO50
             refine SO.nn ?_
             refine SC.ret ?_
             refine SQ.out (.inl rfl) (resC [_, _, _, _, _, _, _] rfl rfl ag91 sz91 (hO50.at (i := 1) rfl) rfl rfl) ?_
             refine ⟨?_, hO50.toBelow ⟨hb34, hb3, hb2, hb1, trivial⟩⟩
             unfold pairS smV smC
             (rw [if_neg (by omega), if_pos (by omega)]; rfl)
            ·
             refine SC.skip ?_
             refine SQ.then_normal ?_
             refine SC.sr ?_
             refine SO.v (.loadB [_, _, _, _, _, _, _] rfl rfl ag91 sz91 (hO36.at (i := 0) rfl) rfl rfl) ?_
             refine SO.store hO36 (i := 1) rfl rfl rfl rfl rfl rfl sz91 rfl rfl [_, (_, .cells [_, _, _, _, _, _, _].toArray _ _), _, _] rfl ?_
             intro w52 hO52
             refine SO.nn ?_
             refine SC.ret ?_
             refine SQ.out (.inl rfl) (resC [_, _, _, _, _, _, _] rfl rfl ag91 sz91 (hO52.at (i := 1) rfl) rfl rfl) ?_
             refine ⟨?_, hO52.toBelow ⟨hb34, hb3, hb2, hb1, trivial⟩⟩
             unfold pairS smV smC
             (rw [if_neg (by omega), if_neg (by omega)]; rfl)
         ·
          refine SB.alloc hO12 rfl rfl rfl rfl rfl zv91 [_, _, _, _, _, _, _] rfl ?_
          intro b54 w54 hb54 hO54
          refine ⟨(hO54.tail hb54), ?_⟩
          refine SA.one 42 (by kernel_rfl) ?_
          refine SB.call rfl rfl rfl rfl (.callF rfl rfl en31) (ccellsum_any _ _ (hO54.good hG) (by omega)) ?_
          rintro _ w55 ⟨rfl, hb55⟩
          have hO55 := hO54.below hb55
          refine ⟨_, rfl, (hO55.tail hb54), ?_⟩
          refine SA.tk 43 rfl (hO55.tail hb54) (fun v hv => .subW rfl rfl rfl) ?_
          refine SA.one 45 (by kernel_rfl) ?_
          refine SB.call rfl rfl rfl rfl (.callF rfl rfl en31) (ccellsum_any _ _ (hO55.good hG) (by omega)) ?_
          rintro _ w56 ⟨rfl, hb56⟩
          have hO56 := hO55.below hb56
          refine ⟨_, rfl, (hO56.tail hb54), ?_⟩
          refine SA.tk 46 rfl (hO56.tail hb54) (fun v hv => .subW rfl rfl rfl) ?_
          refine SA.tk 56 rfl (hO56.tail hb54) (fun v hv => .build rfl rfl (bd91_0_1_2_3_4_5_6_Metp _ _ _ _ _ _ _)) ?_
          refine SA.one 58 (by kernel_rfl) ?_
          refine SB.store hO56 (j := 0) rfl rfl rfl rfl rfl rfl rfl sz91 rfl rfl [(_, .cells [_, _, _, _, _, _, _].toArray _ _), _, _, _] rfl ?_
          intro w57 hO57
          refine ⟨(hO57.tail hb54), ?_⟩
          refine SA.done (by kernel_rfl) ?_
          refine SQ.then_normal ?_
          refine SC.seq ?_
          refine SC.sr ?_
          refine SO.v (.fieldAddr rfl rfl fa91_5) ?_
          refine SO.v (.load rfl rfl ag9 (cell_of' (hO57.at (i := 3) rfl) rfl)) ?_
          refine SO.v (.lenS rfl rfl Tryz.underlying9) ?_
          refine SO.v (.lss rfl rfl rfl) ?_
          refine SO.nn ?_
          refine SC.dec rfl (fun c58 => ?_) (fun c58 => ?_)
          ·
           refine SC.region ?_
           refine SO.v (.fieldAddr rfl rfl fa91_5) ?_
           refine SO.v (.load rfl rfl ag9 (cell_of' (hO57.at (i := 3) rfl) rfl)) ?_
           refine SO.v (.fieldAddr rfl rfl fa91_5) ?_
           refine SO.v (.load rfl rfl ag9 (cell_of' (hO57.at (i := 2) rfl) rfl)) ?_
           refine SO.v (.strAdd rfl rfl rfl (by omega)) ?_
           refine SO.call rfl rfl rfl rfl (.callF rfl rfl en220) (head_any _ _ (hO57.good hG)) ?_
           rintro _ w59 ⟨rfl, hb59⟩
           have hO59 := hO57.below hb59
           refine ⟨_, rfl, ?_⟩
           refine SO.v (.fieldAddr rfl rfl fa91_5) ?_
           refine SO.store hO59 (i := 0) rfl rfl rfl rfl rfl rfl sz9 rfl rfl [(_, .cells [_, _, _, _, _, _, _].toArray _ _), _, _, _] rfl ?_
           intro w60 hO60
           refine SO.nn ?_
           refine SC.seq ?_
           refine SC.sr ?_
           refine SO.v (.fieldAddr rfl rfl fa91_6) ?_
           refine SO.v (.load rfl rfl ag9 (cell_of' (hO60.at (i := 2) rfl) rfl)) ?_
           refine SO.v (.lenS rfl rfl Tryz.underlying9) ?_
           refine SO.v (.lss rfl rfl rfl) ?_
           refine SO.nn ?_
           refine SC.dec rfl (fun c61 => ?_) (fun c61 => ?_)
           ·
            refine SC.region ?_
            refine SO.v (.fieldAddr rfl rfl fa91_6) ?_
            refine SO.v (.load rfl rfl ag9 (cell_of' (hO60.at (i := 3) rfl) rfl)) ?_
            refine SO.v (.fieldAddr rfl rfl fa91_6) ?_
            refine SO.v (.load rfl rfl ag9 (cell_of' (hO60.at (i := 2) rfl) rfl)) ?_
            refine SO.v (.strAdd rfl rfl rfl (by omega)) ?_
            refine SO.call rfl rfl rfl rfl (.callF rfl rfl en221) (tail_any _ _ (hO60.good hG) (by omega)) ?_
            rintro _ w62 ⟨rfl, hb62⟩
            have hO62 := hO60.below hb62
            refine ⟨_, rfl, ?_⟩
            refine SO.v (.fieldAddr rfl rfl fa91_6) ?_
            refine SO.store hO62 (i := 0) rfl rfl rfl rfl rfl rfl sz9 rfl rfl [(_, .cells [_, _, _, _, _, _, _].toArray _ _), _, _, _] rfl ?_
            intro w63 hO63
            refine SO.nn ?_
            refine SC.sr ?_
            refine SO.v (.loadB [_, _, _, _, _, _, _] rfl rfl ag91 sz91 (hO63.at (i := 0) rfl) rfl rfl) ?_
            refine SO.store hO63 (i := 1) rfl rfl rfl rfl rfl rfl sz91 rfl rfl [_, (_, .cells [_, _, _, _, _, _, _].toArray _ _), _, _] rfl ?_
            intro w64 hO64
            refine SO.nn ?_
            refine SC.ret ?_
            refine SQ.out (.inl rfl) (resC [_, _, _, _, _, _, _] rfl rfl ag91 sz91 (hO64.at (i := 1) rfl) rfl rfl) ?_
            refine ⟨?_, hO64.toBelow ⟨hb54, hb3, hb2, hb1, trivial⟩⟩
            unfold pairS smV smC
            (rw [if_pos (by omega), if_pos (by omega)]; rfl)
           ·
            refine SC.skip ?_
            refine SQ.then_normal ?_
            refine SC.sr ?_
            refine SO.v (.loadB [_, _, _, _, _, _, _] rfl rfl ag91 sz91 (hO60.at (i := 0) rfl) rfl rfl) ?_
            refine SO.store hO60 (i := 1) rfl rfl rfl rfl rfl rfl sz91 rfl rfl [_, (_, .cells [_, _, _, _, _, _, _].toArray _ _), _, _] rfl ?_
            intro w66 hO66
            refine SO.nn ?_
            refine SC.ret ?_
            refine SQ.out (.inl rfl) (resC [_, _, _, _, _, _, _] rfl rfl ag91 sz91 (hO66.at (i := 1) rfl) rfl rfl) ?_
            refine ⟨?_, hO66.toBelow ⟨hb54, hb3, hb2, hb1, trivial⟩⟩
            unfold pairS smV smC
            (rw [if_pos (by omega), if_neg (by omega)]; rfl)
          ·
           refine SC.skip ?_
           refine SQ.then_normal ?_
           refine SC.seq ?_
           refine SC.sr ?_
           refine SO.v (.fieldAddr rfl rfl fa91_6) ?_
           refine SO.v (.load rfl rfl ag9 (cell_of' (hO57.at (i := 2) rfl) rfl)) ?_
           refine SO.v (.lenS rfl rfl Tryz.underlying9) ?_
           refine SO.v (.lss rfl rfl rfl) ?_
           refine SO.nn ?_
           refine SC.dec rfl (fun c68 => ?_) (fun c68 => ?_)
           ·
            refine SC.region ?_
            refine SO.v (.fieldAddr rfl rfl fa91_6) ?_
            refine SO.v (.load rfl rfl ag9 (cell_of' (hO57.at (i := 3) rfl) rfl)) ?_
            refine SO.v (.fieldAddr rfl rfl fa91_6) ?_
            refine SO.v (.load rfl rfl ag9 (cell_of' (hO57.at (i := 2) rfl) rfl)) ?_
            refine SO.v (.strAdd rfl rfl rfl (by omega)) ?_
            refine SO.call rfl rfl rfl rfl (.callF rfl rfl en221) (tail_any _ _ (hO57.good hG) (by omega)) ?_
            rintro _ w69 ⟨rfl, hb69⟩
            have hO69 := hO57.below hb69
            refine ⟨_, rfl, ?_⟩
            refine SO.v (.fieldAddr rfl rfl fa91_6) ?_
            refine SO.store hO69 (i := 0) rfl rfl rfl rfl rfl rfl sz9 rfl rfl [(_, .cells [_, _, _, _, _, _, _].toArray _ _), _, _, _] rfl ?_
            intro w70 hO70
            refine SO.nn ?_
            refine SC.sr ?_
            refine SO.v (.loadB [_, _, _, _, _, _, _] rfl rfl ag91 sz91 (hO70.at (i := 0) rfl) rfl rfl) ?_
            refine SO.store hO70 (i := 1) rfl rfl rfl rfl rfl rfl sz91 rfl rfl [_, (_, .cells [_, _, _, _, _, _, _].toArray _ _), _, _] rfl ?_
            intro w71 hO71
            refine SO.nn ?_
            refine SC.ret ?_
            refine SQ.out (.inl rfl) (resC [_, _, _, _, _, _, _] rfl rfl ag91 sz91 (hO71.at (i := 1) rfl) rfl rfl) ?_
            refine ⟨?_, hO71.toBelow ⟨hb54, hb3, hb2, hb1, trivial⟩⟩
            unfold pairS smV smC
            (rw [if_neg (by omega), if_pos (by omega)]; rfl)
           ·
            refine SC.skip ?_
            refine SQ.then_normal ?_
            refine SC.sr ?_
            refine SO.v (.loadB [_, _, _, _, _, _, _] rfl rfl ag91 sz91 (hO57.at (i := 0) rfl) rfl rfl) ?_
            refine SO.store hO57 (i := 1) rfl rfl rfl rfl rfl rfl sz91 rfl rfl [_, (_, .cells [_, _, _, _, _, _, _].toArray _ _), _, _] rfl ?_
            intro w73 hO73
            refine SO.nn ?_
            refine SC.ret ?_
            refine SQ.out (.inl rfl) (resC [_, _, _, _, _, _, _] rfl rfl ag91 sz91 (hO73.at (i := 1) rfl) rfl rfl) ?_
            refine ⟨?_, hO73.toBelow ⟨hb54, hb3, hb2, hb1, trivial⟩⟩
            unfold pairS smV smC
            (rw [if_neg (by omega), if_neg (by omega)]; rfl)
        ·
         refine SB.alloc hO11 rfl rfl rfl rfl rfl zv91 [_, _, _, _, _, _, _] rfl ?_
         intro b75 w75 hb75 hO75
         refine ⟨(hO75.tail hb75), ?_⟩
         refine SA.one 39 (by kernel_rfl) ?_
         refine SB.call rfl rfl rfl rfl (.callF rfl rfl en31) (ccellsum_any _ _ (hO75.good hG) (by omega)) ?_
         rintro _ w76 ⟨rfl, hb76⟩
         have hO76 := hO75.below hb76
         refine ⟨_, rfl, (hO76.tail hb75), ?_⟩
         refine SA.tk 40 rfl (hO76.tail hb75) (fun v hv => .addW rfl rfl rfl) ?_
         refine SA.one 42 (by kernel_rfl) ?_
         refine SB.call rfl rfl rfl rfl (.callF rfl rfl en31) (ccellsum_any _ _ (hO76.good hG) (by omega)) ?_
         rintro _ w77 ⟨rfl, hb77⟩
         have hO77 := hO76.below hb77
         refine ⟨_, rfl, (hO77.tail hb75), ?_⟩
         refine SA.tk 43 rfl (hO77.tail hb75) (fun v hv => .subW rfl rfl rfl) ?_
         refine SA.one 45 (by kernel_rfl) ?_
         refine SB.call rfl rfl rfl rfl (.callF rfl rfl en31) (ccellsum_any _ _ (hO77.good hG) (by omega)) ?_
         rintro _ w78 ⟨rfl, hb78⟩
         have hO78 := hO77.below hb78
         refine ⟨_, rfl, (hO78.tail hb75), ?_⟩
         refine SA.tk 46 rfl (hO78.tail hb75) (fun v hv => .subW rfl rfl rfl) ?_
         refine SA.tk 56 rfl (hO78.tail hb75) (fun v hv => .build rfl rfl (bd91_0_1_2_3_4_5_6_Metp _ _ _ _ _ _ _)) ?_
         refine SA.one 58 (by kernel_rfl) ?_
         refine SB.store hO78 (j := 0) rfl rfl rfl rfl rfl rfl rfl sz91 rfl rfl [(_, .cells [_, _, _, _, _, _, _].toArray _ _), _, _, _] rfl ?_
         intro w79 hO79
         refine ⟨(hO79.tail hb75), ?_⟩
         refine SA.done (by kernel_rfl) ?_
         refine SQ.then_normal ?_
         refine SC.seq ?_
         refine SC.sr ?_
         refine SO.v (.fieldAddr rfl rfl fa91_5) ?_
         refine SO.v (.load rfl rfl ag9 (cell_of' (hO79.at (i := 3) rfl) rfl)) ?_
         refine SO.v (.lenS rfl rfl Tryz.underlying9) ?_
         refine SO.v (.lss rfl rfl rfl) ?_
         refine SO.nn ?_
         refine SC.dec rfl (fun c80 => ?_) (fun c80 => ?_)
         ·
          refine SC.region ?_
          refine SO.v (.fieldAddr rfl rfl fa91_5) ?_
          refine SO.v (.load rfl rfl ag9 (cell_of' (hO79.at (i := 3) rfl) rfl)) ?_
          refine SO.v (.fieldAddr rfl rfl fa91_5) ?_
          refine SO.v (.load rfl rfl ag9 (cell_of' (hO79.at (i := 2) rfl) rfl)) ?_
          refine SO.v (.strAdd rfl rfl rfl (by omega)) ?_
          refine SO.call rfl rfl rfl rfl (.callF rfl rfl en220) (head_any _ _ (hO79.good hG)) ?_
          rintro _ w81 ⟨rfl, hb81⟩
          have hO81 := hO79.below hb81
          refine ⟨_, rfl, ?_⟩
          refine SO.v (.fieldAddr rfl rfl fa91_5) ?_
          refine SO.store hO81 (i := 0) rfl rfl rfl rfl rfl rfl sz9 rfl rfl [(_, .cells [_, _, _, _, _, _, _].toArray _ _), _, _, _] rfl ?_
          intro w82 hO82
          refine SO.nn ?_
          refine SC.seq ?_
          refine SC.sr ?_
          refine SO.v (.fieldAddr rfl rfl fa91_6) ?_
          refine SO.v (.load rfl rfl ag9 (cell_of' (hO82.at (i := 2) rfl) rfl)) ?_
          refine SO.v (.lenS rfl rfl Tryz.underlying9) ?_
          refine SO.v (.lss rfl rfl rfl) ?_
          refine SO.nn ?_
          refine SC.dec rfl (fun c83 => ?_) (fun c83 => ?_)
          ·
           refine SC.region ?_
           refine SO.v (.fieldAddr rfl rfl fa91_6) ?_
           refine SO.v (.load rfl rfl ag9 (cell_of' (hO82.at (i := 3) rfl) rfl)) ?_
           refine SO.v (.fieldAddr rfl rfl fa91_6) ?_
           refine SO.v (.load rfl rfl ag9 (cell_of' (hO82.at (i := 2) rfl) rfl)) ?_
           refine SO.v (.strAdd rfl rfl rfl (by omega)) ?_
           refine SO.call rfl rfl rfl rfl (.callF rfl rfl en221) (tail_any _ _ (hO82.good hG) (by omega)) ?_
           rintro _ w84 ⟨rfl, hb84⟩
           have hO84 := hO82.below hb84
           refine ⟨_, rfl, ?_⟩
           refine SO.v (.fieldAddr rfl rfl fa91_6) ?_
           refine SO.store hO84 (i := 0) rfl rfl rfl rfl rfl rfl sz9 rfl rfl [(_, .cells [_, _, _, _, _, _, _].toArray _ _), _, _, _] rfl ?_
           intro w85 hO85
           refine SO.nn ?_
           refine SC.sr ?_
           refine SO.v (.loadB [_, _, _, _, _, _, _] rfl rfl ag91 sz91 (hO85.at (i := 0) rfl) rfl rfl) ?_
           refine SO.store hO85 (i := 1) rfl rfl rfl rfl rfl rfl sz91 rfl rfl [_, (_, .cells [_, _, _, _, _, _, _].toArray _ _), _, _] rfl ?_
           intro w86 hO86
           refine SO.nn ?_
           refine SC.ret ?_
           refine SQ.out (.inl rfl) (resC [_, _, _, _, _, _, _] rfl rfl ag91 sz91 (hO86.at (i := 1) rfl) rfl rfl) ?_
           refine ⟨?_, hO86.toBelow ⟨hb75, hb3, hb2, hb1, trivial⟩⟩
           unfold pairS smV smC
           (rw [if_pos (by omega), if_pos (by omega)]; rfl)
          ·
           refine SC.skip ?_
           refine SQ.then_normal ?_
           refine SC.sr ?_
           refine SO.v (.loadB [_, _, _, _, _, _, _] rfl rfl ag91 sz91 (hO82.at (i := 0) rfl) rfl rfl) ?_
           refine SO.store hO82 (i := 1) rfl rfl rfl rfl rfl rfl sz91 rfl rfl [_, (_, .cells [_, _, _, _, _, _, _].toArray _ _), _, _] rfl ?_
           intro w88 hO88
           refine SO.nn ?_
           refine SC.ret ?_
           refine SQ.out (.inl rfl) (resC [_, _, _, _, _, _, _] rfl rfl ag91 sz91 (hO88.at (i := 1) rfl) rfl rfl) ?_
           refine ⟨?_, hO88.toBelow ⟨hb75, hb3, hb2, hb1, trivial⟩⟩
           unfold pairS smV smC
           (rw [if_pos (by omega), if_neg (by omega)]; rfl)
         ·
          refine SC.skip ?_
          refine SQ.then_normal ?_
          refine SC.seq ?_
          refine SC.sr ?_
          refine SO.v (.fieldAddr rfl rfl fa91_6) ?_
          refine SO.v (.load rfl rfl ag9 (cell_of' (hO79.at (i := 2) rfl) rfl)) ?_
          refine SO.v (.lenS rfl rfl Tryz.underlying9) ?_
          refine SO.v (.lss rfl rfl rfl) ?_
          refine SO.nn ?_
          refine SC.dec rfl (fun c90 => ?_) (fun c90 => ?_)
          ·
           refine SC.region ?_
           refine SO.v (.fieldAddr rfl rfl fa91_6) ?_
           refine SO.v (.load rfl rfl ag9 (cell_of' (hO79.at (i := 3) rfl) rfl)) ?_
           refine SO.v (.fieldAddr rfl rfl fa91_6) ?_
           refine SO.v (.load rfl rfl ag9 (cell_of' (hO79.at (i := 2) rfl) rfl)) ?_
           refine SO.v (.strAdd rfl rfl rfl (by omega)) ?_
           refine SO.call rfl rfl rfl rfl (.callF rfl rfl en221) (tail_any _ _ (hO79.good hG) (by omega)) ?_
           rintro _ w91 ⟨rfl, hb91⟩
           have hO91 := hO79.below hb91
           refine ⟨_, rfl, ?_⟩
           refine SO.v (.fieldAddr rfl rfl fa91_6) ?_
           refine SO.store hO91 (i := 0) rfl rfl rfl rfl rfl rfl sz9 rfl rfl [(_, .cells [_, _, _, _, _, _, _].toArray _ _), _, _, _] rfl ?_
           intro w92 hO92
           refine SO.nn ?_
           refine SC.sr ?_
           refine SO.v (.loadB [_, _, _, _, _, _, _] rfl rfl ag91 sz91 (hO92.at (i := 0) rfl) rfl rfl) ?_
           refine SO.store hO92 (i := 1) rfl rfl rfl rfl rfl rfl sz91 rfl rfl [_, (_, .cells [_, _, _, _, _, _, _].toArray _ _), _, _] rfl ?_
           intro w93 hO93
           refine SO.nn ?_
           refine SC.ret ?_
           refine SQ.out (.inl rfl) (resC [_, _, _, _, _, _, _] rfl rfl ag91 sz91 (hO93.at (i := 1) rfl) rfl rfl) ?_
           refine ⟨?_, hO93.toBelow ⟨hb75, hb3, hb2, hb1, trivial⟩⟩
           unfold pairS smV smC
           (rw [if_neg (by omega), if_pos (by omega)]; rfl)
          ·
           refine SC.skip ?_
           refine SQ.then_normal ?_
           refine SC.sr ?_
           refine SO.v (.loadB [_, _, _, _, _, _, _] rfl rfl ag91 sz91 (hO79.at (i := 0) rfl) rfl rfl) ?_
           refine SO.store hO79 (i := 1) rfl rfl rfl rfl rfl rfl sz91 rfl rfl [_, (_, .cells [_, _, _, _, _, _, _].toArray _ _), _, _] rfl ?_
           intro w95 hO95
           refine SO.nn ?_
           refine SC.ret ?_
           refine SQ.out (.inl rfl) (resC [_, _, _, _, _, _, _] rfl rfl ag91 sz91 (hO95.at (i := 1) rfl) rfl rfl) ?_
           refine ⟨?_, hO95.toBelow ⟨hb75, hb3, hb2, hb1, trivial⟩⟩
           unfold pairS smV smC
           (rw [if_neg (by omega), if_neg (by omega)]; rfl)
       ·
        refine SB.alloc hO10 rfl rfl rfl rfl rfl zv91 [_, _, _, _, _, _, _] rfl ?_
        intro b97 w97 hb97 hO97
        refine ⟨(hO97.tail hb97), ?_⟩
        refine SA.one 31 (by kernel_rfl) ?_
        refine SB.call rfl rfl rfl rfl (.callF rfl rfl en218) (ccount_any _ _ (hO97.good hG) (by omega)) ?_
        rintro _ w98 ⟨rfl, hb98⟩
        have hO98 := hO97.below hb98
        refine ⟨_, rfl, (hO98.tail hb97), ?_⟩
        refine SA.tk 32 rfl (hO98.tail hb97) (fun v hv => .subW rfl rfl rfl) ?_
        refine SA.one 39 (by kernel_rfl) ?_
        refine SB.call rfl rfl rfl rfl (.callF rfl rfl en31) (ccellsum_any _ _ (hO98.good hG) (by omega)) ?_
        rintro _ w99 ⟨rfl, hb99⟩
        have hO99 := hO98.below hb99
        refine ⟨_, rfl, (hO99.tail hb97), ?_⟩
        refine SA.tk 40 rfl (hO99.tail hb97) (fun v hv => .addW rfl rfl rfl) ?_
        refine SA.one 42 (by kernel_rfl) ?_
        refine SB.call rfl rfl rfl rfl (.callF rfl rfl en31) (ccellsum_any _ _ (hO99.good hG) (by omega)) ?_
        rintro _ w100 ⟨rfl, hb100⟩
        have hO100 := hO99.below hb100
        refine ⟨_, rfl, (hO100.tail hb97), ?_⟩
        refine SA.tk 43 rfl (hO100.tail hb97) (fun v hv => .subW rfl rfl rfl) ?_
        refine SA.one 45 (by kernel_rfl) ?_
        refine SB.call rfl rfl rfl rfl (.callF rfl rfl en31) (ccellsum_any _ _ (hO100.good hG) (by omega)) ?_
        rintro _ w101 ⟨rfl, hb101⟩
        have hO101 := hO100.below hb101
        refine ⟨_, rfl, (hO101.tail hb97), ?_⟩
        refine SA.tk 46 rfl (hO101.tail hb97) (fun v hv => .subW rfl rfl rfl) ?_
        refine SA.tk 56 rfl (hO101.tail hb97) (fun v hv => .build rfl rfl (bd91_0_1_2_3_4_5_6_Metp _ _ _ _ _ _ _)) ?_
        refine SA.one 58 (by kernel_rfl) ?_
        refine SB.store hO101 (j := 0) rfl rfl rfl rfl rfl rfl rfl sz91 rfl rfl [(_, .cells [_, _, _, _, _, _, _].toArray _ _), _, _, _] rfl ?_
        intro w102 hO102
        refine ⟨(hO102.tail hb97), ?_⟩
        refine SA.done (by kernel_rfl) ?_
        refine SQ.then_normal ?_
        refine SC.seq ?_
        refine SC.sr ?_
        refine SO.v (.fieldAddr rfl rfl fa91_5) ?_
        refine SO.v (.load rfl rfl ag9 (cell_of' (hO102.at (i := 3) rfl) rfl)) ?_
        refine SO.v (.lenS rfl rfl Tryz.underlying9) ?_
        refine SO.v (.lss rfl rfl rfl) ?_
        refine SO.nn ?_
        refine SC.dec rfl (fun c103 => ?_) (fun c103 => ?_)
        ·
         refine SC.region ?_
         refine SO.v (.fieldAddr rfl rfl fa91_5) ?_
         refine SO.v (.load rfl rfl ag9 (cell_of' (hO102.at (i := 3) rfl) rfl)) ?_
         refine SO.v (.fieldAddr rfl rfl fa91_5) ?_
         refine SO.v (.load rfl rfl ag9 (cell_of' (hO102.at (i := 2) rfl) rfl)) ?_
         refine SO.v (.strAdd rfl rfl rfl (by omega)) ?_
         refine SO.call rfl rfl rfl rfl (.callF rfl rfl en220) (head_any _ _ (hO102.good hG)) ?_
         rintro _ w104 ⟨rfl, hb104⟩
         have hO104 := hO102.below hb104
         refine ⟨_, rfl, ?_⟩
         refine SO.v (.fieldAddr rfl rfl fa91_5) ?_
         refine SO.store hO104 (i := 0) rfl rfl rfl rfl rfl rfl sz9 rfl rfl [(_, .cells [_, _, _, _, _, _, _].toArray _ _), _, _, _] rfl ?_
         intro w105 hO105
         refine SO.nn ?_
         refine SC.seq ?_
         refine SC.sr ?_
         refine SO.v (.fieldAddr rfl rfl fa91_6) ?_
         refine SO.v (.load rfl rfl ag9 (cell_of' (hO105.at (i := 2) rfl) rfl)) ?_
         refine SO.v (.lenS rfl rfl Tryz.underlying9) ?_
         refine SO.v (.lss rfl rfl rfl) ?_
         refine SO.nn ?_
         refine SC.dec rfl (fun c106 => ?_) (fun c106 => ?_)
         ·
          refine SC.region ?_
          refine SO.v (.fieldAddr rfl rfl fa91_6) ?_
          refine SO.v (.load rfl rfl ag9 (cell_of' (hO105.at (i := 3) rfl) rfl)) ?_
          refine SO.v (.fieldAddr rfl rfl fa91_6) ?_
          refine SO.v (.load rfl rfl ag9 (cell_of' (hO105.at (i := 2) rfl) rfl)) ?_
          refine SO.v (.strAdd rfl rfl rfl (by omega)) ?_
          refine SO.call rfl rfl rfl rfl (.callF rfl rfl en221) (tail_any _ _ (hO105.good hG) (by omega)) ?_
          rintro _ w107 ⟨rfl, hb107⟩
          have hO107 := hO105.below hb107
          refine ⟨_, rfl, ?_⟩
          refine SO.v (.fieldAddr rfl rfl fa91_6) ?_
          refine SO.store hO107 (i := 0) rfl rfl rfl rfl rfl rfl sz9 rfl rfl [(_, .cells [_, _, _, _, _, _, _].toArray _ _), _, _, _] rfl ?_
          intro w108 hO108
          refine SO.nn ?_
          refine SC.sr ?_
          refine SO.v (.loadB [_, _, _, _, _, _, _] rfl rfl ag91 sz91 (hO108.at (i := 0) rfl) rfl rfl) ?_
          refine SO.store hO108 (i := 1) rfl rfl rfl rfl rfl rfl sz91 rfl rfl [_, (_, .cells [_, _, _, _, _, _, _].toArray _ _), _, _] rfl ?_
          intro w109 hO109
          refine SO.nn ?_
          refine SC.ret ?_
          refine SQ.out (.inl rfl) (resC [_, _, _, _, _, _, _] rfl rfl ag91 sz91 (hO109.at (i := 1) rfl) rfl rfl) ?_
          refine ⟨?_, hO109.toBelow ⟨hb97, hb3, hb2, hb1, trivial⟩⟩
          unfold pairS smV smC
          (rw [if_pos (by omega), if_pos (by omega)]; rfl)
         ·
          refine SC.skip ?_
          refine SQ.then_normal ?_
          refine SC.sr ?_
          refine SO.v (.loadB [_, _, _, _, _, _, _] rfl rfl ag91 sz91 (hO105.at (i := 0) rfl) rfl rfl) ?_
          refine SO.store hO105 (i := 1) rfl rfl rfl rfl rfl rfl sz91 rfl rfl [_, (_, .cells [_, _, _, _, _, _, _].toArray _ _), _, _] rfl ?_
          intro w111 hO111
          refine SO.nn ?_
          refine SC.ret ?_
          refine SQ.out (.inl rfl) (resC [_, _, _, _, _, _, _] rfl rfl ag91 sz91 (hO111.at (i := 1) rfl) rfl rfl) ?_
          refine ⟨?_, hO111.toBelow ⟨hb97, hb3, hb2, hb1, trivial⟩⟩
          unfold pairS smV smC
          (rw [if_pos (by omega), if_neg (by omega)]; rfl)
        ·
         refine SC.skip ?_
         refine SQ.then_normal ?_
         refine SC.seq ?_
         refine SC.sr ?_
         refine SO.v (.fieldAddr rfl rfl fa91_6) ?_
         refine SO.v (.load rfl rfl ag9 (cell_of' (hO102.at (i := 2) rfl) rfl)) ?_
         refine SO.v (.lenS rfl rfl Tryz.underlying9) ?_
         refine SO.v (.lss rfl rfl rfl) ?_
         refine SO.nn ?_
         refine SC.dec rfl (fun c113 => ?_) (fun c113 => ?_)
         ·
          refine SC.region ?_
          refine SO.v (.fieldAddr rfl rfl fa91_6) ?_
          refine SO.v (.load rfl rfl ag9 (cell_of' (hO102.at (i := 3) rfl) rfl)) ?_
          refine SO.v (.fieldAddr rfl rfl fa91_6) ?_
          refine SO.v (.load rfl rfl ag9 (cell_of' (hO102.at (i := 2) rfl) rfl)) ?_
          refine SO.v (.strAdd rfl rfl rfl (by omega)) ?_
          refine SO.call rfl rfl rfl rfl (.callF rfl rfl en221) (tail_any _ _ (hO102.good hG) (by omega)) ?_
          rintro _ w114 ⟨rfl, hb114⟩
          have hO114 := hO102.below hb114
          refine ⟨_, rfl, ?_⟩
          refine SO.v (.fieldAddr rfl rfl fa91_6) ?_
          refine SO.store hO114 (i := 0) rfl rfl rfl rfl rfl rfl sz9 rfl rfl [(_, .cells [_, _, _, _, _, _, _].toArray _ _), _, _, _] rfl ?_
          intro w115 hO115
          refine SO.nn ?_
          refine SC.sr ?_
          refine SO.v (.loadB [_, _, _, _, _, _, _] rfl rfl ag91 sz91 (hO115.at (i := 0) rfl) rfl rfl) ?_
          refine SO.store hO115 (i := 1) rfl rfl rfl rfl rfl rfl sz91 rfl rfl [_, (_, .cells [_, _, _, _, _, _, _].toArray _ _), _, _] rfl ?_
          intro w116 hO116
          refine SO.nn ?_
          refine SC.ret ?_
          refine SQ.out (.inl rfl) (resC [_, _, _, _, _, _, _] rfl rfl ag91 sz91 (hO116.at (i := 1) rfl) rfl rfl) ?_
          refine ⟨?_, hO116.toBelow ⟨hb97, hb3, hb2, hb1, trivial⟩⟩
          unfold pairS smV smC
          (rw [if_neg (by omega), if_pos (by omega)]; rfl)
         ·
          refine SC.skip ?_
          refine SQ.then_normal ?_
          refine SC.sr ?_
          refine SO.v (.loadB [_, _, _, _, _, _, _] rfl rfl ag91 sz91 (hO102.at (i := 0) rfl) rfl rfl) ?_
          refine SO.store hO102 (i := 1) rfl rfl rfl rfl rfl rfl sz91 rfl rfl [_, (_, .cells [_, _, _, _, _, _, _].toArray _ _), _, _] rfl ?_
          intro w118 hO118
          refine SO.nn ?_
          refine SC.ret ?_
          refine SQ.out (.inl rfl) (resC [_, _, _, _, _, _, _] rfl rfl ag91 sz91 (hO118.at (i := 1) rfl) rfl rfl) ?_
          refine ⟨?_, hO118.toBelow ⟨hb97, hb3, hb2, hb1, trivial⟩⟩
          unfold pairS smV smC
          (rw [if_neg (by omega), if_neg (by omega)]; rfl)
      ·
       refine SB.alloc hO9 rfl rfl rfl rfl rfl zv91 [_, _, _, _, _, _, _] rfl ?_
       intro b120 w120 hb120 hO120
       refine ⟨(hO120.tail hb120), ?_⟩
       refine SA.one 28 (by kernel_rfl) ?_
       refine SB.call rfl rfl rfl rfl (.callF rfl rfl en218) (ccount_any _ _ (hO120.good hG) (by omega)) ?_
       rintro _ w121 ⟨rfl, hb121⟩
       have hO121 := hO120.below hb121
       refine ⟨_, rfl, (hO121.tail hb120), ?_⟩
       refine SA.tk 29 rfl (hO121.tail hb120) (fun v hv => .subW rfl rfl rfl) ?_
       refine SA.one 31 (by kernel_rfl) ?_
       refine SB.call rfl rfl rfl rfl (.callF rfl rfl en218) (ccount_any _ _ (hO121.good hG) (by omega)) ?_
       rintro _ w122 ⟨rfl, hb122⟩
       have hO122 := hO121.below hb122
       refine ⟨_, rfl, (hO122.tail hb120), ?_⟩
       refine SA.tk 32 rfl (hO122.tail hb120) (fun v hv => .subW rfl rfl rfl) ?_
       refine SA.one 39 (by kernel_rfl) ?_
       refine SB.call rfl rfl rfl rfl (.callF rfl rfl en31) (ccellsum_any _ _ (hO122.good hG) (by omega)) ?_
       rintro _ w123 ⟨rfl, hb123⟩
       have hO123 := hO122.below hb123
       refine ⟨_, rfl, (hO123.tail hb120), ?_⟩
       refine SA.tk 40 rfl (hO123.tail hb120) (fun v hv => .addW rfl rfl rfl) ?_
       refine SA.one 42 (by kernel_rfl) ?_
       refine SB.call rfl rfl rfl rfl (.callF rfl rfl en31) (ccellsum_any _ _ (hO123.good hG) (by omega)) ?_
       rintro _ w124 ⟨rfl, hb124⟩
       have hO124 := hO123.below hb124
       refine ⟨_, rfl, (hO124.tail hb120), ?_⟩
       refine SA.tk 43 rfl (hO124.tail hb120) (fun v hv => .subW rfl rfl rfl) ?_
       refine SA.one 45 (by kernel_rfl) ?_
       refine SB.call rfl rfl rfl rfl (.callF rfl rfl en31) (ccellsum_any _ _ (hO124.good hG) (by omega)) ?_
       rintro _ w125 ⟨rfl, hb125⟩
       have hO125 := hO124.below hb125
       refine ⟨_, rfl, (hO125.tail hb120), ?_⟩
       refine SA.tk 46 rfl (hO125.tail hb120) (fun v hv => .subW rfl rfl rfl) ?_
       refine SA.tk 56 rfl (hO125.tail hb120) (fun v hv => .build rfl rfl (bd91_0_1_2_3_4_5_6_Metp _ _ _ _ _ _ _)) ?_
       refine SA.one 58 (by kernel_rfl) ?_
       refine SB.store hO125 (j := 0) rfl rfl rfl rfl rfl rfl rfl sz91 rfl rfl [(_, .cells [_, _, _, _, _, _, _].toArray _ _), _, _, _] rfl ?_
       intro w126 hO126
       refine ⟨(hO126.tail hb120), ?_⟩
       refine SA.done (by kernel_rfl) ?_
       refine SQ.then_normal ?_
       refine SC.seq ?_
       refine SC.sr ?_
       refine SO.v (.fieldAddr rfl rfl fa91_5) ?_
       refine SO.v (.load rfl rfl ag9 (cell_of' (hO126.at (i := 3) rfl) rfl)) ?_
       refine SO.v (.lenS rfl rfl Tryz.underlying9) ?_
       refine SO.v (.lss rfl rfl rfl) ?_
       refine SO.nn ?_
       refine SC.dec rfl (fun c127 => ?_) (fun c127 => ?_)
       ·
        refine SC.region ?_
        refine SO.v (.fieldAddr rfl rfl fa91_5) ?_
        refine SO.v (.load rfl rfl ag9 (cell_of' (hO126.at (i := 3) rfl) rfl)) ?_
        refine SO.v (.fieldAddr rfl rfl fa91_5) ?_
        refine SO.v (.load rfl rfl ag9 (cell_of' (hO126.at (i := 2) rfl) rfl)) ?_
        refine SO.v (.strAdd rfl rfl rfl (by omega)) ?_
        refine SO.call rfl rfl rfl rfl (.callF rfl rfl en220) (head_any _ _ (hO126.good hG)) ?_
        rintro _ w128 ⟨rfl, hb128⟩
        have hO128 := hO126.below hb128
        refine ⟨_, rfl, ?_⟩
        refine SO.v (.fieldAddr rfl rfl fa91_5) ?_
        refine SO.store hO128 (i := 0) rfl rfl rfl rfl rfl rfl sz9 rfl rfl [(_, .cells [_, _, _, _, _, _, _].toArray _ _), _, _, _] rfl ?_
        intro w129 hO129
        refine SO.nn ?_
        refine SC.seq ?_
        refine SC.sr ?_
        refine SO.v (.fieldAddr rfl rfl fa91_6) ?_
        refine SO.v (.load rfl rfl ag9 (cell_of' (hO129.at (i := 2) rfl) rfl)) ?_
        refine SO.v (.lenS rfl rfl Tryz.underlying9) ?_
        refine SO.v (.lss rfl rfl rfl) ?_
        refine SO.nn ?_
        refine SC.dec rfl (fun c130 => ?_) (fun c130 => ?_)
        ·
         refine SC.region ?_
         refine SO.v (.fieldAddr rfl rfl fa91_6) ?_
         refine SO.v (.load rfl rfl ag9 (cell_of' (hO129.at (i := 3) rfl) rfl)) ?_
         refine SO.v (.fieldAddr rfl rfl fa91_6) ?_
         refine SO.v (.load rfl rfl ag9 (cell_of' (hO129.at (i := 2) rfl) rfl)) ?_
         refine SO.v (.strAdd rfl rfl rfl (by omega)) ?_
         refine SO.call rfl rfl rfl rfl (.callF rfl rfl en221) (tail_any _ _ (hO129.good hG) (by omega)) ?_
         rintro _ w131 ⟨rfl, hb131⟩
         have hO131 := hO129.below hb131
         refine ⟨_, rfl, ?_⟩
         refine SO.v (.fieldAddr rfl rfl fa91_6) ?_
         refine SO.store hO131 (i := 0) rfl rfl rfl rfl rfl rfl sz9 rfl rfl [(_, .cells [_, _, _, _, _, _, _].toArray _ _), _, _, _] rfl ?_
         intro w132 hO132
         refine SO.nn ?_
         refine SC.sr ?_
         refine SO.v (.loadB [_, _, _, _, _, _, _] rfl rfl ag91 sz91 (hO132.at (i := 0) rfl) rfl rfl) ?_
         refine SO.store hO132 (i := 1) rfl rfl rfl rfl rfl rfl sz91 rfl rfl [_, (_, .cells [_, _, _, _, _, _, _].toArray _ _), _, _] rfl ?_
         intro w133 hO133
         refine SO.nn ?_
         refine SC.ret ?_
         refine SQ.out (.inl rfl) (resC [_, _, _, _, _, _, _] rfl rfl ag91 sz91 (hO133.at (i := 1) rfl) rfl rfl) ?_
         refine ⟨?_, hO133.toBelow ⟨hb120, hb3, hb2, hb1, trivial⟩⟩
         unfold pairS smV smC
         (rw [if_pos (by omega), if_pos (by omega)]; rfl)
        ·
         refine SC.skip ?_
         refine SQ.then_normal ?_
         refine SC.sr ?_
         refine SO.v (.loadB [_, _, _, _, _, _, _] rfl rfl ag91 sz91 (hO129.at (i := 0) rfl) rfl rfl) ?_
         refine SO.store hO129 (i := 1) rfl rfl rfl rfl rfl rfl sz91 rfl rfl [_, (_, .cells [_, _, _, _, _, _, _].toArray _ _), _, _] rfl ?_
         intro w135 hO135
         refine SO.nn ?_
         refine SC.ret ?_
         refine SQ.out (.inl rfl) (resC [_, _, _, _, _, _, _] rfl rfl ag91 sz91 (hO135.at (i := 1) rfl) rfl rfl) ?_
         refine ⟨?_, hO135.toBelow ⟨hb120, hb3, hb2, hb1, trivial⟩⟩
         unfold pairS smV smC
         (rw [if_pos (by omega), if_neg (by omega)]; rfl)
       ·
        refine SC.skip ?_
        refine SQ.then_normal ?_
        refine SC.seq ?_
        refine SC.sr ?_
        refine SO.v (.fieldAddr rfl rfl fa91_6) ?_
        refine SO.v (.load rfl rfl ag9 (cell_of' (hO126.at (i := 2) rfl) rfl)) ?_
        refine SO.v (.lenS rfl rfl Tryz.underlying9) ?_
        refine SO.v (.lss rfl rfl rfl) ?_
        refine SO.nn ?_
        refine SC.dec rfl (fun c137 => ?_) (fun c137 => ?_)
        ·
         refine SC.region ?_
         refine SO.v (.fieldAddr rfl rfl fa91_6) ?_
         refine SO.v (.load rfl rfl ag9 (cell_of' (hO126.at (i := 3) rfl) rfl)) ?_
         refine SO.v (.fieldAddr rfl rfl fa91_6) ?_
         refine SO.v (.load rfl rfl ag9 (cell_of' (hO126.at (i := 2) rfl) rfl)) ?_
         refine SO.v (.strAdd rfl rfl rfl (by omega)) ?_
         refine SO.call rfl rfl rfl rfl (.callF rfl rfl en221) (tail_any _ _ (hO126.good hG) (by omega)) ?_
         rintro _ w138 ⟨rfl, hb138⟩
         have hO138 := hO126.below hb138
         refine ⟨_, rfl, ?_⟩
         refine SO.v (.fieldAddr rfl rfl fa91_6) ?_
         refine SO.store hO138 (i := 0) rfl rfl rfl rfl rfl rfl sz9 rfl rfl [(_, .cells [_, _, _, _, _, _, _].toArray _ _), _, _, _] rfl ?_
         intro w139 hO139
         refine SO.nn ?_
         refine SC.sr ?_
         refine SO.v (.loadB [_, _, _, _, _, _, _] rfl rfl ag91 sz91 (hO139.at (i := 0) rfl) rfl rfl) ?_
         refine SO.store hO139 (i := 1) rfl rfl rfl rfl rfl rfl sz91 rfl rfl [_, (_, .cells [_, _, _, _, _, _, _].toArray _ _), _, _] rfl ?_
         intro w140 hO140
         refine SO.nn ?_
         refine SC.ret ?_
         refine SQ.out (.inl rfl) (resC [_, _, _, _, _, _, _] rfl rfl ag91 sz91 (hO140.at (i := 1) rfl) rfl rfl) ?_
         refine ⟨?_, hO140.toBelow ⟨hb120, hb3, hb2, hb1, trivial⟩⟩
         unfold pairS smV smC
         (rw [if_neg (by omega), if_pos (by omega)]; rfl)
        ·
         refine SC.skip ?_
         refine SQ.then_normal ?_
         refine SC.sr ?_
         refine SO.v (.loadB [_, _, _, _, _, _, _] rfl rfl ag91 sz91 (hO126.at (i := 0) rfl) rfl rfl) ?_
         refine SO.store hO126 (i := 1) rfl rfl rfl rfl rfl rfl sz91 rfl rfl [_, (_, .cells [_, _, _, _, _, _, _].toArray _ _), _, _] rfl ?_
         intro w142 hO142
         refine SO.nn ?_
         refine SC.ret ?_
         refine SQ.out (.inl rfl) (resC [_, _, _, _, _, _, _] rfl rfl ag91 sz91 (hO142.at (i := 1) rfl) rfl rfl) ?_
         refine ⟨?_, hO142.toBelow ⟨hb120, hb3, hb2, hb1, trivial⟩⟩
         unfold pairS smV smC
         (rw [if_neg (by omega), if_neg (by omega)]; rfl)
     ·
      refine SB.alloc hO8 rfl rfl rfl rfl rfl zv91 [_, _, _, _, _, _, _] rfl ?_
      intro b144 w144 hb144 hO144
      refine ⟨(hO144.tail hb144), ?_⟩
      refine SA.one 25 (by kernel_rfl) ?_
      refine SB.call rfl rfl rfl rfl (.callF rfl rfl en218) (ccount_any _ _ (hO144.good hG) (by omega)) ?_
      rintro _ w145 ⟨rfl, hb145⟩
      have hO145 := hO144.below hb145
      refine ⟨_, rfl, (hO145.tail hb144), ?_⟩
      refine SA.tk 26 rfl (hO145.tail hb144) (fun v hv => .addW rfl rfl rfl) ?_
      refine SA.one 28 (by kernel_rfl) ?_
      refine SB.call rfl rfl rfl rfl (.callF rfl rfl en218) (ccount_any _ _ (hO145.good hG) (by omega)) ?_
      rintro _ w146 ⟨rfl, hb146⟩
      have hO146 := hO145.below hb146
      refine ⟨_, rfl, (hO146.tail hb144), ?_⟩
      refine SA.tk 29 rfl (hO146.tail hb144) (fun v hv => .subW rfl rfl rfl) ?_
      refine SA.one 31 (by kernel_rfl) ?_
      refine SB.call rfl rfl rfl rfl (.callF rfl rfl en218) (ccount_any _ _ (hO146.good hG) (by omega)) ?_
      rintro _ w147 ⟨rfl, hb147⟩
      have hO147 := hO146.below hb147
      refine ⟨_, rfl, (hO147.tail hb144), ?_⟩
      refine SA.tk 32 rfl (hO147.tail hb144) (fun v hv => .subW rfl rfl rfl) ?_
      refine SA.one 39 (by kernel_rfl) ?_
      refine SB.call rfl rfl rfl rfl (.callF rfl rfl en31) (ccellsum_any _ _ (hO147.good hG) (by omega)) ?_
      rintro _ w148 ⟨rfl, hb148⟩
      have hO148 := hO147.below hb148
      refine ⟨_, rfl, (hO148.tail hb144), ?_⟩
      refine SA.tk 40 rfl (hO148.tail hb144) (fun v hv => .addW rfl rfl rfl) ?_
      refine SA.one 42 (by kernel_rfl) ?_
      refine SB.call rfl rfl rfl rfl (.callF rfl rfl en31) (ccellsum_any _ _ (hO148.good hG) (by omega)) ?_
      rintro _ w149 ⟨rfl, hb149⟩
      have hO149 := hO148.below hb149
      refine ⟨_, rfl, (hO149.tail hb144), ?_⟩
      refine SA.tk 43 rfl (hO149.tail hb144) (fun v hv => .subW rfl rfl rfl) ?_
      refine SA.one 45 (by kernel_rfl) ?_
      refine SB.call rfl rfl rfl rfl (.callF rfl rfl en31) (ccellsum_any _ _ (hO149.good hG) (by omega)) ?_
      rintro _ w150 ⟨rfl, hb150⟩
      have hO150 := hO149.below hb150
      refine ⟨_, rfl, (hO150.tail hb144), ?_⟩
      refine SA.tk 46 rfl (hO150.tail hb144) (fun v hv => .subW rfl rfl rfl) ?_
      refine SA.tk 56 rfl (hO150.tail hb144) (fun v hv => .build rfl rfl (bd91_0_1_2_3_4_5_6_Metp _ _ _ _ _ _ _)) ?_
      refine SA.one 58 (by kernel_rfl) ?_
      refine SB.store hO150 (j := 0) rfl rfl rfl rfl rfl rfl rfl sz91 rfl rfl [(_, .cells [_, _, _, _, _, _, _].toArray _ _), _, _, _] rfl ?_
      intro w151 hO151
      refine ⟨(hO151.tail hb144), ?_⟩
      refine SA.done (by kernel_rfl) ?_
      refine SQ.then_normal ?_
      refine SC.seq ?_
      refine SC.sr ?_
      refine SO.v (.fieldAddr rfl rfl fa91_5) ?_
      refine SO.v (.load rfl rfl ag9 (cell_of' (hO151.at (i := 3) rfl) rfl)) ?_
      refine SO.v (.lenS rfl rfl Tryz.underlying9) ?_
      refine SO.v (.lss rfl rfl rfl) ?_
      refine SO.nn ?_
      refine SC.dec rfl (fun c152 => ?_) (fun c152 => ?_)
      ·
       refine SC.region ?_
       refine SO.v (.fieldAddr rfl rfl fa91_5) ?_
       refine SO.v (.load rfl rfl ag9 (cell_of' (hO151.at (i := 3) rfl) rfl)) ?_
       refine SO.v (.fieldAddr rfl rfl fa91_5) ?_
       refine SO.v (.load rfl rfl ag9 (cell_of' (hO151.at (i := 2) rfl) rfl)) ?_
       refine SO.v (.strAdd rfl rfl rfl (by omega)) ?_
       refine SO.call rfl rfl rfl rfl (.callF rfl rfl en220) (head_any _ _ (hO151.good hG)) ?_
       rintro _ w153 ⟨rfl, hb153⟩
       have hO153 := hO151.below hb153
       refine ⟨_, rfl, ?_⟩
       refine SO.v (.fieldAddr rfl rfl fa91_5) ?_
       refine SO.store hO153 (i := 0) rfl rfl rfl rfl rfl rfl sz9 rfl rfl [(_, .cells [_, _, _, _, _, _, _].toArray _ _), _, _, _] rfl ?_
       intro w154 hO154
       refine SO.nn ?_
       refine SC.seq ?_
       refine SC.sr ?_
       refine SO.v (.fieldAddr rfl rfl fa91_6) ?_
       refine SO.v (.load rfl rfl ag9 (cell_of' (hO154.at (i := 2) rfl) rfl)) ?_
       refine SO.v (.lenS rfl rfl Tryz.underlying9) ?_
       refine SO.v (.lss rfl rfl rfl) ?_
       refine SO.nn ?_
       refine SC.dec rfl (fun c155 => ?_) (fun c155 => ?_)
       ·
        refine SC.region ?_
        refine SO.v (.fieldAddr rfl rfl fa91_6) ?_
        refine SO.v (.load rfl rfl ag9 (cell_of' (hO154.at (i := 3) rfl) rfl)) ?_
        refine SO.v (.fieldAddr rfl rfl fa91_6) ?_
        refine SO.v (.load rfl rfl ag9 (cell_of' (hO154.at (i := 2) rfl) rfl)) ?_
        refine SO.v (.strAdd rfl rfl rfl (by omega)) ?_
        refine SO.call rfl rfl rfl rfl (.callF rfl rfl en221) (tail_any _ _ (hO154.good hG) (by omega)) ?_
        rintro _ w156 ⟨rfl, hb156⟩
        have hO156 := hO154.below hb156
        refine ⟨_, rfl, ?_⟩
        refine SO.v (.fieldAddr rfl rfl fa91_6) ?_
        refine SO.store hO156 (i := 0) rfl rfl rfl rfl rfl rfl sz9 rfl rfl [(_, .cells [_, _, _, _, _, _, _].toArray _ _), _, _, _] rfl ?_
        intro w157 hO157
        refine SO.nn ?_
        refine SC.sr ?_
        refine SO.v (.loadB [_, _, _, _, _, _, _] rfl rfl ag91 sz91 (hO157.at (i := 0) rfl) rfl rfl) ?_
        refine SO.store hO157 (i := 1) rfl rfl rfl rfl rfl rfl sz91 rfl rfl [_, (_, .cells [_, _, _, _, _, _, _].toArray _ _), _, _] rfl ?_
        intro w158 hO158
        refine SO.nn ?_
        refine SC.ret ?_
        refine SQ.out (.inl rfl) (resC [_, _, _, _, _, _, _] rfl rfl ag91 sz91 (hO158.at (i := 1) rfl) rfl rfl) ?_
        refine ⟨?_, hO158.toBelow ⟨hb144, hb3, hb2, hb1, trivial⟩⟩
        unfold pairS smV smC
        (rw [if_pos (by omega), if_pos (by omega)]; rfl)
       ·
        refine SC.skip ?_
        refine SQ.then_normal ?_
        refine SC.sr ?_
        refine SO.v (.loadB [_, _, _, _, _, _, _] rfl rfl ag91 sz91 (hO154.at (i := 0) rfl) rfl rfl) ?_
        refine SO.store hO154 (i := 1) rfl rfl rfl rfl rfl rfl sz91 rfl rfl [_, (_, .cells [_, _, _, _, _, _, _].toArray _ _), _, _] rfl ?_
        intro w160 hO160
        refine SO.nn ?_
        refine SC.ret ?_
        refine SQ.out (.inl rfl) (resC [_, _, _, _, _, _, _] rfl rfl ag91 sz91 (hO160.at (i := 1) rfl) rfl rfl) ?_
        refine ⟨?_, hO160.toBelow ⟨hb144, hb3, hb2, hb1, trivial⟩⟩
        unfold pairS smV smC
        (rw [if_pos (by omega), if_neg (by omega)]; rfl)
      ·
       refine SC.skip ?_
       refine SQ.then_normal ?_
       refine SC.seq ?_
       refine SC.sr ?_
       refine SO.v (.fieldAddr rfl rfl fa91_6) ?_
       refine SO.v (.load rfl rfl ag9 (cell_of' (hO151.at (i := 2) rfl) rfl)) ?_
       refine SO.v (.lenS rfl rfl Tryz.underlying9) ?_
       refine SO.v (.lss rfl rfl rfl) ?_
       refine SO.nn ?_
       refine SC.dec rfl (fun c162 => ?_) (fun c162 => ?_)
       ·
        refine SC.region ?_
        refine SO.v (.fieldAddr rfl rfl fa91_6) ?_
        refine SO.v (.load rfl rfl ag9 (cell_of' (hO151.at (i := 3) rfl) rfl)) ?_
        refine SO.v (.fieldAddr rfl rfl fa91_6) ?_
        refine SO.v (.load rfl rfl ag9 (cell_of' (hO151.at (i := 2) rfl) rfl)) ?_
        refine SO.v (.strAdd rfl rfl rfl (by omega)) ?_
        refine SO.call rfl rfl rfl rfl (.callF rfl rfl en221) (tail_any _ _ (hO151.good hG) (by omega)) ?_
        rintro _ w163 ⟨rfl, hb163⟩
        have hO163 := hO151.below hb163
        refine ⟨_, rfl, ?_⟩
        refine SO.v (.fieldAddr rfl rfl fa91_6) ?_
        refine SO.store hO163 (i := 0) rfl rfl rfl rfl rfl rfl sz9 rfl rfl [(_, .cells [_, _, _, _, _, _, _].toArray _ _), _, _, _] rfl ?_
        intro w164 hO164
        refine SO.nn ?_
        refine SC.sr ?_
        refine SO.v (.loadB [_, _, _, _, _, _, _] rfl rfl ag91 sz91 (hO164.at (i := 0) rfl) rfl rfl) ?_
        refine SO.store hO164 (i := 1) rfl rfl rfl rfl rfl rfl sz91 rfl rfl [_, (_, .cells [_, _, _, _, _, _, _].toArray _ _), _, _] rfl ?_
        intro w165 hO165
        refine SO.nn ?_
        refine SC.ret ?_
        refine SQ.out (.inl rfl) (resC [_, _, _, _, _, _, _] rfl rfl ag91 sz91 (hO165.at (i := 1) rfl) rfl rfl) ?_
        refine ⟨?_, hO165.toBelow ⟨hb144, hb3, hb2, hb1, trivial⟩⟩
        unfold pairS smV smC
        (rw [if_neg (by omega), if_pos (by omega)]; rfl)
       ·
        refine SC.skip ?_
        refine SQ.then_normal ?_
        refine SC.sr ?_
        refine SO.v (.loadB [_, _, _, _, _, _, _] rfl rfl ag91 sz91 (hO151.at (i := 0) rfl) rfl rfl) ?_
        refine SO.store hO151 (i := 1) rfl rfl rfl rfl rfl rfl sz91 rfl rfl [_, (_, .cells [_, _, _, _, _, _, _].toArray _ _), _, _] rfl ?_
        intro w167 hO167
        refine SO.nn ?_
        refine SC.ret ?_
        refine SQ.out (.inl rfl) (resC [_, _, _, _, _, _, _] rfl rfl ag91 sz91 (hO167.at (i := 1) rfl) rfl rfl) ?_
        refine ⟨?_, hO167.toBelow ⟨hb144, hb3, hb2, hb1, trivial⟩⟩
        unfold pairS smV smC
        (rw [if_neg (by omega), if_neg (by omega)]; rfl)
    ·
     refine SB.alloc hO7 rfl rfl rfl rfl rfl zv91 [_, _, _, _, _, _, _] rfl ?_
     intro b169 w169 hb169 hO169
     refine ⟨(hO169.tail hb169), ?_⟩
     refine SA.one 17 (by kernel_rfl) ?_
     refine SB.call rfl rfl rfl rfl (.callF rfl rfl en217) (ucount_any _ _ (hO169.good hG) (by omega)) ?_
     rintro _ w170 ⟨rfl, hb170⟩
     have hO170 := hO169.below hb170
     refine ⟨_, rfl, (hO170.tail hb169), ?_⟩
     refine SA.tk 18 rfl (hO170.tail hb169) (fun v hv => .subW rfl rfl rfl) ?_
     refine SA.one 25 (by kernel_rfl) ?_
     refine SB.call rfl rfl rfl rfl (.callF rfl rfl en218) (ccount_any _ _ (hO170.good hG) (by omega)) ?_
     rintro _ w171 ⟨rfl, hb171⟩
     have hO171 := hO170.below hb171
     refine ⟨_, rfl, (hO171.tail hb169), ?_⟩
     refine SA.tk 26 rfl (hO171.tail hb169) (fun v hv => .addW rfl rfl rfl) ?_
     refine SA.one 28 (by kernel_rfl) ?_
     refine SB.call rfl rfl rfl rfl (.callF rfl rfl en218) (ccount_any _ _ (hO171.good hG) (by omega)) ?_
     rintro _ w172 ⟨rfl, hb172⟩
     have hO172 := hO171.below hb172
     refine ⟨_, rfl, (hO172.tail hb169), ?_⟩
     refine SA.tk 29 rfl (hO172.tail hb169) (fun v hv => .subW rfl rfl rfl) ?_
     refine SA.one 31 (by kernel_rfl) ?_
     refine SB.call rfl rfl rfl rfl (.callF rfl rfl en218) (ccount_any _ _ (hO172.good hG) (by omega)) ?_
     rintro _ w173 ⟨rfl, hb173⟩
     have hO173 := hO172.below hb173
     refine ⟨_, rfl, (hO173.tail hb169), ?_⟩
     refine SA.tk 32 rfl (hO173.tail hb169) (fun v hv => .subW rfl rfl rfl) ?_
     refine SA.one 39 (by kernel_rfl) ?_
     refine SB.call rfl rfl rfl rfl (.callF rfl rfl en31) (ccellsum_any _ _ (hO173.good hG) (by omega)) ?_
     rintro _ w174 ⟨rfl, hb174⟩
     have hO174 := hO173.below hb174
     refine ⟨_, rfl, (hO174.tail hb169), ?_⟩
     refine SA.tk 40 rfl (hO174.tail hb169) (fun v hv => .addW rfl rfl rfl) ?_
     refine SA.one 42 (by kernel_rfl) ?_
     refine SB.call rfl rfl rfl rfl (.callF rfl rfl en31) (ccellsum_any _ _ (hO174.good hG) (by omega)) ?_
     rintro _ w175 ⟨rfl, hb175⟩
     have hO175 := hO174.below hb175
     refine ⟨_, rfl, (hO175.tail hb169), ?_⟩
     refine SA.tk 43 rfl (hO175.tail hb169) (fun v hv => .subW rfl rfl rfl) ?_
     refine SA.one 45 (by kernel_rfl) ?_
     refine SB.call rfl rfl rfl rfl (.callF rfl rfl en31) (ccellsum_any _ _ (hO175.good hG) (by omega)) ?_
     rintro _ w176 ⟨rfl, hb176⟩
     have hO176 := hO175.below hb176
     refine ⟨_, rfl, (hO176.tail hb169), ?_⟩
     refine SA.tk 46 rfl (hO176.tail hb169) (fun v hv => .subW rfl rfl rfl) ?_
     refine SA.tk 56 rfl (hO176.tail hb169) (fun v hv => .build rfl rfl (bd91_0_1_2_3_4_5_6_Metp _ _ _ _ _ _ _)) ?_
     refine SA.one 58 (by kernel_rfl) ?_
     refine SB.store hO176 (j := 0) rfl rfl rfl rfl rfl rfl rfl sz91 rfl rfl [(_, .cells [_, _, _, _, _, _, _].toArray _ _), _, _, _] rfl ?_
     intro w177 hO177
     refine ⟨(hO177.tail hb169), ?_⟩
     refine SA.done (by kernel_rfl) ?_
     refine SQ.then_normal ?_
     refine SC.seq ?_
     refine SC.sr ?_
     refine SO.v (.fieldAddr rfl rfl fa91_5) ?_
     refine SO.v (.load rfl rfl ag9 (cell_of' (hO177.at (i := 3) rfl) rfl)) ?_
     refine SO.v (.lenS rfl rfl Tryz.underlying9) ?_
     refine SO.v (.lss rfl rfl rfl) ?_
     refine SO.nn ?_
     refine SC.dec rfl (fun c178 => ?_) (fun c178 => ?_)
     ·
      refine SC.region ?_
      refine SO.v (.fieldAddr rfl rfl fa91_5) ?_
      refine SO.v (.load rfl rfl ag9 (cell_of' (hO177.at (i := 3) rfl) rfl)) ?_
      refine SO.v (.fieldAddr rfl rfl fa91_5) ?_
      refine SO.v (.load rfl rfl ag9 (cell_of' (hO177.at (i := 2) rfl) rfl)) ?_
      refine SO.v (.strAdd rfl rfl rfl (by omega)) ?_
      refine SO.call rfl rfl rfl rfl (.callF rfl rfl en220) (head_any _ _ (hO177.good hG)) ?_
      rintro _ w179 ⟨rfl, hb179⟩
      have hO179 := hO177.below hb179
      refine ⟨_, rfl, ?_⟩
      refine SO.v (.fieldAddr rfl rfl fa91_5) ?_
      refine SO.store hO179 (i := 0) rfl rfl rfl rfl rfl rfl sz9 rfl rfl [(_, .cells [_, _, _, _, _, _, _].toArray _ _), _, _, _] rfl ?_
      intro w180 hO180
      refine SO.nn ?_
      refine SC.seq ?_
      refine SC.sr ?_
      refine SO.v (.fieldAddr rfl rfl fa91_6) ?_
      refine SO.v (.load rfl rfl ag9 (cell_of' (hO180.at (i := 2) rfl) rfl)) ?_
      refine SO.v (.lenS rfl rfl Tryz.underlying9) ?_
      refine SO.v (.lss rfl rfl rfl) ?_
      refine SO.nn ?_
      refine SC.dec rfl (fun c181 => ?_) (fun c181 => ?_)
      ·
       refine SC.region ?_
       refine SO.v (.fieldAddr rfl rfl fa91_6) ?_
       refine SO.v (.load rfl rfl ag9 (cell_of' (hO180.at (i := 3) rfl) rfl)) ?_
       refine SO.v (.fieldAddr rfl rfl fa91_6) ?_
       refine SO.v (.load rfl rfl ag9 (cell_of' (hO180.at (i := 2) rfl) rfl)) ?_
       refine SO.v (.strAdd rfl rfl rfl (by omega)) ?_
       refine SO.call rfl rfl rfl rfl (.callF rfl rfl en221) (tail_any _ _ (hO180.good hG) (by omega)) ?_
       rintro _ w182 ⟨rfl, hb182⟩
       have hO182 := hO180.below hb182
       refine ⟨_, rfl, ?_⟩
       refine SO.v (.fieldAddr rfl rfl fa91_6) ?_
       refine SO.store hO182 (i := 0) rfl rfl rfl rfl rfl rfl sz9 rfl rfl [(_, .cells [_, _, _, _, _, _, _].toArray _ _), _, _, _] rfl ?_
       intro w183 hO183
       refine SO.nn ?_
       refine SC.sr ?_
       refine SO.v (.loadB [_, _, _, _, _, _, _] rfl rfl ag91 sz91 (hO183.at (i := 0) rfl) rfl rfl) ?_
       refine SO.store hO183 (i := 1) rfl rfl rfl rfl rfl rfl sz91 rfl rfl [_, (_, .cells [_, _, _, _, _, _, _].toArray _ _), _, _] rfl ?_
       intro w184 hO184
       refine SO.nn ?_
       refine SC.ret ?_
       refine SQ.out (.inl rfl) (resC [_, _, _, _, _, _, _] rfl rfl ag91 sz91 (hO184.at (i := 1) rfl) rfl rfl) ?_
       refine ⟨?_, hO184.toBelow ⟨hb169, hb3, hb2, hb1, trivial⟩⟩
       unfold pairS smV smC
       (rw [if_pos (by omega), if_pos (by omega)]; rfl)
      ·
       refine SC.skip ?_
       refine SQ.then_normal ?_
       refine SC.sr ?_
       refine SO.v (.loadB [_, _, _, _, _, _, _] rfl rfl ag91 sz91 (hO180.at (i := 0) rfl) rfl rfl) ?_
       refine SO.store hO180 (i := 1) rfl rfl rfl rfl rfl rfl sz91 rfl rfl [_, (_, .cells [_, _, _, _, _, _, _].toArray _ _), _, _] rfl ?_
       intro w186 hO186
       refine SO.nn ?_
       refine SC.ret ?_
       refine SQ.out (.inl rfl) (resC [_, _, _, _, _, _, _] rfl rfl ag91 sz91 (hO186.at (i := 1) rfl) rfl rfl) ?_
       refine ⟨?_, hO186.toBelow ⟨hb169, hb3, hb2, hb1, trivial⟩⟩
       unfold pairS smV smC
       (rw [if_pos (by omega), if_neg (by omega)]; rfl)
     ·
      refine SC.skip ?_
      refine SQ.then_normal ?_
      refine SC.seq ?_
      refine SC.sr ?_
      refine SO.v (.fieldAddr rfl rfl fa91_6) ?_
      refine SO.v (.load rfl rfl ag9 (cell_of' (hO177.at (i := 2) rfl) rfl)) ?_
      refine SO.v (.lenS rfl rfl Tryz.underlying9) ?_
      refine SO.v (.lss rfl rfl rfl) ?_
      refine SO.nn ?_
      refine SC.dec rfl (fun c188 => ?_) (fun c188 => ?_)
      ·
       refine SC.region ?_
       refine SO.v (.fieldAddr rfl rfl fa91_6) ?_
       refine SO.v (.load rfl rfl ag9 (cell_of' (hO177.at (i := 3) rfl) rfl)) ?_
       refine SO.v (.fieldAddr rfl rfl fa91_6) ?_
       refine SO.v (.load rfl rfl ag9 (cell_of' (hO177.at (i := 2) rfl) rfl)) ?_
       refine SO.v (.strAdd rfl rfl rfl (by omega)) ?_
       refine SO.call rfl rfl rfl rfl (.callF rfl rfl en221) (tail_any _ _ (hO177.good hG) (by omega)) ?_
       rintro _ w189 ⟨rfl, hb189⟩
       have hO189 := hO177.below hb189
       refine ⟨_, rfl, ?_⟩
       refine SO.v (.fieldAddr rfl rfl fa91_6) ?_
       refine SO.store hO189 (i := 0) rfl rfl rfl rfl rfl rfl sz9 rfl rfl [(_, .cells [_, _, _, _, _, _, _].toArray _ _), _, _, _] rfl ?_
       intro w190 hO190
       refine SO.nn ?_
       refine SC.sr ?_
       refine SO.v (.loadB [_, _, _, _, _, _, _] rfl rfl ag91 sz91 (hO190.at (i := 0) rfl) rfl rfl) ?_
       refine SO.store hO190 (i := 1) rfl rfl rfl rfl rfl rfl sz91 rfl rfl [_, (_, .cells [_, _, _, _, _, _, _].toArray _ _), _, _] rfl ?_
       intro w191 hO191
       refine SO.nn ?_
       refine SC.ret ?_
       refine SQ.out (.inl rfl) (resC [_, _, _, _, _, _, _] rfl rfl ag91 sz91 (hO191.at (i := 1) rfl) rfl rfl) ?_
       refine ⟨?_, hO191.toBelow ⟨hb169, hb3, hb2, hb1, trivial⟩⟩
       unfold pairS smV smC
       (rw [if_neg (by omega), if_pos (by omega)]; rfl)
      ·
       refine SC.skip ?_
       refine SQ.then_normal ?_
       refine SC.sr ?_
       refine SO.v (.loadB [_, _, _, _, _, _, _] rfl rfl ag91 sz91 (hO177.at (i := 0) rfl) rfl rfl) ?_
       refine SO.store hO177 (i := 1) rfl rfl rfl rfl rfl rfl sz91 rfl rfl [_, (_, .cells [_, _, _, _, _, _, _].toArray _ _), _, _] rfl ?_
       intro w193 hO193
       refine SO.nn ?_
       refine SC.ret ?_
       refine SQ.out (.inl rfl) (resC [_, _, _, _, _, _, _] rfl rfl ag91 sz91 (hO193.at (i := 1) rfl) rfl rfl) ?_
       refine ⟨?_, hO193.toBelow ⟨hb169, hb3, hb2, hb1, trivial⟩⟩
       unfold pairS smV smC
       (rw [if_neg (by omega), if_neg (by omega)]; rfl)
   ·
    refine SB.alloc hO6 rfl rfl rfl rfl rfl zv91 [_, _, _, _, _, _, _] rfl ?_
    intro b195 w195 hb195 hO195
    refine ⟨(hO195.tail hb195), ?_⟩
    refine SA.one 14 (by kernel_rfl) ?_
    refine SB.call rfl rfl rfl rfl (.callF rfl rfl en217) (ucount_any _ _ (hO195.good hG) (by omega)) ?_
    rintro _ w196 ⟨rfl, hb196⟩
    have hO196 := hO195.below hb196
    refine ⟨_, rfl, (hO196.tail hb195), ?_⟩
    refine SA.tk 15 rfl (hO196.tail hb195) (fun v hv => .subW rfl rfl rfl) ?_
    refine SA.one 17 (by kernel_rfl) ?_
    refine SB.call rfl rfl rfl rfl (.callF rfl rfl en217) (ucount_any _ _ (hO196.good hG) (by omega)) ?_
    rintro _ w197 ⟨rfl, hb197⟩
    have hO197 := hO196.below hb197
    refine ⟨_, rfl, (hO197.tail hb195), ?_⟩
    refine SA.tk 18 rfl (hO197.tail hb195) (fun v hv => .subW rfl rfl rfl) ?_
    refine SA.one 25 (by kernel_rfl) ?_
    refine SB.call rfl rfl rfl rfl (.callF rfl rfl en218) (ccount_any _ _ (hO197.good hG) (by omega)) ?_
    rintro _ w198 ⟨rfl, hb198⟩
    have hO198 := hO197.below hb198
    refine ⟨_, rfl, (hO198.tail hb195), ?_⟩
    refine SA.tk 26 rfl (hO198.tail hb195) (fun v hv => .addW rfl rfl rfl) ?_
    refine SA.one 28 (by kernel_rfl) ?_
    refine SB.call rfl rfl rfl rfl (.callF rfl rfl en218) (ccount_any _ _ (hO198.good hG) (by omega)) ?_
    rintro _ w199 ⟨rfl, hb199⟩
    have hO199 := hO198.below hb199
    refine ⟨_, rfl, (hO199.tail hb195), ?_⟩
    refine SA.tk 29 rfl (hO199.tail hb195) (fun v hv => .subW rfl rfl rfl) ?_
    refine SA.one 31 (by kernel_rfl) ?_
    refine SB.call rfl rfl rfl rfl (.callF rfl rfl en218) (ccount_any _ _ (hO199.good hG) (by omega)) ?_
    rintro _ w200 ⟨rfl, hb200⟩
    have hO200 := hO199.below hb200
    refine ⟨_, rfl, (hO200.tail hb195), ?_⟩
    refine SA.tk 32 rfl (hO200.tail hb195) (fun v hv => .subW rfl rfl rfl) ?_
    refine SA.one 39 (by kernel_rfl) ?_
    refine SB.call rfl rfl rfl rfl (.callF rfl rfl en31) (ccellsum_any _ _ (hO200.good hG) (by omega)) ?_
    rintro _ w201 ⟨rfl, hb201⟩
    have hO201 := hO200.below hb201
    refine ⟨_, rfl, (hO201.tail hb195), ?_⟩
    refine SA.tk 40 rfl (hO201.tail hb195) (fun v hv => .addW rfl rfl rfl) ?_
    refine SA.one 42 (by kernel_rfl) ?_
    refine SB.call rfl rfl rfl rfl (.callF rfl rfl en31) (ccellsum_any _ _ (hO201.good hG) (by omega)) ?_
    rintro _ w202 ⟨rfl, hb202⟩
    have hO202 := hO201.below hb202
    refine ⟨_, rfl, (hO202.tail hb195), ?_⟩
    refine SA.tk 43 rfl (hO202.tail hb195) (fun v hv => .subW rfl rfl rfl) ?_
    refine SA.one 45 (by kernel_rfl) ?_
    refine SB.call rfl rfl rfl rfl (.callF rfl rfl en31) (ccellsum_any _ _ (hO202.good hG) (by omega)) ?_
    rintro _ w203 ⟨rfl, hb203⟩
    have hO203 := hO202.below hb203
    refine ⟨_, rfl, (hO203.tail hb195), ?_⟩
    refine SA.tk 46 rfl (hO203.tail hb195) (fun v hv => .subW rfl rfl rfl) ?_
    refine SA.tk 56 rfl (hO203.tail hb195) (fun v hv => .build rfl rfl (bd91_0_1_2_3_4_5_6_Metp _ _ _ _ _ _ _)) ?_
    refine SA.one 58 (by kernel_rfl) ?_
    refine SB.store hO203 (j := 0) rfl rfl rfl rfl rfl rfl rfl sz91 rfl rfl [(_, .cells [_, _, _, _, _, _, _].toArray _ _), _, _, _] rfl ?_
    intro w204 hO204
    refine ⟨(hO204.tail hb195), ?_⟩
    refine SA.done (by kernel_rfl) ?_
    refine SQ.then_normal ?_
    refine SC.seq ?_
    refine SC.sr ?_
    refine SO.v (.fieldAddr rfl rfl fa91_5) ?_
    refine SO.v (.load rfl rfl ag9 (cell_of' (hO204.at (i := 3) rfl) rfl)) ?_
    refine SO.v (.lenS rfl rfl Tryz.underlying9) ?_
    refine SO.v (.lss rfl rfl rfl) ?_
    refine SO.nn ?_
    refine SC.dec rfl (fun c205 => ?_) (fun c205 => ?_)
    ·
     refine SC.region ?_
     refine SO.v (.fieldAddr rfl rfl fa91_5) ?_
     refine SO.v (.load rfl rfl ag9 (cell_of' (hO204.at (i := 3) rfl) rfl)) ?_
     refine SO.v (.fieldAddr rfl rfl fa91_5) ?_
     refine SO.v (.load rfl rfl ag9 (cell_of' (hO204.at (i := 2) rfl) rfl)) ?_
     refine SO.v (.strAdd rfl rfl rfl (by omega)) ?_
     refine SO.call rfl rfl rfl rfl (.callF rfl rfl en220) (head_any _ _ (hO204.good hG)) ?_
     rintro _ w206 ⟨rfl, hb206⟩
     have hO206 := hO204.below hb206
     refine ⟨_, rfl, ?_⟩
     refine SO.v (.fieldAddr rfl rfl fa91_5) ?_
     refine SO.store hO206 (i := 0) rfl rfl rfl rfl rfl rfl sz9 rfl rfl [(_, .cells [_, _, _, _, _, _, _].toArray _ _), _, _, _] rfl ?_
     intro w207 hO207
     refine SO.nn ?_
     refine SC.seq ?_
     refine SC.sr ?_
     refine SO.v (.fieldAddr rfl rfl fa91_6) ?_
     refine SO.v (.load rfl rfl ag9 (cell_of' (hO207.at (i := 2) rfl) rfl)) ?_
     refine SO.v (.lenS rfl rfl Tryz.underlying9) ?_
     refine SO.v (.lss rfl rfl rfl) ?_
     refine SO.nn ?_
     refine SC.dec rfl (fun c208 => ?_) (fun c208 => ?_)
     ·
      refine SC.region ?_
      refine SO.v (.fieldAddr rfl rfl fa91_6) ?_
      refine SO.v (.load rfl rfl ag9 (cell_of' (hO207.at (i := 3) rfl) rfl)) ?_
      refine SO.v (.fieldAddr rfl rfl fa91_6) ?_
      refine SO.v (.load rfl rfl ag9 (cell_of' (hO207.at (i := 2) rfl) rfl)) ?_
      refine SO.v (.strAdd rfl rfl rfl (by omega)) ?_
      refine SO.call rfl rfl rfl rfl (.callF rfl rfl en221) (tail_any _ _ (hO207.good hG) (by omega)) ?_
      rintro _ w209 ⟨rfl, hb209⟩
      have hO209 := hO207.below hb209
      refine ⟨_, rfl, ?_⟩
      refine SO.v (.fieldAddr rfl rfl fa91_6) ?_
      refine SO.store hO209 (i := 0) rfl rfl rfl rfl rfl rfl sz9 rfl rfl [(_, .cells [_, _, _, _, _, _, _].toArray _ _), _, _, _] rfl ?_
      intro w210 hO210
      refine SO.nn ?_
      refine SC.sr ?_
      refine SO.v (.loadB [_, _, _, _, _, _, _] rfl rfl ag91 sz91 (hO210.at (i := 0) rfl) rfl rfl) ?_
      refine SO.store hO210 (i := 1) rfl rfl rfl rfl rfl rfl sz91 rfl rfl [_, (_, .cells [_, _, _, _, _, _, _].toArray _ _), _, _] rfl ?_
      intro w211 hO211
      refine SO.nn ?_
      refine SC.ret ?_
      refine SQ.out (.inl rfl) (resC [_, _, _, _, _, _, _] rfl rfl ag91 sz91 (hO211.at (i := 1) rfl) rfl rfl) ?_
      refine ⟨?_, hO211.toBelow ⟨hb195, hb3, hb2, hb1, trivial⟩⟩
      unfold pairS smV smC
      (rw [if_pos (by omega), if_pos (by omega)]; rfl)
     ·
      refine SC.skip ?_
      refine SQ.then_normal ?_
      refine SC.sr ?_
      refine SO.v (.loadB [_, _, _, _, _, _, _] rfl rfl ag91 sz91 (hO207.at (i := 0) rfl) rfl rfl) ?_
      refine SO.store hO207 (i := 1) rfl rfl rfl rfl rfl rfl sz91 rfl rfl [_, (_, .cells [_, _, _, _, _, _, _].toArray _ _), _, _] rfl ?_
      intro w213 hO213
      refine SO.nn ?_
      refine SC.ret ?_
      refine SQ.out (.inl rfl) (resC [_, _, _, _, _, _, _] rfl rfl ag91 sz91 (hO213.at (i := 1) rfl) rfl rfl) ?_
      refine ⟨?_, hO213.toBelow ⟨hb195, hb3, hb2, hb1, trivial⟩⟩
      unfold pairS smV smC
      (rw [if_pos (by omega), if_neg (by omega)]; rfl)
    ·
     refine SC.skip ?_
     refine SQ.then_normal ?_
     refine SC.seq ?_
     refine SC.sr ?_
     refine SO.v (.fieldAddr rfl rfl fa91_6) ?_
     refine SO.v (.load rfl rfl ag9 (cell_of' (hO204.at (i := 2) rfl) rfl)) ?_
     refine SO.v (.lenS rfl rfl Tryz.underlying9) ?_
     refine SO.v (.lss rfl rfl rfl) ?_
     refine SO.nn ?_
     refine SC.dec rfl (fun c215 => ?_) (fun c215 => ?_)
     ·
      refine SC.region ?_
      refine SO.v (.fieldAddr rfl rfl fa91_6) ?_
      refine SO.v (.load rfl rfl ag9 (cell_of' (hO204.at (i := 3) rfl) rfl)) ?_
      refine SO.v (.fieldAddr rfl rfl fa91_6) ?_
      refine SO.v (.load rfl rfl ag9 (cell_of' (hO204.at (i := 2) rfl) rfl)) ?_
      refine SO.v (.strAdd rfl rfl rfl (by omega)) ?_
      refine SO.call rfl rfl rfl rfl (.callF rfl rfl en221) (tail_any _ _ (hO204.good hG) (by omega)) ?_
      rintro _ w216 ⟨rfl, hb216⟩
      have hO216 := hO204.below hb216
      refine ⟨_, rfl, ?_⟩
      refine SO.v (.fieldAddr rfl rfl fa91_6) ?_
      refine SO.store hO216 (i := 0) rfl rfl rfl rfl rfl rfl sz9 rfl rfl [(_, .cells [_, _, _, _, _, _, _].toArray _ _), _, _, _] rfl ?_
      intro w217 hO217
      refine SO.nn ?_
      refine SC.sr ?_
      refine SO.v (.loadB [_, _, _, _, _, _, _] rfl rfl ag91 sz91 (hO217.at (i := 0) rfl) rfl rfl) ?_
      refine SO.store hO217 (i := 1) rfl rfl rfl rfl rfl rfl sz91 rfl rfl [_, (_, .cells [_, _, _, _, _, _, _].toArray _ _), _, _] rfl ?_
      intro w218 hO218
      refine SO.nn ?_
      refine SC.ret ?_
      refine SQ.out (.inl rfl) (resC [_, _, _, _, _, _, _] rfl rfl ag91 sz91 (hO218.at (i := 1) rfl) rfl rfl) ?_
      refine ⟨?_, hO218.toBelow ⟨hb195, hb3, hb2, hb1, trivial⟩⟩
      unfold pairS smV smC
      (rw [if_neg (by omega), if_pos (by omega)]; rfl)
     ·
      refine SC.skip ?_
      refine SQ.then_normal ?_
      refine SC.sr ?_
      refine SO.v (.loadB [_, _, _, _, _, _, _] rfl rfl ag91 sz91 (hO204.at (i := 0) rfl) rfl rfl) ?_
      refine SO.store hO204 (i := 1) rfl rfl rfl rfl rfl rfl sz91 rfl rfl [_, (_, .cells [_, _, _, _, _, _, _].toArray _ _), _, _] rfl ?_
      intro w220 hO220
      refine SO.nn ?_
      refine SC.ret ?_
      refine SQ.out (.inl rfl) (resC [_, _, _, _, _, _, _] rfl rfl ag91 sz91 (hO220.at (i := 1) rfl) rfl rfl) ?_
      refine ⟨?_, hO220.toBelow ⟨hb195, hb3, hb2, hb1, trivial⟩⟩
      unfold pairS smV smC
      (rw [if_neg (by omega), if_neg (by omega)]; rfl)
  ·
   refine SB.alloc hO5 rfl rfl rfl rfl rfl zv91 [_, _, _, _, _, _, _] rfl ?_
   intro b222 w222 hb222 hO222
   refine ⟨(hO222.tail hb222), ?_⟩
   refine SA.one 11 (by kernel_rfl) ?_
   refine SB.call rfl rfl rfl rfl (.callF rfl rfl en217) (ucount_any _ _ (hO222.good hG) (by omega)) ?_
   rintro _ w223 ⟨rfl, hb223⟩
   have hO223 := hO222.below hb223
   refine ⟨_, rfl, (hO223.tail hb222), ?_⟩
   refine SA.tk 12 rfl (hO223.tail hb222) (fun v hv => .addW rfl rfl rfl) ?_
   refine SA.one 14 (by kernel_rfl) ?_
   refine SB.call rfl rfl rfl rfl (.callF rfl rfl en217) (ucount_any _ _ (hO223.good hG) (by omega)) ?_
   rintro _ w224 ⟨rfl, hb224⟩
   have hO224 := hO223.below hb224
   refine ⟨_, rfl, (hO224.tail hb222), ?_⟩
   refine SA.tk 15 rfl (hO224.tail hb222) (fun v hv => .subW rfl rfl rfl) ?_
   refine SA.one 17 (by kernel_rfl) ?_
   refine SB.call rfl rfl rfl rfl (.callF rfl rfl en217) (ucount_any _ _ (hO224.good hG) (by omega)) ?_
   rintro _ w225 ⟨rfl, hb225⟩
   have hO225 := hO224.below hb225
   refine ⟨_, rfl, (hO225.tail hb222), ?_⟩
   refine SA.tk 18 rfl (hO225.tail hb222) (fun v hv => .subW rfl rfl rfl) ?_
   refine SA.one 25 (by kernel_rfl) ?_
   refine SB.call rfl rfl rfl rfl (.callF rfl rfl en218) (ccount_any _ _ (hO225.good hG) (by omega)) ?_
   rintro _ w226 ⟨rfl, hb226⟩
   have hO226 := hO225.below hb226
   refine ⟨_, rfl, (hO226.tail hb222), ?_⟩
   refine SA.tk 26 rfl (hO226.tail hb222) (fun v hv => .addW rfl rfl rfl) ?_
   refine SA.one 28 (by kernel_rfl) ?_
   refine SB.call rfl rfl rfl rfl (.callF rfl rfl en218) (ccount_any _ _ (hO226.good hG) (by omega)) ?_
   rintro _ w227 ⟨rfl, hb227⟩
   have hO227 := hO226.below hb227
   refine ⟨_, rfl, (hO227.tail hb222), ?_⟩
   refine SA.tk 29 rfl (hO227.tail hb222) (fun v hv => .subW rfl rfl rfl) ?_
   refine SA.one 31 (by kernel_rfl) ?_
   refine SB.call rfl rfl rfl rfl (.callF rfl rfl en218) (ccount_any _ _ (hO227.good hG) (by omega)) ?_
   rintro _ w228 ⟨rfl, hb228⟩
   have hO228 := hO227.below hb228
   refine ⟨_, rfl, (hO228.tail hb222), ?_⟩
   refine SA.tk 32 rfl (hO228.tail hb222) (fun v hv => .subW rfl rfl rfl) ?_
   refine SA.one 39 (by kernel_rfl) ?_
   refine SB.call rfl rfl rfl rfl (.callF rfl rfl en31) (ccellsum_any _ _ (hO228.good hG) (by omega)) ?_
   rintro _ w229 ⟨rfl, hb229⟩
   have hO229 := hO228.below hb229
   refine ⟨_, rfl, (hO229.tail hb222), ?_⟩
   refine SA.tk 40 rfl (hO229.tail hb222) (fun v hv => .addW rfl rfl rfl) ?_
   refine SA.one 42 (by kernel_rfl) ?_
   refine SB.call rfl rfl rfl rfl (.callF rfl rfl en31) (ccellsum_any _ _ (hO229.good hG) (by omega)) ?_
   rintro _ w230 ⟨rfl, hb230⟩
   have hO230 := hO229.below hb230
   refine ⟨_, rfl, (hO230.tail hb222), ?_⟩
   refine SA.tk 43 rfl (hO230.tail hb222) (fun v hv => .subW rfl rfl rfl) ?_
   refine SA.one 45 (by kernel_rfl) ?_
   refine SB.call rfl rfl rfl rfl (.callF rfl rfl en31) (ccellsum_any _ _ (hO230.good hG) (by omega)) ?_
   rintro _ w231 ⟨rfl, hb231⟩
   have hO231 := hO230.below hb231
   refine ⟨_, rfl, (hO231.tail hb222), ?_⟩
   refine SA.tk 46 rfl (hO231.tail hb222) (fun v hv => .subW rfl rfl rfl) ?_
   refine SA.tk 56 rfl (hO231.tail hb222) (fun v hv => .build rfl rfl (bd91_0_1_2_3_4_5_6_Metp _ _ _ _ _ _ _)) ?_
   refine SA.one 58 (by kernel_rfl) ?_
   refine SB.store hO231 (j := 0) rfl rfl rfl rfl rfl rfl rfl sz91 rfl rfl [(_, .cells [_, _, _, _, _, _, _].toArray _ _), _, _, _] rfl ?_
   intro w232 hO232
   refine ⟨(hO232.tail hb222), ?_⟩
   refine SA.done (by kernel_rfl) ?_
   refine SQ.then_normal ?_
   refine SC.seq ?_
   refine SC.sr ?_
   refine SO.v (.fieldAddr rfl rfl fa91_5) ?_
   refine SO.v (.load rfl rfl ag9 (cell_of' (hO232.at (i := 3) rfl) rfl)) ?_
   refine SO.v (.lenS rfl rfl Tryz.underlying9) ?_
   refine SO.v (.lss rfl rfl rfl) ?_
   refine SO.nn ?_
   refine SC.dec rfl (fun c233 => ?_) (fun c233 => ?_)
   ·
    refine SC.region ?_
    refine SO.v (.fieldAddr rfl rfl fa91_5) ?_
    refine SO.v (.load rfl rfl ag9 (cell_of' (hO232.at (i := 3) rfl) rfl)) ?_
    refine SO.v (.fieldAddr rfl rfl fa91_5) ?_
    refine SO.v (.load rfl rfl ag9 (cell_of' (hO232.at (i := 2) rfl) rfl)) ?_
    refine SO.v (.strAdd rfl rfl rfl (by omega)) ?_
    refine SO.call rfl rfl rfl rfl (.callF rfl rfl en220) (head_any _ _ (hO232.good hG)) ?_
    rintro _ w234 ⟨rfl, hb234⟩
    have hO234 := hO232.below hb234
    refine ⟨_, rfl, ?_⟩
    refine SO.v (.fieldAddr rfl rfl fa91_5) ?_
    refine SO.store hO234 (i := 0) rfl rfl rfl rfl rfl rfl sz9 rfl rfl [(_, .cells [_, _, _, _, _, _, _].toArray _ _), _, _, _] rfl ?_
    intro w235 hO235
    refine SO.nn ?_
    refine SC.seq ?_
    refine SC.sr ?_
    refine SO.v (.fieldAddr rfl rfl fa91_6) ?_
    refine SO.v (.load rfl rfl ag9 (cell_of' (hO235.at (i := 2) rfl) rfl)) ?_
    refine SO.v (.lenS rfl rfl Tryz.underlying9) ?_
    refine SO.v (.lss rfl rfl rfl) ?_
    refine SO.nn ?_
    refine SC.dec rfl (fun c236 => ?_) (fun c236 => ?_)
    ·
     refine SC.region ?_
     refine SO.v (.fieldAddr rfl rfl fa91_6) ?_
     refine SO.v (.load rfl rfl ag9 (cell_of' (hO235.at (i := 3) rfl) rfl)) ?_
     refine SO.v (.fieldAddr rfl rfl fa91_6) ?_
     refine SO.v (.load rfl rfl ag9 (cell_of' (hO235.at (i := 2) rfl) rfl)) ?_
     refine SO.v (.strAdd rfl rfl rfl (by omega)) ?_
     refine SO.call rfl rfl rfl rfl (.callF rfl rfl en221) (tail_any _ _ (hO235.good hG) (by omega)) ?_
     rintro _ w237 ⟨rfl, hb237⟩
     have hO237 := hO235.below hb237
     refine ⟨_, rfl, ?_⟩
     refine SO.v (.fieldAddr rfl rfl fa91_6) ?_
     refine SO.store hO237 (i := 0) rfl rfl rfl rfl rfl rfl sz9 rfl rfl [(_, .cells [_, _, _, _, _, _, _].toArray _ _), _, _, _] rfl ?_
     intro w238 hO238
     refine SO.nn ?_
     refine SC.sr ?_
     refine SO.v (.loadB [_, _, _, _, _, _, _] rfl rfl ag91 sz91 (hO238.at (i := 0) rfl) rfl rfl) ?_
     refine SO.store hO238 (i := 1) rfl rfl rfl rfl rfl rfl sz91 rfl rfl [_, (_, .cells [_, _, _, _, _, _, _].toArray _ _), _, _] rfl ?_
     intro w239 hO239
     refine SO.nn ?_
     refine SC.ret ?_
     refine SQ.out (.inl rfl) (resC [_, _, _, _, _, _, _] rfl rfl ag91 sz91 (hO239.at (i := 1) rfl) rfl rfl) ?_
     refine ⟨?_, hO239.toBelow ⟨hb222, hb3, hb2, hb1, trivial⟩⟩
     unfold pairS smV smC
     (rw [if_pos (by omega), if_pos (by omega)]; rfl)
    ·
     refine SC.skip ?_
     refine SQ.then_normal ?_
     refine SC.sr ?_
     refine SO.v (.loadB [_, _, _, _, _, _, _] rfl rfl ag91 sz91 (hO235.at (i := 0) rfl) rfl rfl) ?_
     refine SO.store hO235 (i := 1) rfl rfl rfl rfl rfl rfl sz91 rfl rfl [_, (_, .cells [_, _, _, _, _, _, _].toArray _ _), _, _] rfl ?_
     intro w241 hO241
     refine SO.nn ?_
     refine SC.ret ?_
     refine SQ.out (.inl rfl) (resC [_, _, _, _, _, _, _] rfl rfl ag91 sz91 (hO241.at (i := 1) rfl) rfl rfl) ?_
     refine ⟨?_, hO241.toBelow ⟨hb222, hb3, hb2, hb1, trivial⟩⟩
     unfold pairS smV smC
     (rw [if_pos (by omega), if_neg (by omega)]; rfl)
   ·
    refine SC.skip ?_
    refine SQ.then_normal ?_
    refine SC.seq ?_
    refine SC.sr ?_
    refine SO.v (.fieldAddr rfl rfl fa91_6) ?_
    refine SO.v (.load rfl rfl ag9 (cell_of' (hO232.at (i := 2) rfl) rfl)) ?_
    refine SO.v (.lenS rfl rfl Tryz.underlying9) ?_
    refine SO.v (.lss rfl rfl rfl) ?_
    refine SO.nn ?_
    refine SC.dec rfl (fun c243 => ?_) (fun c243 => ?_)
    ·
     refine SC.region ?_
     refine SO.v (.fieldAddr rfl rfl fa91_6) ?_
     refine SO.v (.load rfl rfl ag9 (cell_of' (hO232.at (i := 3) rfl) rfl)) ?_
     refine SO.v (.fieldAddr rfl rfl fa91_6) ?_
     refine SO.v (.load rfl rfl ag9 (cell_of' (hO232.at (i := 2) rfl) rfl)) ?_
     refine SO.v (.strAdd rfl rfl rfl (by omega)) ?_
     refine SO.call rfl rfl rfl rfl (.callF rfl rfl en221) (tail_any _ _ (hO232.good hG) (by omega)) ?_
     rintro _ w244 ⟨rfl, hb244⟩
     have hO244 := hO232.below hb244
     refine ⟨_, rfl, ?_⟩
     refine SO.v (.fieldAddr rfl rfl fa91_6) ?_
     refine SO.store hO244 (i := 0) rfl rfl rfl rfl rfl rfl sz9 rfl rfl [(_, .cells [_, _, _, _, _, _, _].toArray _ _), _, _, _] rfl ?_
     intro w245 hO245
     refine SO.nn ?_
     refine SC.sr ?_
     refine SO.v (.loadB [_, _, _, _, _, _, _] rfl rfl ag91 sz91 (hO245.at (i := 0) rfl) rfl rfl) ?_
     refine SO.store hO245 (i := 1) rfl rfl rfl rfl rfl rfl sz91 rfl rfl [_, (_, .cells [_, _, _, _, _, _, _].toArray _ _), _, _] rfl ?_
     intro w246 hO246
     refine SO.nn ?_
     refine SC.ret ?_
     refine SQ.out (.inl rfl) (resC [_, _, _, _, _, _, _] rfl rfl ag91 sz91 (hO246.at (i := 1) rfl) rfl rfl) ?_
     refine ⟨?_, hO246.toBelow ⟨hb222, hb3, hb2, hb1, trivial⟩⟩
     unfold pairS smV smC
     (rw [if_neg (by omega), if_pos (by omega)]; rfl)
    ·
     refine SC.skip ?_
     refine SQ.then_normal ?_
     refine SC.sr ?_
     refine SO.v (.loadB [_, _, _, _, _, _, _] rfl rfl ag91 sz91 (hO232.at (i := 0) rfl) rfl rfl) ?_
     refine SO.store hO232 (i := 1) rfl rfl rfl rfl rfl rfl sz91 rfl rfl [_, (_, .cells [_, _, _, _, _, _, _].toArray _ _), _, _] rfl ?_
     intro w248 hO248
     refine SO.nn ?_
     refine SC.ret ?_
     refine SQ.out (.inl rfl) (resC [_, _, _, _, _, _, _] rfl rfl ag91 sz91 (hO248.at (i := 1) rfl) rfl rfl) ?_
     refine ⟨?_, hO248.toBelow ⟨hb222, hb3, hb2, hb1, trivial⟩⟩
     unfold pairS smV smC
     (rw [if_neg (by omega), if_neg (by omega)]; rfl)

end Go.Proofs.YtclgplkkajfenaaGreatDoor
