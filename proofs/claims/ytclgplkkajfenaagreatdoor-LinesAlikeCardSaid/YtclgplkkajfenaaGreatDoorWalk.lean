/- cluster.Walk. -/
import Derived.Test.YtclgplkkajfenaaGreatDoorCluc
import Derived.Test.YtclgplkkajfenaaGreatDoorOw8
import Derived.Test.YtclgplkkajfenaaGreatDoorShelf
namespace Go.Proofs.YtclgplkkajfenaaGreatDoor
open Go Go.RowKit Ow
theorem nlhead_any (t : ByteArray) (w : World) :
    Calls Tryz.prog 163 #[.string t, .string ⟨#[10]⟩] w fun e w' => e = .returned (.bool (decide (by' (bl t) 0 = 10))) ∧ Below w.heap.size w w' := by
  refine (Tryz.strings_HasPrefix t ⟨#[10]⟩ w).mono ?_
  rintro e w' ⟨rfl, rfl⟩
  refine ⟨?_, Below.refl _ _⟩
  congr 2
  show List.isPrefixOf [10] (bl t) = _
  cases h : bl t with
  | nil => simp [by']
  | cons x r =>
    simp only [by', List.getD_cons_zero, List.isPrefixOf, Bool.and_true]
    by_cases e : x = 10
    · subst e; rfl
    · have e2 : x.toNat ≠ 10 := fun h => e (UInt8.toNat_inj.1 h)
      rw [decide_eq_false e2]
      simpa using fun h => e h.symm
theorem at_here (s : ByteArray) (k : Nat) (w : World) (hG : Good w) (hz : s.size ≤ 4611686018427387904) (hk : k < s.size) (hb : UB (bl s) k) :
    Calls Tryz.prog 131 #[.string s, .int .i64 k] w fun e w' => e = .returned (.tuple #[.agg #[.int .i32 (uch ((bl s).drop k)), .int .i64 (usz ((bl s).drop k) : Nat)], .bool true]) ∧ Below w.heap.size w w' := by
  refine (at_any s k w hG hz).mono ?_
  rintro e w' ⟨rfl, h⟩
  refine ⟨?_, h⟩
  have hA : uAt (bl s) (k : Int) := ⟨⟨by omega, by rw [bl_length]; omega, by simpa using uDown_self hb⟩, by rw [bl_length]; omega⟩
  unfold atCh atSz
  rw [if_pos hA, if_pos hA, decide_eq_true hA]; rfl
/-- A cluster's value. -/
def clV (l : Bs) (c : Nat × Nat) : Value := .agg #[.int .i64 (c.1 : Int), .int .i64 (c.2 : Int), .int .i64 (clCls l c.1), .int .i64 (clCells l c.1)]

theorem bd138_0_1_2_3_Walk (x0 : Int) (x1 : Int) (x2 : Int) (x3 : Int) : ∀ w, (Instr.build 138 [(0, .int .i64 x0), (1, .int .i64 x1), (2, .int .i64 x2), (3, .int .i64 x3)].toArray).run Tryz.prog w = .ok (.agg [.int .i64 x0, .int .i64 x1, .int .i64 x2, .int .i64 x3].toArray) w := fun _ => by kernel_rfl
set_option maxRecDepth 20000 in
set_option maxHeartbeats 400000 in
theorem made_any (s : ByteArray) (k to : Nat) (w : World) (hG : Good w) (hz : s.size ≤ 4611686018427387904) (hk : k < s.size) (hb : UB (bl s) k) :
    Calls Tryz.prog 137 #[.string s, .int .i64 k, .int .i64 to] w fun e w' => e = .returned (clV (bl s) (k, to)) ∧ Below w.heap.size w w' := by
  have hsh : by' (bl (s.extract ((k : Int) + 1).toNat s.size)) 0 = by' (bl s) (k + 1) := by
    rw [bl_tail, by_drop, show ((k : Int) + 1).toNat + 0 = k + 1 by omega]
  have hO0 := Own.start hG
  refine enter Tryz.func137 rfl rfl rfl 0 ?_
  refine SC.seq ?_
  refine SC.region ?_
  refine SO.alloc hO0 rfl rfl rfl rfl zv138 [_, _, _, _] rfl ?_
  intro b1 w1 hb1 hO1
  refine SO.nil ?_
  refine SQ.then_normal ?_
  refine SC.seq ?_
  refine SC.region ?_
  refine SO.val rfl rfl rfl rfl (.move rfl rfl) ?_
  refine SO.val rfl rfl rfl rfl (.move rfl rfl) ?_
  refine SO.call rfl rfl rfl rfl (.callF rfl rfl en131) (at_here _ _ _ (hO1.good hG) hz hk hb) ?_
  rintro _ w2 ⟨rfl, hb2⟩
  have hO2 := hO1.below hb2
  refine ⟨_, rfl, ?_⟩
  refine SO.val rfl rfl rfl rfl (.move rfl rfl) ?_
  refine SO.val rfl rfl rfl rfl (.extract rfl rfl rfl) ?_
  refine SO.val rfl rfl rfl rfl (.extract rfl rfl rfl) ?_
  refine SO.alloc hO2 rfl rfl rfl rfl zv177 [_, _] rfl ?_
  intro b3 w3 hb3 hO3
  refine SO.store hO3 (i := 0) rfl rfl rfl rfl rfl rfl sz177 rfl rfl [(_, .cells [_, _].toArray _ _), _] rfl ?_
  intro w4 hO4
  refine SO.val rfl rfl rfl rfl (.assign rfl rfl) ?_
  refine SO.nil ?_
  refine SQ.then_normal ?_
  refine SC.seq ?_
  refine SC.drawO mixed hO4 (fun hO5 => ?_)
  refine SA.take (by kernel_rfl) 0 rfl (by kernel_rfl) (by kernel_rfl) rfl rfl (fun _ _ _ h => h) rfl hO5 (fun v hv => .move rfl rfl) ?_
  refine SA.take (by kernel_rfl) 1 rfl (by kernel_rfl) (by kernel_rfl) rfl rfl (fun _ _ _ h => h) rfl hO5 (fun v hv => .move rfl rfl) ?_
  refine SA.take (by kernel_rfl) 2 rfl (by kernel_rfl) (by kernel_rfl) rfl rfl (fun _ _ _ h => h) rfl hO5 (fun v hv => .fieldAddr rfl rfl fa177_0) ?_
  refine SA.take (by kernel_rfl) 3 rfl (by kernel_rfl) (by kernel_rfl) rfl rfl (fun _ _ _ h => h) rfl hO5 (fun v hv => .load rfl rfl ag21 (cell_of' (hv.at (i := 0) rfl) rfl)) ?_
  refine SA.take (by kernel_rfl) 5 rfl (by kernel_rfl) (by kernel_rfl) rfl rfl (fun _ _ _ h => h) rfl hO5 (fun v hv => .fieldAddr rfl rfl fa177_0) ?_
  refine SA.take (by kernel_rfl) 6 rfl (by kernel_rfl) (by kernel_rfl) rfl rfl (fun _ _ _ h => h) rfl hO5 (fun v hv => .load rfl rfl ag21 (cell_of' (hv.at (i := 0) rfl) rfl)) ?_
  refine SA.two 4 9 (by kernel_rfl) ?_ ?_
  ·
    refine SB.call rfl rfl rfl rfl (.callF rfl rfl en161) (class_any _ _ (hO5.good hG)) ?_
    rintro _ w6 ⟨rfl, hb6⟩
    have hO6 := hO5.below hb6
    refine ⟨_, rfl, hO6, ?_⟩
    refine SA.two 7 9 (by kernel_rfl) ?_ ?_
    ·
      refine SB.call rfl rfl rfl rfl (.callF rfl rfl en162) (ccells_any _ _ (hO6.good hG)) ?_
      rintro _ w7 ⟨rfl, hb7⟩
      have hO7 := hO6.below hb7
      refine ⟨_, rfl, hO7, ?_⟩
      refine SA.take (by kernel_rfl) 8 rfl (by kernel_rfl) (by kernel_rfl) rfl rfl (fun _ _ _ h => h) rfl hO7 (fun v hv => .build rfl rfl (bd138_0_1_2_3_Walk _ _ _ _)) ?_
      refine SA.one 9 (by kernel_rfl) ?_
      refine SB.alloc hO7 rfl rfl rfl rfl rfl zv138 [_, _, _, _] rfl ?_
      intro b8 w8 hb8 hO8
      refine ⟨(hO8.tail hb8), ?_⟩
      refine SA.one 10 (by kernel_rfl) ?_
      refine SB.store hO8 (j := 0) rfl rfl rfl rfl rfl rfl rfl sz138 rfl rfl [(_, .cells [_, _, _, _].toArray _ _), _, _] rfl ?_
      intro w9 hO9
      refine ⟨(hO9.tail hb8), ?_⟩
      refine SA.done (by kernel_rfl) ?_
      refine SQ.then_normal ?_
      refine SC.seq ?_
      refine SC.seq ?_
      refine SC.region ?_
      refine SO.val rfl rfl rfl rfl (.fieldAddr rfl rfl fa177_0) ?_
      refine SO.val rfl rfl rfl rfl (.load rfl rfl ag21 (cell_of' (hO9.at (i := 1) rfl) rfl)) ?_
      refine SO.val rfl rfl rfl rfl (.eql rfl rfl rfl) ?_
      refine SO.val rfl rfl rfl rfl (.move rfl rfl) ?_
      refine SO.dec 28 rfl (fun g10 => ?_) (fun g10 => ?_)
      ·
        refine SO.val rfl rfl rfl rfl (.move rfl rfl) ?_
        refine SO.val rfl rfl rfl rfl (.move rfl rfl) ?_
        refine SO.val rfl rfl rfl rfl (.add rfl rfl rfl (by omega)) ?_
        refine SO.val rfl rfl rfl rfl (.sliceL rfl rfl rfl Tryz.underlying9 (by omega)) ?_
        refine SO.call rfl rfl rfl rfl (.callF rfl rfl en163) (nlhead_any _ _) ?_
        rintro _ w11 ⟨rfl, hb11⟩
        have hO11 := hO9.below hb11
        refine ⟨_, rfl, ?_⟩
        refine SO.val rfl rfl rfl rfl (.pickT rfl rfl rfl) ?_
        refine SO.nil ?_
        refine SQ.then_normal ?_
        refine SC.dec rfl (fun c12 => ?_) (fun c12 => ?_)
        ·
          refine SC.region ?_
          refine SO.val rfl rfl rfl rfl (.fieldAddr rfl rfl fa138_2) ?_
          refine SO.store hO11 (i := 0) rfl rfl rfl rfl rfl rfl sz136 rfl rfl [(_, .cells [_, _, _, _].toArray _ _), _, _] rfl ?_
          intro w13 hO13
          refine SO.val rfl rfl rfl rfl (.fieldAddr rfl rfl fa138_3) ?_
          refine SO.store hO13 (i := 0) rfl rfl rfl rfl rfl rfl sz3 rfl rfl [(_, .cells [_, _, _, _].toArray _ _), _, _] rfl ?_
          intro w14 hO14
          refine SO.nil ?_
          refine SQ.then_normal ?_
          refine SC.seq ?_
          refine SC.region ?_
          refine SO.val rfl rfl rfl rfl (.loadB [_, _, _, _] rfl rfl ag138 sz138 (hO14.at (i := 0) rfl) rfl rfl) ?_
          refine SO.store hO14 (i := 2) rfl rfl rfl rfl rfl rfl sz138 rfl rfl [_, _, (_, .cells [_, _, _, _].toArray _ _)] rfl ?_
          intro w15 hO15
          refine SO.nil ?_
          refine SQ.then_normal ?_
          refine SC.ret ?_
          refine SQ.out (.inl rfl) (resC [_, _, _, _] rfl rfl ag138 sz138 (hO15.at (i := 2) rfl) rfl rfl) ?_
          refine ⟨?_, hO15.toBelow ⟨hb8, hb3, hb1, trivial⟩⟩
          unfold clV clCls clCells
          first | (have hc : crlf (bl s) k := ⟨by omega, by rw [← hsh]; assumption⟩; rw [if_pos hc, if_pos hc]) | (have hc : ¬ crlf (bl s) k := fun h => absurd h.1 (by omega); rw [if_neg hc, if_neg hc]) | (have hc : ¬ crlf (bl s) k := fun h => absurd h.2 (by rw [← hsh]; assumption); rw [if_neg hc, if_neg hc])
        ·
          refine SC.skip ?_
          refine SQ.then_normal ?_
          refine SC.seq ?_
          refine SC.region ?_
          refine SO.val rfl rfl rfl rfl (.loadB [_, _, _, _] rfl rfl ag138 sz138 (hO11.at (i := 0) rfl) rfl rfl) ?_
          refine SO.store hO11 (i := 2) rfl rfl rfl rfl rfl rfl sz138 rfl rfl [_, _, (_, .cells [_, _, _, _].toArray _ _)] rfl ?_
          intro w17 hO17
          refine SO.nil ?_
          refine SQ.then_normal ?_
          refine SC.ret ?_
          refine SQ.out (.inl rfl) (resC [_, _, _, _] rfl rfl ag138 sz138 (hO17.at (i := 2) rfl) rfl rfl) ?_
          refine ⟨?_, hO17.toBelow ⟨hb8, hb3, hb1, trivial⟩⟩
          unfold clV clCls clCells
          first | (have hc : crlf (bl s) k := ⟨by omega, by rw [← hsh]; assumption⟩; rw [if_pos hc, if_pos hc]) | (have hc : ¬ crlf (bl s) k := fun h => absurd h.1 (by omega); rw [if_neg hc, if_neg hc]) | (have hc : ¬ crlf (bl s) k := fun h => absurd h.2 (by rw [← hsh]; assumption); rw [if_neg hc, if_neg hc])
      ·
        refine SO.pass rfl rfl rfl ?_
        refine SO.pass rfl rfl rfl ?_
        refine SO.pass rfl rfl rfl ?_
        refine SO.pass rfl rfl rfl ?_
        refine SO.pass rfl rfl rfl ?_
        refine SO.val rfl rfl rfl rfl (.pickF rfl rfl rfl) ?_
        refine SO.nil ?_
        refine SQ.then_normal ?_
        refine SC.no rfl ?_
        refine SC.skip ?_
        refine SQ.then_normal ?_
        refine SC.seq ?_
        refine SC.region ?_
        refine SO.val rfl rfl rfl rfl (.loadB [_, _, _, _] rfl rfl ag138 sz138 (hO9.at (i := 0) rfl) rfl rfl) ?_
        refine SO.store hO9 (i := 2) rfl rfl rfl rfl rfl rfl sz138 rfl rfl [_, _, (_, .cells [_, _, _, _].toArray _ _)] rfl ?_
        intro w19 hO19
        refine SO.nil ?_
        refine SQ.then_normal ?_
        refine SC.ret ?_
        refine SQ.out (.inl rfl) (resC [_, _, _, _] rfl rfl ag138 sz138 (hO19.at (i := 2) rfl) rfl rfl) ?_
        refine ⟨?_, hO19.toBelow ⟨hb8, hb3, hb1, trivial⟩⟩
        unfold clV clCls clCells
        first | (have hc : crlf (bl s) k := ⟨by omega, by rw [← hsh]; assumption⟩; rw [if_pos hc, if_pos hc]) | (have hc : ¬ crlf (bl s) k := fun h => absurd h.1 (by omega); rw [if_neg hc, if_neg hc]) | (have hc : ¬ crlf (bl s) k := fun h => absurd h.2 (by rw [← hsh]; assumption); rw [if_neg hc, if_neg hc])
    ·
      refine SB.alloc hO6 rfl rfl rfl rfl rfl zv138 [_, _, _, _] rfl ?_
      intro b21 w21 hb21 hO21
      refine ⟨(hO21.tail hb21), ?_⟩
      refine SA.one 7 (by kernel_rfl) ?_
      refine SB.call rfl rfl rfl rfl (.callF rfl rfl en162) (ccells_any _ _ (hO21.good hG)) ?_
      rintro _ w22 ⟨rfl, hb22⟩
      have hO22 := hO21.below hb22
      refine ⟨_, rfl, (hO22.tail hb21), ?_⟩
      refine SA.take (by kernel_rfl) 8 rfl (by kernel_rfl) (by kernel_rfl) rfl rfl (fun _ _ _ h => h) rfl (hO22.tail hb21) (fun v hv => .build rfl rfl (bd138_0_1_2_3_Walk _ _ _ _)) ?_
      refine SA.one 10 (by kernel_rfl) ?_
      refine SB.store hO22 (j := 0) rfl rfl rfl rfl rfl rfl rfl sz138 rfl rfl [(_, .cells [_, _, _, _].toArray _ _), _, _] rfl ?_
      intro w23 hO23
      refine ⟨(hO23.tail hb21), ?_⟩
      refine SA.done (by kernel_rfl) ?_
      refine SQ.then_normal ?_
      refine SC.seq ?_
      refine SC.seq ?_
      refine SC.region ?_
      refine SO.val rfl rfl rfl rfl (.fieldAddr rfl rfl fa177_0) ?_
      refine SO.val rfl rfl rfl rfl (.load rfl rfl ag21 (cell_of' (hO23.at (i := 1) rfl) rfl)) ?_
      refine SO.val rfl rfl rfl rfl (.eql rfl rfl rfl) ?_
      refine SO.val rfl rfl rfl rfl (.move rfl rfl) ?_
      refine SO.dec 28 rfl (fun g24 => ?_) (fun g24 => ?_)
      ·
        refine SO.val rfl rfl rfl rfl (.move rfl rfl) ?_
        refine SO.val rfl rfl rfl rfl (.move rfl rfl) ?_
        refine SO.val rfl rfl rfl rfl (.add rfl rfl rfl (by omega)) ?_
        refine SO.val rfl rfl rfl rfl (.sliceL rfl rfl rfl Tryz.underlying9 (by omega)) ?_
        refine SO.call rfl rfl rfl rfl (.callF rfl rfl en163) (nlhead_any _ _) ?_
        rintro _ w25 ⟨rfl, hb25⟩
        have hO25 := hO23.below hb25
        refine ⟨_, rfl, ?_⟩
        refine SO.val rfl rfl rfl rfl (.pickT rfl rfl rfl) ?_
        refine SO.nil ?_
        refine SQ.then_normal ?_
        refine SC.dec rfl (fun c26 => ?_) (fun c26 => ?_)
        ·
          refine SC.region ?_
          refine SO.val rfl rfl rfl rfl (.fieldAddr rfl rfl fa138_2) ?_
          refine SO.store hO25 (i := 0) rfl rfl rfl rfl rfl rfl sz136 rfl rfl [(_, .cells [_, _, _, _].toArray _ _), _, _] rfl ?_
          intro w27 hO27
          refine SO.val rfl rfl rfl rfl (.fieldAddr rfl rfl fa138_3) ?_
          refine SO.store hO27 (i := 0) rfl rfl rfl rfl rfl rfl sz3 rfl rfl [(_, .cells [_, _, _, _].toArray _ _), _, _] rfl ?_
          intro w28 hO28
          refine SO.nil ?_
          refine SQ.then_normal ?_
          refine SC.seq ?_
          refine SC.region ?_
          refine SO.val rfl rfl rfl rfl (.loadB [_, _, _, _] rfl rfl ag138 sz138 (hO28.at (i := 0) rfl) rfl rfl) ?_
          refine SO.store hO28 (i := 2) rfl rfl rfl rfl rfl rfl sz138 rfl rfl [_, _, (_, .cells [_, _, _, _].toArray _ _)] rfl ?_
          intro w29 hO29
          refine SO.nil ?_
          refine SQ.then_normal ?_
          refine SC.ret ?_
          refine SQ.out (.inl rfl) (resC [_, _, _, _] rfl rfl ag138 sz138 (hO29.at (i := 2) rfl) rfl rfl) ?_
          refine ⟨?_, hO29.toBelow ⟨hb21, hb3, hb1, trivial⟩⟩
          unfold clV clCls clCells
          first | (have hc : crlf (bl s) k := ⟨by omega, by rw [← hsh]; assumption⟩; rw [if_pos hc, if_pos hc]) | (have hc : ¬ crlf (bl s) k := fun h => absurd h.1 (by omega); rw [if_neg hc, if_neg hc]) | (have hc : ¬ crlf (bl s) k := fun h => absurd h.2 (by rw [← hsh]; assumption); rw [if_neg hc, if_neg hc])
        ·
          refine SC.skip ?_
          refine SQ.then_normal ?_
          refine SC.seq ?_
          refine SC.region ?_
          refine SO.val rfl rfl rfl rfl (.loadB [_, _, _, _] rfl rfl ag138 sz138 (hO25.at (i := 0) rfl) rfl rfl) ?_
          refine SO.store hO25 (i := 2) rfl rfl rfl rfl rfl rfl sz138 rfl rfl [_, _, (_, .cells [_, _, _, _].toArray _ _)] rfl ?_
          intro w31 hO31
          refine SO.nil ?_
          refine SQ.then_normal ?_
          refine SC.ret ?_
          refine SQ.out (.inl rfl) (resC [_, _, _, _] rfl rfl ag138 sz138 (hO31.at (i := 2) rfl) rfl rfl) ?_
          refine ⟨?_, hO31.toBelow ⟨hb21, hb3, hb1, trivial⟩⟩
          unfold clV clCls clCells
          first | (have hc : crlf (bl s) k := ⟨by omega, by rw [← hsh]; assumption⟩; rw [if_pos hc, if_pos hc]) | (have hc : ¬ crlf (bl s) k := fun h => absurd h.1 (by omega); rw [if_neg hc, if_neg hc]) | (have hc : ¬ crlf (bl s) k := fun h => absurd h.2 (by rw [← hsh]; assumption); rw [if_neg hc, if_neg hc])
      ·
        refine SO.pass rfl rfl rfl ?_
        refine SO.pass rfl rfl rfl ?_
        refine SO.pass rfl rfl rfl ?_
        refine SO.pass rfl rfl rfl ?_
        refine SO.pass rfl rfl rfl ?_
        refine SO.val rfl rfl rfl rfl (.pickF rfl rfl rfl) ?_
        refine SO.nil ?_
        refine SQ.then_normal ?_
        refine SC.no rfl ?_
        refine SC.skip ?_
        refine SQ.then_normal ?_
        refine SC.seq ?_
        refine SC.region ?_
        refine SO.val rfl rfl rfl rfl (.loadB [_, _, _, _] rfl rfl ag138 sz138 (hO23.at (i := 0) rfl) rfl rfl) ?_
        refine SO.store hO23 (i := 2) rfl rfl rfl rfl rfl rfl sz138 rfl rfl [_, _, (_, .cells [_, _, _, _].toArray _ _)] rfl ?_
        intro w33 hO33
        refine SO.nil ?_
        refine SQ.then_normal ?_
        refine SC.ret ?_
        refine SQ.out (.inl rfl) (resC [_, _, _, _] rfl rfl ag138 sz138 (hO33.at (i := 2) rfl) rfl rfl) ?_
        refine ⟨?_, hO33.toBelow ⟨hb21, hb3, hb1, trivial⟩⟩
        unfold clV clCls clCells
        first | (have hc : crlf (bl s) k := ⟨by omega, by rw [← hsh]; assumption⟩; rw [if_pos hc, if_pos hc]) | (have hc : ¬ crlf (bl s) k := fun h => absurd h.1 (by omega); rw [if_neg hc, if_neg hc]) | (have hc : ¬ crlf (bl s) k := fun h => absurd h.2 (by rw [← hsh]; assumption); rw [if_neg hc, if_neg hc])
  ·
    refine SB.alloc hO5 rfl rfl rfl rfl rfl zv138 [_, _, _, _] rfl ?_
    intro b35 w35 hb35 hO35
    refine ⟨(hO35.tail hb35), ?_⟩
    refine SA.one 4 (by kernel_rfl) ?_
    refine SB.call rfl rfl rfl rfl (.callF rfl rfl en161) (class_any _ _ (hO35.good hG)) ?_
    rintro _ w36 ⟨rfl, hb36⟩
    have hO36 := hO35.below hb36
    refine ⟨_, rfl, (hO36.tail hb35), ?_⟩
    refine SA.one 7 (by kernel_rfl) ?_
    refine SB.call rfl rfl rfl rfl (.callF rfl rfl en162) (ccells_any _ _ (hO36.good hG)) ?_
    rintro _ w37 ⟨rfl, hb37⟩
    have hO37 := hO36.below hb37
    refine ⟨_, rfl, (hO37.tail hb35), ?_⟩
    refine SA.take (by kernel_rfl) 8 rfl (by kernel_rfl) (by kernel_rfl) rfl rfl (fun _ _ _ h => h) rfl (hO37.tail hb35) (fun v hv => .build rfl rfl (bd138_0_1_2_3_Walk _ _ _ _)) ?_
    refine SA.one 10 (by kernel_rfl) ?_
    refine SB.store hO37 (j := 0) rfl rfl rfl rfl rfl rfl rfl sz138 rfl rfl [(_, .cells [_, _, _, _].toArray _ _), _, _] rfl ?_
    intro w38 hO38
    refine ⟨(hO38.tail hb35), ?_⟩
    refine SA.done (by kernel_rfl) ?_
    refine SQ.then_normal ?_
    refine SC.seq ?_
    refine SC.seq ?_
    refine SC.region ?_
    refine SO.val rfl rfl rfl rfl (.fieldAddr rfl rfl fa177_0) ?_
    refine SO.val rfl rfl rfl rfl (.load rfl rfl ag21 (cell_of' (hO38.at (i := 1) rfl) rfl)) ?_
    refine SO.val rfl rfl rfl rfl (.eql rfl rfl rfl) ?_
    refine SO.val rfl rfl rfl rfl (.move rfl rfl) ?_
    refine SO.dec 28 rfl (fun g39 => ?_) (fun g39 => ?_)
    ·
      refine SO.val rfl rfl rfl rfl (.move rfl rfl) ?_
      refine SO.val rfl rfl rfl rfl (.move rfl rfl) ?_
      refine SO.val rfl rfl rfl rfl (.add rfl rfl rfl (by omega)) ?_
      refine SO.val rfl rfl rfl rfl (.sliceL rfl rfl rfl Tryz.underlying9 (by omega)) ?_
      refine SO.call rfl rfl rfl rfl (.callF rfl rfl en163) (nlhead_any _ _) ?_
      rintro _ w40 ⟨rfl, hb40⟩
      have hO40 := hO38.below hb40
      refine ⟨_, rfl, ?_⟩
      refine SO.val rfl rfl rfl rfl (.pickT rfl rfl rfl) ?_
      refine SO.nil ?_
      refine SQ.then_normal ?_
      refine SC.dec rfl (fun c41 => ?_) (fun c41 => ?_)
      ·
        refine SC.region ?_
        refine SO.val rfl rfl rfl rfl (.fieldAddr rfl rfl fa138_2) ?_
        refine SO.store hO40 (i := 0) rfl rfl rfl rfl rfl rfl sz136 rfl rfl [(_, .cells [_, _, _, _].toArray _ _), _, _] rfl ?_
        intro w42 hO42
        refine SO.val rfl rfl rfl rfl (.fieldAddr rfl rfl fa138_3) ?_
        refine SO.store hO42 (i := 0) rfl rfl rfl rfl rfl rfl sz3 rfl rfl [(_, .cells [_, _, _, _].toArray _ _), _, _] rfl ?_
        intro w43 hO43
        refine SO.nil ?_
        refine SQ.then_normal ?_
        refine SC.seq ?_
        refine SC.region ?_
        refine SO.val rfl rfl rfl rfl (.loadB [_, _, _, _] rfl rfl ag138 sz138 (hO43.at (i := 0) rfl) rfl rfl) ?_
        refine SO.store hO43 (i := 2) rfl rfl rfl rfl rfl rfl sz138 rfl rfl [_, _, (_, .cells [_, _, _, _].toArray _ _)] rfl ?_
        intro w44 hO44
        refine SO.nil ?_
        refine SQ.then_normal ?_
        refine SC.ret ?_
        refine SQ.out (.inl rfl) (resC [_, _, _, _] rfl rfl ag138 sz138 (hO44.at (i := 2) rfl) rfl rfl) ?_
        refine ⟨?_, hO44.toBelow ⟨hb35, hb3, hb1, trivial⟩⟩
        unfold clV clCls clCells
        first | (have hc : crlf (bl s) k := ⟨by omega, by rw [← hsh]; assumption⟩; rw [if_pos hc, if_pos hc]) | (have hc : ¬ crlf (bl s) k := fun h => absurd h.1 (by omega); rw [if_neg hc, if_neg hc]) | (have hc : ¬ crlf (bl s) k := fun h => absurd h.2 (by rw [← hsh]; assumption); rw [if_neg hc, if_neg hc])
      ·
        refine SC.skip ?_
        refine SQ.then_normal ?_
        refine SC.seq ?_
        refine SC.region ?_
        refine SO.val rfl rfl rfl rfl (.loadB [_, _, _, _] rfl rfl ag138 sz138 (hO40.at (i := 0) rfl) rfl rfl) ?_
        refine SO.store hO40 (i := 2) rfl rfl rfl rfl rfl rfl sz138 rfl rfl [_, _, (_, .cells [_, _, _, _].toArray _ _)] rfl ?_
        intro w46 hO46
        refine SO.nil ?_
        refine SQ.then_normal ?_
        refine SC.ret ?_
        refine SQ.out (.inl rfl) (resC [_, _, _, _] rfl rfl ag138 sz138 (hO46.at (i := 2) rfl) rfl rfl) ?_
        refine ⟨?_, hO46.toBelow ⟨hb35, hb3, hb1, trivial⟩⟩
        unfold clV clCls clCells
        first | (have hc : crlf (bl s) k := ⟨by omega, by rw [← hsh]; assumption⟩; rw [if_pos hc, if_pos hc]) | (have hc : ¬ crlf (bl s) k := fun h => absurd h.1 (by omega); rw [if_neg hc, if_neg hc]) | (have hc : ¬ crlf (bl s) k := fun h => absurd h.2 (by rw [← hsh]; assumption); rw [if_neg hc, if_neg hc])
    ·
      refine SO.pass rfl rfl rfl ?_
      refine SO.pass rfl rfl rfl ?_
      refine SO.pass rfl rfl rfl ?_
      refine SO.pass rfl rfl rfl ?_
      refine SO.pass rfl rfl rfl ?_
      refine SO.val rfl rfl rfl rfl (.pickF rfl rfl rfl) ?_
      refine SO.nil ?_
      refine SQ.then_normal ?_
      refine SC.no rfl ?_
      refine SC.skip ?_
      refine SQ.then_normal ?_
      refine SC.seq ?_
      refine SC.region ?_
      refine SO.val rfl rfl rfl rfl (.loadB [_, _, _, _] rfl rfl ag138 sz138 (hO38.at (i := 0) rfl) rfl rfl) ?_
      refine SO.store hO38 (i := 2) rfl rfl rfl rfl rfl rfl sz138 rfl rfl [_, _, (_, .cells [_, _, _, _].toArray _ _)] rfl ?_
      intro w48 hO48
      refine SO.nil ?_
      refine SQ.then_normal ?_
      refine SC.ret ?_
      refine SQ.out (.inl rfl) (resC [_, _, _, _] rfl rfl ag138 sz138 (hO48.at (i := 2) rfl) rfl rfl) ?_
      refine ⟨?_, hO48.toBelow ⟨hb35, hb3, hb1, trivial⟩⟩
      unfold clV clCls clCells
      first | (have hc : crlf (bl s) k := ⟨by omega, by rw [← hsh]; assumption⟩; rw [if_pos hc, if_pos hc]) | (have hc : ¬ crlf (bl s) k := fun h => absurd h.1 (by omega); rw [if_neg hc, if_neg hc]) | (have hc : ¬ crlf (bl s) k := fun h => absurd h.2 (by rw [← hsh]; assumption); rw [if_neg hc, if_neg hc])

set_option maxRecDepth 20000 in
set_option maxHeartbeats 400000 in
def boxS (s : ByteArray) : Obj := .cells #[.string s] 9 (0, 0)
theorem walk_any (s : ByteArray) (w : World) (hG : Good w) :
    Calls Tryz.prog 76 #[.string s] w fun e w' => ∃ b : Nat, e = .returned (.func (.func 136) #[] #[.pointer (some ⟨b, 0, none⟩)]) ∧ w.heap.size ≤ b ∧ w'.heap[b]? = some (boxS s) ∧ Below w.heap.size w w' := by
  have hO0 := Own.start hG
  refine enter Tryz.func76 rfl rfl rfl 0 ?_
  refine SC.seq ?_
  refine SC.region ?_
  refine SO.box hO0 rfl rfl rfl rfl rfl [_] rfl ?_
  intro b1 w1 hb1 hO1
  refine SO.val rfl rfl rfl rfl (.assign rfl rfl) ?_
  refine SO.nil ?_
  refine SQ.then_normal ?_
  refine SC.seq ?_
  refine SC.region ?_
  refine SO.val rfl rfl rfl rfl (.makeFunc rfl rfl) ?_
  refine SO.val rfl rfl rfl rfl (.assign rfl rfl) ?_
  refine SO.nil ?_
  refine SQ.then_normal ?_
  refine SC.ret ?_
  refine SQ.out (.inl rfl) (res1 rfl rfl) ?_
  exact ⟨b1, rfl, hb1, hO1.at (i := 0) rfl, hO1.toBelow ⟨hb1, trivial⟩⟩

/-- What a round must keep for the walk's sake. -/
def KpW (bs : Nat) (o : Obj) (A B : World) : Prop := (A.heap[bs]? = some o → B.heap[bs]? = some o) ∧ (Good A → Good B)
theorem KpW.trans {bs : Nat} {o : Obj} {A B C : World} (h : KpW bs o A B) (k : KpW bs o B C) : KpW bs o A C := ⟨fun x => k.1 (h.1 x), fun x => k.2 (h.2 x)⟩
theorem abides_below {β : Type} {B : Nat} {J : β → World → Prop} (h : AbidesFrom B J) {s : β} {W W' : World} (hs : J s W) (hb : Below W.heap.size W W') : J s W' :=
  h s W W' none hs ⟨hb.os, hb.tape, hb.output, hb.size, fun k hk _ => hb.block k hk⟩ (fun _ e => by cases e)

theorem cnext_at (s : ByteArray) (k : Nat) (w : World) (hG : Good w) (hz : s.size ≤ 4611686018427387904) :
    Calls Tryz.prog 30 #[.string s, .int .i64 k] w fun e w' => e = .returned (.int .i64 (cNext (bl s) k)) ∧ Below w.heap.size w w' := by
  have := cnext_any s k w hG hz
  unfold cNextI at this
  rwa [if_neg (by omega), Int.toNat_natCast] at this

set_option maxRecDepth 20000 in
set_option maxHeartbeats 400000 in
theorem walk_stops (s : ByteArray) (bs n : Nat) (w : World) (hG0 : Good w) (hz : s.size ≤ 4611686018427387904) (hB0 : w.heap[bs]? = some (boxS s)) :
    SeqStopsK (Fc none) n Tryz.prog 136 #[.pointer (some ⟨bs, 0, none⟩)] (fun c => [clV (bl s) c].toArray) (KpW bs (boxS s)) (fun xs => xs = clusters (bl s)) (fun pre => ∃ r, pre ++ r = clusters (bl s)) (clusters (bl s)).length w := by
  intro l J Jx W hbW hJ hJx hY h0
  have hG : Good W := hG0.ext hbW
  have hB : W.heap[bs]? = some (boxS s) := (hbW.block bs (lt_of_heap hB0)).trans hB0
  have hO0 := Own.start hG
  refine enterIn (args := [.func (.yield l) #[] #[], .pointer (some ⟨bs, 0, none⟩)]) Tryz.func136 rfl rfl rfl ?_
  refine SC.seq ?_
  refine SC.region ?_
  refine SO.val rfl rfl rfl rfl (.assign rfl rfl) ?_
  refine SO.nil ?_
  refine SQ.then_normal ?_
  refine SC.block ?_
  refine SC.loop (α := List (Nat × Nat) × Nat) (fun x => [(0, .func (.yield l) #[] #[]), (1, .pointer (some ⟨bs, 0, none⟩)), (3, .int .i64 (x.2 : Int))]) (fun x v => x.1 ++ clFrom (bl s) x.2 = clusters (bl s) ∧ x.2 ≤ (bl s).length ∧ UB (bl s) x.2 ∧ J x.1 v ∧ Good v ∧ v.heap[bs]? = some (boxS s)) (fun x => (bl s).length - x.2) ([], 0) ?_ ?_ ?_
  · exact ⟨rfl, rfl, rfl, trivial⟩
  · exact ⟨rfl, by omega, UB.zero _, h0, hG, hB⟩
  rintro ⟨pre, j⟩ w1 ⟨hpre, hjl, hjb, hJp, hGv, hBv⟩
  simp only at hpre hjl hjb hJp
  have hO1 := Own.start hGv
  refine SC.seq ?_
  refine SC.seq ?_
  refine SC.region ?_
  refine SO.val rfl rfl rfl rfl (.move rfl rfl) ?_
  refine SO.val rfl rfl rfl rfl (.load rfl rfl ag9 (cell_of' (hO1.heapO trivial hBv) rfl)) ?_
  refine SO.val rfl rfl rfl rfl (.lenS rfl rfl Tryz.underlying9) ?_
  refine SO.val rfl rfl rfl rfl (.lss rfl rfl rfl) ?_
  refine SO.nil ?_
  refine SQ.then_normal ?_
  refine SC.dec rfl (fun c2 => ?_) (fun c2 => ?_)
  ·
    have hk : j < s.size := by omega
    have hkl : j < (bl s).length := hk
    obtain ⟨u1, u2, u3, u4⟩ := cNext_spec hkl
    rw [clFrom_cons hkl] at hpre
    refine SC.skip ?_
    refine SQ.then_normal ?_
    refine SC.block ?_
    refine SC.seq ?_
    refine SC.region ?_
    refine SO.val rfl rfl rfl rfl (.load rfl rfl ag9 (cell_of' (hO1.heapO trivial hBv) rfl)) ?_
    refine SO.val rfl rfl rfl rfl (.move rfl rfl) ?_
    refine SO.call rfl rfl rfl rfl (.callF rfl rfl en30) (cnext_at _ _ _ (hO1.good hGv) hz) ?_
    rintro _ w3 ⟨rfl, hb3⟩
    have hO3 := hO1.below hb3
    refine ⟨_, rfl, ?_⟩
    refine SO.val rfl rfl rfl rfl (.assign rfl rfl) ?_
    refine SO.nil ?_
    refine SQ.then_normal ?_
    refine SC.seq ?_
    refine SC.seq ?_
    refine SC.region ?_
    refine SO.val rfl rfl rfl rfl (.move rfl rfl) ?_
    refine SO.val rfl rfl rfl rfl (.load rfl rfl ag9 (cell_of' (hO3.heapO trivial hBv) rfl)) ?_
    refine SO.val rfl rfl rfl rfl (.move rfl rfl) ?_
    refine SO.val rfl rfl rfl rfl (.move rfl rfl) ?_
    refine SO.call rfl rfl rfl rfl (.callF rfl rfl en137) (made_any _ _ _ _ (hO3.good hGv) hz hk hjb) ?_
    rintro _ w4 ⟨rfl, hb4⟩
    have hO4 := hO3.below hb4
    refine ⟨_, rfl, ?_⟩
    have hJn := abides_below hJ hJp (hO4.toBelow trivial)
    have hGn := hO4.good hGv
    have hBn := hO4.heapO trivial hBv
    refine SO.yield rfl rfl rfl rfl rfl rfl (hY pre (j, cNext (bl s) j) _ hJn (by rw [← hpre]; simp)) ?_
    rintro _ w5 (⟨rfl, hJ2, hK2⟩ | ⟨rfl, hJ2⟩)
    ·
      refine ⟨_, rfl, ?_⟩
      have hG2 := hK2.2 hGn
      have hB2 := hK2.1 hBn
      have hO5 := Own.start hG2
      refine SO.val rfl rfl rfl rfl (.not rfl rfl) ?_
      refine SO.nil ?_
      refine SQ.then_normal ?_
      refine SC.no rfl ?_
      refine SC.skip ?_
      refine SQ.then_normal ?_
      refine SC.region ?_
      refine SO.val rfl rfl rfl rfl (.move rfl rfl) ?_
      refine SO.val rfl rfl rfl rfl (.assign rfl rfl) ?_
      refine SO.nil ?_
      refine SQ.block_normal ?_
      refine SQ.round (pre ++ [(j, cNext (bl s) j)], cNext (bl s) j) (by simp only; omega) ⟨rfl, rfl, rfl, trivial⟩ ⟨by simpa using hpre, u2, u3.ub, hJ2, hG2, hB2⟩
    ·
      refine ⟨_, rfl, ?_⟩
      refine SO.val rfl rfl rfl rfl (.not rfl rfl) ?_
      refine SO.nil ?_
      refine SQ.then_normal ?_
      refine SC.yes rfl ?_
      refine SC.ret ?_
      refine SQ.then_ret ?_
      refine SQ.block_ret ?_
      refine SQ.then_ret ?_
      refine SQ.block_ret ?_
      refine SQ.out (.inl rfl) (res0 rfl) ?_
      first | exact ⟨⟨_, rfl⟩, .inl ⟨pre, hlast, hJp⟩⟩ | exact ⟨⟨_, rfl⟩, .inr ⟨_, ⟨_, by simpa using hpre⟩, hJ2⟩⟩
  ·
    have hlast : pre = clusters (bl s) := by
      rw [clFrom_nil (by rw [bl_length]; omega)] at hpre; simpa using hpre
    refine SC.exit ?_
    refine SQ.then_exit ?_
    refine SQ.then_exit ?_
    refine SQ.block_exit ?_
    refine SQ.out (.inr rfl) (res0 rfl) ?_
    first | exact ⟨⟨_, rfl⟩, .inl ⟨pre, hlast, hJp⟩⟩ | exact ⟨⟨_, rfl⟩, .inr ⟨_, ⟨_, by simpa using hpre⟩, hJ2⟩⟩

end Go.Proofs.YtclgplkkajfenaaGreatDoor
