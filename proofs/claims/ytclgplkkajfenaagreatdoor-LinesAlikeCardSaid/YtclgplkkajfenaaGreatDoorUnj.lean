/- unit.Boundary, At, Down, Prev, Next. -/
import Derived.Test.YtclgplkkajfenaaGreatDoorUni
namespace Go.Proofs.YtclgplkkajfenaaGreatDoor
open Go Go.RowKit Ow
theorem first_int (s : ByteArray) (i : Int) (w : World) (hG : Good w) (h0 : 0 ≤ i) (hi : i < s.size) :
    Calls Tryz.prog 159 #[.string (s.extract i.toNat s.size)] w fun e w' => e = .returned (.agg #[.int .i32 (uch ((bl s).drop i.toNat)), .int .i64 (usz ((bl s).drop i.toNat) : Nat)]) ∧ Below w.heap.size w w' := by
  obtain ⟨n, rfl⟩ := Int.eq_ofNat_of_zero_le h0
  exact first_at s n w hG (by omega)
/-- Is there a boundary of units at i? -/
def uBd (l : Bs) (i : Int) : Prop := 0 ≤ i ∧ i ≤ l.length ∧ uDown l i.toNat = i.toNat
instance (l : Bs) (i : Int) : Decidable (uBd l i) := by unfold uBd; infer_instance
theorem around_at (s : ByteArray) (i : Int) (w : World) (hG : Good w) (h0 : 0 ≤ i) (hi : i ≤ s.size) (hz : s.size ≤ 4611686018427387904) :
    Calls Tryz.prog 144 #[.string s, .int .i64 i] w fun e w' => e = .returned (.tuple #[.int .i64 (uDown (bl s) i.toNat), .int .i64 (uEnd (bl s) i.toNat)]) ∧ Below w.heap.size w w' := by
  obtain ⟨n, rfl⟩ := Int.eq_ofNat_of_zero_le h0
  exact around_any s n w hG (by omega) hz
/-- The clamp of a number. -/
def clamp (l : Bs) (i : Int) : Nat := (min (max i 0) (l.length : Int)).toNat
def uPrev (l : Bs) (i : Int) : Nat := if i ≤ 0 then 0 else uDown l (min (i - 1) (l.length : Int)).toNat
def uNext (l : Bs) (i : Int) : Nat := if i < 0 then 0 else uEnd l (min i (l.length : Int)).toNat
def uAt (l : Bs) (i : Int) : Prop := uBd l i ∧ i < l.length
instance (l : Bs) (i : Int) : Decidable (uAt l i) := by unfold uAt; infer_instance
def atCh (l : Bs) (i : Int) : Int := if uAt l i then uch (l.drop i.toNat) else 0
def atSz (l : Bs) (i : Int) : Nat := if uAt l i then usz (l.drop i.toNat) else 0

set_option maxRecDepth 20000 in
set_option maxHeartbeats 400000 in
theorem boundary_at (s : ByteArray) (i : Int) (w : World) (hG : Good w) (hz : s.size ≤ 4611686018427387904) :
    Calls Tryz.prog 130 #[.string s, .int .i64 i] w fun e w' => e = .returned (.bool (decide (uBd (bl s) i))) ∧ Below w.heap.size w w' := by
  have hO0 := Own.start hG
  refine enter Tryz.func130 rfl rfl rfl 0 ?_
  refine SC.seq ?_
  refine SC.region ?_
  refine SO.val rfl rfl rfl rfl (.assign rfl rfl) ?_
  refine SO.nil ?_
  refine SQ.then_normal ?_
  refine SC.seq ?_
  refine SC.seq ?_
  refine SC.region ?_
  refine SO.val rfl rfl rfl rfl (.move rfl rfl) ?_
  refine SO.val rfl rfl rfl rfl (.lss rfl rfl rfl) ?_
  refine SO.val rfl rfl rfl rfl (.move rfl rfl) ?_
  refine SO.dec 9 rfl (fun g1 => ?_) (fun g1 => ?_)
  ·
    refine SO.pass rfl rfl rfl ?_
    refine SO.pass rfl rfl rfl ?_
    refine SO.pass rfl rfl rfl ?_
    refine SO.pass rfl rfl rfl ?_
    refine SO.val rfl rfl rfl rfl (.pickT rfl rfl rfl) ?_
    refine SO.nil ?_
    refine SQ.then_normal ?_
    refine SC.yes rfl ?_
    refine SC.seq ?_
    refine SC.region ?_
    refine SO.val rfl rfl rfl rfl (.assign rfl rfl) ?_
    refine SO.nil ?_
    refine SQ.then_normal ?_
    refine SC.ret ?_
    refine SQ.then_ret ?_
    refine SQ.out (.inl rfl) (res1 rfl rfl) ?_
    refine ⟨?_, hO0.toBelow trivial⟩
    first | (rw [decide_eq_false (by unfold uBd; rw [bl_length]; omega)]) | (congr 2; exact decide_eq_decide.2 (by unfold uBd; rw [bl_length]; omega))
  ·
    refine SO.val rfl rfl rfl rfl (.move rfl rfl) ?_
    refine SO.val rfl rfl rfl rfl (.move rfl rfl) ?_
    refine SO.val rfl rfl rfl rfl (.lenS rfl rfl Tryz.underlying9) ?_
    refine SO.val rfl rfl rfl rfl (.gtr rfl rfl rfl) ?_
    refine SO.val rfl rfl rfl rfl (.pickF rfl rfl rfl) ?_
    refine SO.nil ?_
    refine SQ.then_normal ?_
    refine SC.dec rfl (fun c3 => ?_) (fun c3 => ?_)
    ·
      refine SC.seq ?_
      refine SC.region ?_
      refine SO.val rfl rfl rfl rfl (.assign rfl rfl) ?_
      refine SO.nil ?_
      refine SQ.then_normal ?_
      refine SC.ret ?_
      refine SQ.then_ret ?_
      refine SQ.out (.inl rfl) (res1 rfl rfl) ?_
      refine ⟨?_, hO0.toBelow trivial⟩
      first | (rw [decide_eq_false (by unfold uBd; rw [bl_length]; omega)]) | (congr 2; exact decide_eq_decide.2 (by unfold uBd; rw [bl_length]; omega))
    ·
      refine SC.skip ?_
      refine SQ.then_normal ?_
      refine SC.seq ?_
      refine SC.region ?_
      refine SO.val rfl rfl rfl rfl (.move rfl rfl) ?_
      refine SO.val rfl rfl rfl rfl (.move rfl rfl) ?_
      refine SO.call rfl rfl rfl rfl (.callF rfl rfl en144) (around_at _ _ _ (hO0.good hG) (by omega) (by omega) hz) ?_
      rintro _ w5 ⟨rfl, hb5⟩
      have hO5 := hO0.below hb5
      refine ⟨_, rfl, ?_⟩
      refine SO.val rfl rfl rfl rfl (.move rfl rfl) ?_
      refine SO.val rfl rfl rfl rfl (.extract rfl rfl rfl) ?_
      refine SO.val rfl rfl rfl rfl (.extract rfl rfl rfl) ?_
      refine SO.val rfl rfl rfl rfl (.assign rfl rfl) ?_
      refine SO.val rfl rfl rfl rfl (.assign rfl rfl) ?_
      refine SO.nil ?_
      refine SQ.then_normal ?_
      refine SC.seq ?_
      refine SC.region ?_
      refine SO.val rfl rfl rfl rfl (.move rfl rfl) ?_
      refine SO.val rfl rfl rfl rfl (.move rfl rfl) ?_
      refine SO.val rfl rfl rfl rfl (.eql rfl rfl rfl) ?_
      refine SO.val rfl rfl rfl rfl (.assign rfl rfl) ?_
      refine SO.nil ?_
      refine SQ.then_normal ?_
      refine SC.ret ?_
      refine SQ.out (.inl rfl) (res1 rfl rfl) ?_
      refine ⟨?_, hO5.toBelow trivial⟩
      first | (rw [decide_eq_false (by unfold uBd; rw [bl_length]; omega)]) | (congr 2; exact decide_eq_decide.2 (by unfold uBd; rw [bl_length]; omega))

theorem bd177_z_Unj  : ∀ w, (Instr.build 177 [].toArray).run Tryz.prog w = .ok (.agg [.int .i32 0, .int .i64 0].toArray) w := fun _ => by kernel_rfl
set_option maxRecDepth 20000 in
set_option maxHeartbeats 400000 in
theorem at_any (s : ByteArray) (i : Int) (w : World) (hG : Good w) (hz : s.size ≤ 4611686018427387904) :
    Calls Tryz.prog 131 #[.string s, .int .i64 i] w fun e w' => e = .returned (.tuple #[.agg #[.int .i32 (atCh (bl s) i), .int .i64 (atSz (bl s) i)], .bool (decide (uAt (bl s) i))]) ∧ Below w.heap.size w w' := by
  have hO0 := Own.start hG
  refine enter Tryz.func131 rfl rfl rfl 0 ?_
  refine SC.seq ?_
  refine SC.region ?_
  refine SO.alloc hO0 rfl rfl rfl rfl zv177 [_, _] rfl ?_
  intro b1 w1 hb1 hO1
  refine SO.val rfl rfl rfl rfl (.assign rfl rfl) ?_
  refine SO.nil ?_
  refine SQ.then_normal ?_
  refine SC.seq ?_
  refine SC.seq ?_
  refine SC.region ?_
  refine SO.val rfl rfl rfl rfl (.move rfl rfl) ?_
  refine SO.val rfl rfl rfl rfl (.lss rfl rfl rfl) ?_
  refine SO.val rfl rfl rfl rfl (.move rfl rfl) ?_
  refine SO.dec 8 rfl (fun g2 => ?_) (fun g2 => ?_)
  ·
    refine SO.pass rfl rfl rfl ?_
    refine SO.pass rfl rfl rfl ?_
    refine SO.pass rfl rfl rfl ?_
    refine SO.pass rfl rfl rfl ?_
    refine SO.val rfl rfl rfl rfl (.pickT rfl rfl rfl) ?_
    refine SO.val rfl rfl rfl rfl (.move rfl rfl) ?_
    refine SO.pass rfl rfl rfl ?_
    refine SO.pass rfl rfl rfl ?_
    refine SO.pass rfl rfl rfl ?_
    refine SO.pass rfl rfl rfl ?_
    refine SO.val rfl rfl rfl rfl (.pickT rfl rfl rfl) ?_
    refine SO.nil ?_
    refine SQ.then_normal ?_
    refine SC.yes rfl ?_
    refine SC.seq ?_
    refine SC.region ?_
    refine SO.val rfl rfl rfl rfl (.build rfl rfl (bd177_z_Unj)) ?_
    refine SO.store hO1 (i := 0) rfl rfl rfl rfl rfl rfl sz177 rfl rfl [(_, .cells [_, _].toArray _ _)] rfl ?_
    intro w3 hO3
    refine SO.val rfl rfl rfl rfl (.assign rfl rfl) ?_
    refine SO.nil ?_
    refine SQ.then_normal ?_
    refine SC.ret ?_
    refine SQ.then_ret ?_
    refine SQ.out (.inl rfl) (resCT [_, _] rfl rfl rfl ag177 sz177 (hO3.at (i := 0) rfl) rfl rfl) ?_
    refine ⟨?_, hO3.toBelow ⟨hb1, trivial⟩⟩
    unfold atCh atSz
    first | rfl | (rw [if_pos hA, if_pos hA, decide_eq_true hA]) | (have hA : ¬ uAt (bl s) i := (by unfold uAt uBd at *; rw [bl_length] at *; omega); rw [if_neg hA, if_neg hA, decide_eq_false hA]; rfl)
  ·
    refine SO.val rfl rfl rfl rfl (.move rfl rfl) ?_
    refine SO.val rfl rfl rfl rfl (.move rfl rfl) ?_
    refine SO.val rfl rfl rfl rfl (.lenS rfl rfl Tryz.underlying9) ?_
    refine SO.val rfl rfl rfl rfl (.geq rfl rfl rfl) ?_
    refine SO.val rfl rfl rfl rfl (.pickF rfl rfl rfl) ?_
    refine SO.val rfl rfl rfl rfl (.move rfl rfl) ?_
    refine SO.dec 14 rfl (fun g5 => ?_) (fun g5 => ?_)
    ·
      refine SO.pass rfl rfl rfl ?_
      refine SO.pass rfl rfl rfl ?_
      refine SO.pass rfl rfl rfl ?_
      refine SO.pass rfl rfl rfl ?_
      refine SO.val rfl rfl rfl rfl (.pickT rfl rfl rfl) ?_
      refine SO.nil ?_
      refine SQ.then_normal ?_
      refine SC.yes rfl ?_
      refine SC.seq ?_
      refine SC.region ?_
      refine SO.val rfl rfl rfl rfl (.build rfl rfl (bd177_z_Unj)) ?_
      refine SO.store hO1 (i := 0) rfl rfl rfl rfl rfl rfl sz177 rfl rfl [(_, .cells [_, _].toArray _ _)] rfl ?_
      intro w6 hO6
      refine SO.val rfl rfl rfl rfl (.assign rfl rfl) ?_
      refine SO.nil ?_
      refine SQ.then_normal ?_
      refine SC.ret ?_
      refine SQ.then_ret ?_
      refine SQ.out (.inl rfl) (resCT [_, _] rfl rfl rfl ag177 sz177 (hO6.at (i := 0) rfl) rfl rfl) ?_
      refine ⟨?_, hO6.toBelow ⟨hb1, trivial⟩⟩
      unfold atCh atSz
      first | rfl | (rw [if_pos hA, if_pos hA, decide_eq_true hA]) | (have hA : ¬ uAt (bl s) i := (by unfold uAt uBd at *; rw [bl_length] at *; omega); rw [if_neg hA, if_neg hA, decide_eq_false hA]; rfl)
    ·
      refine SO.val rfl rfl rfl rfl (.move rfl rfl) ?_
      refine SO.val rfl rfl rfl rfl (.move rfl rfl) ?_
      refine SO.call rfl rfl rfl rfl (.callF rfl rfl en130) (boundary_at _ _ _ (hO1.good hG) hz) ?_
      rintro _ w8 ⟨rfl, hb8⟩
      have hO8 := hO1.below hb8
      refine ⟨_, rfl, ?_⟩
      first | refine SO.val rfl rfl rfl rfl (.notD rfl rfl) ?_ | refine SO.val rfl rfl rfl rfl (.not rfl rfl) ?_
      refine SO.val rfl rfl rfl rfl (.pickF rfl rfl rfl) ?_
      refine SO.nil ?_
      refine SQ.then_normal ?_
      refine SC.dec rfl (fun c9 => ?_) (fun c9 => ?_)
      ·
        refine SC.seq ?_
        refine SC.region ?_
        refine SO.val rfl rfl rfl rfl (.build rfl rfl (bd177_z_Unj)) ?_
        refine SO.store hO8 (i := 0) rfl rfl rfl rfl rfl rfl sz177 rfl rfl [(_, .cells [_, _].toArray _ _)] rfl ?_
        intro w10 hO10
        refine SO.val rfl rfl rfl rfl (.assign rfl rfl) ?_
        refine SO.nil ?_
        refine SQ.then_normal ?_
        refine SC.ret ?_
        refine SQ.then_ret ?_
        refine SQ.out (.inl rfl) (resCT [_, _] rfl rfl rfl ag177 sz177 (hO10.at (i := 0) rfl) rfl rfl) ?_
        refine ⟨?_, hO10.toBelow ⟨hb1, trivial⟩⟩
        unfold atCh atSz
        first | rfl | (rw [if_pos hA, if_pos hA, decide_eq_true hA]) | (have hA : ¬ uAt (bl s) i := (by unfold uAt uBd at *; rw [bl_length] at *; omega); rw [if_neg hA, if_neg hA, decide_eq_false hA]; rfl)
      ·
        refine SC.skip ?_
        refine SQ.then_normal ?_
        refine SC.seq ?_
        have hA : uAt (bl s) i := ⟨Decidable.not_not.1 (by assumption), by rw [bl_length]; omega⟩
        refine SC.region ?_
        refine SO.val rfl rfl rfl rfl (.move rfl rfl) ?_
        refine SO.val rfl rfl rfl rfl (.move rfl rfl) ?_
        refine SO.val rfl rfl rfl rfl (.sliceL rfl rfl rfl Tryz.underlying9 (by omega)) ?_
        refine SO.call rfl rfl rfl rfl (.callF rfl rfl en159) (first_int _ _ _ (hO8.good hG) (by omega) (by omega)) ?_
        rintro _ w12 ⟨rfl, hb12⟩
        have hO12 := hO8.below hb12
        refine ⟨_, rfl, ?_⟩
        refine SO.store hO12 (i := 0) rfl rfl rfl rfl rfl rfl sz177 rfl rfl [(_, .cells [_, _].toArray _ _)] rfl ?_
        intro w13 hO13
        refine SO.val rfl rfl rfl rfl (.assign rfl rfl) ?_
        refine SO.nil ?_
        refine SQ.then_normal ?_
        refine SC.ret ?_
        refine SQ.out (.inl rfl) (resCT [_, _] rfl rfl rfl ag177 sz177 (hO13.at (i := 0) rfl) rfl rfl) ?_
        refine ⟨?_, hO13.toBelow ⟨hb1, trivial⟩⟩
        unfold atCh atSz
        first | rfl | (rw [if_pos hA, if_pos hA, decide_eq_true hA]) | (have hA : ¬ uAt (bl s) i := (by unfold uAt uBd at *; rw [bl_length] at *; omega); rw [if_neg hA, if_neg hA, decide_eq_false hA]; rfl)

set_option maxRecDepth 20000 in
set_option maxHeartbeats 400000 in
theorem down_any (s : ByteArray) (i : Int) (w : World) (hG : Good w) (hz : s.size ≤ 4611686018427387904) :
    Calls Tryz.prog 160 #[.string s, .int .i64 i] w fun e w' => e = .returned (.int .i64 (uDown (bl s) (clamp (bl s) i))) ∧ Below w.heap.size w w' := by
  have hO0 := Own.start hG
  refine enter Tryz.func160 rfl rfl rfl 0 ?_
  refine SC.seq ?_
  refine SC.region ?_
  refine SO.val rfl rfl rfl rfl (.assign rfl rfl) ?_
  refine SO.nil ?_
  refine SQ.then_normal ?_
  refine SC.seq ?_
  refine SC.region ?_
  refine SO.val rfl rfl rfl rfl (.move rfl rfl) ?_
  refine SO.val rfl rfl rfl rfl (.move rfl rfl) ?_
  refine SO.val rfl rfl rfl rfl (.maxI rfl rfl rfl) ?_
  refine SO.val rfl rfl rfl rfl (.move rfl rfl) ?_
  refine SO.val rfl rfl rfl rfl (.lenS rfl rfl Tryz.underlying9) ?_
  refine SO.val rfl rfl rfl rfl (.minI rfl rfl rfl) ?_
  refine SO.call rfl rfl rfl rfl (.callF rfl rfl en144) (around_at _ _ _ (hO0.good hG) (by omega) (by omega) hz) ?_
  rintro _ w1 ⟨rfl, hb1⟩
  have hO1 := hO0.below hb1
  refine ⟨_, rfl, ?_⟩
  refine SO.val rfl rfl rfl rfl (.move rfl rfl) ?_
  refine SO.val rfl rfl rfl rfl (.extract rfl rfl rfl) ?_
  refine SO.val rfl rfl rfl rfl (.extract rfl rfl rfl) ?_
  refine SO.val rfl rfl rfl rfl (.assign rfl rfl) ?_
  refine SO.val rfl rfl rfl rfl (.assign rfl rfl) ?_
  refine SO.nil ?_
  refine SQ.then_normal ?_
  refine SC.seq ?_
  refine SC.region ?_
  refine SO.val rfl rfl rfl rfl (.move rfl rfl) ?_
  refine SO.val rfl rfl rfl rfl (.assign rfl rfl) ?_
  refine SO.nil ?_
  refine SQ.then_normal ?_
  refine SC.ret ?_
  refine SQ.out (.inl rfl) (res1 rfl rfl) ?_
  exact ⟨rfl, hO1.toBelow trivial⟩

set_option maxRecDepth 20000 in
set_option maxHeartbeats 400000 in
theorem prev_any (s : ByteArray) (i : Int) (w : World) (hG : Good w) (hz : s.size ≤ 4611686018427387904) (hi : i ≤ 4611686018427387904) :
    Calls Tryz.prog 132 #[.string s, .int .i64 i] w fun e w' => e = .returned (.int .i64 (uPrev (bl s) i)) ∧ Below w.heap.size w w' := by
  have hO0 := Own.start hG
  refine enter Tryz.func132 rfl rfl rfl 0 ?_
  refine SC.seq ?_
  refine SC.region ?_
  refine SO.val rfl rfl rfl rfl (.assign rfl rfl) ?_
  refine SO.nil ?_
  refine SQ.then_normal ?_
  refine SC.seq ?_
  refine SC.seq ?_
  refine SC.region ?_
  refine SO.val rfl rfl rfl rfl (.move rfl rfl) ?_
  refine SO.val rfl rfl rfl rfl (.leq rfl rfl rfl) ?_
  refine SO.nil ?_
  refine SQ.then_normal ?_
  refine SC.dec rfl (fun c1 => ?_) (fun c1 => ?_)
  ·
    refine SC.seq ?_
    refine SC.region ?_
    refine SO.val rfl rfl rfl rfl (.assign rfl rfl) ?_
    refine SO.nil ?_
    refine SQ.then_normal ?_
    refine SC.ret ?_
    refine SQ.then_ret ?_
    refine SQ.out (.inl rfl) (res1 rfl rfl) ?_
    refine ⟨?_, hO0.toBelow trivial⟩
    unfold uPrev
    first | (rw [if_pos (by omega)]; done) | (rw [if_pos (by omega)]; rfl) | (rw [if_neg (by omega)]; unfold clamp; rw [bl_length]; congr 4; omega)
  ·
    refine SC.skip ?_
    refine SQ.then_normal ?_
    refine SC.seq ?_
    refine SC.region ?_
    refine SO.val rfl rfl rfl rfl (.move rfl rfl) ?_
    refine SO.val rfl rfl rfl rfl (.move rfl rfl) ?_
    refine SO.val rfl rfl rfl rfl (.sub rfl rfl rfl (by omega)) ?_
    refine SO.val rfl rfl rfl rfl (.move rfl rfl) ?_
    refine SO.val rfl rfl rfl rfl (.lenS rfl rfl Tryz.underlying9) ?_
    refine SO.val rfl rfl rfl rfl (.minI rfl rfl rfl) ?_
    refine SO.call rfl rfl rfl rfl (.callF rfl rfl en160) (down_any _ _ _ (hO0.good hG) hz) ?_
    rintro _ w3 ⟨rfl, hb3⟩
    have hO3 := hO0.below hb3
    refine ⟨_, rfl, ?_⟩
    refine SO.val rfl rfl rfl rfl (.assign rfl rfl) ?_
    refine SO.nil ?_
    refine SQ.then_normal ?_
    refine SC.ret ?_
    refine SQ.out (.inl rfl) (res1 rfl rfl) ?_
    refine ⟨?_, hO3.toBelow trivial⟩
    unfold uPrev
    first | (rw [if_pos (by omega)]; done) | (rw [if_pos (by omega)]; rfl) | (rw [if_neg (by omega)]; unfold clamp; rw [bl_length]; congr 4; omega)

set_option maxRecDepth 20000 in
set_option maxHeartbeats 400000 in
theorem next_any (s : ByteArray) (i : Int) (w : World) (hG : Good w) (hz : s.size ≤ 4611686018427387904) :
    Calls Tryz.prog 83 #[.string s, .int .i64 i] w fun e w' => e = .returned (.int .i64 (uNext (bl s) i)) ∧ Below w.heap.size w w' := by
  have hO0 := Own.start hG
  refine enter Tryz.func83 rfl rfl rfl 0 ?_
  refine SC.seq ?_
  refine SC.region ?_
  refine SO.val rfl rfl rfl rfl (.assign rfl rfl) ?_
  refine SO.nil ?_
  refine SQ.then_normal ?_
  refine SC.seq ?_
  refine SC.seq ?_
  refine SC.region ?_
  refine SO.val rfl rfl rfl rfl (.move rfl rfl) ?_
  refine SO.val rfl rfl rfl rfl (.lss rfl rfl rfl) ?_
  refine SO.nil ?_
  refine SQ.then_normal ?_
  refine SC.dec rfl (fun c1 => ?_) (fun c1 => ?_)
  ·
    refine SC.seq ?_
    refine SC.region ?_
    refine SO.val rfl rfl rfl rfl (.assign rfl rfl) ?_
    refine SO.nil ?_
    refine SQ.then_normal ?_
    refine SC.ret ?_
    refine SQ.then_ret ?_
    refine SQ.out (.inl rfl) (res1 rfl rfl) ?_
    refine ⟨?_, hO0.toBelow trivial⟩
    unfold uNext
    first | (rw [if_pos (by omega)]; done) | (rw [if_pos (by omega)]; rfl) | (rw [if_neg (by omega)]; rfl)
  ·
    refine SC.skip ?_
    refine SQ.then_normal ?_
    refine SC.seq ?_
    refine SC.region ?_
    refine SO.val rfl rfl rfl rfl (.move rfl rfl) ?_
    refine SO.val rfl rfl rfl rfl (.move rfl rfl) ?_
    refine SO.val rfl rfl rfl rfl (.move rfl rfl) ?_
    refine SO.val rfl rfl rfl rfl (.lenS rfl rfl Tryz.underlying9) ?_
    refine SO.val rfl rfl rfl rfl (.minI rfl rfl rfl) ?_
    refine SO.call rfl rfl rfl rfl (.callF rfl rfl en144) (around_at _ _ _ (hO0.good hG) (by omega) (by omega) hz) ?_
    rintro _ w3 ⟨rfl, hb3⟩
    have hO3 := hO0.below hb3
    refine ⟨_, rfl, ?_⟩
    refine SO.val rfl rfl rfl rfl (.move rfl rfl) ?_
    refine SO.val rfl rfl rfl rfl (.extract rfl rfl rfl) ?_
    refine SO.val rfl rfl rfl rfl (.extract rfl rfl rfl) ?_
    refine SO.val rfl rfl rfl rfl (.assign rfl rfl) ?_
    refine SO.val rfl rfl rfl rfl (.assign rfl rfl) ?_
    refine SO.nil ?_
    refine SQ.then_normal ?_
    refine SC.seq ?_
    refine SC.region ?_
    refine SO.val rfl rfl rfl rfl (.move rfl rfl) ?_
    refine SO.val rfl rfl rfl rfl (.assign rfl rfl) ?_
    refine SO.nil ?_
    refine SQ.then_normal ?_
    refine SC.ret ?_
    refine SQ.out (.inl rfl) (res1 rfl rfl) ?_
    refine ⟨?_, hO3.toBelow trivial⟩
    unfold uNext
    first | (rw [if_pos (by omega)]; done) | (rw [if_pos (by omega)]; rfl) | (rw [if_neg (by omega)]; rfl)

end Go.Proofs.YtclgplkkajfenaaGreatDoor
