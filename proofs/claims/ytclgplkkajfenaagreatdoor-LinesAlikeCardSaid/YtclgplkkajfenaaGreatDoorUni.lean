/- unit.first, unit.around. -/
import Derived.Test.YtclgplkkajfenaaGreatDoorFa
import Derived.Test.YtclgplkkajfenaaGreatDoorUtf
namespace Go.Proofs.YtclgplkkajfenaaGreatDoor
open Go Go.RowKit Ow
/-- The character of the unit at the head, -1 of a bad byte. -/
def uch (l : Bs) : Int := (un l).1
theorem around_val {l : Bs} {i d : Nat} {a b : Int} (h : uDown l i = d) (ha : a = d) (hb : b = if d < l.length then d + usz (l.drop d) else d) :
    Ending.returned (.tuple #[.int .i64 a, .int .i64 b]) = .returned (.tuple #[.int .i64 (uDown l i), .int .i64 (uEnd l i)]) := by
  unfold uEnd; rw [h, ha, hb]
theorem down_at {l : Bs} {i : Nat} (hi : i ≤ l.length) (h : ∀ t, i ≤ t + 3 → t < i → t + usz (l.drop t) ≤ i) : uDown l i = i := by
  obtain ⟨_, h2, h3⟩ := uDown_spec l i hi
  by_cases e : uDown l i = i
  · exact e
  · have h4 := h3 (by omega)
    have h5 := usz_le4 (l.drop (uDown l i))
    have := h (uDown l i) (by omega) (by omega)
    omega

theorem bd177_0_1_Uni (x0 : Int) (x1 : Int) : ∀ w, (Instr.build 177 [(0, .int .i32 x0), (1, .int .i64 x1)].toArray).run Tryz.prog w = .ok (.agg [.int .i32 x0, .int .i64 x1].toArray) w := fun _ => by kernel_rfl
set_option maxRecDepth 20000 in
set_option maxHeartbeats 400000 in
theorem first_any (s : ByteArray) (w : World) (hG : Good w) (hs : 0 < s.size) :
    Calls Tryz.prog 159 #[.string s] w fun e w' => e = .returned (.agg #[.int .i32 (uch (bl s)), .int .i64 (usz (bl s) : Nat)]) ∧ Below w.heap.size w w' := by
  have hu := un_decode s hs
  have hO0 := Own.start hG
  refine enter Tryz.func159 rfl rfl rfl 0 ?_
  refine SC.seq ?_
  refine SC.region ?_
  refine SO.alloc hO0 rfl rfl rfl rfl zv177 [_, _] rfl ?_
  intro b1 w1 hb1 hO1
  refine SO.nil ?_
  refine SQ.then_normal ?_
  refine SC.seq ?_
  refine SC.region ?_
  refine SO.val rfl rfl rfl rfl (.move rfl rfl) ?_
  refine SO.call rfl rfl rfl rfl (.callF rfl rfl en184) (Tryz.utf8_DecodeRuneInString _ _ (hO1.good hG)) ?_
  rintro _ w2 ⟨rfl, hb2⟩
  have hO2 := hO1.below hb2
  refine ⟨_, rfl, ?_⟩
  refine SO.val rfl rfl rfl rfl (.move rfl rfl) ?_
  refine SO.val rfl rfl rfl rfl (.extract rfl rfl rfl) ?_
  refine SO.val rfl rfl rfl rfl (.extract rfl rfl rfl) ?_
  refine SO.val rfl rfl rfl rfl (.assign rfl rfl) ?_
  refine SO.val rfl rfl rfl rfl (.assign rfl rfl) ?_
  refine SO.nil ?_
  refine SQ.then_normal ?_
  refine SC.seq ?_
  refine SC.seq ?_
  refine SC.region ?_
  refine SO.val rfl rfl rfl rfl (.move rfl rfl) ?_
  refine SO.val rfl rfl rfl rfl (.eql rfl rfl rfl) ?_
  refine SO.val rfl rfl rfl rfl (.move rfl rfl) ?_
  refine SO.dec 12 rfl (fun g3 => ?_) (fun g3 => ?_)
  ·
    refine SO.val rfl rfl rfl rfl (.move rfl rfl) ?_
    refine SO.val rfl rfl rfl rfl (.eql rfl rfl rfl) ?_
    refine SO.val rfl rfl rfl rfl (.pickT rfl rfl rfl) ?_
    refine SO.nil ?_
    refine SQ.then_normal ?_
    refine SC.dec rfl (fun c4 => ?_) (fun c4 => ?_)
    ·
      refine SC.seq ?_
      refine SC.region ?_
      refine SO.val rfl rfl rfl rfl (.build rfl rfl (bd177_0_1_Uni _ _)) ?_
      refine SO.store hO2 (i := 0) rfl rfl rfl rfl rfl rfl sz177 rfl rfl [(_, .cells [_, _].toArray _ _)] rfl ?_
      intro w5 hO5
      refine SO.nil ?_
      refine SQ.then_normal ?_
      refine SC.ret ?_
      refine SQ.then_ret ?_
      refine SQ.out (.inl rfl) (resC [_, _] rfl rfl ag177 sz177 (hO5.at (i := 0) rfl) rfl rfl) ?_
      refine ⟨?_, hO5.toBelow ⟨hb1, trivial⟩⟩
      unfold uch usz
      rw [hu]
      first | (rw [if_pos (by omega)]; rfl) | (rw [if_neg (by omega)])
    ·
      refine SC.skip ?_
      refine SQ.then_normal ?_
      refine SC.seq ?_
      refine SC.region ?_
      refine SO.val rfl rfl rfl rfl (.move rfl rfl) ?_
      refine SO.val rfl rfl rfl rfl (.move rfl rfl) ?_
      refine SO.val rfl rfl rfl rfl (.build rfl rfl (bd177_0_1_Uni _ _)) ?_
      refine SO.store hO2 (i := 0) rfl rfl rfl rfl rfl rfl sz177 rfl rfl [(_, .cells [_, _].toArray _ _)] rfl ?_
      intro w7 hO7
      refine SO.nil ?_
      refine SQ.then_normal ?_
      refine SC.ret ?_
      refine SQ.out (.inl rfl) (resC [_, _] rfl rfl ag177 sz177 (hO7.at (i := 0) rfl) rfl rfl) ?_
      refine ⟨?_, hO7.toBelow ⟨hb1, trivial⟩⟩
      unfold uch usz
      rw [hu]
      first | (rw [if_pos (by omega)]; rfl) | (rw [if_neg (by omega)])
  ·
    refine SO.pass rfl rfl rfl ?_
    refine SO.pass rfl rfl rfl ?_
    refine SO.val rfl rfl rfl rfl (.pickF rfl rfl rfl) ?_
    refine SO.nil ?_
    refine SQ.then_normal ?_
    refine SC.no rfl ?_
    refine SC.skip ?_
    refine SQ.then_normal ?_
    refine SC.seq ?_
    refine SC.region ?_
    refine SO.val rfl rfl rfl rfl (.move rfl rfl) ?_
    refine SO.val rfl rfl rfl rfl (.move rfl rfl) ?_
    refine SO.val rfl rfl rfl rfl (.build rfl rfl (bd177_0_1_Uni _ _)) ?_
    refine SO.store hO2 (i := 0) rfl rfl rfl rfl rfl rfl sz177 rfl rfl [(_, .cells [_, _].toArray _ _)] rfl ?_
    intro w9 hO9
    refine SO.nil ?_
    refine SQ.then_normal ?_
    refine SC.ret ?_
    refine SQ.out (.inl rfl) (resC [_, _] rfl rfl ag177 sz177 (hO9.at (i := 0) rfl) rfl rfl) ?_
    refine ⟨?_, hO9.toBelow ⟨hb1, trivial⟩⟩
    unfold uch usz
    rw [hu]
    first | (rw [if_pos (by omega)]; rfl) | (rw [if_neg (by omega)])

theorem first_at (s : ByteArray) (j : Nat) (w : World) (hG : Good w) (hj : j < s.size) :
    Calls Tryz.prog 159 #[.string (s.extract (j : Int).toNat s.size)] w fun e w' => e = .returned (.agg #[.int .i32 (uch ((bl s).drop j)), .int .i64 (usz ((bl s).drop j) : Nat)]) ∧ Below w.heap.size w w' := by
  have := first_any (s.extract (j : Int).toNat s.size) w hG (by simp only [ByteArray.size_extract]; omega)
  rwa [bl_tail, Int.toNat_natCast] at this

theorem fi177_1_Uni (x0 : Int) (x1 : Int) : ∀ w, (Instr.field 177 (.agg [.int .i32 x0, .int .i64 x1].toArray) 1).run Tryz.prog w = .ok (.int .i64 x1) w := fun _ => by kernel_rfl
set_option maxRecDepth 20000 in
set_option maxHeartbeats 400000 in
theorem around_any (s : ByteArray) (i : Nat) (w : World) (hG : Good w) (hi : i ≤ s.size) (hz : s.size ≤ 4611686018427387904) :
    Calls Tryz.prog 144 #[.string s, .int .i64 i] w fun e w' => e = .returned (.tuple #[.int .i64 (uDown (bl s) i), .int .i64 (uEnd (bl s) i)]) ∧ Below w.heap.size w w' := by
  have hO0 := Own.start hG
  refine enter Tryz.func144 rfl rfl rfl 0 ?_
  refine SC.seq ?_
  refine SC.region ?_
  refine SO.val rfl rfl rfl rfl (.assign rfl rfl) ?_
  refine SO.val rfl rfl rfl rfl (.assign rfl rfl) ?_
  refine SO.nil ?_
  refine SQ.then_normal ?_
  refine SC.seq ?_
  refine SC.seq ?_
  refine SC.region ?_
  refine SO.val rfl rfl rfl rfl (.move rfl rfl) ?_
  refine SO.val rfl rfl rfl rfl (.sub rfl rfl rfl (by omega)) ?_
  refine SO.val rfl rfl rfl rfl (.maxI rfl rfl rfl) ?_
  refine SO.val rfl rfl rfl rfl (.assign rfl rfl) ?_
  refine SO.nil ?_
  refine SQ.then_normal ?_
  refine SC.block ?_
  refine SC.loop (α := Nat) (fun j => [(0, .string s), (1, .int .i64 (i : Int)), (6, .int .i64 (j : Int))]) (fun j v => j ≤ i ∧ i ≤ j + 3 ∧ (∀ t, i ≤ t + 3 → t < j → t + usz ((bl s).drop t) ≤ i) ∧ Ow.Own w [] v) (fun j => i - j) (i - 3) ?_ ?_ ?_
  · exact ⟨rfl, rfl, look_int rfl (by omega), trivial⟩
  · exact ⟨by omega, by omega, fun t h1 h2 => by omega, hO0⟩
  rintro j w1 ⟨hj1, hj2, hj3, hO1⟩
  refine SC.seq ?_
  refine SC.seq ?_
  refine SC.region ?_
  refine SO.val rfl rfl rfl rfl (.move rfl rfl) ?_
  refine SO.val rfl rfl rfl rfl (.move rfl rfl) ?_
  refine SO.val rfl rfl rfl rfl (.lss rfl rfl rfl) ?_
  refine SO.nil ?_
  refine SQ.then_normal ?_
  refine SC.dec rfl (fun c2 => ?_) (fun c2 => ?_)
  ·
    have hjlt : j < i := by omega
    refine SC.skip ?_
    refine SQ.then_normal ?_
    refine SC.seq ?_
    refine SC.block ?_
    refine SC.seq ?_
    refine SC.region ?_
    refine SO.val rfl rfl rfl rfl (.move rfl rfl) ?_
    refine SO.val rfl rfl rfl rfl (.move rfl rfl) ?_
    refine SO.val rfl rfl rfl rfl (.sliceL rfl rfl rfl Tryz.underlying9 (by omega)) ?_
    refine SO.call rfl rfl rfl rfl (.callF rfl rfl en159) (first_at _ _ _ (hO1.good hG) (by omega)) ?_
    rintro _ w3 ⟨rfl, hb3⟩
    have hO3 := hO1.below hb3
    refine ⟨_, rfl, ?_⟩
    refine SO.alloc hO3 rfl rfl rfl rfl zv177 [_, _] rfl ?_
    intro b4 w4 hb4 hO4
    refine SO.store hO4 (i := 0) rfl rfl rfl rfl rfl rfl sz177 rfl rfl [(_, .cells [_, _].toArray _ _)] rfl ?_
    intro w5 hO5
    refine SO.nil ?_
    refine SQ.then_normal ?_
    refine SC.seq ?_
    refine SC.region ?_
    have hle := usz_drop_le (l := bl s) (i := j) (by rw [bl_length]; omega)
    rw [bl_length] at hle
    refine SO.val rfl rfl rfl rfl (.move rfl rfl) ?_
    refine SO.val rfl rfl rfl rfl (.fieldAddr rfl rfl fa177_1) ?_
    refine SO.val rfl rfl rfl rfl (.load rfl rfl ag3 (cell_of' (hO5.at (i := 0) rfl) rfl)) ?_
    refine SO.val rfl rfl rfl rfl (.add rfl rfl rfl (by omega)) ?_
    refine SO.val rfl rfl rfl rfl (.move rfl rfl) ?_
    refine SO.val rfl rfl rfl rfl (.gtr rfl rfl rfl) ?_
    refine SO.nil ?_
    refine SQ.then_normal ?_
    refine SC.dec rfl (fun c6 => ?_) (fun c6 => ?_)
    ·
      have hr := resync (l := bl s) (i := i) (j := j) (by omega) (by rw [bl_length]; omega) (by omega)
      refine SC.seq ?_
      refine SC.drawO mixed hO5 (fun hO7 => ?_)
      refine SA.take (by kernel_rfl) 0 rfl (by kernel_rfl) (by kernel_rfl) rfl rfl (fun _ _ _ h => h) rfl hO7 (fun v hv => .move rfl rfl) ?_
      refine SA.take (by kernel_rfl) 1 rfl (by kernel_rfl) (by kernel_rfl) rfl rfl (fun _ _ _ h => h) rfl hO7 (fun v hv => .move rfl rfl) ?_
      refine SA.take (by kernel_rfl) 2 rfl (by kernel_rfl) (by kernel_rfl) rfl rfl (fun _ _ _ h => h) rfl hO7 (fun v hv => .fieldAddr rfl rfl fa177_1) ?_
      refine SA.take (by kernel_rfl) 3 rfl (by kernel_rfl) (by kernel_rfl) rfl rfl (fun _ _ _ h => h) rfl hO7 (fun v hv => .load rfl rfl ag3 (cell_of' (hv.at (i := 0) rfl) rfl)) ?_
      refine SA.take (by kernel_rfl) 4 rfl (by kernel_rfl) (by kernel_rfl) rfl rfl (fun _ _ _ h => h) rfl hO7 (fun v hv => .add rfl rfl rfl (by omega)) ?_
      refine SA.take (by kernel_rfl) 5 rfl (by kernel_rfl) (by kernel_rfl) rfl rfl (fun _ _ _ h => h) rfl hO7 (fun v hv => .assign rfl rfl) ?_
      refine SA.take (by kernel_rfl) 6 rfl (by kernel_rfl) (by kernel_rfl) rfl rfl (fun _ _ _ h => h) rfl hO7 (fun v hv => .assign rfl rfl) ?_
      refine SA.done (by kernel_rfl) ?_
      refine SQ.then_normal ?_
      refine SC.ret ?_
      refine SQ.block_ret ?_
      refine SQ.then_ret ?_
      refine SQ.then_ret ?_
      refine SQ.block_ret ?_
      refine SQ.then_ret ?_
      refine SQ.out (.inl rfl) (res2 rfl rfl rfl) ?_
      refine ⟨?_, hO7.toBelow ⟨hb4, trivial⟩⟩
      first | exact around_val hr rfl (by rw [if_pos (by rw [bl_length]; omega)]; omega) | exact around_val hr rfl (by rw [if_neg (by rw [bl_length]; omega)])
    ·
      have hj4 : ∀ t, i ≤ t + 3 → t < j + 1 → t + usz ((bl s).drop t) ≤ i := fun t h1 h2 => by
        by_cases e : t = j
        · subst e; omega
        · exact hj3 t h1 (by omega)
      refine SC.skip ?_
      refine SQ.block_normal ?_
      refine SQ.then_normal ?_
      refine SC.region ?_
      refine SO.val rfl rfl rfl rfl (.move rfl rfl) ?_
      refine SO.val rfl rfl rfl rfl (.add rfl rfl rfl (by omega)) ?_
      refine SO.val rfl rfl rfl rfl (.assign rfl rfl) ?_
      refine SO.nil ?_
      refine SQ.round (j + 1) (by omega) ⟨rfl, rfl, look_int rfl (by omega), trivial⟩ ⟨by omega, by omega, hj4, (hO5.tail hb4)⟩
  ·
    have hr := down_at (l := bl s) (i := i) (by rw [bl_length]; omega) (fun t h1 h2 => hj3 t h1 (by omega))
    refine SC.exit ?_
    refine SQ.then_exit ?_
    refine SQ.then_exit ?_
    refine SQ.block_exit ?_
    refine SQ.then_normal ?_
    refine SC.seq ?_
    refine SC.seq ?_
    refine SC.region ?_
    refine SO.val rfl rfl rfl rfl (.move rfl rfl) ?_
    refine SO.val rfl rfl rfl rfl (.move rfl rfl) ?_
    refine SO.val rfl rfl rfl rfl (.lenS rfl rfl Tryz.underlying9) ?_
    refine SO.val rfl rfl rfl rfl (.eql rfl rfl rfl) ?_
    refine SO.nil ?_
    refine SQ.then_normal ?_
    refine SC.dec rfl (fun c9 => ?_) (fun c9 => ?_)
    ·
      refine SC.seq ?_
      refine SC.region ?_
      refine SO.val rfl rfl rfl rfl (.move rfl rfl) ?_
      refine SO.val rfl rfl rfl rfl (.move rfl rfl) ?_
      refine SO.val rfl rfl rfl rfl (.assign rfl rfl) ?_
      refine SO.val rfl rfl rfl rfl (.assign rfl rfl) ?_
      refine SO.nil ?_
      refine SQ.then_normal ?_
      refine SC.ret ?_
      refine SQ.then_ret ?_
      refine SQ.out (.inl rfl) (res2 rfl rfl rfl) ?_
      refine ⟨?_, hO1.toBelow trivial⟩
      first | exact around_val hr rfl (by rw [if_pos (by rw [bl_length]; omega)]; omega) | exact around_val hr rfl (by rw [if_neg (by rw [bl_length]; omega)])
    ·
      refine SC.skip ?_
      refine SQ.then_normal ?_
      refine SC.seq ?_
      have h4 := usz_le4 ((bl s).drop i)
      refine SC.region ?_
      refine SO.val rfl rfl rfl rfl (.move rfl rfl) ?_
      refine SO.val rfl rfl rfl rfl (.move rfl rfl) ?_
      refine SO.val rfl rfl rfl rfl (.move rfl rfl) ?_
      refine SO.val rfl rfl rfl rfl (.move rfl rfl) ?_
      refine SO.val rfl rfl rfl rfl (.sliceL rfl rfl rfl Tryz.underlying9 (by omega)) ?_
      refine SO.call rfl rfl rfl rfl (.callF rfl rfl en159) (first_at _ _ _ (hO1.good hG) (by omega)) ?_
      rintro _ w11 ⟨rfl, hb11⟩
      have hO11 := hO1.below hb11
      refine ⟨_, rfl, ?_⟩
      refine SO.val rfl rfl rfl rfl (.field rfl rfl (fi177_1_Uni _ _)) ?_
      refine SO.val rfl rfl rfl rfl (.add rfl rfl rfl (by omega)) ?_
      refine SO.val rfl rfl rfl rfl (.assign rfl rfl) ?_
      refine SO.val rfl rfl rfl rfl (.assign rfl rfl) ?_
      refine SO.nil ?_
      refine SQ.then_normal ?_
      refine SC.ret ?_
      refine SQ.out (.inl rfl) (res2 rfl rfl rfl) ?_
      refine ⟨?_, hO11.toBelow trivial⟩
      first | exact around_val hr rfl (by rw [if_pos (by rw [bl_length]; omega)]; omega) | exact around_val hr rfl (by rw [if_neg (by rw [bl_length]; omega)])

end Go.Proofs.YtclgplkkajfenaaGreatDoor
