/- lines: of a text of which only the type is there. -/
import Derived.Test.YtclgplkkajfenaaGreatDoorNiln
namespace Go.Proofs.YtclgplkkajfenaaGreatDoor
open Go Go.RowKit Ow
set_option maxRecDepth 20000 in
set_option maxHeartbeats 400000 in
theorem lines_lengthT (v : Value) (s : ByteArray) (w : World) (hG : Good w) (ht : TextT w v s) :
    Calls Tryz.prog 80 #[v] w fun e w' => e = .returned (.int .i64 (s.size : Int)) ∧ Below w.heap.size w w' := by
  have hsz := ht.size
  obtain ⟨tT, tx, rfl⟩ := ht.iface
  have hO0 := Own.start hG
  refine enter Tryz.func80 rfl rfl rfl 0 ?_
  refine SC.sr ?_
  refine SO.as ?_
  refine SO.nn ?_
  refine SC.seq ?_
  refine SC.sr ?_
  refine SO.mv ?_
  refine SO.v (.ifaceNilF rfl rfl Tryz.underlying28) ?_
  refine SO.nn ?_
  refine SC.no rfl ?_
  refine SC.skip ?_
  refine SQ.then_normal ?_
  refine SC.sr ?_
  refine SO.mv ?_
  obtain ⟨T1, u1, f1, r1, e1, hm1, he1, hc1⟩ := textT_len (hO0.good hG) (ht.below (hO0.toBelow trivial))
  cases e1
  refine SO.call rfl rfl rfl rfl (.callI rfl rfl rfl hm1 he1) (hc1) ?_
  rintro _ w1 ⟨rfl, hb1⟩
  have hO1 := hO0.below hb1
  refine ⟨_, rfl, ?_⟩
  refine SO.as ?_
  refine SO.nn ?_
  refine SC.ret ?_
  refine SQ.out (.inl rfl) (res1 rfl rfl) ?_
  exact ⟨rfl, hO1.toBelow trivial⟩

set_option maxRecDepth 20000 in
set_option maxHeartbeats 400000 in
theorem lines_sliceT (v : Value) (s : ByteArray) (a c : Int) (w : World) (hG : Good w) (ht : TextT w v s) :
    Calls Tryz.prog 77 #[v, .int .i64 a, .int .i64 c] w fun e w' => e = .returned (.string (slT s a c)) ∧ Below w.heap.size w w' := by
  have hsz := ht.size
  obtain ⟨tT, tx, rfl⟩ := ht.iface
  have hO0 := Own.start hG
  refine enter Tryz.func77 rfl rfl rfl 0 ?_
  refine SC.sr ?_
  refine SO.as ?_
  refine SO.nn ?_
  refine SC.seq ?_
  refine SC.sr ?_
  refine SO.mv ?_
  refine SO.v (.ifaceNilF rfl rfl Tryz.underlying28) ?_
  refine SO.nn ?_
  refine SC.no rfl ?_
  refine SC.skip ?_
  refine SQ.then_normal ?_
  refine SC.sr ?_
  refine SO.mv ?_
  refine SO.mv ?_
  refine SO.mv ?_
  obtain ⟨T1, u1, f1, r1, e1, hm1, he1, hc1⟩ := textT_slice (hO0.good hG) (ht.below (hO0.toBelow trivial)) a c
  cases e1
  refine SO.call rfl rfl rfl rfl (.callI rfl rfl rfl hm1 he1) (hc1) ?_
  rintro _ w1 ⟨rfl, hb1⟩
  have hO1 := hO0.below hb1
  refine ⟨_, rfl, ?_⟩
  refine SO.mv ?_
  refine SO.v (.extract rfl rfl rfl) ?_
  refine SO.v (.extract rfl rfl rfl) ?_
  refine SO.as ?_
  refine SO.as ?_
  refine SO.nn ?_
  refine SC.sr ?_
  refine SO.mv ?_
  refine SO.as ?_
  refine SO.nn ?_
  refine SC.ret ?_
  refine SQ.out (.inl rfl) (res1 rfl rfl) ?_
  exact ⟨rfl, hO1.toBelow trivial⟩

set_option maxRecDepth 20000 in
set_option maxHeartbeats 400000 in
theorem lines_newlinesT (v : Value) (s : ByteArray) (i : Nat) (w : World) (hG : Good w) (ht : TextT w v s) (hi : i ≤ s.size) :
    Calls Tryz.prog 81 #[v, .int .i64 (i : Nat)] w fun e w' => e = .returned (.int .i64 (nlT (bl s) i)) ∧ Below w.heap.size w w' := by
  have hsz := ht.size
  obtain ⟨tT, tx, rfl⟩ := ht.iface
  have hO0 := Own.start hG
  refine enter Tryz.func81 rfl rfl rfl 0 ?_
  refine SC.sr ?_
  refine SO.as ?_
  refine SO.nn ?_
  refine SC.seq ?_
  refine SC.sr ?_
  refine SO.mv ?_
  refine SO.v (.ifaceNilF rfl rfl Tryz.underlying28) ?_
  refine SO.nn ?_
  refine SC.no rfl ?_
  refine SC.skip ?_
  refine SQ.then_normal ?_
  refine SC.sr ?_
  refine SO.mv ?_
  refine SO.mv ?_
  obtain ⟨T1, u1, f1, r1, e1, hm1, he1, hc1⟩ := textT_measure (hO0.good hG) (ht.below (hO0.toBelow trivial)) 0 i
  cases e1
  refine SO.call rfl rfl rfl rfl (.callI rfl rfl rfl hm1 he1) (hc1) ?_
  rintro _ w1 ⟨m, rfl, hm, hb1⟩
  have hO1 := hO0.below hb1
  refine ⟨_, rfl, ?_⟩
  refine SO.mv ?_
  refine SO.v (.extract rfl rfl rfl) ?_
  refine SO.v (.extract rfl rfl rfl) ?_
  refine SO.alloc hO1 rfl rfl rfl rfl zv91 [_, _, _, _, _, _, _] rfl ?_
  intro b2 w2 hb2 hO2
  refine SO.store hO2 (i := 0) rfl rfl rfl rfl rfl rfl sz91 rfl rfl [(_, .cells [_, _, _, _, _, _, _].toArray _ _)] rfl ?_
  intro w3 hO3
  refine SO.as ?_
  refine SO.nn ?_
  refine SC.sr ?_
  refine SO.v (.fieldAddr rfl rfl fa91_4) ?_
  refine SO.v (.load rfl rfl ag3 (cell_of' (hO3.at (i := 0) rfl) rfl)) ?_
  refine SO.as ?_
  refine SO.nn ?_
  refine SC.ret ?_
  refine SQ.out (.inl rfl) (res1 rfl rfl) ?_
  exact ⟨(show Ending.returned (.int .i64 m.nl) = _ by rw [hm (by unfold bad; omega), pc_zero _ _ (by rw [bl_length]; exact hi)]; rfl), hO3.toBelow ⟨hb2, trivial⟩⟩

set_option maxRecDepth 20000 in
set_option maxHeartbeats 400000 in
theorem begin1_anyT (v : Value) (s : ByteArray) (k : Int) (y1 y2 : Nat) (i : Nat) (w : World) (hG : Good w) (ht : TextT w v s) (hi : i ≤ s.size) (h1 : w.heap[y1]? = some (.cells [v].toArray 28 (0, 0))) (h2 : w.heap[y2]? = some (.cells [.int .i64 k].toArray 3 (0, 0))) :
    Calls Tryz.prog 143 #[.int .i64 i, .pointer (some ⟨y1, 0, none⟩), .pointer (some ⟨y2, 0, none⟩)] w fun e w' => e = .returned (.bool (decide (k ≤ nlT (bl s) i))) ∧ Below w.heap.size w w' := by
  have hsz := ht.size
  obtain ⟨tT, tx, rfl⟩ := ht.iface
  have hO0 := Own.start hG
  refine enter Tryz.func143 rfl rfl rfl 0 ?_
  refine SC.sr ?_
  refine SO.as ?_
  refine SO.nn ?_
  refine SC.seq ?_
  refine SC.drawO mixed hO0 (fun hO1 => ?_)
  refine SA.tk 0 rfl hO1 (fun v hv => .load rfl rfl ag28 (cell_of' (hv.heapO trivial h1) rfl)) ?_
  refine SA.tm 1 rfl hO1 ?_
  refine SA.tk 3 rfl hO1 (fun v hv => .load rfl rfl ag3 (cell_of' (hv.heapO trivial h2) rfl)) ?_
  refine SA.one 2 (by kernel_rfl) ?_
  refine SB.call rfl rfl rfl rfl (.callF rfl rfl en81) (lines_newlinesT _ s i _ (hO1.good hG) (ht.below (hO1.toBelow trivial)) hi) ?_
  rintro _ w2 ⟨rfl, hb2⟩
  have hO2 := hO1.below hb2
  refine ⟨_, rfl, hO2, ?_⟩
  refine SA.tk 4 rfl hO2 (fun v hv => .geq rfl rfl rfl) ?_
  refine SA.ta 5 rfl hO2 ?_
  refine SA.done (by kernel_rfl) ?_
  refine SQ.then_normal ?_
  refine SC.ret ?_
  refine SQ.out (.inl rfl) (res1 rfl rfl) ?_
  exact ⟨rfl, hO2.toBelow trivial⟩

set_option maxRecDepth 20000 in
set_option maxHeartbeats 400000 in
theorem lines_beginT (v : Value) (s : ByteArray) (k : Int) (w : World) (hG : Good w) (ht : TextT w v s) :
    Calls Tryz.prog 82 #[v, .int .i64 k] w fun e w' => e = .returned (.int .i64 (bgn (bl s) k)) ∧ Below w.heap.size w w' := by
  have hsz := ht.size
  obtain ⟨tT, tx, rfl⟩ := ht.iface
  have hO0 := Own.start hG
  refine enter Tryz.func82 rfl rfl rfl 0 ?_
  refine SC.sr ?_
  refine SO.box hO0 rfl rfl rfl rfl rfl [_] rfl ?_
  intro b1 w1 hb1 hO1
  refine SO.box hO1 rfl rfl rfl rfl rfl [_] rfl ?_
  intro b2 w2 hb2 hO2
  refine SO.as ?_
  refine SO.nn ?_
  refine SC.sr ?_
  refine SO.v (.load rfl rfl ag28 (cell_of' (hO2.at (i := 1) rfl) rfl)) ?_
  refine SO.call rfl rfl rfl rfl (.callF rfl rfl en80) (lines_lengthT _ s _ (hO2.good hG) (ht.below (hO2.toBelow ⟨hb2, hb1, trivial⟩))) ?_
  rintro _ w3 ⟨rfl, hb3⟩
  have hO3 := hO2.below hb3
  refine ⟨_, rfl, ?_⟩
  refine SO.v (.makeFunc rfl rfl) ?_
  refine SO.call rfl rfl rfl rfl (.callF rfl rfl en142) (search_any s.size 143 #[] _ (fun t => k ≤ nlT (bl s) t) _ (hO3.good hG) (by omega) en143 (fun i j hij _ h => Int.le_trans h (Int.ofNat_le.2 (nlT_mono _ hij))) (fun i hi w' hb => begin1_anyT _ s k b1 b2 i w' ((hO3.below hb).good hG) (ht.below ((hO3.below hb).toBelow ⟨hb2, hb1, trivial⟩)) (Nat.le_of_lt hi) ((hO3.below hb).at (i := 1) rfl) ((hO3.below hb).at (i := 0) rfl))) ?_
  rintro _ w4 ⟨r, rfl, hr, hlo, hhi, hb4⟩
  have hO4 := hO3.below hb4
  refine ⟨_, rfl, ?_⟩
  refine SO.as ?_
  refine SO.nn ?_
  refine SC.ret ?_
  refine SQ.out (.inl rfl) (res1 rfl rfl) ?_
  exact ⟨by rw [bgn_eq (bl s) k r (by rw [bl_length]; exact hr) hlo (fun h => hhi r (Nat.le_refl _) (by rw [bl_length] at h; exact h))], hO4.toBelow ⟨hb2, hb1, trivial⟩⟩

set_option maxRecDepth 20000 in
set_option maxHeartbeats 400000 in
theorem lines_countT (v : Value) (s : ByteArray) (w : World) (hG : Good w) (ht : TextT w v s) :
    Calls Tryz.prog 29 #[v] w fun e w' => e = .returned (.int .i64 (nlC (bl s) + 1 : Nat)) ∧ Below w.heap.size w w' := by
  have hsz := ht.size
  obtain ⟨tT, tx, rfl⟩ := ht.iface
  have hnl := nlC_le (bl s)
  rw [bl_length] at hnl
  have hO0 := Own.start hG
  refine enter Tryz.func29 rfl rfl rfl 0 ?_
  refine SC.sr ?_
  refine SO.as ?_
  refine SO.nn ?_
  refine SC.sr ?_
  refine SO.mv ?_
  refine SO.mv ?_
  refine SO.call rfl rfl rfl rfl (.callF rfl rfl en80) (lines_lengthT _ s _ (hO0.good hG) (ht.below (hO0.toBelow trivial))) ?_
  rintro _ w1 ⟨rfl, hb1⟩
  have hO1 := hO0.below hb1
  refine ⟨_, rfl, ?_⟩
  refine SO.call rfl rfl rfl rfl (.callF rfl rfl en81) (lines_newlinesT _ s s.size _ (hO1.good hG) (ht.below (hO1.toBelow trivial)) (Nat.le_refl _)) ?_
  rintro _ w2 ⟨rfl, hb2⟩
  have hO2 := hO1.below hb2
  refine ⟨_, rfl, ?_⟩
  refine SO.v (.add rfl rfl rfl (by have := nlT_le (bl s) s.size; omega)) ?_
  refine SO.as ?_
  refine SO.nn ?_
  refine SC.ret ?_
  refine SQ.out (.inl rfl) (res1 rfl rfl) ?_
  exact ⟨(show Ending.returned (.int .i64 ((nlT (bl s) s.size : Nat) + 1)) = _ by rw [show s.size = (bl s).length from rfl, nlT_len]; rfl), hO2.toBelow trivial⟩

set_option maxRecDepth 20000 in
set_option maxHeartbeats 400000 in
theorem lines_ofT (v : Value) (s : ByteArray) (a : Int) (w : World) (hG : Good w) (ht : TextT w v s) :
    Calls Tryz.prog 27 #[v, .int .i64 a] w fun e w' => e = .returned (.tuple #[.int .i64 (ofN (bl s) a), .int .i64 (ofE (bl s) a)]) ∧ Below w.heap.size w w' := by
  have hsz := ht.size
  obtain ⟨tT, tx, rfl⟩ := ht.iface
  have hO0 := Own.start hG
  refine enter Tryz.func27 rfl rfl rfl 0 ?_
  refine SC.sr ?_
  refine SO.as ?_
  refine SO.as ?_
  refine SO.nn ?_
  refine SC.seq ?_
  refine SC.sr ?_
  refine SO.mv ?_
  refine SO.v (.lss rfl rfl rfl) ?_
  refine SO.mv ?_
  refine SO.dec 8 rfl (fun g1 => ?_) (fun g1 => ?_)
  ·
   refine SO.ps ?_
   refine SO.ps ?_
   refine SO.ps ?_
   refine SO.ps ?_
   refine SO.v (.pickT rfl rfl rfl) ?_
   refine SO.nn ?_
   refine SC.yes rfl ?_
   refine SC.sr ?_
   refine SO.as ?_
   refine SO.as ?_
   refine SO.nn ?_
   refine SC.ret ?_
   refine SQ.then_ret ?_
   refine SQ.out (.inl rfl) (res2 rfl rfl rfl) ?_
   refine ⟨?_, hO0.toBelow trivial⟩
   unfold ofN ofE
   rw [bl_length]
   rw [if_pos (by omega), if_pos (by omega)]
  ·
   refine SO.mv ?_
   refine SO.mv ?_
   refine SO.call rfl rfl rfl rfl (.callF rfl rfl en80) (lines_lengthT _ s _ (hO0.good hG) (ht.below (hO0.toBelow trivial))) ?_
   rintro _ w3 ⟨rfl, hb3⟩
   have hO3 := hO0.below hb3
   refine ⟨_, rfl, ?_⟩
   refine SO.v (.gtr rfl rfl rfl) ?_
   refine SO.v (.pickF rfl rfl rfl) ?_
   refine SO.nn ?_
   refine SC.dec rfl (fun c4 => ?_) (fun c4 => ?_)
   ·
    refine SC.sr ?_
    refine SO.as ?_
    refine SO.as ?_
    refine SO.nn ?_
    refine SC.ret ?_
    refine SQ.then_ret ?_
    refine SQ.out (.inl rfl) (res2 rfl rfl rfl) ?_
    refine ⟨?_, hO3.toBelow trivial⟩
    unfold ofN ofE
    rw [bl_length]
    rw [if_pos (by omega), if_pos (by omega)]
   ·
    refine SC.skip ?_
    refine SQ.then_normal ?_
    refine SC.seq ?_
    obtain ⟨i, rfl⟩ := Int.eq_ofNat_of_zero_le (show 0 ≤ a by omega)
    refine SC.region ?_
    refine SO.mv ?_
    refine SO.mv ?_
    refine SO.call rfl rfl rfl rfl (.callF rfl rfl en81) (lines_newlinesT _ s i _ (hO3.good hG) (ht.below (hO3.toBelow trivial)) (by omega)) ?_
    rintro _ w6 ⟨rfl, hb6⟩
    have hO6 := hO3.below hb6
    refine ⟨_, rfl, ?_⟩
    refine SO.as ?_
    refine SO.as ?_
    refine SO.nn ?_
    refine SC.ret ?_
    refine SQ.out (.inl rfl) (res2 rfl rfl rfl) ?_
    refine ⟨?_, hO6.toBelow trivial⟩
    unfold ofN ofE
    rw [bl_length]
    (rw [if_neg (by omega), if_neg (by omega)]; rfl)

theorem bd41_0_1_Nilt (x0 : Int) (x1 : Int) : ∀ w, (Instr.build 41 [(0, .int .i64 x0), (1, .int .i64 x1)].toArray).run Tryz.prog w = .ok (.agg [.int .i64 x0, .int .i64 x1].toArray) w := fun _ => by kernel_rfl
theorem bd41_z_Nilt  : ∀ w, (Instr.build 41 [].toArray).run Tryz.prog w = .ok (.agg [.int .i64 0, .int .i64 0].toArray) w := fun _ => by kernel_rfl
set_option maxRecDepth 20000 in
set_option maxHeartbeats 400000 in
theorem lines_spanT (v : Value) (s : ByteArray) (k : Int) (w : World) (hG : Good w) (ht : TextT w v s) :
    Calls Tryz.prog 28 #[v, .int .i64 k] w fun e w' => e = .returned (.tuple #[.agg #[.int .i64 (spF (bl s) k : Nat), .int .i64 (spT (bl s) k : Nat)], .int .i64 (spE (bl s) k)]) ∧ Below w.heap.size w w' := by
  have hsz := ht.size
  obtain ⟨tT, tx, rfl⟩ := ht.iface
  have hnl := nlC_le (bl s)
  rw [bl_length] at hnl
  have hO0 := Own.start hG
  refine enter Tryz.func28 rfl rfl rfl 0 ?_
  refine SC.sr ?_
  refine SO.alloc hO0 rfl rfl rfl rfl zv41 [_, _] rfl ?_
  intro b1 w1 hb1 hO1
  refine SO.as ?_
  refine SO.nn ?_
  refine SC.sr ?_
  refine SO.mv ?_
  refine SO.call rfl rfl rfl rfl (.callF rfl rfl en29) (lines_countT _ s _ (hO1.good hG) (ht.below (hO1.toBelow ⟨hb1, trivial⟩))) ?_
  rintro _ w2 ⟨rfl, hb2⟩
  have hO2 := hO1.below hb2
  refine ⟨_, rfl, ?_⟩
  refine SO.as ?_
  refine SO.nn ?_
  refine SC.seq ?_
  refine SC.sr ?_
  refine SO.mv ?_
  refine SO.v (.lss rfl rfl rfl) ?_
  refine SO.mv ?_
  refine SO.dec 12 rfl (fun g3 => ?_) (fun g3 => ?_)
  ·
   refine SO.ps ?_
   refine SO.ps ?_
   refine SO.ps ?_
   refine SO.v (.pickT rfl rfl rfl) ?_
   refine SO.nn ?_
   refine SC.yes rfl ?_
   refine SC.sr ?_
   refine SO.v (.build rfl rfl (bd41_z_Nilt)) ?_
   refine SO.store hO2 (i := 0) rfl rfl rfl rfl rfl rfl sz41 rfl rfl [(_, .cells [_, _].toArray _ _)] rfl ?_
   intro w4 hO4
   refine SO.as ?_
   refine SO.nn ?_
   refine SC.ret ?_
   refine SQ.then_ret ?_
   refine SQ.out (.inl rfl) (resCT [_, _] rfl rfl rfl ag41 sz41 (hO4.at (i := 0) rfl) rfl rfl) ?_
   exact ⟨by rw [show spF (bl s) k = 0 by unfold spF; rw [if_pos (by unfold noLine; omega)], show spT (bl s) k = 0 by unfold spT; rw [if_pos (by unfold noLine; omega)], show spE (bl s) k = 1 by unfold spE; rw [if_pos (by unfold noLine; omega)]]; rfl, hO4.toBelow ⟨hb1, trivial⟩⟩
  ·
   refine SO.mv ?_
   refine SO.mv ?_
   refine SO.v (.geq rfl rfl rfl) ?_
   refine SO.v (.pickF rfl rfl rfl) ?_
   refine SO.nn ?_
   refine SC.dec rfl (fun c6 => ?_) (fun c6 => ?_)
   ·
    refine SC.sr ?_
    refine SO.v (.build rfl rfl (bd41_z_Nilt)) ?_
    refine SO.store hO2 (i := 0) rfl rfl rfl rfl rfl rfl sz41 rfl rfl [(_, .cells [_, _].toArray _ _)] rfl ?_
    intro w7 hO7
    refine SO.as ?_
    refine SO.nn ?_
    refine SC.ret ?_
    refine SQ.then_ret ?_
    refine SQ.out (.inl rfl) (resCT [_, _] rfl rfl rfl ag41 sz41 (hO7.at (i := 0) rfl) rfl rfl) ?_
    exact ⟨by rw [show spF (bl s) k = 0 by unfold spF; rw [if_pos (by unfold noLine; omega)], show spT (bl s) k = 0 by unfold spT; rw [if_pos (by unfold noLine; omega)], show spE (bl s) k = 1 by unfold spE; rw [if_pos (by unfold noLine; omega)]]; rfl, hO7.toBelow ⟨hb1, trivial⟩⟩
   ·
    refine SC.skip ?_
    refine SQ.then_normal ?_
    refine SC.seq ?_
    have hno : ¬ noLine (bl s) k := by unfold noLine; omega
    have hq0 := bgn_le (bl s) k
    rw [bl_length] at hq0
    refine SC.region ?_
    refine SO.mv ?_
    refine SO.mv ?_
    refine SO.call rfl rfl rfl rfl (.callF rfl rfl en82) (lines_beginT _ s _ _ (hO2.good hG) (ht.below (hO2.toBelow ⟨hb1, trivial⟩))) ?_
    rintro _ w9 ⟨rfl, hb9⟩
    have hO9 := hO2.below hb9
    refine ⟨_, rfl, ?_⟩
    refine SO.mv ?_
    refine SO.call rfl rfl rfl rfl (.callF rfl rfl en80) (lines_lengthT _ s _ (hO9.good hG) (ht.below (hO9.toBelow ⟨hb1, trivial⟩))) ?_
    rintro _ w10 ⟨rfl, hb10⟩
    have hO10 := hO9.below hb10
    refine ⟨_, rfl, ?_⟩
    refine SO.v (.build rfl rfl (bd41_0_1_Nilt _ _)) ?_
    refine SO.alloc hO10 rfl rfl rfl rfl zv41 [_, _] rfl ?_
    intro b11 w11 hb11 hO11
    refine SO.store hO11 (i := 0) rfl rfl rfl rfl rfl rfl sz41 rfl rfl [(_, .cells [_, _].toArray _ _), _] rfl ?_
    intro w12 hO12
    refine SO.nn ?_
    refine SC.seq ?_
    refine SC.sr ?_
    refine SO.mv ?_
    refine SO.v (.add rfl rfl rfl (by omega)) ?_
    refine SO.mv ?_
    refine SO.v (.lss rfl rfl rfl) ?_
    refine SO.nn ?_
    refine SC.dec rfl (fun c13 => ?_) (fun c13 => ?_)
    ·
     refine SC.seq ?_
     have hq1 := bgn_le (bl s) (k + 1)
     rw [bl_length] at hq1
     have hq2 := bgn_pos (l := bl s) (k := k + 1) (by omega) (by omega)
     refine SC.region ?_
     refine SO.mv ?_
     refine SO.mv ?_
     refine SO.v (.add rfl rfl rfl (by omega)) ?_
     refine SO.call rfl rfl rfl rfl (.callF rfl rfl en82) (lines_beginT _ s _ _ (hO12.good hG) (ht.below (hO12.toBelow ⟨hb11, hb1, trivial⟩))) ?_
     rintro _ w14 ⟨rfl, hb14⟩
     have hO14 := hO12.below hb14
     refine ⟨_, rfl, ?_⟩
     refine SO.v (.sub rfl rfl rfl (by omega)) ?_
     refine SO.v (.fieldAddr rfl rfl fa41_1) ?_
     refine SO.store hO14 (i := 0) rfl rfl rfl rfl rfl rfl sz3 rfl rfl [(_, .cells [_, _].toArray _ _), _] rfl ?_
     intro w15 hO15
     refine SO.nn ?_
     refine SC.sr ?_
     refine SO.v (.fieldAddr rfl rfl fa41_1) ?_
     refine SO.v (.load rfl rfl ag3 (cell_of' (hO15.at (i := 0) rfl) rfl)) ?_
     refine SO.v (.fieldAddr rfl rfl fa41_0) ?_
     refine SO.v (.load rfl rfl ag3 (cell_of' (hO15.at (i := 0) rfl) rfl)) ?_
     refine SO.v (.gtr rfl rfl rfl) ?_
     refine SO.mv ?_
     refine SO.dec 39 rfl (fun g16 => ?_) (fun g16 => ?_)
     ·
      refine SO.mv ?_
      refine SO.v (.fieldAddr rfl rfl fa41_1) ?_
      refine SO.v (.load rfl rfl ag3 (cell_of' (hO15.at (i := 0) rfl) rfl)) ?_
      refine SO.v (.sub rfl rfl rfl (by omega)) ?_
      refine SO.v (.fieldAddr rfl rfl fa41_1) ?_
      refine SO.v (.load rfl rfl ag3 (cell_of' (hO15.at (i := 0) rfl) rfl)) ?_
      refine SO.call rfl rfl rfl rfl (.callF rfl rfl en77) (lines_sliceT _ s _ _ _ (hO15.good hG) (ht.below (hO15.toBelow ⟨hb11, hb1, trivial⟩))) ?_
      rintro _ w17 ⟨rfl, hb17⟩
      have hO17 := hO15.below hb17
      refine ⟨_, rfl, ?_⟩
      have h13 := slT_one (s := s) (n := bgn (bl s) (k + 1) - 1 - 1) (a := ((bgn (bl s) (k + 1) : Nat) : Int) - 1 - 1) (c := ((bgn (bl s) (k + 1) : Nat) : Int) - 1) (by omega) (by omega) (by omega)
      refine SO.v (.strEq rfl rfl rfl) ?_
      refine SO.v (.pickT rfl rfl rfl) ?_
      refine SO.nn ?_
      refine SC.dec rfl (fun c18 => ?_) (fun c18 => ?_)
      ·
       refine SC.region ?_
       refine SO.v (.fieldAddr rfl rfl fa41_1) ?_
       refine SO.v (.load rfl rfl ag3 (cell_of' (hO17.at (i := 0) rfl) rfl)) ?_
       refine SO.v (.sub rfl rfl rfl (by omega)) ?_
       refine SO.v (.fieldAddr rfl rfl fa41_1) ?_
       refine SO.store hO17 (i := 0) rfl rfl rfl rfl rfl rfl sz3 rfl rfl [(_, .cells [_, _].toArray _ _), _] rfl ?_
       intro w19 hO19
       refine SO.nn ?_
       refine SC.sr ?_
       refine SO.v (.loadB [_, _] rfl rfl ag41 sz41 (hO19.at (i := 0) rfl) rfl rfl) ?_
       refine SO.store hO19 (i := 1) rfl rfl rfl rfl rfl rfl sz41 rfl rfl [_, (_, .cells [_, _].toArray _ _)] rfl ?_
       intro w20 hO20
       refine SO.as ?_
       refine SO.nn ?_
       refine SC.ret ?_
       refine SQ.out (.inl rfl) (resCT [_, _] rfl rfl rfl ag41 sz41 (hO20.at (i := 1) rfl) rfl rfl) ?_
       (refine ⟨span_val hno rfl ?_, hO20.toBelow ⟨hb11, hb1, trivial⟩⟩; unfold lend; first | (rw [if_neg (by omega), bl_length]; done) | (rw [if_pos (by omega), if_neg (by omega)]; omega) | (rw [if_pos (by omega), if_neg (fun h => by have := h13.2 h.2; contradiction)]; omega) | (rw [if_pos (by omega), if_pos ⟨by omega, h13.1 (by assumption)⟩]; omega))
      ·
       refine SC.skip ?_
       refine SQ.then_normal ?_
       refine SC.sr ?_
       refine SO.v (.loadB [_, _] rfl rfl ag41 sz41 (hO17.at (i := 0) rfl) rfl rfl) ?_
       refine SO.store hO17 (i := 1) rfl rfl rfl rfl rfl rfl sz41 rfl rfl [_, (_, .cells [_, _].toArray _ _)] rfl ?_
       intro w22 hO22
       refine SO.as ?_
       refine SO.nn ?_
       refine SC.ret ?_
       refine SQ.out (.inl rfl) (resCT [_, _] rfl rfl rfl ag41 sz41 (hO22.at (i := 1) rfl) rfl rfl) ?_
       (refine ⟨span_val hno rfl ?_, hO22.toBelow ⟨hb11, hb1, trivial⟩⟩; unfold lend; first | (rw [if_neg (by omega), bl_length]; done) | (rw [if_pos (by omega), if_neg (by omega)]; omega) | (rw [if_pos (by omega), if_neg (fun h => by have := h13.2 h.2; contradiction)]; omega) | (rw [if_pos (by omega), if_pos ⟨by omega, h13.1 (by assumption)⟩]; omega))
     ·
      refine SO.ps ?_
      refine SO.ps ?_
      refine SO.ps ?_
      refine SO.ps ?_
      refine SO.ps ?_
      refine SO.ps ?_
      refine SO.ps ?_
      refine SO.ps ?_
      refine SO.v (.pickF rfl rfl rfl) ?_
      refine SO.nn ?_
      refine SC.no rfl ?_
      refine SC.skip ?_
      refine SQ.then_normal ?_
      refine SC.sr ?_
      refine SO.v (.loadB [_, _] rfl rfl ag41 sz41 (hO15.at (i := 0) rfl) rfl rfl) ?_
      refine SO.store hO15 (i := 1) rfl rfl rfl rfl rfl rfl sz41 rfl rfl [_, (_, .cells [_, _].toArray _ _)] rfl ?_
      intro w24 hO24
      refine SO.as ?_
      refine SO.nn ?_
      refine SC.ret ?_
      refine SQ.out (.inl rfl) (resCT [_, _] rfl rfl rfl ag41 sz41 (hO24.at (i := 1) rfl) rfl rfl) ?_
      (refine ⟨span_val hno rfl ?_, hO24.toBelow ⟨hb11, hb1, trivial⟩⟩; unfold lend; first | (rw [if_neg (by omega), bl_length]; done) | (rw [if_pos (by omega), if_neg (by omega)]; omega) | (rw [if_pos (by omega), if_neg (fun h => by have := h13.2 h.2; contradiction)]; omega) | (rw [if_pos (by omega), if_pos ⟨by omega, h13.1 (by assumption)⟩]; omega))
    ·
     refine SC.skip ?_
     refine SQ.then_normal ?_
     refine SC.sr ?_
     refine SO.v (.loadB [_, _] rfl rfl ag41 sz41 (hO12.at (i := 0) rfl) rfl rfl) ?_
     refine SO.store hO12 (i := 1) rfl rfl rfl rfl rfl rfl sz41 rfl rfl [_, (_, .cells [_, _].toArray _ _)] rfl ?_
     intro w26 hO26
     refine SO.as ?_
     refine SO.nn ?_
     refine SC.ret ?_
     refine SQ.out (.inl rfl) (resCT [_, _] rfl rfl rfl ag41 sz41 (hO26.at (i := 1) rfl) rfl rfl) ?_
     (refine ⟨span_val hno rfl ?_, hO26.toBelow ⟨hb11, hb1, trivial⟩⟩; unfold lend; first | (rw [if_neg (by omega), bl_length]; done) | (rw [if_pos (by omega), if_neg (by omega)]; omega) | (rw [if_pos (by omega), if_neg (fun h => by have := h13.2 h.2; contradiction)]; omega) | (rw [if_pos (by omega), if_pos ⟨by omega, h13.1 (by assumption)⟩]; omega))

set_option maxRecDepth 20000 in
set_option maxHeartbeats 400000 in
theorem lines_lineT (v : Value) (s : ByteArray) (k : Int) (w : World) (hG : Good w) (ht : TextT w v s) :
    Calls Tryz.prog 35 #[v, .int .i64 k] w fun e w' => e = .returned (.tuple #[.string (lnT s k), .int .i64 (spE (bl s) k)]) ∧ Below w.heap.size w w' := by
  have hsz := ht.size
  obtain ⟨tT, tx, rfl⟩ := ht.iface
  have hO0 := Own.start hG
  refine enter Tryz.func35 rfl rfl rfl 0 ?_
  refine SC.sr ?_
  refine SO.as ?_
  refine SO.as ?_
  refine SO.nn ?_
  refine SC.sr ?_
  refine SO.mv ?_
  refine SO.mv ?_
  refine SO.call rfl rfl rfl rfl (.callF rfl rfl en28) (lines_spanT _ s _ _ (hO0.good hG) (ht.below (hO0.toBelow trivial))) ?_
  rintro _ w1 ⟨rfl, hb1⟩
  have hO1 := hO0.below hb1
  refine ⟨_, rfl, ?_⟩
  refine SO.mv ?_
  refine SO.v (.extract rfl rfl rfl) ?_
  refine SO.v (.extract rfl rfl rfl) ?_
  refine SO.alloc hO1 rfl rfl rfl rfl zv41 [_, _] rfl ?_
  intro b2 w2 hb2 hO2
  refine SO.store hO2 (i := 0) rfl rfl rfl rfl rfl rfl sz41 rfl rfl [(_, .cells [_, _].toArray _ _)] rfl ?_
  intro w3 hO3
  refine SO.as ?_
  refine SO.nn ?_
  refine SC.seq ?_
  refine SC.sr ?_
  refine SO.mv ?_
  refine SO.v (.neq rfl rfl rfl) ?_
  refine SO.nn ?_
  refine SC.dec rfl (fun c4 => ?_) (fun c4 => ?_)
  ·
   refine SC.sr ?_
   refine SO.mv ?_
   refine SO.as ?_
   refine SO.as ?_
   refine SO.nn ?_
   refine SC.ret ?_
   refine SQ.then_ret ?_
   refine SQ.out (.inl rfl) (res2 rfl rfl rfl) ?_
   refine ⟨?_, hO3.toBelow ⟨hb2, trivial⟩⟩
   unfold lnT
   (rw [if_pos (by assumption)]; rfl)
  ·
   refine SC.skip ?_
   refine SQ.then_normal ?_
   refine SC.sr ?_
   refine SO.mv ?_
   refine SO.v (.fieldAddr rfl rfl fa41_0) ?_
   refine SO.v (.load rfl rfl ag3 (cell_of' (hO3.at (i := 0) rfl) rfl)) ?_
   refine SO.v (.fieldAddr rfl rfl fa41_1) ?_
   refine SO.v (.load rfl rfl ag3 (cell_of' (hO3.at (i := 0) rfl) rfl)) ?_
   refine SO.call rfl rfl rfl rfl (.callF rfl rfl en77) (lines_sliceT _ s _ _ _ (hO3.good hG) (ht.below (hO3.toBelow ⟨hb2, trivial⟩))) ?_
   rintro _ w6 ⟨rfl, hb6⟩
   have hO6 := hO3.below hb6
   refine ⟨_, rfl, ?_⟩
   refine SO.as ?_
   refine SO.as ?_
   refine SO.nn ?_
   refine SC.ret ?_
   refine SQ.out (.inl rfl) (res2 rfl rfl rfl) ?_
   refine ⟨?_, hO6.toBelow ⟨hb2, trivial⟩⟩
   unfold lnT
   rw [if_neg (by assumption), show spE (bl s) k = 0 by omega]

set_option maxRecDepth 20000 in
set_option maxHeartbeats 400000 in
theorem lines_columnT (v : Value) (s : ByteArray) (a : Int) (w : World) (hG : Good w) (ht : TextT w v s) :
    Calls Tryz.prog 23 #[v, .int .i64 a] w fun e w' => e = .returned (.tuple #[.int .i64 (colR s a), .int .i64 (ofE (bl s) a)]) ∧ Below w.heap.size w w' := by
  have hsz := ht.size
  obtain ⟨tT, tx, rfl⟩ := ht.iface
  have hsl := slT_size s (spF (bl s) (ofN (bl s) a) : Nat) (spT (bl s) (ofN (bl s) a) : Nat)
  have hcl := clusters_length (bl (lineB s (ofN (bl s) a)))
  rw [bl_length] at hcl
  have hsl2 : ((lineB s (ofN (bl s) a))).size ≤ s.size := hsl
  have hO0 := Own.start hG
  refine enterM Tryz.func23 rfl rfl rfl 5 ?_
  refine SC.sr ?_
  refine SO.box hO0 rfl rfl rfl rfl rfl [_] rfl ?_
  intro b1 w1 hb1 hO1
  refine SO.as ?_
  refine SO.as ?_
  refine SO.nn ?_
  refine SC.sr ?_
  refine SO.mv ?_
  refine SO.v (.load rfl rfl ag3 (cell_of' (hO1.at (i := 0) rfl) rfl)) ?_
  refine SO.call rfl rfl rfl rfl (.callF rfl rfl en27) (lines_ofT _ s _ _ (hO1.good hG) (ht.below (hO1.toBelow ⟨hb1, trivial⟩))) ?_
  rintro _ w2 ⟨rfl, hb2⟩
  have hO2 := hO1.below hb2
  refine ⟨_, rfl, ?_⟩
  refine SO.mv ?_
  refine SO.v (.extract rfl rfl rfl) ?_
  refine SO.v (.extract rfl rfl rfl) ?_
  refine SO.as ?_
  refine SO.as ?_
  refine SO.nn ?_
  refine SC.seq ?_
  refine SC.sr ?_
  refine SO.mv ?_
  refine SO.v (.neq rfl rfl rfl) ?_
  refine SO.nn ?_
  refine SC.dec rfl (fun c3 => ?_) (fun c3 => ?_)
  ·
   have hse := c3
   refine SC.sr ?_
   refine SO.mv ?_
   refine SO.as ?_
   refine SO.as ?_
   refine SO.nn ?_
   refine SC.ret ?_
   refine SQ.then_ret ?_
   refine SQ.outM [] hO2 (fun _ h => by cases h) (.inl rfl) (fun w4 hO4 => ⟨_, res2 (t := 4) (u := 5) rfl rfl rfl, ?_⟩)
   exact ⟨by unfold colR; rw [if_pos hse]; rfl, hO4.toBelow ⟨hb1, trivial⟩⟩
  ·
   have hse : ofE (bl s) a = 0 := by omega
   refine SC.skip ?_
   refine SQ.then_normal ?_
   refine SC.sr ?_
   refine SO.mv ?_
   refine SO.mv ?_
   refine SO.call rfl rfl rfl rfl (.callF rfl rfl en28) (lines_spanT _ s _ _ (hO2.good hG) (ht.below (hO2.toBelow ⟨hb1, trivial⟩))) ?_
   rintro _ w5 ⟨rfl, hb5⟩
   have hO5 := hO2.below hb5
   refine ⟨_, rfl, ?_⟩
   refine SO.mv ?_
   refine SO.v (.extract rfl rfl rfl) ?_
   refine SO.v (.extract rfl rfl rfl) ?_
   refine SO.alloc hO5 rfl rfl rfl rfl zv41 [_, _] rfl ?_
   intro b6 w6 hb6 hO6
   refine SO.store hO6 (i := 0) rfl rfl rfl rfl rfl rfl sz41 rfl rfl [(_, .cells [_, _].toArray _ _), _] rfl ?_
   intro w7 hO7
   refine SO.as ?_
   refine SO.nn ?_
   refine SC.sr ?_
   refine SO.alloc hO7 rfl rfl rfl rfl zv3 [_] rfl ?_
   intro b8 w8 hb8 hO8
   refine SO.store hO8 (i := 0) rfl rfl rfl rfl rfl rfl sz3 rfl rfl [(_, .cells [_].toArray _ _), _, _] rfl ?_
   intro w9 hO9
   refine SO.nn ?_
   refine SC.seq ?_
   refine SC.sr ?_
   refine SO.mv ?_
   refine SO.v (.fieldAddr rfl rfl fa41_0) ?_
   refine SO.v (.load rfl rfl ag3 (cell_of' (hO9.at (i := 1) rfl) rfl)) ?_
   refine SO.v (.fieldAddr rfl rfl fa41_1) ?_
   refine SO.v (.load rfl rfl ag3 (cell_of' (hO9.at (i := 1) rfl) rfl)) ?_
   refine SO.call rfl rfl rfl rfl (.callF rfl rfl en77) (lines_sliceT _ s _ _ _ (hO9.good hG) (ht.below (hO9.toBelow ⟨hb8, hb6, hb1, trivial⟩))) ?_
   rintro _ w10 ⟨rfl, hb10⟩
   have hO10 := hO9.below hb10
   refine ⟨_, rfl, ?_⟩
   refine SO.call rfl rfl rfl rfl (.callF rfl rfl en76) (walk_any (lineB s (ofN (bl s) a)) _ (hO10.good hG)) ?_
   rintro _ w11 ⟨bs, rfl, hbs, hbox, hb11⟩
   have hO11 := hO10.learnB hb11 hbs hbox
   replace hbs := Nat.le_trans hO10.size hbs
   refine ⟨_, rfl, ?_⟩
   refine SO.nn ?_
   refine SC.block ?_
   have hlt12 : ∀ b ∈ [bs, b8, b6, b1], b < w11.heap.size := hO11.ltN
   have hsz12 := hO11.size
   refine SC.rangeP (α := Nat × Nat) (β := Nat) (fun pre => ∀ y ∈ pre, ¬ past (spF (bl s) (ofN (bl s) a) : Nat) a y) (by simp) hO11 rfl en136 (encs := fun c => [clV (bl (lineB s (ofN (bl s) a))) c]) (by omega) (walk_stops (lineB s (ofN (bl s) a)) bs _ _ (hO11.good hG) (by omega) (hO11.at (i := 0) rfl)) KpW.trans (fun W l o1 o2 hl hx _ _ => KpW.put (lt_of_heap (hO11.at (i := 0) rfl)) (Nat.le_trans hO11.base hO11.size) W l o1 o2 hl hx) (fun _ => rfl) (by decide) (fun pre => [(bs, boxS (lineB s (ofN (bl s) a))), (b8, .cells #[.int .i64 (nCells (bl (lineB s (ofN (bl s) a))) pre)] 3 (0, 0)), (b6, .cells #[.int .i64 (spF (bl s) (ofN (bl s) a) : Nat), .int .i64 (spT (bl s) (ofN (bl s) a) : Nat)] 41 (0, 0)), (b1, .cells #[.int .i64 a] 3 (0, 0))]) (fun c xs => c = .exit 0 ∧ ∃ p x, xs = p ++ [x] ∧ (∀ y ∈ p, ¬ past (spF (bl s) (ofN (bl s) a) : Nat) a y) ∧ past (spF (bl s) (ofN (bl s) a) : Nat) a x) (fun _ xs => [(bs, boxS (lineB s (ofN (bl s) a))), (b8, .cells #[.int .i64 (nCells (bl (lineB s (ofN (bl s) a))) xs.dropLast)] 3 (0, 0)), (b6, .cells #[.int .i64 (spF (bl s) (ofN (bl s) a) : Nat), .int .i64 (spT (bl s) (ofN (bl s) a) : Nat)] 41 (0, 0)), (b1, .cells #[.int .i64 a] 3 (0, 0))]) rfl (fun _ => rfl) (fun _ _ _ => rfl) (fun _ u => [(8, .pointer (some ⟨b6, 0, none⟩)), (3, .pointer (some ⟨b1, 0, none⟩)), (10, .pointer (some ⟨b8, 0, none⟩)), (11, .pointer (some ⟨u, 0, none⟩))]) (fun x u W => w11.heap.size ≤ u ∧ W.heap[u]? = some (.cells #[.int .i64 (x.1 : Int), .int .i64 (x.2 : Int), .int .i64 (clCls (bl (lineB s (ofN (bl s) a))) x.1), .int .i64 (clCells (bl (lineB s (ofN (bl s) a))) x.1)] 138 (0, 0))) (fun _ u => fun _ A B row h hg hr => ⟨h.1, (hg.block u (lt_of_heap h.2) (fun e => by obtain ⟨_, o, ho, hc⟩ := hr u e.symm; rw [h.2] at ho; cases ho; cases hc)).trans h.2⟩) ?_ ?_ ?_ ?_
   · intro l pre x W hI hW
     have hA12 := hI.adopt
     refine SC.region ?_
     refine SO.alloc hA12 rfl rfl rfl rfl zv138 [_, _, _, _] rfl ?_
     intro b13 w13 hb13 hO13
     refine SO.store hO13 (i := 0) rfl rfl rfl rfl rfl rfl sz138 rfl rfl [(_, .cells [_, _, _, _].toArray _ _), _, _, _, _] rfl ?_
     intro w14 hO14
     refine SO.nil ?_
     have hE := (hO14.tail hb13)
     exact SQ.assigned b13 ⟨rfl, rfl, rfl, rfl, trivial⟩ ⟨Nat.le_trans hW hb13, hO14.at (i := 0) rfl⟩ (hE.keeps (namesLt rfl hlt12)) ⟨fun _ => hE.at (i := 0) rfl, fun h => hE.good h⟩ (hI.comp hE rfl)
   · intro l pre x u W hP hI hW hM hlen
     have hB12 := hI.adopt.know hM.2 (namesNe rfl hlt12 hM.1) (by have := hM.1; have := hO0.base; omega)
     have hr1 := nCells_range (bl (lineB s (ofN (bl s) a))) pre
     have hr2 := clCells_range (bl (lineB s (ofN (bl s) a))) x.1
     refine SC.block ?_
     refine SC.seq ?_
     refine SC.sr ?_
     refine SO.v (.fieldAddr rfl rfl fa41_0) ?_
     refine SO.v (.load rfl rfl ag3 (cell_of' (hB12.at (i := 3) rfl) rfl)) ?_
     refine SO.v (.fieldAddr rfl rfl fa138_1) ?_
     refine SO.v (.load rfl rfl ag3 (cell_of' (hB12.at (i := 0) rfl) rfl)) ?_
     refine SO.v (.addW rfl rfl rfl) ?_
     refine SO.v (.load rfl rfl ag3 (cell_of' (hB12.at (i := 4) rfl) rfl)) ?_
     refine SO.v (.gtr rfl rfl rfl) ?_
     refine SO.nn ?_
     refine SC.dec rfl (fun c15 => ?_) (fun c15 => ?_)
     ·
      refine SC.exit ?_
      refine SQ.then_exit ?_
      refine SQ.block_pass rfl ?_
      have hE := (hB12.forget hM.2)
      rw [← List.dropLast_concat (l₁ := pre) (b := x)] at hE
      exact SQ.breaksP (hE.keeps (namesLt rfl hlt12)) ⟨rfl, pre, x, rfl, hP, by assumption⟩ (hI.comp hE rfl)
     ·
      refine SC.skip ?_
      refine SQ.then_normal ?_
      refine SC.region ?_
      refine SO.v (.load rfl rfl ag3 (cell_of' (hB12.at (i := 2) rfl) rfl)) ?_
      refine SO.v (.fieldAddr rfl rfl fa138_3) ?_
      refine SO.v (.load rfl rfl ag3 (cell_of' (hB12.at (i := 0) rfl) rfl)) ?_
      refine SO.v (.add rfl rfl rfl (by omega)) ?_
      refine SO.store hB12 (i := 2) rfl rfl rfl rfl rfl rfl sz3 rfl rfl [_, _, (_, .cells [_].toArray _ _), _, _] rfl ?_
      intro w16 hO16
      refine SO.nil ?_
      refine SQ.block_normal ?_
      have hE := (hO16.forget hM.2)
      rw [← nCells_snoc] at hE
      have hPn : ∀ y ∈ pre ++ [x], ¬ past (spF (bl s) (ofN (bl s) a) : Nat) a y := fun y hy => by
        rcases List.mem_append.1 hy with h | h
        · exact hP y h
        · simp only [List.mem_singleton] at h; subst h; assumption
      exact SQ.goesP (hE.keeps (namesLt rfl hlt12)) ⟨fun _ => hE.at (i := 0) rfl, fun h => hE.good h⟩ hPn (hI.comp hE rfl)
   · intro d17 xs W hd17 hS hP hO17
     subst hS
     have hcol : nCells (bl (lineB s (ofN (bl s) a))) (clusters (bl (lineB s (ofN (bl s) a)))) = colW s (ofN (bl s) a) a := by unfold colW; rw [tw_all hP]
     refine SQ.block_normal ?_
     refine SQ.then_normal ?_
     refine SC.sr ?_
     refine SO.v (.load rfl rfl ag3 (cell_of' (hO17.at (i := 2) rfl) rfl)) ?_
     refine SO.as ?_
     refine SO.as ?_
     refine SO.nn ?_
     refine SC.ret ?_
     refine SQ.outM [d17] hO17 (List.forall_mem_cons.2 ⟨hd17, fun _ h => by cases h⟩) (.inl rfl) (fun w18 hO18 => ⟨_, res2 (t := 4) (u := 5) rfl rfl rfl, ?_⟩)
     exact ⟨by unfold colR; rw [if_neg (by omega), ← hcol, hse]; rfl, hO18.toBelow ⟨hbs, hb8, hb6, hb1, trivial⟩⟩
   · intro d19 c pre W hd19 hSp hX hO19
     obtain ⟨rfl, p, x, rfl, hp1, hp2⟩ := hX
     obtain ⟨r, hr⟩ := hSp
     rw [List.dropLast_concat] at hO19
     have hcol : nCells (bl (lineB s (ofN (bl s) a))) p = colW s (ofN (bl s) a) a := by unfold colW; rw [← hr, List.append_assoc, List.singleton_append, tw_stop hp1 hp2]
     refine SC.exit ?_
     refine SQ.block_exit ?_
     refine SQ.then_normal ?_
     refine SC.sr ?_
     refine SO.v (.load rfl rfl ag3 (cell_of' (hO19.at (i := 2) rfl) rfl)) ?_
     refine SO.as ?_
     refine SO.as ?_
     refine SO.nn ?_
     refine SC.ret ?_
     refine SQ.outM [d19] hO19 (List.forall_mem_cons.2 ⟨hd19, fun _ h => by cases h⟩) (.inl rfl) (fun w20 hO20 => ⟨_, res2 (t := 4) (u := 5) rfl rfl rfl, ?_⟩)
     exact ⟨by unfold colR; rw [if_neg (by omega), ← hcol, hse]; rfl, hO20.toBelow ⟨hbs, hb8, hb6, hb1, trivial⟩⟩

set_option maxRecDepth 20000 in
set_option maxHeartbeats 400000 in
theorem lines_atT (v : Value) (s : ByteArray) (k q : Int) (w : World) (hG : Good w) (ht : TextT w v s) :
    Calls Tryz.prog 25 #[v, .int .i64 k, .int .i64 q] w fun e w' => e = .returned (.tuple #[.int .i64 (atR s k q), .int .i64 (spE (bl s) k)]) ∧ Below w.heap.size w w' := by
  have hsz := ht.size
  obtain ⟨tT, tx, rfl⟩ := ht.iface
  have hsl := slT_size s (spF (bl s) k : Nat) (spT (bl s) k : Nat)
  have hcl := clusters_length (bl (lineB s k))
  rw [bl_length] at hcl
  have hsl2 : ((lineB s k)).size ≤ s.size := hsl
  have hO0 := Own.start hG
  refine enterM Tryz.func25 rfl rfl rfl 5 ?_
  refine SC.sr ?_
  refine SO.box hO0 rfl rfl rfl rfl rfl [_] rfl ?_
  intro b1 w1 hb1 hO1
  refine SO.as ?_
  refine SO.as ?_
  refine SO.nn ?_
  refine SC.sr ?_
  refine SO.mv ?_
  refine SO.mv ?_
  refine SO.call rfl rfl rfl rfl (.callF rfl rfl en28) (lines_spanT _ s _ _ (hO1.good hG) (ht.below (hO1.toBelow ⟨hb1, trivial⟩))) ?_
  rintro _ w2 ⟨rfl, hb2⟩
  have hO2 := hO1.below hb2
  refine ⟨_, rfl, ?_⟩
  refine SO.mv ?_
  refine SO.v (.extract rfl rfl rfl) ?_
  refine SO.v (.extract rfl rfl rfl) ?_
  refine SO.alloc hO2 rfl rfl rfl rfl zv41 [_, _] rfl ?_
  intro b3 w3 hb3 hO3
  refine SO.store hO3 (i := 0) rfl rfl rfl rfl rfl rfl sz41 rfl rfl [(_, .cells [_, _].toArray _ _), _] rfl ?_
  intro w4 hO4
  refine SO.as ?_
  refine SO.nn ?_
  refine SC.seq ?_
  refine SC.sr ?_
  refine SO.mv ?_
  refine SO.v (.neq rfl rfl rfl) ?_
  refine SO.nn ?_
  refine SC.dec rfl (fun c5 => ?_) (fun c5 => ?_)
  ·
   have hse := c5
   refine SC.sr ?_
   refine SO.mv ?_
   refine SO.as ?_
   refine SO.as ?_
   refine SO.nn ?_
   refine SC.ret ?_
   refine SQ.then_ret ?_
   refine SQ.outM [] hO4 (fun _ h => by cases h) (.inl rfl) (fun w6 hO6 => ⟨_, res2 (t := 6) (u := 7) rfl rfl rfl, ?_⟩)
   exact ⟨by unfold atR; rw [if_pos hse]; rfl, hO6.toBelow ⟨hb3, hb1, trivial⟩⟩
  ·
   have hse : spE (bl s) k = 0 := by omega
   refine SC.skip ?_
   refine SQ.then_normal ?_
   refine SC.sr ?_
   refine SO.v (.fieldAddr rfl rfl fa41_0) ?_
   refine SO.v (.load rfl rfl ag3 (cell_of' (hO4.at (i := 0) rfl) rfl)) ?_
   refine SO.alloc hO4 rfl rfl rfl rfl zv3 [_] rfl ?_
   intro b7 w7 hb7 hO7
   refine SO.alloc hO7 rfl rfl rfl rfl zv3 [_] rfl ?_
   intro b8 w8 hb8 hO8
   refine SO.store hO8 (i := 1) rfl rfl rfl rfl rfl rfl sz3 rfl rfl [_, (_, .cells [_].toArray _ _), _, _] rfl ?_
   intro w9 hO9
   refine SO.store hO9 (i := 0) rfl rfl rfl rfl rfl rfl sz3 rfl rfl [(_, .cells [_].toArray _ _), _, _, _] rfl ?_
   intro w10 hO10
   refine SO.nn ?_
   refine SC.seq ?_
   refine SC.sr ?_
   refine SO.mv ?_
   refine SO.v (.fieldAddr rfl rfl fa41_0) ?_
   refine SO.v (.load rfl rfl ag3 (cell_of' (hO10.at (i := 2) rfl) rfl)) ?_
   refine SO.v (.fieldAddr rfl rfl fa41_1) ?_
   refine SO.v (.load rfl rfl ag3 (cell_of' (hO10.at (i := 2) rfl) rfl)) ?_
   refine SO.call rfl rfl rfl rfl (.callF rfl rfl en77) (lines_sliceT _ s _ _ _ (hO10.good hG) (ht.below (hO10.toBelow ⟨hb8, hb7, hb3, hb1, trivial⟩))) ?_
   rintro _ w11 ⟨rfl, hb11⟩
   have hO11 := hO10.below hb11
   refine ⟨_, rfl, ?_⟩
   refine SO.call rfl rfl rfl rfl (.callF rfl rfl en76) (walk_any (lineB s k) _ (hO11.good hG)) ?_
   rintro _ w12 ⟨bs, rfl, hbs, hbox, hb12⟩
   have hO12 := hO11.learnB hb12 hbs hbox
   replace hbs := Nat.le_trans hO11.size hbs
   refine ⟨_, rfl, ?_⟩
   refine SO.nn ?_
   refine SC.block ?_
   have hlt13 : ∀ b ∈ [bs, b8, b7, b3, b1], b < w12.heap.size := hO12.ltN
   have hsz13 := hO12.size
   refine SC.rangeP (α := Nat × Nat) (β := Nat) (fun pre => InCol (bl (lineB s k)) q pre) (InCol.nil _ _) hO12 rfl en136 (encs := fun c => [clV (bl (lineB s k)) c]) (by omega) (walk_stops (lineB s k) bs _ _ (hO12.good hG) (by omega) (hO12.at (i := 0) rfl)) KpW.trans (fun W l o1 o2 hl hx _ _ => KpW.put (lt_of_heap (hO12.at (i := 0) rfl)) (Nat.le_trans hO12.base hO12.size) W l o1 o2 hl hx) (fun _ => rfl) (by decide) (fun pre => [(bs, boxS (lineB s k)), (b8, .cells #[.int .i64 (nCells (bl (lineB s k)) pre)] 3 (0, 0)), (b7, .cells #[.int .i64 (lastTo (spF (bl s) k : Nat) pre)] 3 (0, 0)), (b3, .cells #[.int .i64 (spF (bl s) k : Nat), .int .i64 (spT (bl s) k : Nat)] 41 (0, 0)), (b1, .cells #[.int .i64 q] 3 (0, 0))]) (fun c xs => c = .exit 0 ∧ ∃ p x, xs = p ++ [x] ∧ InCol (bl (lineB s k)) q p ∧ nCells (bl (lineB s k)) p + clCells (bl (lineB s k)) x.1 > q) (fun _ xs => [(bs, boxS (lineB s k)), (b8, .cells #[.int .i64 (nCells (bl (lineB s k)) xs)] 3 (0, 0)), (b7, .cells #[.int .i64 (lastTo (spF (bl s) k : Nat) xs.dropLast)] 3 (0, 0)), (b3, .cells #[.int .i64 (spF (bl s) k : Nat), .int .i64 (spT (bl s) k : Nat)] 41 (0, 0)), (b1, .cells #[.int .i64 q] 3 (0, 0))]) rfl (fun _ => rfl) (fun _ _ _ => rfl) (fun _ u => [(8, .pointer (some ⟨b3, 0, none⟩)), (5, .pointer (some ⟨b1, 0, none⟩)), (10, .pointer (some ⟨b7, 0, none⟩)), (11, .pointer (some ⟨b8, 0, none⟩)), (12, .pointer (some ⟨u, 0, none⟩))]) (fun x u W => w12.heap.size ≤ u ∧ W.heap[u]? = some (.cells #[.int .i64 (x.1 : Int), .int .i64 (x.2 : Int), .int .i64 (clCls (bl (lineB s k)) x.1), .int .i64 (clCells (bl (lineB s k)) x.1)] 138 (0, 0))) (fun _ u => fun _ A B row h hg hr => ⟨h.1, (hg.block u (lt_of_heap h.2) (fun e => by obtain ⟨_, o, ho, hc⟩ := hr u e.symm; rw [h.2] at ho; cases ho; cases hc)).trans h.2⟩) ?_ ?_ ?_ ?_
   · intro l pre x W hI hW
     have hA13 := hI.adopt
     refine SC.region ?_
     refine SO.alloc hA13 rfl rfl rfl rfl zv138 [_, _, _, _] rfl ?_
     intro b14 w14 hb14 hO14
     refine SO.store hO14 (i := 0) rfl rfl rfl rfl rfl rfl sz138 rfl rfl [(_, .cells [_, _, _, _].toArray _ _), _, _, _, _, _] rfl ?_
     intro w15 hO15
     refine SO.nil ?_
     have hE := (hO15.tail hb14)
     exact SQ.assigned b14 ⟨rfl, rfl, rfl, rfl, rfl, trivial⟩ ⟨Nat.le_trans hW hb14, hO15.at (i := 0) rfl⟩ (hE.keeps (namesLt rfl hlt13)) ⟨fun _ => hE.at (i := 0) rfl, fun h => hE.good h⟩ (hI.comp hE rfl)
   · intro l pre x u W hP hI hW hM hlen
     have hB13 := hI.adopt.know hM.2 (namesNe rfl hlt13 hM.1) (by have := hM.1; have := hO0.base; omega)
     have hr1 := nCells_range (bl (lineB s k)) pre
     have hr2 := clCells_range (bl (lineB s k)) x.1
     refine SC.block ?_
     refine SC.sr ?_
     refine SO.v (.load rfl rfl ag3 (cell_of' (hB13.at (i := 2) rfl) rfl)) ?_
     refine SO.v (.fieldAddr rfl rfl fa138_3) ?_
     refine SO.v (.load rfl rfl ag3 (cell_of' (hB13.at (i := 0) rfl) rfl)) ?_
     refine SO.v (.add rfl rfl rfl (by omega)) ?_
     refine SO.store hB13 (i := 2) rfl rfl rfl rfl rfl rfl sz3 rfl rfl [_, _, (_, .cells [_].toArray _ _), _, _, _] rfl ?_
     intro w16 hO16
     refine SO.nn ?_
     refine SC.seq ?_
     refine SC.sr ?_
     refine SO.v (.load rfl rfl ag3 (cell_of' (hO16.at (i := 2) rfl) rfl)) ?_
     refine SO.v (.load rfl rfl ag3 (cell_of' (hO16.at (i := 5) rfl) rfl)) ?_
     refine SO.v (.gtr rfl rfl rfl) ?_
     refine SO.nn ?_
     refine SC.dec rfl (fun c17 => ?_) (fun c17 => ?_)
     ·
      refine SC.exit ?_
      refine SQ.then_exit ?_
      refine SQ.block_pass rfl ?_
      have hE := (hO16.forget hM.2)
      rw [← nCells_snoc] at hE
      have e9 : lastTo (spF (bl s) k : Nat) pre = lastTo (spF (bl s) k : Nat) (pre ++ [x]).dropLast := by rw [List.dropLast_concat]
      rw [e9] at hE
      exact SQ.breaksP (hE.keeps (namesLt rfl hlt13)) ⟨rfl, pre, x, rfl, hP, by assumption⟩ (hI.comp hE rfl)
     ·
      refine SC.skip ?_
      refine SQ.then_normal ?_
      refine SC.region ?_
      refine SO.v (.fieldAddr rfl rfl fa41_0) ?_
      refine SO.v (.load rfl rfl ag3 (cell_of' (hO16.at (i := 4) rfl) rfl)) ?_
      refine SO.v (.fieldAddr rfl rfl fa138_1) ?_
      refine SO.v (.load rfl rfl ag3 (cell_of' (hO16.at (i := 0) rfl) rfl)) ?_
      refine SO.v (.addW rfl rfl rfl) ?_
      refine SO.store hO16 (i := 3) rfl rfl rfl rfl rfl rfl sz3 rfl rfl [_, _, _, (_, .cells [_].toArray _ _), _, _] rfl ?_
      intro w18 hO18
      refine SO.nil ?_
      refine SQ.block_normal ?_
      have hE := (hO18.forget hM.2)
      rw [← nCells_snoc] at hE
      have hPn := hP.snoc (x := x) (by assumption)
      have hE2 := hE
      rw [show IntKind.i64.wrap (((spF (bl s) k : Nat) : Int) + (x.2 : Int)) = lastTo (spF (bl s) k : Nat) (pre ++ [x]) from (lastTo_snoc _ _ _).symm] at hE
      exact SQ.goesP (hE.keeps (namesLt rfl hlt13)) ⟨fun _ => hE.at (i := 0) rfl, fun h => hE.good h⟩ hPn (hI.comp hE rfl)
   · intro d19 xs W hd19 hS hP hO19
     subst hS
     have hat : lastTo (spF (bl s) k : Nat) (clusters (bl (lineB s k))) = lastTo (spF (bl s) k : Nat) (upto (bl (lineB s k)) q (clusters (bl (lineB s k))) 0) := by rw [upto_all _ _ (fun p x r e => by rw [Int.zero_add]; exact hP p x r e)]
     refine SQ.block_normal ?_
     refine SQ.then_normal ?_
     refine SC.sr ?_
     refine SO.v (.load rfl rfl ag3 (cell_of' (hO19.at (i := 3) rfl) rfl)) ?_
     refine SO.as ?_
     refine SO.as ?_
     refine SO.nn ?_
     refine SC.ret ?_
     refine SQ.outM [d19] hO19 (List.forall_mem_cons.2 ⟨hd19, fun _ h => by cases h⟩) (.inl rfl) (fun w20 hO20 => ⟨_, res2 (t := 6) (u := 7) rfl rfl rfl, ?_⟩)
     exact ⟨by unfold atR; rw [if_neg (by omega), ← hat, hse]; rfl, hO20.toBelow ⟨hbs, hb8, hb7, hb3, hb1, trivial⟩⟩
   · intro d21 c pre W hd21 hSp hX hO21
     obtain ⟨rfl, p, x, rfl, hp1, hp2⟩ := hX
     obtain ⟨r, hr⟩ := hSp
     rw [List.dropLast_concat] at hO21
     have hat : lastTo (spF (bl s) k : Nat) p = lastTo (spF (bl s) k : Nat) (upto (bl (lineB s k)) q (clusters (bl (lineB s k))) 0) := by rw [← hr, List.append_assoc, List.singleton_append, upto_stop p x r 0 (fun p' y r' e => by rw [Int.zero_add]; exact hp1 p' y r' e) (by rw [Int.zero_add, nCells_snoc]; exact hp2)]
     refine SC.exit ?_
     refine SQ.block_exit ?_
     refine SQ.then_normal ?_
     refine SC.sr ?_
     refine SO.v (.load rfl rfl ag3 (cell_of' (hO21.at (i := 3) rfl) rfl)) ?_
     refine SO.as ?_
     refine SO.as ?_
     refine SO.nn ?_
     refine SC.ret ?_
     refine SQ.outM [d21] hO21 (List.forall_mem_cons.2 ⟨hd21, fun _ h => by cases h⟩) (.inl rfl) (fun w22 hO22 => ⟨_, res2 (t := 6) (u := 7) rfl rfl rfl, ?_⟩)
     exact ⟨by unfold atR; rw [if_neg (by omega), ← hat, hse]; rfl, hO22.toBelow ⟨hbs, hb8, hb7, hb3, hb1, trivial⟩⟩

set_option maxRecDepth 20000 in
set_option maxHeartbeats 400000 in
theorem lines_linesT (v : Value) (s : ByteArray) (w : World) (hG : Good w) (ht : TextT w v s) :
    Calls Tryz.prog 46 #[v] w fun e w' => ∃ b : Nat, e = .returned (.func (.func 94) #[] #[.pointer (some ⟨b, 0, none⟩)]) ∧ w.heap.size ≤ b ∧ w'.heap[b]? = some (.cells [v].toArray 28 (0, 0)) ∧ Below w.heap.size w w' := by
  obtain ⟨tT, tx, rfl⟩ := ht.iface
  have hO0 := Own.start hG
  refine enter Tryz.func46 rfl rfl rfl 0 ?_
  refine SC.sr ?_
  refine SO.box hO0 rfl rfl rfl rfl rfl [_] rfl ?_
  intro b1 w1 hb1 hO1
  refine SO.as ?_
  refine SO.nn ?_
  refine SC.sr ?_
  refine SO.v (.makeFunc rfl rfl) ?_
  refine SO.as ?_
  refine SO.nn ?_
  refine SC.ret ?_
  refine SQ.out (.inl rfl) (res1 rfl rfl) ?_
  exact ⟨b1, rfl, hb1, hO1.at (i := 0) rfl, hO1.toBelow ⟨hb1, trivial⟩⟩

set_option maxRecDepth 20000 in
set_option maxHeartbeats 400000 in
theorem lines_stopsT (v : Value) (s : ByteArray) (bs n : Nat) (w : World) (hG0 : Good w) (hB0 : w.heap[bs]? = some (.cells [v].toArray 28 (0, 0))) (ht : TextT w v s) :
    SeqStopsK (Fc none) n Tryz.prog 94 #[.pointer (some ⟨bs, 0, none⟩)] (fun c => (encL c).toArray) (KpB w.heap.size) (fun xs => xs = linesL (bl s)) (fun pre => ∃ r, pre ++ r = linesL (bl s)) (linesL (bl s)).length w := by
  intro l J Jx W hbW hJ hJx hY h0
  have hG : Good W := hG0.ext hbW
  have hB : W.heap[bs]? = _ := (hbW.block bs (lt_of_heap hB0)).trans hB0
  have htW := ht.below hbW
  have hsz := ht.size
  have hnl := nlC_le (bl s)
  rw [bl_length] at hnl
  obtain ⟨tT, tx, rfl⟩ := ht.iface
  have hO0 := Own.start hG
  refine enterIn (args := [.func (.yield l) #[] #[], .pointer (some ⟨bs, 0, none⟩)]) Tryz.func94 rfl rfl rfl ?_
  refine SC.sr ?_
  refine SO.v (.load rfl rfl ag28 (cell_of' (hO0.heapO trivial hB) rfl)) ?_
  refine SO.call rfl rfl rfl rfl (.callF rfl rfl en29) (lines_countT (.iface tT tx) s _ (hO0.good hG) (htW.below (hO0.toBelow trivial))) ?_
  rintro _ w1 ⟨rfl, hb1⟩
  have hO1 := hO0.below hb1
  refine ⟨_, rfl, ?_⟩
  have hmk := made_own (E := 41) (w := w1) (z := .agg #[.int .i64 0, .int .i64 0]) (x0 := ((0 : Int), (0 : Int))) encS_len (by decide) rfl (nlC (bl s) + 1) (by simp only [maxLen]; omega)
  have hbm := (hO1.toBelow trivial).trans ((Below.refl _ _).alloc (hO1.toBelow trivial).size (.cells (madeCells (Value.agg #[.int .i64 0, .int .i64 0]).cells ((nlC (bl s) + 1) * 2)) 41))
  have hrow0 := hmk.wide (hO1.toBelow trivial).size
  obtain ⟨g, hg⟩ : ∃ g, g = (w1).heap.size := ⟨_, rfl⟩
  have hGm := hG.ext hbm
  have hOM := Own.start hGm
  rw [← hg] at hrow0
  refine SO.v (.makeR (w := w1) (z := .agg #[.int .i64 0, .int .i64 0]) Tryz.underlying111 inf41_ok inf41_z inf41_s inf41_b rfl rfl rfl (by omega) (by omega) (by omega)) ?_
  rw [← hg, Int.toNat_natCast]
  refine SO.as ?_
  refine SO.nn ?_
  refine SC.seq ?_
  refine SC.sr ?_
  refine SO.mv ?_
  refine SO.v (.lenA rfl rfl Tryz.underlying111) ?_
  refine SO.mv ?_
  refine SO.nn ?_
  refine SC.block ?_
  refine SC.loop (α := Nat) (fun x => [(0, .func (.yield l) #[] #[]), (1, .pointer (some ⟨bs, 0, none⟩)), (3, (.slice (some ⟨g, 0, none⟩) (nlC (bl s) + 1) (nlC (bl s) + 1))), (11, .int .i64 ((nlC (bl s) + 1 : Nat) : Int)), (12, .int .i64 (x : Int))]) (fun x v => Below W.heap.size W v ∧ Own' encS 41 2 W.heap.size v (.slice (some ⟨g, 0, none⟩) (nlC (bl s) + 1) (nlC (bl s) + 1)) (spansN (bl s) x ++ List.replicate (nlC (bl s) + 1 - x) (0, 0)) ∧ x ≤ nlC (bl s) + 1) (fun x => nlC (bl s) + 1 - x) 0 ?_ ?_ ?_
  · exact ⟨rfl, rfl, rfl, rfl, rfl, trivial⟩
  · exact ⟨hbm, by simpa [spansN] using hrow0, Nat.zero_le _⟩
  rintro i wL ⟨hbv, hrow, hil⟩
  have hGv : Good wL := hG.ext hbv
  have hO2 := Own.start hGv
  replace hB := (hbv.block bs (lt_of_heap hB)).trans hB
  refine SC.sr ?_
  refine SO.v (.lss rfl rfl rfl) ?_
  refine SO.nn ?_
  refine SC.seq ?_
  refine SC.dec rfl (fun c3 => ?_) (fun c3 => ?_)
  ·
   have hi2 : i < nlC (bl s) + 1 := by omega
   have hno : ¬ noLine (bl s) ((i : Nat) : Int) := by unfold noLine; omega
   have heF : spF (bl s) ((i : Nat) : Int) = bgn (bl s) ((i : Nat) : Int) := by unfold spF; rw [if_neg hno]
   have heT : spT (bl s) ((i : Nat) : Int) = lend (bl s) ((i : Nat) : Int) := by unfold spT; rw [if_neg hno]
   have hsplit : spansN (bl s) i ++ List.replicate (nlC (bl s) + 1 - i) ((0 : Int), (0 : Int)) = spansN (bl s) i ++ (0, 0) :: List.replicate (nlC (bl s) - i) (0, 0) := by rw [show nlC (bl s) + 1 - i = (nlC (bl s) - i) + 1 by omega, List.replicate_succ]
   refine SC.skip ?_
   refine SQ.then_normal ?_
   refine SC.seq ?_
   refine SC.block ?_
   refine SC.sr ?_
   refine SO.mv ?_
   refine SO.as ?_
   refine SO.nn ?_
   refine SC.region ?_
   refine SO.mv ?_
   refine SO.mv ?_
   refine SO.v (.load rfl rfl ag28 (cell_of' (hO2.heapO trivial hB) rfl)) ?_
   refine SO.mv ?_
   refine SO.call rfl rfl rfl rfl (.callF rfl rfl en28) ((by have h := lines_spanT (.iface tT tx) s ((i : Nat) : Int) _ (hO2.good hGv) (htW.below (hbv.trans ((hO2.toBelow trivial).mono hbv.size))); rw [heF, heT] at h; exact h)) ?_
   rintro _ w4 ⟨rfl, hb4⟩
   have hO4 := hO2.below hb4
   refine ⟨_, rfl, ?_⟩
   refine SO.mv ?_
   refine SO.v (.extract rfl rfl rfl) ?_
   refine SO.v (.extract rfl rfl rfl) ?_
   refine SO.v (.indexAddr rfl rfl rfl Tryz.underlying111 sz41 (by omega) (by omega)) ?_
   obtain ⟨wA, hsr, hrow2, hbA⟩ := Own'.setAt (xs := spansN (bl s) i) (x := (0, 0)) (y := spI (bl s) i) (zs := List.replicate (nlC (bl s) - i) (0, 0)) (by have h := hrow.below (hO4.toBelow trivial); rw [hsplit] at h; exact h) encS_len (Nat.le_trans hbv.size (hO4.toBelow trivial).size) (fun u hu => by simp only [encS, List.mem_cons, List.not_mem_nil, or_false] at hu; rcases hu with rfl | rfl <;> rfl)
   rw [show (spansN (bl s) i).length * 2 = 0 + ((i : Nat) : Int).toNat * 2 by rw [spansN_len, Int.toNat_natCast]; omega] at hsr
   have hbA2 := (hbv.trans ((hO4.toBelow trivial).mono hbv.size)).trans hbA
   have hGA : Good wA := hG.ext hbA2
   have hOA := Own.start hGA
   refine SO.eff rfl rfl rfl (w' := wA) (.storeN rfl rfl rfl sz41 hsr) ?_
   refine SO.nil ?_
   refine SQ.block_normal ?_
   refine SQ.then_normal ?_
   refine SC.region ?_
   refine SO.v (.add rfl rfl rfl (by omega)) ?_
   refine SO.mv ?_
   refine SO.nil ?_
   first | exact SQ.round (i + 1) (by omega) ⟨rfl, rfl, rfl, rfl, rfl, trivial⟩ ⟨hbA2, by rw [spansN_succ, List.append_assoc, List.singleton_append, show nlC (bl s) + 1 - (i + 1) = nlC (bl s) - i by omega]; exact hrow2, by omega⟩
  ·
   refine SC.exit ?_
   refine SQ.then_exit ?_
   refine SQ.then_exit ?_
   refine SQ.block_exit ?_
   refine SQ.then_normal ?_
   refine SC.sr ?_
   refine SO.mv ?_
   refine SO.v (.lenA rfl rfl Tryz.underlying111) ?_
   refine SO.mv ?_
   refine SO.nn ?_
   refine SC.block ?_
   have hx9 : i = nlC (bl s) + 1 := by omega
   subst hx9
   have hfin : Own' encS 41 2 W.heap.size wL (.slice (some ⟨g, 0, none⟩) (nlC (bl s) + 1) (nlC (bl s) + 1)) (spansL (bl s)) := by have h := hrow.below (hO2.toBelow trivial); rw [Nat.sub_self, List.replicate_zero, List.append_nil] at h; exact h
   have hbf := hbv.trans ((hO2.toBelow trivial).mono hbv.size)
   have hGf := hO2.good hGv
   obtain ⟨_, hr2 | ⟨g2, cap2, cur, hv2, hg2, hcur, _, _, _, htk⟩⟩ := hfin
   · exact absurd hr2.1 (by intro e; cases e)
   have eg : g = g2 := congrArg (fun v => match v with | Value.slice (some a) _ _ => a.block | _ => 0) hv2
   subst eg
   have hcell : ∀ k, k < nlC (bl s) + 1 → ∀ j u, (encS (spI (bl s) k))[j]? = some u → cur[0 + k * 2 + j]? = some u := fun k hk j u hu => by
     have h4 := flat_get encS_len (spansL (bl s)) k _ (spansL_get hk) j u hu
     rw [← htk] at h4
     rw [Nat.zero_add, ← Array.getElem?_toList]
     rw [List.getElem?_take] at h4
     split at h4
     · exact h4
     · cases h4
   refine SC.loop (α := Nat) (fun x => [(0, .func (.yield l) #[] #[]), (25, (.slice (some ⟨g, 0, none⟩) (nlC (bl s) + 1) (nlC (bl s) + 1))), (26, .int .i64 ((nlC (bl s) + 1 : Nat) : Int)), (27, .int .i64 (x : Int))]) (fun x v => J ((linesL (bl s)).take x) v ∧ Good v ∧ v.heap[g]? = some (.cells cur 41 (0, 0)) ∧ x ≤ nlC (bl s) + 1) (fun x => nlC (bl s) + 1 - x) 0 ?_ ?_ ?_
   · exact ⟨rfl, rfl, rfl, rfl, trivial⟩
   · exact ⟨abides_below hJ h0 hbf, hGf, hcur, Nat.zero_le _⟩
   rintro k wM ⟨hJp, hGk, hRv, hkl⟩
   have hO6 := Own.start hGk
   refine SC.sr ?_
   refine SO.v (.lss rfl rfl rfl) ?_
   refine SO.nn ?_
   refine SC.seq ?_
   refine SC.dec rfl (fun c7 => ?_) (fun c7 => ?_)
   ·
    have hk2 : k < nlC (bl s) + 1 := by omega
    have hck := hcell k hk2
    rw [← Int.toNat_natCast k] at hck
    have hcw := fun j u hu => cell_of (w := wM) (b := g) (c := cur) (i := 0 + ((k : Int).toNat) * 2 + j) hRv |>.trans (hck j u hu)
    refine SC.skip ?_
    refine SQ.then_normal ?_
    refine SC.seq ?_
    refine SC.block ?_
    refine SC.sr ?_
    refine SO.mv ?_
    refine SO.v (.indexAddr rfl rfl rfl Tryz.underlying111 sz41 (by omega) (by omega)) ?_
    refine SO.v (.loadN (cs := [_, _]) rfl rfl ag41 sz41 (fun j u hj => (hO6.cellO trivial (hcw j u hj)))) ?_
    refine SO.alloc hO6 rfl rfl rfl rfl zv41 [_, _] rfl ?_
    intro b8 w8 hb8 hO8
    refine SO.as ?_
    refine SO.store hO8 (i := 0) rfl rfl rfl rfl rfl rfl sz41 rfl rfl [(_, .cells [_, _].toArray _ _)] rfl ?_
    intro w9 hO9
    refine SO.nn ?_
    refine SC.sr ?_
    refine SO.mv ?_
    refine SO.mv ?_
    refine SO.v (.loadB [_, _] rfl rfl ag41 sz41 (hO9.at (i := 0) rfl) rfl rfl) ?_
    have hJn := abides_below hJ hJp (hO9.toBelow ⟨hb8, trivial⟩)
    have hGn := hO9.good hGk
    have hBn := hO9.heapO ⟨hb8, trivial⟩ hRv
    refine SO.yield rfl rfl rfl rfl rfl rfl (hY ((linesL (bl s)).take k) ((k : Int), spI (bl s) k) _ hJn (by rw [List.length_take, linesL_len]; omega)) ?_
    rintro _ w10 (⟨rfl, hJ2, hK2⟩ | ⟨rfl, hJ2⟩)
    ·
     refine ⟨_, rfl, ?_⟩
     have hG2 := hK2.2 hGn
     have hB2 := hK2.1 _ _ _ _ (Nat.le_trans hbW.size hg2) hBn
     have hO10 := Own.start hG2
     refine SO.v (.not rfl rfl) ?_
     refine SO.nn ?_
     refine SC.no rfl ?_
     refine SC.skip ?_
     refine SQ.block_normal ?_
     refine SQ.then_normal ?_
     refine SC.region ?_
     refine SO.v (.add rfl rfl rfl (by omega)) ?_
     refine SO.mv ?_
     refine SO.nil ?_
     first | exact SQ.round (k + 1) (by omega) ⟨rfl, rfl, rfl, rfl, trivial⟩ ⟨by rw [linesL_take hk2]; exact abides_below hJ hJ2 (hO10.toBelow trivial), hO10.good hG2, hO10.heapO trivial hB2, by omega⟩
    ·
     refine ⟨_, rfl, ?_⟩
     refine SO.v (.not rfl rfl) ?_
     refine SO.nn ?_
     refine SC.yes rfl ?_
     refine SC.ret ?_
     refine SQ.block_ret ?_
     refine SQ.then_ret ?_
     refine SQ.then_ret ?_
     refine SQ.block_ret ?_
     refine SQ.out (.inl rfl) (res0 rfl) ?_
     exact ⟨⟨_, rfl⟩, .inr ⟨_, ⟨_, by rw [← linesL_take hk2]; exact List.take_append_drop _ _⟩, hJ2⟩⟩
   ·
    have hall : (linesL (bl s)).take k = linesL (bl s) := List.take_of_length_le (by rw [linesL_len]; omega)
    refine SC.exit ?_
    refine SQ.then_exit ?_
    refine SQ.then_exit ?_
    refine SQ.block_exit ?_
    refine SQ.out (.inr rfl) (res0 rfl) ?_
    exact ⟨⟨_, rfl⟩, .inl ⟨_, hall, hJp⟩⟩

end Go.Proofs.YtclgplkkajfenaaGreatDoor
