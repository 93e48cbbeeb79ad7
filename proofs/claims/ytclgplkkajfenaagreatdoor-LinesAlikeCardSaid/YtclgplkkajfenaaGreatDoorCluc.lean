/- cluster.Boundary, Next, Prev, Snap. -/
import Derived.Test.YtclgplkkajfenaaGreatDoorClu
namespace Go.Proofs.YtclgplkkajfenaaGreatDoor
open Go Go.RowKit Ow
theorem cBd_edge {l : Bs} {i : Int} (h : i ≤ 0 ∨ (l.length : Int) ≤ i) : decide (cBd l i) = decide (i = 0 ∨ i = l.length) := by
  refine decide_eq_decide.2 ⟨fun ⟨h1, h2⟩ => ?_, fun h' => ?_⟩
  · rcases h2 with h2 | h2 | ⟨h2, _⟩ <;> omega
  · rcases h' with rfl | rfl
    · exact ⟨by omega, .zero l⟩
    · exact ⟨by omega, by simpa using CB.len l⟩
theorem cBd_no {l : Bs} {i : Int} (h : ¬ uBd l i) : ¬ cBd l i := fun ⟨h1, h2⟩ => h ⟨h1, by have := h2.le; omega, uDown_self h2.ub⟩
theorem cBd_nat {l : Bs} {i : Nat} : cBd l (i : Int) ↔ CB l i := ⟨fun h => by simpa using h.2, fun h => ⟨by omega, by simpa using h⟩⟩

set_option maxRecDepth 20000 in
set_option maxHeartbeats 400000 in
theorem cboundary_any (s : ByteArray) (i : Int) (w : World) (hG : Good w) (hz : s.size ≤ 4611686018427387904) :
    Calls Tryz.prog 66 #[.string s, .int .i64 i] w fun e w' => e = .returned (.bool (decide (cBd (bl s) i))) ∧ Below w.heap.size w w' := by
  have hO0 := Own.start hG
  refine enter Tryz.func66 rfl rfl rfl 0 ?_
  refine SC.seq ?_
  refine SC.region ?_
  refine SO.val rfl rfl rfl rfl (.assign rfl rfl) ?_
  refine SO.nil ?_
  refine SQ.then_normal ?_
  refine SC.seq ?_
  refine SC.seq ?_
  refine SC.region ?_
  refine SO.val rfl rfl rfl rfl (.move rfl rfl) ?_
  refine SO.val rfl rfl rfl rfl (.leq rfl rfl rfl) ?_
  refine SO.val rfl rfl rfl rfl (.move rfl rfl) ?_
  refine SO.dec 11 rfl (fun g1 => ?_) (fun g1 => ?_)
  ·
    refine SO.pass rfl rfl rfl ?_
    refine SO.pass rfl rfl rfl ?_
    refine SO.pass rfl rfl rfl ?_
    refine SO.pass rfl rfl rfl ?_
    refine SO.val rfl rfl rfl rfl (.pickT rfl rfl rfl) ?_
    refine SO.nil ?_
    refine SQ.then_normal ?_
    refine SC.yes rfl ?_
    refine SC.seq ?_
    refine SC.region ?_
    refine SO.val rfl rfl rfl rfl (.move rfl rfl) ?_
    refine SO.val rfl rfl rfl rfl (.eql rfl rfl rfl) ?_
    refine SO.val rfl rfl rfl rfl (.move rfl rfl) ?_
    refine SO.dec 19 rfl (fun g2 => ?_) (fun g2 => ?_)
    ·
      refine SO.pass rfl rfl rfl ?_
      refine SO.pass rfl rfl rfl ?_
      refine SO.pass rfl rfl rfl ?_
      refine SO.pass rfl rfl rfl ?_
      refine SO.val rfl rfl rfl rfl (.pickT rfl rfl rfl) ?_
      refine SO.val rfl rfl rfl rfl (.assign rfl rfl) ?_
      refine SO.nil ?_
      refine SQ.then_normal ?_
      refine SC.ret ?_
      refine SQ.then_ret ?_
      refine SQ.out (.inl rfl) (res1 rfl rfl) ?_
      refine ⟨?_, hO0.toBelow trivial⟩
      first | (rw [cBd_edge (by rw [bl_length]; omega)]; congr 2; exact decide_eq_decide.2 (by rw [bl_length]; omega)) | (rw [cBd_edge (by rw [bl_length]; omega), decide_eq_true (by rw [bl_length]; omega)]) | (rw [decide_eq_false (cBd_no hub)]) | (congr 2; exact decide_eq_decide.2 ⟨fun h => ⟨by omega, hcb.2 h⟩, fun h => hcb.1 h.2⟩)
    ·
      refine SO.val rfl rfl rfl rfl (.move rfl rfl) ?_
      refine SO.val rfl rfl rfl rfl (.move rfl rfl) ?_
      refine SO.val rfl rfl rfl rfl (.lenS rfl rfl Tryz.underlying9) ?_
      refine SO.val rfl rfl rfl rfl (.eql rfl rfl rfl) ?_
      refine SO.val rfl rfl rfl rfl (.pickF rfl rfl rfl) ?_
      refine SO.val rfl rfl rfl rfl (.assign rfl rfl) ?_
      refine SO.nil ?_
      refine SQ.then_normal ?_
      refine SC.ret ?_
      refine SQ.then_ret ?_
      refine SQ.out (.inl rfl) (res1 rfl rfl) ?_
      refine ⟨?_, hO0.toBelow trivial⟩
      first | (rw [cBd_edge (by rw [bl_length]; omega)]; congr 2; exact decide_eq_decide.2 (by rw [bl_length]; omega)) | (rw [cBd_edge (by rw [bl_length]; omega), decide_eq_true (by rw [bl_length]; omega)]) | (rw [decide_eq_false (cBd_no hub)]) | (congr 2; exact decide_eq_decide.2 ⟨fun h => ⟨by omega, hcb.2 h⟩, fun h => hcb.1 h.2⟩)
  ·
    refine SO.val rfl rfl rfl rfl (.move rfl rfl) ?_
    refine SO.val rfl rfl rfl rfl (.move rfl rfl) ?_
    refine SO.val rfl rfl rfl rfl (.lenS rfl rfl Tryz.underlying9) ?_
    refine SO.val rfl rfl rfl rfl (.geq rfl rfl rfl) ?_
    refine SO.val rfl rfl rfl rfl (.pickF rfl rfl rfl) ?_
    refine SO.nil ?_
    refine SQ.then_normal ?_
    refine SC.dec rfl (fun c5 => ?_) (fun c5 => ?_)
    ·
      refine SC.seq ?_
      refine SC.region ?_
      refine SO.val rfl rfl rfl rfl (.move rfl rfl) ?_
      refine SO.val rfl rfl rfl rfl (.eql rfl rfl rfl) ?_
      refine SO.val rfl rfl rfl rfl (.move rfl rfl) ?_
      refine SO.dec 19 rfl (fun g6 => ?_) (fun g6 => ?_)
      ·
        refine SO.pass rfl rfl rfl ?_
        refine SO.pass rfl rfl rfl ?_
        refine SO.pass rfl rfl rfl ?_
        refine SO.pass rfl rfl rfl ?_
        refine SO.val rfl rfl rfl rfl (.pickT rfl rfl rfl) ?_
        refine SO.val rfl rfl rfl rfl (.assign rfl rfl) ?_
        refine SO.nil ?_
        refine SQ.then_normal ?_
        refine SC.ret ?_
        refine SQ.then_ret ?_
        refine SQ.out (.inl rfl) (res1 rfl rfl) ?_
        refine ⟨?_, hO0.toBelow trivial⟩
        first | (rw [cBd_edge (by rw [bl_length]; omega)]; congr 2; exact decide_eq_decide.2 (by rw [bl_length]; omega)) | (rw [cBd_edge (by rw [bl_length]; omega), decide_eq_true (by rw [bl_length]; omega)]) | (rw [decide_eq_false (cBd_no hub)]) | (congr 2; exact decide_eq_decide.2 ⟨fun h => ⟨by omega, hcb.2 h⟩, fun h => hcb.1 h.2⟩)
      ·
        refine SO.val rfl rfl rfl rfl (.move rfl rfl) ?_
        refine SO.val rfl rfl rfl rfl (.move rfl rfl) ?_
        refine SO.val rfl rfl rfl rfl (.lenS rfl rfl Tryz.underlying9) ?_
        refine SO.val rfl rfl rfl rfl (.eql rfl rfl rfl) ?_
        refine SO.val rfl rfl rfl rfl (.pickF rfl rfl rfl) ?_
        refine SO.val rfl rfl rfl rfl (.assign rfl rfl) ?_
        refine SO.nil ?_
        refine SQ.then_normal ?_
        refine SC.ret ?_
        refine SQ.then_ret ?_
        refine SQ.out (.inl rfl) (res1 rfl rfl) ?_
        refine ⟨?_, hO0.toBelow trivial⟩
        first | (rw [cBd_edge (by rw [bl_length]; omega)]; congr 2; exact decide_eq_decide.2 (by rw [bl_length]; omega)) | (rw [cBd_edge (by rw [bl_length]; omega), decide_eq_true (by rw [bl_length]; omega)]) | (rw [decide_eq_false (cBd_no hub)]) | (congr 2; exact decide_eq_decide.2 ⟨fun h => ⟨by omega, hcb.2 h⟩, fun h => hcb.1 h.2⟩)
    ·
      refine SC.skip ?_
      refine SQ.then_normal ?_
      refine SC.seq ?_
      refine SC.seq ?_
      refine SC.region ?_
      refine SO.val rfl rfl rfl rfl (.move rfl rfl) ?_
      refine SO.val rfl rfl rfl rfl (.move rfl rfl) ?_
      refine SO.call rfl rfl rfl rfl (.callF rfl rfl en130) (boundary_at _ _ _ (hO0.good hG) hz) ?_
      rintro _ w9 ⟨rfl, hb9⟩
      have hO9 := hO0.below hb9
      refine ⟨_, rfl, ?_⟩
      first | refine SO.val rfl rfl rfl rfl (.notD rfl rfl) ?_ | refine SO.val rfl rfl rfl rfl (.not rfl rfl) ?_
      refine SO.nil ?_
      refine SQ.then_normal ?_
      refine SC.dec rfl (fun c10 => ?_) (fun c10 => ?_)
      ·
        have hub : ¬ uBd (bl s) i := c10
        refine SC.seq ?_
        refine SC.region ?_
        refine SO.val rfl rfl rfl rfl (.assign rfl rfl) ?_
        refine SO.nil ?_
        refine SQ.then_normal ?_
        refine SC.ret ?_
        refine SQ.then_ret ?_
        refine SQ.out (.inl rfl) (res1 rfl rfl) ?_
        refine ⟨?_, hO9.toBelow trivial⟩
        first | (rw [cBd_edge (by rw [bl_length]; omega)]; congr 2; exact decide_eq_decide.2 (by rw [bl_length]; omega)) | (rw [cBd_edge (by rw [bl_length]; omega), decide_eq_true (by rw [bl_length]; omega)]) | (rw [decide_eq_false (cBd_no hub)]) | (congr 2; exact decide_eq_decide.2 ⟨fun h => ⟨by omega, hcb.2 h⟩, fun h => hcb.1 h.2⟩)
      ·
        have hub : uBd (bl s) i := Decidable.not_not.1 c10
        obtain ⟨k, rfl⟩ := Int.eq_ofNat_of_zero_le (show 0 ≤ i by omega)
        have hcb := CB_cond (l := bl s) (i := k) (by omega) (by rw [bl_length]; omega) hub
        refine SC.skip ?_
        refine SQ.then_normal ?_
        refine SC.seq ?_
        refine SC.region ?_
        refine SO.val rfl rfl rfl rfl (.move rfl rfl) ?_
        refine SO.val rfl rfl rfl rfl (.move rfl rfl) ?_
        refine SO.val rfl rfl rfl rfl (.move rfl rfl) ?_
        refine SO.call rfl rfl rfl rfl (.callF rfl rfl en132) (prev_any _ _ _ (hO9.good hG) hz (by omega)) ?_
        rintro _ w12 ⟨rfl, hb12⟩
        have hO12 := hO9.below hb12
        refine ⟨_, rfl, ?_⟩
        refine SO.call rfl rfl rfl rfl (.callF rfl rfl en131) (at_any _ _ _ (hO12.good hG) hz) ?_
        rintro _ w13 ⟨rfl, hb13⟩
        have hO13 := hO12.below hb13
        refine ⟨_, rfl, ?_⟩
        refine SO.val rfl rfl rfl rfl (.move rfl rfl) ?_
        refine SO.val rfl rfl rfl rfl (.extract rfl rfl rfl) ?_
        refine SO.val rfl rfl rfl rfl (.extract rfl rfl rfl) ?_
        refine SO.alloc hO13 rfl rfl rfl rfl zv177 [_, _] rfl ?_
        intro b14 w14 hb14 hO14
        refine SO.store hO14 (i := 0) rfl rfl rfl rfl rfl rfl sz177 rfl rfl [(_, .cells [_, _].toArray _ _)] rfl ?_
        intro w15 hO15
        refine SO.val rfl rfl rfl rfl (.assign rfl rfl) ?_
        refine SO.nil ?_
        refine SQ.then_normal ?_
        refine SC.seq ?_
        refine SC.region ?_
        refine SO.val rfl rfl rfl rfl (.move rfl rfl) ?_
        refine SO.val rfl rfl rfl rfl (.move rfl rfl) ?_
        refine SO.call rfl rfl rfl rfl (.callF rfl rfl en131) (at_any _ _ _ (hO15.good hG) hz) ?_
        rintro _ w16 ⟨rfl, hb16⟩
        have hO16 := hO15.below hb16
        refine ⟨_, rfl, ?_⟩
        refine SO.val rfl rfl rfl rfl (.move rfl rfl) ?_
        refine SO.val rfl rfl rfl rfl (.extract rfl rfl rfl) ?_
        refine SO.val rfl rfl rfl rfl (.extract rfl rfl rfl) ?_
        refine SO.alloc hO16 rfl rfl rfl rfl zv177 [_, _] rfl ?_
        intro b17 w17 hb17 hO17
        refine SO.store hO17 (i := 0) rfl rfl rfl rfl rfl rfl sz177 rfl rfl [(_, .cells [_, _].toArray _ _), _] rfl ?_
        intro w18 hO18
        refine SO.val rfl rfl rfl rfl (.assign rfl rfl) ?_
        refine SO.nil ?_
        refine SQ.then_normal ?_
        refine SC.seq ?_
        refine SC.region ?_
        refine SO.val rfl rfl rfl rfl (.fieldAddr rfl rfl fa177_0) ?_
        refine SO.val rfl rfl rfl rfl (.load rfl rfl ag21 (cell_of' (hO18.at (i := 1) rfl) rfl)) ?_
        refine SO.val rfl rfl rfl rfl (.fieldAddr rfl rfl fa177_0) ?_
        refine SO.val rfl rfl rfl rfl (.load rfl rfl ag21 (cell_of' (hO18.at (i := 0) rfl) rfl)) ?_
        refine SO.call rfl rfl rfl rfl (.callF rfl rfl en133) (glued_any _ _ _ (hO18.good hG)) ?_
        rintro _ w19 ⟨rfl, hb19⟩
        have hO19 := hO18.below hb19
        refine ⟨_, rfl, ?_⟩
        first | refine SO.val rfl rfl rfl rfl (.notD rfl rfl) ?_ | refine SO.val rfl rfl rfl rfl (.not rfl rfl) ?_
        refine SO.val rfl rfl rfl rfl (.assign rfl rfl) ?_
        refine SO.nil ?_
        refine SQ.then_normal ?_
        refine SC.ret ?_
        refine SQ.out (.inl rfl) (res1 rfl rfl) ?_
        refine ⟨?_, hO19.toBelow ⟨hb17, hb14, trivial⟩⟩
        first | (rw [cBd_edge (by rw [bl_length]; omega)]; congr 2; exact decide_eq_decide.2 (by rw [bl_length]; omega)) | (rw [cBd_edge (by rw [bl_length]; omega), decide_eq_true (by rw [bl_length]; omega)]) | (rw [decide_eq_false (cBd_no hub)]) | (congr 2; exact decide_eq_decide.2 ⟨fun h => ⟨by omega, hcb.2 h⟩, fun h => hcb.1 h.2⟩)

set_option maxRecDepth 20000 in
set_option maxHeartbeats 400000 in
theorem cnext_any (s : ByteArray) (i : Int) (w : World) (hG : Good w) (hz : s.size ≤ 4611686018427387904) :
    Calls Tryz.prog 30 #[.string s, .int .i64 i] w fun e w' => e = .returned (.int .i64 (cNextI (bl s) i : Nat)) ∧ Below w.heap.size w w' := by
  have hO0 := Own.start hG
  refine enter Tryz.func30 rfl rfl rfl 0 ?_
  refine SC.seq ?_
  refine SC.region ?_
  refine SO.val rfl rfl rfl rfl (.assign rfl rfl) ?_
  refine SO.nil ?_
  refine SQ.then_normal ?_
  refine SC.seq ?_
  refine SC.seq ?_
  refine SC.region ?_
  refine SO.val rfl rfl rfl rfl (.move rfl rfl) ?_
  refine SO.val rfl rfl rfl rfl (.lss rfl rfl rfl) ?_
  refine SO.nil ?_
  refine SQ.then_normal ?_
  refine SC.dec rfl (fun c1 => ?_) (fun c1 => ?_)
  ·
    have hneg : i < 0 := c1
    refine SC.seq ?_
    refine SC.region ?_
    refine SO.val rfl rfl rfl rfl (.assign rfl rfl) ?_
    refine SO.nil ?_
    refine SQ.then_normal ?_
    refine SC.ret ?_
    refine SQ.then_ret ?_
    refine SQ.out (.inl rfl) (res1 rfl rfl) ?_
    refine ⟨?_, hO0.toBelow trivial⟩
    unfold cNextI
    first | (rw [if_pos hneg]; rfl) | (rw [if_neg (by omega), Int.toNat_natCast, hge]) | (rw [if_neg (by omega), Int.toNat_natCast, hres])
  ·
    obtain ⟨k, rfl⟩ := Int.eq_ofNat_of_zero_le (show 0 ≤ i by omega)
    refine SC.skip ?_
    refine SQ.then_normal ?_
    refine SC.seq ?_
    refine SC.block ?_
    refine SC.loop (α := Nat) (fun j => [(0, .string s), (1, .int .i64 (j : Int))]) (fun j v => k ≤ j ∧ (∀ t, k < t → t ≤ j → ¬ CB (bl s) t) ∧ Ow.Own w [] v) (fun j => (bl s).length - j) k ?_ ?_ ?_
    · exact ⟨rfl, rfl, trivial⟩
    · exact ⟨by omega, fun t h1 h2 => by omega, hO0⟩
    rintro j w3 ⟨hkj, hno, hO3⟩
    refine SC.seq ?_
    refine SC.seq ?_
    refine SC.region ?_
    refine SO.val rfl rfl rfl rfl (.move rfl rfl) ?_
    refine SO.val rfl rfl rfl rfl (.move rfl rfl) ?_
    refine SO.val rfl rfl rfl rfl (.lenS rfl rfl Tryz.underlying9) ?_
    refine SO.val rfl rfl rfl rfl (.lss rfl rfl rfl) ?_
    refine SO.nil ?_
    refine SQ.then_normal ?_
    refine SC.dec rfl (fun c4 => ?_) (fun c4 => ?_)
    ·
      have hlt : j < (bl s).length := by rw [bl_length]; omega
      obtain ⟨u1, u2, u3, u4⟩ := uEnd_spec hlt
      have hun := uNext_nat (l := bl s) (i := j) (Nat.le_of_lt hlt)
      refine SC.skip ?_
      refine SQ.then_normal ?_
      refine SC.block ?_
      refine SC.seq ?_
      refine SC.region ?_
      refine SO.val rfl rfl rfl rfl (.move rfl rfl) ?_
      refine SO.val rfl rfl rfl rfl (.move rfl rfl) ?_
      refine SO.call rfl rfl rfl rfl (.callF rfl rfl en83) (next_any _ _ _ (hO3.good hG) hz) ?_
      rintro _ w5 ⟨rfl, hb5⟩
      have hO5 := hO3.below hb5
      refine ⟨_, rfl, ?_⟩
      refine SO.val rfl rfl rfl rfl (.assign rfl rfl) ?_
      refine SO.nil ?_
      refine SQ.then_normal ?_
      refine SC.seq ?_
      refine SC.region ?_
      refine SO.val rfl rfl rfl rfl (.move rfl rfl) ?_
      refine SO.val rfl rfl rfl rfl (.move rfl rfl) ?_
      refine SO.call rfl rfl rfl rfl (.callF rfl rfl en66) (cboundary_any _ _ _ (hO5.good hG) hz) ?_
      rintro _ w6 ⟨rfl, hb6⟩
      have hO6 := hO5.below hb6
      refine ⟨_, rfl, ?_⟩
      refine SO.nil ?_
      refine SQ.then_normal ?_
      refine SC.dec rfl (fun c7 => ?_) (fun c7 => ?_)
      ·
        have hb := cBd_nat.1 c7
        rw [hun] at hb
        have hres : cNext (bl s) k = uNext (bl s) j := by
          rw [hun]; exact cNext_eq (by omega) hb (fun t h1 h2 h3 => by
            by_cases e : t ≤ j
            · exact hno t h1 e h3
            · have := u4 t h3.ub (by omega); omega)
        refine SC.seq ?_
        refine SC.region ?_
        refine SO.val rfl rfl rfl rfl (.move rfl rfl) ?_
        refine SO.val rfl rfl rfl rfl (.assign rfl rfl) ?_
        refine SO.nil ?_
        refine SQ.then_normal ?_
        refine SC.ret ?_
        refine SQ.block_ret ?_
        refine SQ.then_ret ?_
        refine SQ.block_ret ?_
        refine SQ.then_ret ?_
        refine SQ.out (.inl rfl) (res1 rfl rfl) ?_
        refine ⟨?_, hO6.toBelow trivial⟩
        unfold cNextI
        first | (rw [if_pos hneg]; rfl) | (rw [if_neg (by omega), Int.toNat_natCast, hge]) | (rw [if_neg (by omega), Int.toNat_natCast, hres])
      ·
        have hb := fun h => c7 (cBd_nat.2 h)
        rw [hun] at hb
        have hno2 : ∀ t, k < t → t ≤ uNext (bl s) j → ¬ CB (bl s) t := fun t h1 h2 h3 => by
            rw [hun] at h2
            by_cases e : t ≤ j
            · exact hno t h1 e h3
            · have := u4 t h3.ub (by omega)
              have e2 : t = uEnd (bl s) j := by omega
              subst e2; exact hb h3
        refine SC.skip ?_
        refine SQ.block_normal ?_
        refine SQ.round (uNext (bl s) j) (by rw [hun]; omega) ⟨rfl, rfl, trivial⟩ ⟨by rw [hun]; omega, hno2, hO6⟩
    ·
      have hge : cNext (bl s) k = (bl s).length := by
        by_cases e : k < (bl s).length
        · refine absurd (CB.len (bl s)) (hno _ e (by rw [bl_length]; omega))
        · exact cNext_out (by omega)
      rw [bl_length] at hge
      refine SC.exit ?_
      refine SQ.then_exit ?_
      refine SQ.then_exit ?_
      refine SQ.block_exit ?_
      refine SQ.then_normal ?_
      refine SC.seq ?_
      refine SC.region ?_
      refine SO.val rfl rfl rfl rfl (.move rfl rfl) ?_
      refine SO.val rfl rfl rfl rfl (.lenS rfl rfl Tryz.underlying9) ?_
      refine SO.val rfl rfl rfl rfl (.assign rfl rfl) ?_
      refine SO.nil ?_
      refine SQ.then_normal ?_
      refine SC.ret ?_
      refine SQ.out (.inl rfl) (res1 rfl rfl) ?_
      refine ⟨?_, hO3.toBelow trivial⟩
      unfold cNextI
      first | (rw [if_pos hneg]; rfl) | (rw [if_neg (by omega), Int.toNat_natCast, hge]) | (rw [if_neg (by omega), Int.toNat_natCast, hres])

set_option maxRecDepth 20000 in
set_option maxHeartbeats 400000 in
theorem cprev_any (s : ByteArray) (i : Int) (w : World) (hG : Good w) (hz : s.size ≤ 4611686018427387904) :
    Calls Tryz.prog 222 #[.string s, .int .i64 i] w fun e w' => e = .returned (.int .i64 (cPrevI (bl s) i : Nat)) ∧ Below w.heap.size w w' := by
  have hO0 := Own.start hG
  refine enter Tryz.func222 rfl rfl rfl 0 ?_
  refine SC.seq ?_
  refine SC.region ?_
  refine SO.val rfl rfl rfl rfl (.assign rfl rfl) ?_
  refine SO.nil ?_
  refine SQ.then_normal ?_
  refine SC.seq ?_
  refine SC.seq ?_
  refine SC.region ?_
  refine SO.val rfl rfl rfl rfl (.move rfl rfl) ?_
  refine SO.val rfl rfl rfl rfl (.move rfl rfl) ?_
  refine SO.val rfl rfl rfl rfl (.lenS rfl rfl Tryz.underlying9) ?_
  refine SO.val rfl rfl rfl rfl (.gtr rfl rfl rfl) ?_
  refine SO.nil ?_
  refine SQ.then_normal ?_
  refine SC.dec rfl (fun c1 => ?_) (fun c1 => ?_)
  ·
    have hbig : i > ((bl s).length : Int) := by rw [bl_length]; omega
    refine SC.seq ?_
    refine SC.region ?_
    refine SO.val rfl rfl rfl rfl (.move rfl rfl) ?_
    refine SO.val rfl rfl rfl rfl (.lenS rfl rfl Tryz.underlying9) ?_
    refine SO.val rfl rfl rfl rfl (.assign rfl rfl) ?_
    refine SO.nil ?_
    refine SQ.then_normal ?_
    refine SC.ret ?_
    refine SQ.then_ret ?_
    refine SQ.out (.inl rfl) (res1 rfl rfl) ?_
    refine ⟨?_, hO0.toBelow trivial⟩
    unfold cPrevI
    first | (rw [if_pos hbig, bl_length]) | (rw [if_neg hsm, hge]; rfl) | (rw [if_neg hsm, hres])
  ·
    obtain ⟨k, hk⟩ : ∃ k : Nat, i.toNat = k := ⟨_, rfl⟩
    have hsm : ¬ i > ((bl s).length : Int) := by rw [bl_length]; omega
    refine SC.skip ?_
    refine SQ.then_normal ?_
    refine SC.seq ?_
    refine SC.block ?_
    refine SC.loop (α := Int) (fun j => [(0, .string s), (1, .int .i64 j)]) (fun j v => j ≤ i ∧ (∀ t : Nat, j ≤ t → (t : Int) < i → ¬ CB (bl s) t) ∧ Ow.Own w [] v) (fun j => j.toNat) i ?_ ?_ ?_
    · exact ⟨rfl, rfl, trivial⟩
    · exact ⟨by omega, fun t h1 h2 => by omega, hO0⟩
    rintro j w3 ⟨hkj, hno, hO3⟩
    refine SC.seq ?_
    refine SC.seq ?_
    refine SC.region ?_
    refine SO.val rfl rfl rfl rfl (.move rfl rfl) ?_
    refine SO.val rfl rfl rfl rfl (.gtr rfl rfl rfl) ?_
    refine SO.nil ?_
    refine SQ.then_normal ?_
    refine SC.dec rfl (fun c4 => ?_) (fun c4 => ?_)
    ·
      obtain ⟨m, rfl⟩ := Int.eq_ofNat_of_zero_le (show 0 ≤ j by omega)
      have hlt : m ≤ (bl s).length := by rw [bl_length]; omega
      obtain ⟨u1, u2, u3⟩ := uLast_spec (l := bl s) (i := m) (by omega) hlt
      have hun := uPrev_nat (l := bl s) (i := m) (by omega) hlt
      refine SC.skip ?_
      refine SQ.then_normal ?_
      refine SC.block ?_
      refine SC.seq ?_
      refine SC.region ?_
      refine SO.val rfl rfl rfl rfl (.move rfl rfl) ?_
      refine SO.val rfl rfl rfl rfl (.move rfl rfl) ?_
      refine SO.call rfl rfl rfl rfl (.callF rfl rfl en132) (prev_any _ _ _ (hO3.good hG) hz (by omega)) ?_
      rintro _ w5 ⟨rfl, hb5⟩
      have hO5 := hO3.below hb5
      refine ⟨_, rfl, ?_⟩
      refine SO.val rfl rfl rfl rfl (.assign rfl rfl) ?_
      refine SO.nil ?_
      refine SQ.then_normal ?_
      refine SC.seq ?_
      refine SC.region ?_
      refine SO.val rfl rfl rfl rfl (.move rfl rfl) ?_
      refine SO.val rfl rfl rfl rfl (.move rfl rfl) ?_
      refine SO.call rfl rfl rfl rfl (.callF rfl rfl en66) (cboundary_any _ _ _ (hO5.good hG) hz) ?_
      rintro _ w6 ⟨rfl, hb6⟩
      have hO6 := hO5.below hb6
      refine ⟨_, rfl, ?_⟩
      refine SO.nil ?_
      refine SQ.then_normal ?_
      refine SC.dec rfl (fun c7 => ?_) (fun c7 => ?_)
      ·
        have hb := cBd_nat.1 c7
        rw [hun] at hb
        have hres : cPrev (bl s) i.toNat = uPrev (bl s) m := by
          rw [hun]; exact cPrev_eq hb _ (by omega) (fun t h1 h2 h3 => by
            by_cases e : m ≤ t
            · exact hno t (by omega) (by omega) h3
            · have := u3 t h3.ub (by omega); omega)
        refine SC.seq ?_
        refine SC.region ?_
        refine SO.val rfl rfl rfl rfl (.move rfl rfl) ?_
        refine SO.val rfl rfl rfl rfl (.assign rfl rfl) ?_
        refine SO.nil ?_
        refine SQ.then_normal ?_
        refine SC.ret ?_
        refine SQ.block_ret ?_
        refine SQ.then_ret ?_
        refine SQ.block_ret ?_
        refine SQ.then_ret ?_
        refine SQ.out (.inl rfl) (res1 rfl rfl) ?_
        refine ⟨?_, hO6.toBelow trivial⟩
        unfold cPrevI
        first | (rw [if_pos hbig, bl_length]) | (rw [if_neg hsm, hge]; rfl) | (rw [if_neg hsm, hres])
      ·
        have hb := fun h => c7 (cBd_nat.2 h)
        rw [hun] at hb
        have hno2 : ∀ t : Nat, ((uPrev (bl s) m : Nat) : Int) ≤ t → (t : Int) < i → ¬ CB (bl s) t := fun t h1 h2 h3 => by
            rw [hun] at h1
            by_cases e : m ≤ t
            · exact hno t (by omega) (by omega) h3
            · have := u3 t h3.ub (by omega)
              have e2 : t = uDown (bl s) (m - 1) := by omega
              subst e2; exact hb h3
        refine SC.skip ?_
        refine SQ.block_normal ?_
        refine SQ.round ((uPrev (bl s) m : Nat) : Int) (by rw [hun]; omega) ⟨rfl, rfl, trivial⟩ ⟨by rw [hun]; omega, hno2, hO6⟩
    ·
      have hge : cPrev (bl s) i.toNat = 0 := by
        by_cases e : 0 < i
        · exact cPrev_eq (.zero _) _ (by omega) (fun t h1 h2 => hno t (by omega) (by omega))
        · rw [show i.toNat = 0 by omega]; rfl
      refine SC.exit ?_
      refine SQ.then_exit ?_
      refine SQ.then_exit ?_
      refine SQ.block_exit ?_
      refine SQ.then_normal ?_
      refine SC.seq ?_
      refine SC.region ?_
      refine SO.val rfl rfl rfl rfl (.assign rfl rfl) ?_
      refine SO.nil ?_
      refine SQ.then_normal ?_
      refine SC.ret ?_
      refine SQ.out (.inl rfl) (res1 rfl rfl) ?_
      refine ⟨?_, hO3.toBelow trivial⟩
      unfold cPrevI
      first | (rw [if_pos hbig, bl_length]) | (rw [if_neg hsm, hge]; rfl) | (rw [if_neg hsm, hres])

set_option maxRecDepth 20000 in
set_option maxHeartbeats 400000 in
theorem csnap_any (s : ByteArray) (i : Int) (w : World) (hG : Good w) (hz : s.size ≤ 4611686018427387904) :
    Calls Tryz.prog 65 #[.string s, .int .i64 i] w fun e w' => e = .returned (.int .i64 (cSnapI (bl s) i : Nat)) ∧ Below w.heap.size w w' := by
  have hO0 := Own.start hG
  refine enter Tryz.func65 rfl rfl rfl 0 ?_
  refine SC.seq ?_
  refine SC.region ?_
  refine SO.val rfl rfl rfl rfl (.assign rfl rfl) ?_
  refine SO.nil ?_
  refine SQ.then_normal ?_
  refine SC.seq ?_
  refine SC.seq ?_
  refine SC.region ?_
  refine SO.val rfl rfl rfl rfl (.move rfl rfl) ?_
  refine SO.val rfl rfl rfl rfl (.lss rfl rfl rfl) ?_
  refine SO.nil ?_
  refine SQ.then_normal ?_
  refine SC.dec rfl (fun c1 => ?_) (fun c1 => ?_)
  ·
    refine SC.seq ?_
    refine SC.region ?_
    refine SO.val rfl rfl rfl rfl (.assign rfl rfl) ?_
    refine SO.nil ?_
    refine SQ.then_normal ?_
    refine SC.ret ?_
    refine SQ.then_ret ?_
    refine SQ.out (.inl rfl) (res1 rfl rfl) ?_
    refine ⟨?_, hO0.toBelow trivial⟩
    unfold cSnapI
    first | (rw [if_pos (by omega)]; rfl) | (rw [if_neg (by omega), if_pos hb.2]; congr 2; omega) | (rw [if_neg (by omega), if_neg (fun h => hb ⟨by omega, h⟩)]; unfold cNextI; rw [if_neg (by omega)])
  ·
    refine SC.skip ?_
    refine SQ.then_normal ?_
    refine SC.seq ?_
    refine SC.seq ?_
    refine SC.region ?_
    refine SO.val rfl rfl rfl rfl (.move rfl rfl) ?_
    refine SO.val rfl rfl rfl rfl (.move rfl rfl) ?_
    refine SO.call rfl rfl rfl rfl (.callF rfl rfl en66) (cboundary_any _ _ _ (hO0.good hG) hz) ?_
    rintro _ w3 ⟨rfl, hb3⟩
    have hO3 := hO0.below hb3
    refine ⟨_, rfl, ?_⟩
    refine SO.nil ?_
    refine SQ.then_normal ?_
    refine SC.dec rfl (fun c4 => ?_) (fun c4 => ?_)
    ·
      have hb := c4
      refine SC.seq ?_
      refine SC.region ?_
      refine SO.val rfl rfl rfl rfl (.move rfl rfl) ?_
      refine SO.val rfl rfl rfl rfl (.assign rfl rfl) ?_
      refine SO.nil ?_
      refine SQ.then_normal ?_
      refine SC.ret ?_
      refine SQ.then_ret ?_
      refine SQ.out (.inl rfl) (res1 rfl rfl) ?_
      refine ⟨?_, hO3.toBelow trivial⟩
      unfold cSnapI
      first | (rw [if_pos (by omega)]; rfl) | (rw [if_neg (by omega), if_pos hb.2]; congr 2; omega) | (rw [if_neg (by omega), if_neg (fun h => hb ⟨by omega, h⟩)]; unfold cNextI; rw [if_neg (by omega)])
    ·
      have hb := c4
      refine SC.skip ?_
      refine SQ.then_normal ?_
      refine SC.seq ?_
      refine SC.region ?_
      refine SO.val rfl rfl rfl rfl (.move rfl rfl) ?_
      refine SO.val rfl rfl rfl rfl (.move rfl rfl) ?_
      refine SO.call rfl rfl rfl rfl (.callF rfl rfl en30) (cnext_any _ _ _ (hO3.good hG) hz) ?_
      rintro _ w6 ⟨rfl, hb6⟩
      have hO6 := hO3.below hb6
      refine ⟨_, rfl, ?_⟩
      refine SO.val rfl rfl rfl rfl (.assign rfl rfl) ?_
      refine SO.nil ?_
      refine SQ.then_normal ?_
      refine SC.ret ?_
      refine SQ.out (.inl rfl) (res1 rfl rfl) ?_
      refine ⟨?_, hO6.toBelow trivial⟩
      unfold cSnapI
      first | (rw [if_pos (by omega)]; rfl) | (rw [if_neg (by omega), if_pos hb.2]; congr 2; omega) | (rw [if_neg (by omega), if_neg (fun h => hb ⟨by omega, h⟩)]; unfold cNextI; rw [if_neg (by omega)])

end Go.Proofs.YtclgplkkajfenaaGreatDoor
