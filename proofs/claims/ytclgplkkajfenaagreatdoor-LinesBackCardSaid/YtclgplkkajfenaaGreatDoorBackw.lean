/- LinesBack, the walk. -/
import Derived.Test.YtclgplkkajfenaaGreatDoorLaws
namespace Go.Proofs.YtclgplkkajfenaaGreatDoor
open Go Go.RowKit Ow
set_option maxRecDepth 20000 in
set_option maxHeartbeats 400000 in
theorem back_any (s : ByteArray) (k : Int) (w : World) (hG : Good w) :
    Calls Tryz.prog 4 #[.agg #[.string s, .int .i64 k]] w fun e w' => e = .returned (.bool true) ∧ Below w.heap.size w w' := by
  have hO0 := Own.start hG
  refine enter Tryz.func4 rfl rfl rfl 0 ?_
  refine SC.seq ?_
  refine SC.region ?_
  refine SO.box hO0 rfl rfl rfl rfl rfl [_, _] rfl ?_
  intro b1 w1 hb1 hO1
  refine SO.val rfl rfl rfl rfl (.assign rfl rfl) ?_
  refine SO.nil ?_
  refine SQ.then_normal ?_
  refine SC.seq ?_
  refine SC.seq ?_
  refine SC.region ?_
  refine SO.call rfl rfl rfl rfl (.callF rfl rfl en21) (awake_any _ (hO1.good hG)) ?_
  rintro _ w2 ⟨rfl, hb2⟩
  have hO2 := hO1.below hb2
  refine ⟨_, rfl, ?_⟩
  refine SO.val rfl rfl rfl rfl (.not rfl rfl) ?_
  refine SO.nil ?_
  refine SQ.then_normal ?_
  refine SC.no rfl ?_
  refine SC.skip ?_
  refine SQ.then_normal ?_
  refine SC.seq ?_
  refine SC.seq ?_
  refine SC.region ?_
  refine SO.val rfl rfl rfl rfl (.fieldAddr rfl rfl fa23_0) ?_
  refine SO.val rfl rfl rfl rfl (.load rfl rfl ag9 (cell_of' (hO2.at (i := 0) rfl) rfl)) ?_
  refine SO.val rfl rfl rfl rfl (.lenS rfl rfl Tryz.underlying9) ?_
  refine SO.val rfl rfl rfl rfl (.gtr rfl rfl rfl) ?_
  refine SO.nil ?_
  refine SQ.then_normal ?_
  refine SC.dec rfl (fun c3 => ?_) (fun c3 => ?_)
  ·
    refine SC.seq ?_
    refine SC.region ?_
    refine SO.val rfl rfl rfl rfl (.assign rfl rfl) ?_
    refine SO.nil ?_
    refine SQ.then_normal ?_
    refine SC.ret ?_
    refine SQ.then_ret ?_
    refine SQ.out (.inl rfl) (res1 rfl rfl) ?_
    have hEE := hO2.toBelow ⟨hb1, trivial⟩
    first | exact ⟨rfl, hEE⟩ | exact ⟨rfl, hBb.trans (hEE.mono hBb.size)⟩
  ·
    refine SC.skip ?_
    refine SQ.then_normal ?_
    refine SC.seq ?_
    refine SC.region ?_
    refine SO.val rfl rfl rfl rfl (.loadB [_, _] rfl rfl ag23 sz23 (hO2.at (i := 0) rfl) rfl rfl) ?_
    refine SO.call rfl rfl rfl rfl (.callF rfl rfl en22) (keep_any s k _ (hO2.good hG) (by omega)) ?_
    rintro _ w5 ⟨v, rfl, ht, hb5⟩
    have hOb := hO2.below hb5
    have q0 := hOb.at (i := 0) rfl
    have hGb := hOb.good hG
    have hBb := hOb.toBelow ⟨hb1, trivial⟩
    obtain ⟨tT, tx, rfl⟩ := ht.iface
    have hO5 := Own.start hGb
    have hz2 : s.size ≤ 1073741824 := by omega
    refine ⟨_, rfl, ?_⟩
    refine SO.val rfl rfl rfl rfl (.move rfl rfl) ?_
    refine SO.val rfl rfl rfl rfl (.extract rfl rfl rfl) ?_
    refine SO.val rfl rfl rfl rfl (.extract rfl rfl rfl) ?_
    refine SO.val rfl rfl rfl rfl (.assign rfl rfl) ?_
    refine SO.val rfl rfl rfl rfl (.assign rfl rfl) ?_
    refine SO.nil ?_
    refine SQ.then_normal ?_
    refine SC.seq ?_
    refine SC.seq ?_
    refine SC.region ?_
    refine SO.val rfl rfl rfl rfl (.move rfl rfl) ?_
    refine SO.val rfl rfl rfl rfl (.not rfl rfl) ?_
    refine SO.nil ?_
    refine SQ.then_normal ?_
    refine SC.no rfl ?_
    refine SC.skip ?_
    refine SQ.then_normal ?_
    refine SC.seq ?_
    refine SC.region ?_
    refine SO.val rfl rfl rfl rfl (.assign rfl rfl) ?_
    refine SO.nil ?_
    refine SQ.then_normal ?_
    refine SC.seq ?_
    refine SC.seq ?_
    refine SC.region ?_
    refine SO.val rfl rfl rfl rfl (.assign rfl rfl) ?_
    refine SO.nil ?_
    refine SQ.then_normal ?_
    refine SC.block ?_
    refine SC.loop (α := Nat × Int) (fun x => [(1, .pointer (some ⟨b1, 0, none⟩)), (3, .iface tT tx), (5, .int .i64 ((x.1 : Nat) : Int)), (6, .int .i64 x.2)]) (fun x v => CB (bl s) x.1 ∧ (0 ≤ x.2 ∧ x.2 ≤ 300) ∧ Ow.Own w5 [] v) (fun x => (300 - x.2).toNat) (0, 0) ?_ ?_ ?_
    · exact ⟨rfl, rfl, rfl, rfl, trivial⟩
    · exact ⟨.zero _, by simp, hO5⟩
    rintro ⟨a, k2⟩ w6 ⟨hcb, hk, hO6⟩
    simp only at hcb hk
    show SC _ _ _ _ _ _ _ [(1, .pointer (some ⟨b1, 0, none⟩)), (3, .iface tT tx), (5, .int .i64 ((a : Nat) : Int)), (6, .int .i64 k2)] _
    have hal := hcb.le
    rw [bl_length] at hal
    have hnl := nlC_le (bl s)
    rw [bl_length] at hnl
    have hN : ofN (bl s) (a : Nat) = nlT (bl s) a := by unfold ofN; rw [if_neg (by rw [bl_length]; omega), Int.toNat_natCast]
    have hE : ofE (bl s) (a : Nat) = 0 := by unfold ofE; rw [if_neg (by rw [bl_length]; omega)]
    have hk0 : 0 ≤ ofN (bl s) (a : Nat) := by omega
    have hk1 : ofN (bl s) (a : Nat) ≤ nlC (bl s) := by have := nlT_le_nlC (bl s) a; omega
    obtain ⟨L1, L2⟩ := line_of_CB hcb
    rw [← hN] at L1 L2
    obtain ⟨_, eF, eT, eE⟩ := lineB_eq (s := s) hk0 hk1
    obtain ⟨l1, l2, l3, l4⟩ := lend_spec (l := bl s) hk0 hk1
    have hcol : colR s (a : Nat) = colW s (ofN (bl s) (a : Nat)) (a : Nat) := by unfold colR; rw [if_neg (by omega)]
    have hcw := colW_le s (ofN (bl s) (a : Nat)) (a : Nat)
    have hA1 : atR s (ofN (bl s) (a : Nat)) (colR s (a : Nat)) = (a : Nat) := by rw [hcol]; exact at_of hz2 hk0 hk1 hcb L1 L2 (Int.le_refl _) (fun h => by have := clCells_pos hk0 hk1 hcb L1 h; omega)
    have hA2 : atR s (ofN (bl s) (a : Nat)) (-1) = (bgn (bl s) (ofN (bl s) (a : Nat)) : Nat) := at_low hk0 hk1 (by omega)
    have hA3 : atR s (ofN (bl s) (a : Nat)) 1099511627776 = (lend (bl s) (ofN (bl s) (a : Nat)) : Nat) := at_of hz2 hk0 hk1 l3 l1 (Nat.le_refl _) (by have := colW_le s (ofN (bl s) (a : Nat)) (lend (bl s) (ofN (bl s) (a : Nat)) : Nat); omega) (fun h => absurd h (Nat.lt_irrefl _))
    have hc0 : a = bgn (bl s) (ofN (bl s) (a : Nat)) → colR s (a : Nat) = 0 := fun h => by obtain ⟨A, _, _, h3, h4⟩ := line_split hz2 hk0 hk1 hcb L1 L2; rw [hcol, h3, h4 h]; rfl
    refine SC.seq ?_
    refine SC.seq ?_
    refine SC.region ?_
    refine SO.val rfl rfl rfl rfl (.move rfl rfl) ?_
    refine SO.val rfl rfl rfl rfl (.lss rfl rfl rfl) ?_
    refine SO.nil ?_
    refine SQ.then_normal ?_
    refine SC.dec rfl (fun c7 => ?_) (fun c7 => ?_)
    ·
      refine SC.skip ?_
      refine SQ.then_normal ?_
      refine SC.seq ?_
      refine SC.block ?_
      refine SC.seq ?_
      refine SC.region ?_
      refine SO.val rfl rfl rfl rfl (.move rfl rfl) ?_
      refine SO.val rfl rfl rfl rfl (.move rfl rfl) ?_
      refine SO.call rfl rfl rfl rfl (.callF rfl rfl en27) (lines_of (.iface tT tx) s _ _ (hO6.good hGb) (ht.below (hO6.toBelow trivial))) ?_
      rintro _ w8 ⟨rfl, hb8⟩
      have hO8 := hO6.below hb8
      refine ⟨_, rfl, ?_⟩
      refine SO.val rfl rfl rfl rfl (.move rfl rfl) ?_
      refine SO.val rfl rfl rfl rfl (.extract rfl rfl rfl) ?_
      refine SO.val rfl rfl rfl rfl (.extract rfl rfl rfl) ?_
      refine SO.val rfl rfl rfl rfl (.assign rfl rfl) ?_
      refine SO.val rfl rfl rfl rfl (.assign rfl rfl) ?_
      refine SO.nil ?_
      refine SQ.then_normal ?_
      refine SC.seq ?_
      refine SC.region ?_
      refine SO.val rfl rfl rfl rfl (.move rfl rfl) ?_
      refine SO.val rfl rfl rfl rfl (.move rfl rfl) ?_
      refine SO.call rfl rfl rfl rfl (.callF rfl rfl en23) (lines_column (.iface tT tx) s _ _ (hO8.good hGb) (ht.below (hO8.toBelow trivial))) ?_
      rintro _ w9 ⟨rfl, hb9⟩
      have hO9 := hO8.below hb9
      refine ⟨_, rfl, ?_⟩
      refine SO.val rfl rfl rfl rfl (.move rfl rfl) ?_
      refine SO.val rfl rfl rfl rfl (.extract rfl rfl rfl) ?_
      refine SO.val rfl rfl rfl rfl (.extract rfl rfl rfl) ?_
      refine SO.val rfl rfl rfl rfl (.assign rfl rfl) ?_
      refine SO.val rfl rfl rfl rfl (.assign rfl rfl) ?_
      refine SO.nil ?_
      refine SQ.then_normal ?_
      refine SC.seq ?_
      refine SC.region ?_
      refine SO.val rfl rfl rfl rfl (.move rfl rfl) ?_
      refine SO.val rfl rfl rfl rfl (.move rfl rfl) ?_
      refine SO.call rfl rfl rfl rfl (.callF rfl rfl en28) (lines_span (.iface tT tx) s _ _ (hO9.good hGb) (ht.below (hO9.toBelow trivial))) ?_
      rintro _ w10 ⟨rfl, hb10⟩
      have hO10 := hO9.below hb10
      refine ⟨_, rfl, ?_⟩
      refine SO.val rfl rfl rfl rfl (.move rfl rfl) ?_
      refine SO.val rfl rfl rfl rfl (.extract rfl rfl rfl) ?_
      refine SO.val rfl rfl rfl rfl (.extract rfl rfl rfl) ?_
      refine SO.alloc hO10 rfl rfl rfl rfl zv41 [_, _] rfl ?_
      intro b11 w11 hb11 hO11
      refine SO.store hO11 (i := 0) rfl rfl rfl rfl rfl rfl sz41 rfl rfl [(_, .cells [_, _].toArray _ _)] rfl ?_
      intro w12 hO12
      refine SO.val rfl rfl rfl rfl (.assign rfl rfl) ?_
      refine SO.nil ?_
      refine SQ.then_normal ?_
      refine SC.seq ?_
      refine SC.seq ?_
      refine SC.region ?_
      refine SO.val rfl rfl rfl rfl (.move rfl rfl) ?_
      refine SO.val rfl rfl rfl rfl (decF (.neq rfl rfl rfl) (by omega)) ?_
      refine SO.val rfl rfl rfl rfl (.move rfl rfl) ?_
      refine SO.val rfl rfl rfl rfl (.move rfl rfl) ?_
      refine SO.val rfl rfl rfl rfl (decF (.neq rfl rfl rfl) (by omega)) ?_
      refine SO.val rfl rfl rfl rfl (.pickF rfl rfl rfl) ?_
      refine SO.val rfl rfl rfl rfl (.move rfl rfl) ?_
      refine SO.val rfl rfl rfl rfl (.move rfl rfl) ?_
      refine SO.val rfl rfl rfl rfl (decF (.neq rfl rfl rfl) (by omega)) ?_
      refine SO.val rfl rfl rfl rfl (.pickF rfl rfl rfl) ?_
      refine SO.val rfl rfl rfl rfl (.move rfl rfl) ?_
      refine SO.val rfl rfl rfl rfl (.fieldAddr rfl rfl fa41_0) ?_
      refine SO.val rfl rfl rfl rfl (.load rfl rfl ag3 (cell_of' (hO12.at (i := 0) rfl) rfl)) ?_
      refine SO.val rfl rfl rfl rfl (.move rfl rfl) ?_
      refine SO.val rfl rfl rfl rfl (decF (.gtr rfl rfl rfl) (by omega)) ?_
      refine SO.val rfl rfl rfl rfl (.pickF rfl rfl rfl) ?_
      refine SO.val rfl rfl rfl rfl (.move rfl rfl) ?_
      refine SO.val rfl rfl rfl rfl (.move rfl rfl) ?_
      refine SO.val rfl rfl rfl rfl (.fieldAddr rfl rfl fa41_1) ?_
      refine SO.val rfl rfl rfl rfl (.load rfl rfl ag3 (cell_of' (hO12.at (i := 0) rfl) rfl)) ?_
      refine SO.val rfl rfl rfl rfl (decF (.gtr rfl rfl rfl) (by omega)) ?_
      refine SO.val rfl rfl rfl rfl (.pickF rfl rfl rfl) ?_
      refine SO.val rfl rfl rfl rfl (.move rfl rfl) ?_
      refine SO.val rfl rfl rfl rfl (.move rfl rfl) ?_
      refine SO.val rfl rfl rfl rfl (.fieldAddr rfl rfl fa41_0) ?_
      refine SO.val rfl rfl rfl rfl (.load rfl rfl ag3 (cell_of' (hO12.at (i := 0) rfl) rfl)) ?_
      refine SO.val rfl rfl rfl rfl (.eql rfl rfl rfl) ?_
      refine SO.val rfl rfl rfl rfl (.move rfl rfl) ?_
      refine SO.dec 86 rfl (fun g13 => ?_) (fun g13 => ?_)
      ·
        have hc00 := hc0 (by omega)
        refine SO.val rfl rfl rfl rfl (.move rfl rfl) ?_
        refine SO.val rfl rfl rfl rfl (decF (.neq rfl rfl rfl) (by omega)) ?_
        refine SO.val rfl rfl rfl rfl (.pickT rfl rfl rfl) ?_
        refine SO.val rfl rfl rfl rfl (.pickF rfl rfl rfl) ?_
        refine SO.nil ?_
        refine SQ.then_normal ?_
        refine SC.no rfl ?_
        refine SC.skip ?_
        refine SQ.then_normal ?_
        refine SC.seq ?_
        refine SC.region ?_
        refine SO.val rfl rfl rfl rfl (.move rfl rfl) ?_
        refine SO.val rfl rfl rfl rfl (.move rfl rfl) ?_
        refine SO.val rfl rfl rfl rfl (.move rfl rfl) ?_
        refine SO.call rfl rfl rfl rfl (.callF rfl rfl en25) (lines_at (.iface tT tx) s _ _ _ (hO12.good hGb) (ht.below (hO12.toBelow ⟨hb11, trivial⟩))) ?_
        rintro _ w14 ⟨rfl, hb14⟩
        have hO14 := hO12.below hb14
        refine ⟨_, rfl, ?_⟩
        refine SO.val rfl rfl rfl rfl (.move rfl rfl) ?_
        refine SO.val rfl rfl rfl rfl (.extract rfl rfl rfl) ?_
        refine SO.val rfl rfl rfl rfl (.extract rfl rfl rfl) ?_
        refine SO.val rfl rfl rfl rfl (.assign rfl rfl) ?_
        refine SO.val rfl rfl rfl rfl (.assign rfl rfl) ?_
        refine SO.nil ?_
        refine SQ.then_normal ?_
        refine SC.seq ?_
        refine SC.region ?_
        refine SO.val rfl rfl rfl rfl (.move rfl rfl) ?_
        refine SO.val rfl rfl rfl rfl (.move rfl rfl) ?_
        refine SO.call rfl rfl rfl rfl (.callF rfl rfl en25) (lines_at (.iface tT tx) s _ _ _ (hO14.good hGb) (ht.below (hO14.toBelow ⟨hb11, trivial⟩))) ?_
        rintro _ w15 ⟨rfl, hb15⟩
        have hO15 := hO14.below hb15
        refine ⟨_, rfl, ?_⟩
        refine SO.val rfl rfl rfl rfl (.move rfl rfl) ?_
        refine SO.val rfl rfl rfl rfl (.extract rfl rfl rfl) ?_
        refine SO.val rfl rfl rfl rfl (.extract rfl rfl rfl) ?_
        refine SO.val rfl rfl rfl rfl (.assign rfl rfl) ?_
        refine SO.val rfl rfl rfl rfl (.assign rfl rfl) ?_
        refine SO.nil ?_
        refine SQ.then_normal ?_
        refine SC.seq ?_
        refine SC.region ?_
        refine SO.val rfl rfl rfl rfl (.move rfl rfl) ?_
        refine SO.val rfl rfl rfl rfl (.move rfl rfl) ?_
        refine SO.call rfl rfl rfl rfl (.callF rfl rfl en25) (lines_at (.iface tT tx) s _ _ _ (hO15.good hGb) (ht.below (hO15.toBelow ⟨hb11, trivial⟩))) ?_
        rintro _ w16 ⟨rfl, hb16⟩
        have hO16 := hO15.below hb16
        refine ⟨_, rfl, ?_⟩
        refine SO.val rfl rfl rfl rfl (.move rfl rfl) ?_
        refine SO.val rfl rfl rfl rfl (.extract rfl rfl rfl) ?_
        refine SO.val rfl rfl rfl rfl (.extract rfl rfl rfl) ?_
        refine SO.val rfl rfl rfl rfl (.assign rfl rfl) ?_
        refine SO.val rfl rfl rfl rfl (.assign rfl rfl) ?_
        refine SO.nil ?_
        refine SQ.then_normal ?_
        refine SC.seq ?_
        refine SC.seq ?_
        refine SC.region ?_
        refine SO.val rfl rfl rfl rfl (.move rfl rfl) ?_
        refine SO.val rfl rfl rfl rfl (.move rfl rfl) ?_
        refine SO.val rfl rfl rfl rfl (decF (.neq rfl rfl rfl) (by omega)) ?_
        refine SO.val rfl rfl rfl rfl (.move rfl rfl) ?_
        refine SO.val rfl rfl rfl rfl (.move rfl rfl) ?_
        refine SO.val rfl rfl rfl rfl (decF (.neq rfl rfl rfl) (by omega)) ?_
        refine SO.val rfl rfl rfl rfl (.pickF rfl rfl rfl) ?_
        refine SO.val rfl rfl rfl rfl (.move rfl rfl) ?_
        refine SO.val rfl rfl rfl rfl (.move rfl rfl) ?_
        refine SO.val rfl rfl rfl rfl (.fieldAddr rfl rfl fa41_0) ?_
        refine SO.val rfl rfl rfl rfl (.load rfl rfl ag3 (cell_of' (hO16.at (i := 0) rfl) rfl)) ?_
        refine SO.val rfl rfl rfl rfl (decF (.neq rfl rfl rfl) (by omega)) ?_
        refine SO.val rfl rfl rfl rfl (.pickF rfl rfl rfl) ?_
        refine SO.val rfl rfl rfl rfl (.move rfl rfl) ?_
        refine SO.val rfl rfl rfl rfl (.move rfl rfl) ?_
        refine SO.val rfl rfl rfl rfl (decF (.neq rfl rfl rfl) (by omega)) ?_
        refine SO.val rfl rfl rfl rfl (.pickF rfl rfl rfl) ?_
        refine SO.val rfl rfl rfl rfl (.move rfl rfl) ?_
        refine SO.val rfl rfl rfl rfl (.move rfl rfl) ?_
        refine SO.val rfl rfl rfl rfl (.fieldAddr rfl rfl fa41_1) ?_
        refine SO.val rfl rfl rfl rfl (.load rfl rfl ag3 (cell_of' (hO16.at (i := 0) rfl) rfl)) ?_
        refine SO.val rfl rfl rfl rfl (decF (.neq rfl rfl rfl) (by omega)) ?_
        refine SO.val rfl rfl rfl rfl (.pickF rfl rfl rfl) ?_
        refine SO.val rfl rfl rfl rfl (.move rfl rfl) ?_
        refine SO.val rfl rfl rfl rfl (.move rfl rfl) ?_
        refine SO.val rfl rfl rfl rfl (decF (.neq rfl rfl rfl) (by omega)) ?_
        refine SO.val rfl rfl rfl rfl (.pickF rfl rfl rfl) ?_
        refine SO.nil ?_
        refine SQ.then_normal ?_
        refine SC.no rfl ?_
        refine SC.skip ?_
        refine SQ.then_normal ?_
        refine SC.seq ?_
        refine SC.seq ?_
        refine SC.region ?_
        refine SO.val rfl rfl rfl rfl (.move rfl rfl) ?_
        refine SO.val rfl rfl rfl rfl (.fieldAddr rfl rfl fa23_0) ?_
        refine SO.val rfl rfl rfl rfl (.load rfl rfl ag9 (cell_of' (hO16.heapO ⟨hb11, trivial⟩ q0) rfl)) ?_
        refine SO.val rfl rfl rfl rfl (.lenS rfl rfl Tryz.underlying9) ?_
        refine SO.val rfl rfl rfl rfl (.geq rfl rfl rfl) ?_
        refine SO.nil ?_
        refine SQ.then_normal ?_
        refine SC.dec rfl (fun c17 => ?_) (fun c17 => ?_)
        ·
          have hend : (ofN (bl s) (a : Nat)) = nlC (bl s) := by rw [hN, show a = (bl s).length by rw [bl_length]; omega, nlT_len]
          refine SC.seq ?_
          refine SC.region ?_
          refine SO.val rfl rfl rfl rfl (.move rfl rfl) ?_
          refine SO.val rfl rfl rfl rfl (.fieldAddr rfl rfl fa23_0) ?_
          refine SO.val rfl rfl rfl rfl (.load rfl rfl ag9 (cell_of' (hO16.heapO ⟨hb11, trivial⟩ q0) rfl)) ?_
          refine SO.val rfl rfl rfl rfl (.lenS rfl rfl Tryz.underlying9) ?_
          refine SO.val rfl rfl rfl rfl (decT (.eql rfl rfl rfl) (by omega)) ?_
          refine SO.val rfl rfl rfl rfl (.move rfl rfl) ?_
          refine SO.val rfl rfl rfl rfl (.move rfl rfl) ?_
          refine SO.val rfl rfl rfl rfl (.move rfl rfl) ?_
          refine SO.call rfl rfl rfl rfl (.callF rfl rfl en29) (lines_count (.iface tT tx) s _ (hO16.good hGb) (ht.below (hO16.toBelow ⟨hb11, trivial⟩))) ?_
          rintro _ w18 ⟨rfl, hb18⟩
          have hO18 := hO16.below hb18
          refine ⟨_, rfl, ?_⟩
          refine SO.val rfl rfl rfl rfl (.sub rfl rfl rfl (by omega)) ?_
          refine SO.val rfl rfl rfl rfl (decT (.eql rfl rfl rfl) (by omega)) ?_
          refine SO.val rfl rfl rfl rfl (.pickT rfl rfl rfl) ?_
          refine SO.val rfl rfl rfl rfl (.assign rfl rfl) ?_
          refine SO.nil ?_
          refine SQ.then_normal ?_
          refine SC.ret ?_
          refine SQ.then_ret ?_
          refine SQ.block_ret ?_
          refine SQ.then_ret ?_
          refine SQ.then_ret ?_
          refine SQ.block_ret ?_
          refine SQ.then_ret ?_
          refine SQ.out (.inl rfl) (res1 rfl rfl) ?_
          have hEE := hO18.toBelow ⟨hb11, trivial⟩
          first | exact ⟨rfl, hEE⟩ | exact ⟨rfl, hBb.trans (hEE.mono hBb.size)⟩
        ·
          have hlt : a < (bl s).length := by rw [bl_length]; omega
          obtain ⟨u1, u2, u3, u4⟩ := cNext_spec hlt
          rw [bl_length] at u2
          have hcl := clCells_range (bl s) a
          have hce : nCells (bl (s.extract ((a : Nat) : Int).toNat ((cNext (bl s) a : Nat) : Int).toNat)) (clusters (bl (s.extract ((a : Nat) : Int).toNat ((cNext (bl s) a : Nat) : Int).toNat))) = clCells (bl s) a := by
            rw [bl_extract, Int.toNat_natCast, Int.toNat_natCast]; exact clusters_one hcb hlt
          have hEn : ofE (bl s) (cNext (bl s) a : Nat) = 0 := by unfold ofE; rw [if_neg (by rw [bl_length]; omega)]
          refine SC.skip ?_
          refine SQ.then_normal ?_
          refine SC.seq ?_
          refine SC.region ?_
          refine SO.val rfl rfl rfl rfl (.fieldAddr rfl rfl fa23_0) ?_
          refine SO.val rfl rfl rfl rfl (.load rfl rfl ag9 (cell_of' (hO16.heapO ⟨hb11, trivial⟩ q0) rfl)) ?_
          refine SO.val rfl rfl rfl rfl (.move rfl rfl) ?_
          refine SO.call rfl rfl rfl rfl (.callF rfl rfl en30) (cnext_at s a _ (hO16.good hGb) (by omega)) ?_
          rintro _ w20 ⟨rfl, hb20⟩
          have hO20 := hO16.below hb20
          refine ⟨_, rfl, ?_⟩
          refine SO.val rfl rfl rfl rfl (.assign rfl rfl) ?_
          refine SO.nil ?_
          refine SQ.then_normal ?_
          refine SC.seq ?_
          refine SC.region ?_
          refine SO.val rfl rfl rfl rfl (.fieldAddr rfl rfl fa23_0) ?_
          refine SO.val rfl rfl rfl rfl (.load rfl rfl ag9 (cell_of' (hO20.heapO ⟨hb11, trivial⟩ q0) rfl)) ?_
          refine SO.val rfl rfl rfl rfl (.move rfl rfl) ?_
          refine SO.val rfl rfl rfl rfl (.move rfl rfl) ?_
          refine SO.val rfl rfl rfl rfl (.sliceLH rfl rfl rfl rfl Tryz.underlying9 (by omega)) ?_
          refine SO.call rfl rfl rfl rfl (.callF rfl rfl en31) ((by have h := ccellsum_any (s.extract ((a : Nat) : Int).toNat ((cNext (bl s) a : Nat) : Int).toNat) _ (hO20.good hGb) (by rw [ByteArray.size_extract]; omega); rw [hce] at h; exact h)) ?_
          rintro _ w21 ⟨rfl, hb21⟩
          have hO21 := hO20.below hb21
          refine ⟨_, rfl, ?_⟩
          refine SO.val rfl rfl rfl rfl (.assign rfl rfl) ?_
          refine SO.nil ?_
          refine SQ.then_normal ?_
          refine SC.seq ?_
          refine SC.seq ?_
          refine SC.region ?_
          refine SO.val rfl rfl rfl rfl (.move rfl rfl) ?_
          refine SO.val rfl rfl rfl rfl (.fieldAddr rfl rfl fa41_1) ?_
          refine SO.val rfl rfl rfl rfl (.load rfl rfl ag3 (cell_of' (hO21.at (i := 0) rfl) rfl)) ?_
          refine SO.val rfl rfl rfl rfl (.lss rfl rfl rfl) ?_
          refine SO.nil ?_
          refine SQ.then_normal ?_
          refine SC.dec rfl (fun c22 => ?_) (fun c22 => ?_)
          ·
            have hlt2 : a < lend (bl s) (ofN (bl s) (a : Nat)) := by omega
            obtain ⟨v1, v2⟩ := colW_step hz2 hk0 hk1 hcb L1 hlt2
            have hcp := clCells_pos hk0 hk1 hcb L1 hlt2
            have hNn : ofN (bl s) (cNext (bl s) a : Nat) = (ofN (bl s) (a : Nat)) := by
              have h1 := nlT_in hk0 hk1 (t := cNext (bl s) a) (by omega) v1
              unfold ofN; rw [if_neg (by rw [bl_length]; omega), Int.toNat_natCast, h1]; rw [if_neg (by rw [bl_length]; omega), Int.toNat_natCast]; unfold ofN; rw [if_neg (by rw [bl_length]; omega), Int.toNat_natCast]
            have hcoln : colR s (cNext (bl s) a : Nat) = colR s (a : Nat) + clCells (bl s) a := by rw [hcol, ← v2]; unfold colR; rw [if_neg (by omega), hNn]
            have hA4 : atR s (ofN (bl s) (a : Nat)) (colR s (a : Nat) + clCells (bl s) a - 1) = (a : Nat) := by rw [hcol]; exact at_of hz2 hk0 hk1 hcb L1 L2 (by omega) (fun _ => by omega)
            refine SC.seq ?_
            refine SC.region ?_
            refine SO.val rfl rfl rfl rfl (.move rfl rfl) ?_
            refine SO.val rfl rfl rfl rfl (.move rfl rfl) ?_
            refine SO.call rfl rfl rfl rfl (.callF rfl rfl en23) (lines_column (.iface tT tx) s _ _ (hO21.good hGb) (ht.below (hO21.toBelow ⟨hb11, trivial⟩))) ?_
            rintro _ w23 ⟨rfl, hb23⟩
            have hO23 := hO21.below hb23
            refine ⟨_, rfl, ?_⟩
            refine SO.val rfl rfl rfl rfl (.move rfl rfl) ?_
            refine SO.val rfl rfl rfl rfl (.extract rfl rfl rfl) ?_
            refine SO.val rfl rfl rfl rfl (.extract rfl rfl rfl) ?_
            refine SO.val rfl rfl rfl rfl (.assign rfl rfl) ?_
            refine SO.val rfl rfl rfl rfl (.assign rfl rfl) ?_
            refine SO.nil ?_
            refine SQ.then_normal ?_
            refine SC.seq ?_
            refine SC.seq ?_
            refine SC.region ?_
            refine SO.val rfl rfl rfl rfl (.move rfl rfl) ?_
            refine SO.val rfl rfl rfl rfl (decF (.neq rfl rfl rfl) (by omega)) ?_
            refine SO.val rfl rfl rfl rfl (.move rfl rfl) ?_
            refine SO.val rfl rfl rfl rfl (.move rfl rfl) ?_
            refine SO.val rfl rfl rfl rfl (.move rfl rfl) ?_
            refine SO.val rfl rfl rfl rfl (.move rfl rfl) ?_
            refine SO.val rfl rfl rfl rfl (.add rfl rfl rfl (by omega)) ?_
            refine SO.val rfl rfl rfl rfl (decF (.neq rfl rfl rfl) (by omega)) ?_
            refine SO.val rfl rfl rfl rfl (.pickF rfl rfl rfl) ?_
            refine SO.val rfl rfl rfl rfl (.move rfl rfl) ?_
            refine SO.val rfl rfl rfl rfl (.move rfl rfl) ?_
            refine SO.val rfl rfl rfl rfl (decF (.lss rfl rfl rfl) (by omega)) ?_
            refine SO.val rfl rfl rfl rfl (.pickF rfl rfl rfl) ?_
            refine SO.nil ?_
            refine SQ.then_normal ?_
            refine SC.no rfl ?_
            refine SC.skip ?_
            refine SQ.then_normal ?_
            refine SC.seq ?_
            refine SC.region ?_
            refine SO.val rfl rfl rfl rfl (.move rfl rfl) ?_
            refine SO.val rfl rfl rfl rfl (.move rfl rfl) ?_
            refine SO.val rfl rfl rfl rfl (.move rfl rfl) ?_
            refine SO.val rfl rfl rfl rfl (.move rfl rfl) ?_
            refine SO.val rfl rfl rfl rfl (.add rfl rfl rfl (by omega)) ?_
            refine SO.val rfl rfl rfl rfl (.sub rfl rfl rfl (by omega)) ?_
            refine SO.call rfl rfl rfl rfl (.callF rfl rfl en25) (lines_at (.iface tT tx) s _ _ _ (hO23.good hGb) (ht.below (hO23.toBelow ⟨hb11, trivial⟩))) ?_
            rintro _ w24 ⟨rfl, hb24⟩
            have hO24 := hO23.below hb24
            refine ⟨_, rfl, ?_⟩
            refine SO.val rfl rfl rfl rfl (.move rfl rfl) ?_
            refine SO.val rfl rfl rfl rfl (.extract rfl rfl rfl) ?_
            refine SO.val rfl rfl rfl rfl (.extract rfl rfl rfl) ?_
            refine SO.val rfl rfl rfl rfl (.assign rfl rfl) ?_
            refine SO.val rfl rfl rfl rfl (.assign rfl rfl) ?_
            refine SO.nil ?_
            refine SQ.then_normal ?_
            refine SC.seq ?_
            refine SC.region ?_
            refine SO.val rfl rfl rfl rfl (.move rfl rfl) ?_
            refine SO.val rfl rfl rfl rfl (decF (.neq rfl rfl rfl) (by omega)) ?_
            refine SO.val rfl rfl rfl rfl (.move rfl rfl) ?_
            refine SO.val rfl rfl rfl rfl (.move rfl rfl) ?_
            refine SO.val rfl rfl rfl rfl (.move rfl rfl) ?_
            refine SO.val rfl rfl rfl rfl (decF (.neq rfl rfl rfl) (by omega)) ?_
            refine SO.val rfl rfl rfl rfl (.pickF rfl rfl rfl) ?_
            refine SO.nil ?_
            refine SQ.then_normal ?_
            refine SC.no rfl ?_
            refine SC.skip ?_
            refine SQ.then_normal ?_
            refine SC.region ?_
            refine SO.val rfl rfl rfl rfl (.move rfl rfl) ?_
            refine SO.val rfl rfl rfl rfl (.assign rfl rfl) ?_
            refine SO.nil ?_
            refine SQ.block_normal ?_
            refine SQ.then_normal ?_
            refine SC.region ?_
            refine SO.val rfl rfl rfl rfl (.move rfl rfl) ?_
            refine SO.val rfl rfl rfl rfl (.add rfl rfl rfl (by omega)) ?_
            refine SO.val rfl rfl rfl rfl (.assign rfl rfl) ?_
            refine SO.nil ?_
            refine SQ.round (cNext (bl s) a, k2 + 1) (by simp only; omega) ⟨rfl, rfl, rfl, rfl, trivial⟩ ⟨u3, by simp only; omega, (hO24.tail hb11)⟩
          ·
            have hcz : clCells (bl s) a = 0 := by
              have e : a = lend (bl s) (ofN (bl s) (a : Nat)) := by omega
              have h2 : (ofN (bl s) (a : Nat)) < nlC (bl s) := by rcases l4 with l4 | l4 | l4; (· omega); (· exact l4.1); (· exact l4.1)
              have := clCells_lend (l := bl s) hk0 h2
              rwa [← e] at this
            refine SC.seq ?_
            refine SC.region ?_
            refine SO.val rfl rfl rfl rfl (.move rfl rfl) ?_
            refine SO.val rfl rfl rfl rfl (decF (.neq rfl rfl rfl) (by omega)) ?_
            refine SO.nil ?_
            refine SQ.then_normal ?_
            refine SC.no rfl ?_
            refine SC.skip ?_
            refine SQ.then_normal ?_
            refine SC.region ?_
            refine SO.val rfl rfl rfl rfl (.move rfl rfl) ?_
            refine SO.val rfl rfl rfl rfl (.assign rfl rfl) ?_
            refine SO.nil ?_
            refine SQ.block_normal ?_
            refine SQ.then_normal ?_
            refine SC.region ?_
            refine SO.val rfl rfl rfl rfl (.move rfl rfl) ?_
            refine SO.val rfl rfl rfl rfl (.add rfl rfl rfl (by omega)) ?_
            refine SO.val rfl rfl rfl rfl (.assign rfl rfl) ?_
            refine SO.nil ?_
            refine SQ.round (cNext (bl s) a, k2 + 1) (by simp only; omega) ⟨rfl, rfl, rfl, rfl, trivial⟩ ⟨u3, by simp only; omega, (hO21.tail hb11)⟩
      ·
        refine SO.pass rfl rfl rfl ?_
        refine SO.pass rfl rfl rfl ?_
        refine SO.val rfl rfl rfl rfl (.pickF rfl rfl rfl) ?_
        refine SO.val rfl rfl rfl rfl (.pickF rfl rfl rfl) ?_
        refine SO.nil ?_
        refine SQ.then_normal ?_
        refine SC.no rfl ?_
        refine SC.skip ?_
        refine SQ.then_normal ?_
        refine SC.seq ?_
        refine SC.region ?_
        refine SO.val rfl rfl rfl rfl (.move rfl rfl) ?_
        refine SO.val rfl rfl rfl rfl (.move rfl rfl) ?_
        refine SO.val rfl rfl rfl rfl (.move rfl rfl) ?_
        refine SO.call rfl rfl rfl rfl (.callF rfl rfl en25) (lines_at (.iface tT tx) s _ _ _ (hO12.good hGb) (ht.below (hO12.toBelow ⟨hb11, trivial⟩))) ?_
        rintro _ w25 ⟨rfl, hb25⟩
        have hO25 := hO12.below hb25
        refine ⟨_, rfl, ?_⟩
        refine SO.val rfl rfl rfl rfl (.move rfl rfl) ?_
        refine SO.val rfl rfl rfl rfl (.extract rfl rfl rfl) ?_
        refine SO.val rfl rfl rfl rfl (.extract rfl rfl rfl) ?_
        refine SO.val rfl rfl rfl rfl (.assign rfl rfl) ?_
        refine SO.val rfl rfl rfl rfl (.assign rfl rfl) ?_
        refine SO.nil ?_
        refine SQ.then_normal ?_
        refine SC.seq ?_
        refine SC.region ?_
        refine SO.val rfl rfl rfl rfl (.move rfl rfl) ?_
        refine SO.val rfl rfl rfl rfl (.move rfl rfl) ?_
        refine SO.call rfl rfl rfl rfl (.callF rfl rfl en25) (lines_at (.iface tT tx) s _ _ _ (hO25.good hGb) (ht.below (hO25.toBelow ⟨hb11, trivial⟩))) ?_
        rintro _ w26 ⟨rfl, hb26⟩
        have hO26 := hO25.below hb26
        refine ⟨_, rfl, ?_⟩
        refine SO.val rfl rfl rfl rfl (.move rfl rfl) ?_
        refine SO.val rfl rfl rfl rfl (.extract rfl rfl rfl) ?_
        refine SO.val rfl rfl rfl rfl (.extract rfl rfl rfl) ?_
        refine SO.val rfl rfl rfl rfl (.assign rfl rfl) ?_
        refine SO.val rfl rfl rfl rfl (.assign rfl rfl) ?_
        refine SO.nil ?_
        refine SQ.then_normal ?_
        refine SC.seq ?_
        refine SC.region ?_
        refine SO.val rfl rfl rfl rfl (.move rfl rfl) ?_
        refine SO.val rfl rfl rfl rfl (.move rfl rfl) ?_
        refine SO.call rfl rfl rfl rfl (.callF rfl rfl en25) (lines_at (.iface tT tx) s _ _ _ (hO26.good hGb) (ht.below (hO26.toBelow ⟨hb11, trivial⟩))) ?_
        rintro _ w27 ⟨rfl, hb27⟩
        have hO27 := hO26.below hb27
        refine ⟨_, rfl, ?_⟩
        refine SO.val rfl rfl rfl rfl (.move rfl rfl) ?_
        refine SO.val rfl rfl rfl rfl (.extract rfl rfl rfl) ?_
        refine SO.val rfl rfl rfl rfl (.extract rfl rfl rfl) ?_
        refine SO.val rfl rfl rfl rfl (.assign rfl rfl) ?_
        refine SO.val rfl rfl rfl rfl (.assign rfl rfl) ?_
        refine SO.nil ?_
        refine SQ.then_normal ?_
        refine SC.seq ?_
        refine SC.seq ?_
        refine SC.region ?_
        refine SO.val rfl rfl rfl rfl (.move rfl rfl) ?_
        refine SO.val rfl rfl rfl rfl (.move rfl rfl) ?_
        refine SO.val rfl rfl rfl rfl (decF (.neq rfl rfl rfl) (by omega)) ?_
        refine SO.val rfl rfl rfl rfl (.move rfl rfl) ?_
        refine SO.val rfl rfl rfl rfl (.move rfl rfl) ?_
        refine SO.val rfl rfl rfl rfl (decF (.neq rfl rfl rfl) (by omega)) ?_
        refine SO.val rfl rfl rfl rfl (.pickF rfl rfl rfl) ?_
        refine SO.val rfl rfl rfl rfl (.move rfl rfl) ?_
        refine SO.val rfl rfl rfl rfl (.move rfl rfl) ?_
        refine SO.val rfl rfl rfl rfl (.fieldAddr rfl rfl fa41_0) ?_
        refine SO.val rfl rfl rfl rfl (.load rfl rfl ag3 (cell_of' (hO27.at (i := 0) rfl) rfl)) ?_
        refine SO.val rfl rfl rfl rfl (decF (.neq rfl rfl rfl) (by omega)) ?_
        refine SO.val rfl rfl rfl rfl (.pickF rfl rfl rfl) ?_
        refine SO.val rfl rfl rfl rfl (.move rfl rfl) ?_
        refine SO.val rfl rfl rfl rfl (.move rfl rfl) ?_
        refine SO.val rfl rfl rfl rfl (decF (.neq rfl rfl rfl) (by omega)) ?_
        refine SO.val rfl rfl rfl rfl (.pickF rfl rfl rfl) ?_
        refine SO.val rfl rfl rfl rfl (.move rfl rfl) ?_
        refine SO.val rfl rfl rfl rfl (.move rfl rfl) ?_
        refine SO.val rfl rfl rfl rfl (.fieldAddr rfl rfl fa41_1) ?_
        refine SO.val rfl rfl rfl rfl (.load rfl rfl ag3 (cell_of' (hO27.at (i := 0) rfl) rfl)) ?_
        refine SO.val rfl rfl rfl rfl (decF (.neq rfl rfl rfl) (by omega)) ?_
        refine SO.val rfl rfl rfl rfl (.pickF rfl rfl rfl) ?_
        refine SO.val rfl rfl rfl rfl (.move rfl rfl) ?_
        refine SO.val rfl rfl rfl rfl (.move rfl rfl) ?_
        refine SO.val rfl rfl rfl rfl (decF (.neq rfl rfl rfl) (by omega)) ?_
        refine SO.val rfl rfl rfl rfl (.pickF rfl rfl rfl) ?_
        refine SO.nil ?_
        refine SQ.then_normal ?_
        refine SC.no rfl ?_
        refine SC.skip ?_
        refine SQ.then_normal ?_
        refine SC.seq ?_
        refine SC.seq ?_
        refine SC.region ?_
        refine SO.val rfl rfl rfl rfl (.move rfl rfl) ?_
        refine SO.val rfl rfl rfl rfl (.fieldAddr rfl rfl fa23_0) ?_
        refine SO.val rfl rfl rfl rfl (.load rfl rfl ag9 (cell_of' (hO27.heapO ⟨hb11, trivial⟩ q0) rfl)) ?_
        refine SO.val rfl rfl rfl rfl (.lenS rfl rfl Tryz.underlying9) ?_
        refine SO.val rfl rfl rfl rfl (.geq rfl rfl rfl) ?_
        refine SO.nil ?_
        refine SQ.then_normal ?_
        refine SC.dec rfl (fun c28 => ?_) (fun c28 => ?_)
        ·
          have hend : (ofN (bl s) (a : Nat)) = nlC (bl s) := by rw [hN, show a = (bl s).length by rw [bl_length]; omega, nlT_len]
          refine SC.seq ?_
          refine SC.region ?_
          refine SO.val rfl rfl rfl rfl (.move rfl rfl) ?_
          refine SO.val rfl rfl rfl rfl (.fieldAddr rfl rfl fa23_0) ?_
          refine SO.val rfl rfl rfl rfl (.load rfl rfl ag9 (cell_of' (hO27.heapO ⟨hb11, trivial⟩ q0) rfl)) ?_
          refine SO.val rfl rfl rfl rfl (.lenS rfl rfl Tryz.underlying9) ?_
          refine SO.val rfl rfl rfl rfl (decT (.eql rfl rfl rfl) (by omega)) ?_
          refine SO.val rfl rfl rfl rfl (.move rfl rfl) ?_
          refine SO.val rfl rfl rfl rfl (.move rfl rfl) ?_
          refine SO.val rfl rfl rfl rfl (.move rfl rfl) ?_
          refine SO.call rfl rfl rfl rfl (.callF rfl rfl en29) (lines_count (.iface tT tx) s _ (hO27.good hGb) (ht.below (hO27.toBelow ⟨hb11, trivial⟩))) ?_
          rintro _ w29 ⟨rfl, hb29⟩
          have hO29 := hO27.below hb29
          refine ⟨_, rfl, ?_⟩
          refine SO.val rfl rfl rfl rfl (.sub rfl rfl rfl (by omega)) ?_
          refine SO.val rfl rfl rfl rfl (decT (.eql rfl rfl rfl) (by omega)) ?_
          refine SO.val rfl rfl rfl rfl (.pickT rfl rfl rfl) ?_
          refine SO.val rfl rfl rfl rfl (.assign rfl rfl) ?_
          refine SO.nil ?_
          refine SQ.then_normal ?_
          refine SC.ret ?_
          refine SQ.then_ret ?_
          refine SQ.block_ret ?_
          refine SQ.then_ret ?_
          refine SQ.then_ret ?_
          refine SQ.block_ret ?_
          refine SQ.then_ret ?_
          refine SQ.out (.inl rfl) (res1 rfl rfl) ?_
          have hEE := hO29.toBelow ⟨hb11, trivial⟩
          first | exact ⟨rfl, hEE⟩ | exact ⟨rfl, hBb.trans (hEE.mono hBb.size)⟩
        ·
          have hlt : a < (bl s).length := by rw [bl_length]; omega
          obtain ⟨u1, u2, u3, u4⟩ := cNext_spec hlt
          rw [bl_length] at u2
          have hcl := clCells_range (bl s) a
          have hce : nCells (bl (s.extract ((a : Nat) : Int).toNat ((cNext (bl s) a : Nat) : Int).toNat)) (clusters (bl (s.extract ((a : Nat) : Int).toNat ((cNext (bl s) a : Nat) : Int).toNat))) = clCells (bl s) a := by
            rw [bl_extract, Int.toNat_natCast, Int.toNat_natCast]; exact clusters_one hcb hlt
          have hEn : ofE (bl s) (cNext (bl s) a : Nat) = 0 := by unfold ofE; rw [if_neg (by rw [bl_length]; omega)]
          refine SC.skip ?_
          refine SQ.then_normal ?_
          refine SC.seq ?_
          refine SC.region ?_
          refine SO.val rfl rfl rfl rfl (.fieldAddr rfl rfl fa23_0) ?_
          refine SO.val rfl rfl rfl rfl (.load rfl rfl ag9 (cell_of' (hO27.heapO ⟨hb11, trivial⟩ q0) rfl)) ?_
          refine SO.val rfl rfl rfl rfl (.move rfl rfl) ?_
          refine SO.call rfl rfl rfl rfl (.callF rfl rfl en30) (cnext_at s a _ (hO27.good hGb) (by omega)) ?_
          rintro _ w31 ⟨rfl, hb31⟩
          have hO31 := hO27.below hb31
          refine ⟨_, rfl, ?_⟩
          refine SO.val rfl rfl rfl rfl (.assign rfl rfl) ?_
          refine SO.nil ?_
          refine SQ.then_normal ?_
          refine SC.seq ?_
          refine SC.region ?_
          refine SO.val rfl rfl rfl rfl (.fieldAddr rfl rfl fa23_0) ?_
          refine SO.val rfl rfl rfl rfl (.load rfl rfl ag9 (cell_of' (hO31.heapO ⟨hb11, trivial⟩ q0) rfl)) ?_
          refine SO.val rfl rfl rfl rfl (.move rfl rfl) ?_
          refine SO.val rfl rfl rfl rfl (.move rfl rfl) ?_
          refine SO.val rfl rfl rfl rfl (.sliceLH rfl rfl rfl rfl Tryz.underlying9 (by omega)) ?_
          refine SO.call rfl rfl rfl rfl (.callF rfl rfl en31) ((by have h := ccellsum_any (s.extract ((a : Nat) : Int).toNat ((cNext (bl s) a : Nat) : Int).toNat) _ (hO31.good hGb) (by rw [ByteArray.size_extract]; omega); rw [hce] at h; exact h)) ?_
          rintro _ w32 ⟨rfl, hb32⟩
          have hO32 := hO31.below hb32
          refine ⟨_, rfl, ?_⟩
          refine SO.val rfl rfl rfl rfl (.assign rfl rfl) ?_
          refine SO.nil ?_
          refine SQ.then_normal ?_
          refine SC.seq ?_
          refine SC.seq ?_
          refine SC.region ?_
          refine SO.val rfl rfl rfl rfl (.move rfl rfl) ?_
          refine SO.val rfl rfl rfl rfl (.fieldAddr rfl rfl fa41_1) ?_
          refine SO.val rfl rfl rfl rfl (.load rfl rfl ag3 (cell_of' (hO32.at (i := 0) rfl) rfl)) ?_
          refine SO.val rfl rfl rfl rfl (.lss rfl rfl rfl) ?_
          refine SO.nil ?_
          refine SQ.then_normal ?_
          refine SC.dec rfl (fun c33 => ?_) (fun c33 => ?_)
          ·
            have hlt2 : a < lend (bl s) (ofN (bl s) (a : Nat)) := by omega
            obtain ⟨v1, v2⟩ := colW_step hz2 hk0 hk1 hcb L1 hlt2
            have hcp := clCells_pos hk0 hk1 hcb L1 hlt2
            have hNn : ofN (bl s) (cNext (bl s) a : Nat) = (ofN (bl s) (a : Nat)) := by
              have h1 := nlT_in hk0 hk1 (t := cNext (bl s) a) (by omega) v1
              unfold ofN; rw [if_neg (by rw [bl_length]; omega), Int.toNat_natCast, h1]; rw [if_neg (by rw [bl_length]; omega), Int.toNat_natCast]; unfold ofN; rw [if_neg (by rw [bl_length]; omega), Int.toNat_natCast]
            have hcoln : colR s (cNext (bl s) a : Nat) = colR s (a : Nat) + clCells (bl s) a := by rw [hcol, ← v2]; unfold colR; rw [if_neg (by omega), hNn]
            have hA4 : atR s (ofN (bl s) (a : Nat)) (colR s (a : Nat) + clCells (bl s) a - 1) = (a : Nat) := by rw [hcol]; exact at_of hz2 hk0 hk1 hcb L1 L2 (by omega) (fun _ => by omega)
            refine SC.seq ?_
            refine SC.region ?_
            refine SO.val rfl rfl rfl rfl (.move rfl rfl) ?_
            refine SO.val rfl rfl rfl rfl (.move rfl rfl) ?_
            refine SO.call rfl rfl rfl rfl (.callF rfl rfl en23) (lines_column (.iface tT tx) s _ _ (hO32.good hGb) (ht.below (hO32.toBelow ⟨hb11, trivial⟩))) ?_
            rintro _ w34 ⟨rfl, hb34⟩
            have hO34 := hO32.below hb34
            refine ⟨_, rfl, ?_⟩
            refine SO.val rfl rfl rfl rfl (.move rfl rfl) ?_
            refine SO.val rfl rfl rfl rfl (.extract rfl rfl rfl) ?_
            refine SO.val rfl rfl rfl rfl (.extract rfl rfl rfl) ?_
            refine SO.val rfl rfl rfl rfl (.assign rfl rfl) ?_
            refine SO.val rfl rfl rfl rfl (.assign rfl rfl) ?_
            refine SO.nil ?_
            refine SQ.then_normal ?_
            refine SC.seq ?_
            refine SC.seq ?_
            refine SC.region ?_
            refine SO.val rfl rfl rfl rfl (.move rfl rfl) ?_
            refine SO.val rfl rfl rfl rfl (decF (.neq rfl rfl rfl) (by omega)) ?_
            refine SO.val rfl rfl rfl rfl (.move rfl rfl) ?_
            refine SO.val rfl rfl rfl rfl (.move rfl rfl) ?_
            refine SO.val rfl rfl rfl rfl (.move rfl rfl) ?_
            refine SO.val rfl rfl rfl rfl (.move rfl rfl) ?_
            refine SO.val rfl rfl rfl rfl (.add rfl rfl rfl (by omega)) ?_
            refine SO.val rfl rfl rfl rfl (decF (.neq rfl rfl rfl) (by omega)) ?_
            refine SO.val rfl rfl rfl rfl (.pickF rfl rfl rfl) ?_
            refine SO.val rfl rfl rfl rfl (.move rfl rfl) ?_
            refine SO.val rfl rfl rfl rfl (.move rfl rfl) ?_
            refine SO.val rfl rfl rfl rfl (decF (.lss rfl rfl rfl) (by omega)) ?_
            refine SO.val rfl rfl rfl rfl (.pickF rfl rfl rfl) ?_
            refine SO.nil ?_
            refine SQ.then_normal ?_
            refine SC.no rfl ?_
            refine SC.skip ?_
            refine SQ.then_normal ?_
            refine SC.seq ?_
            refine SC.region ?_
            refine SO.val rfl rfl rfl rfl (.move rfl rfl) ?_
            refine SO.val rfl rfl rfl rfl (.move rfl rfl) ?_
            refine SO.val rfl rfl rfl rfl (.move rfl rfl) ?_
            refine SO.val rfl rfl rfl rfl (.move rfl rfl) ?_
            refine SO.val rfl rfl rfl rfl (.add rfl rfl rfl (by omega)) ?_
            refine SO.val rfl rfl rfl rfl (.sub rfl rfl rfl (by omega)) ?_
            refine SO.call rfl rfl rfl rfl (.callF rfl rfl en25) (lines_at (.iface tT tx) s _ _ _ (hO34.good hGb) (ht.below (hO34.toBelow ⟨hb11, trivial⟩))) ?_
            rintro _ w35 ⟨rfl, hb35⟩
            have hO35 := hO34.below hb35
            refine ⟨_, rfl, ?_⟩
            refine SO.val rfl rfl rfl rfl (.move rfl rfl) ?_
            refine SO.val rfl rfl rfl rfl (.extract rfl rfl rfl) ?_
            refine SO.val rfl rfl rfl rfl (.extract rfl rfl rfl) ?_
            refine SO.val rfl rfl rfl rfl (.assign rfl rfl) ?_
            refine SO.val rfl rfl rfl rfl (.assign rfl rfl) ?_
            refine SO.nil ?_
            refine SQ.then_normal ?_
            refine SC.seq ?_
            refine SC.region ?_
            refine SO.val rfl rfl rfl rfl (.move rfl rfl) ?_
            refine SO.val rfl rfl rfl rfl (decF (.neq rfl rfl rfl) (by omega)) ?_
            refine SO.val rfl rfl rfl rfl (.move rfl rfl) ?_
            refine SO.val rfl rfl rfl rfl (.move rfl rfl) ?_
            refine SO.val rfl rfl rfl rfl (.move rfl rfl) ?_
            refine SO.val rfl rfl rfl rfl (decF (.neq rfl rfl rfl) (by omega)) ?_
            refine SO.val rfl rfl rfl rfl (.pickF rfl rfl rfl) ?_
            refine SO.nil ?_
            refine SQ.then_normal ?_
            refine SC.no rfl ?_
            refine SC.skip ?_
            refine SQ.then_normal ?_
            refine SC.region ?_
            refine SO.val rfl rfl rfl rfl (.move rfl rfl) ?_
            refine SO.val rfl rfl rfl rfl (.assign rfl rfl) ?_
            refine SO.nil ?_
            refine SQ.block_normal ?_
            refine SQ.then_normal ?_
            refine SC.region ?_
            refine SO.val rfl rfl rfl rfl (.move rfl rfl) ?_
            refine SO.val rfl rfl rfl rfl (.add rfl rfl rfl (by omega)) ?_
            refine SO.val rfl rfl rfl rfl (.assign rfl rfl) ?_
            refine SO.nil ?_
            refine SQ.round (cNext (bl s) a, k2 + 1) (by simp only; omega) ⟨rfl, rfl, rfl, rfl, trivial⟩ ⟨u3, by simp only; omega, (hO35.tail hb11)⟩
          ·
            have hcz : clCells (bl s) a = 0 := by
              have e : a = lend (bl s) (ofN (bl s) (a : Nat)) := by omega
              have h2 : (ofN (bl s) (a : Nat)) < nlC (bl s) := by rcases l4 with l4 | l4 | l4; (· omega); (· exact l4.1); (· exact l4.1)
              have := clCells_lend (l := bl s) hk0 h2
              rwa [← e] at this
            refine SC.seq ?_
            refine SC.region ?_
            refine SO.val rfl rfl rfl rfl (.move rfl rfl) ?_
            refine SO.val rfl rfl rfl rfl (decF (.neq rfl rfl rfl) (by omega)) ?_
            refine SO.nil ?_
            refine SQ.then_normal ?_
            refine SC.no rfl ?_
            refine SC.skip ?_
            refine SQ.then_normal ?_
            refine SC.region ?_
            refine SO.val rfl rfl rfl rfl (.move rfl rfl) ?_
            refine SO.val rfl rfl rfl rfl (.assign rfl rfl) ?_
            refine SO.nil ?_
            refine SQ.block_normal ?_
            refine SQ.then_normal ?_
            refine SC.region ?_
            refine SO.val rfl rfl rfl rfl (.move rfl rfl) ?_
            refine SO.val rfl rfl rfl rfl (.add rfl rfl rfl (by omega)) ?_
            refine SO.val rfl rfl rfl rfl (.assign rfl rfl) ?_
            refine SO.nil ?_
            refine SQ.round (cNext (bl s) a, k2 + 1) (by simp only; omega) ⟨rfl, rfl, rfl, rfl, trivial⟩ ⟨u3, by simp only; omega, (hO32.tail hb11)⟩
    ·
      refine SC.exit ?_
      refine SQ.then_exit ?_
      refine SQ.then_exit ?_
      refine SQ.block_exit ?_
      refine SQ.then_normal ?_
      refine SC.seq ?_
      refine SC.region ?_
      refine SO.val rfl rfl rfl rfl (.assign rfl rfl) ?_
      refine SO.nil ?_
      refine SQ.then_normal ?_
      refine SC.ret ?_
      refine SQ.out (.inl rfl) (res1 rfl rfl) ?_
      have hEE := hO6.toBelow trivial
      first | exact ⟨rfl, hEE⟩ | exact ⟨rfl, hBb.trans (hEE.mono hBb.size)⟩

end Go.Proofs.YtclgplkkajfenaaGreatDoor
