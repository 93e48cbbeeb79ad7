/- LinesTile, the walk. -/
import Derived.Test.YtclgplkkajfenaaGreatDoorLaws
namespace Go.Proofs.YtclgplkkajfenaaGreatDoor
open Go Go.RowKit Ow
set_option maxRecDepth 20000 in
set_option maxHeartbeats 400000 in
theorem tile_any (s : ByteArray) (k : Int) (w : World) (hG : Good w) :
    Calls Tryz.prog 7 #[.agg #[.string s, .int .i64 k]] w fun e w' => e = .returned (.bool true) ∧ Below w.heap.size w w' := by
  have hO0 := Own.start hG
  refine enter Tryz.func7 rfl rfl rfl 0 ?_
  refine SC.seq ?_
  refine SC.region ?_
  refine SO.box hO0 rfl rfl rfl rfl rfl [_, _] rfl ?_
  intro b1 w1 hb1 hO1
  refine SO.val rfl rfl rfl rfl (.assign rfl rfl) ?_
  refine SO.nil ?_
  refine SQ.then_normal ?_
  refine SC.seq ?_
  refine SC.seq ?_
  refine SC.region ?_
  refine SO.call rfl rfl rfl rfl (.callF rfl rfl en21) (awake_any _ (hO1.good hG)) ?_
  rintro _ w2 ⟨rfl, hb2⟩
  have hO2 := hO1.below hb2
  refine ⟨_, rfl, ?_⟩
  refine SO.val rfl rfl rfl rfl (.not rfl rfl) ?_
  refine SO.nil ?_
  refine SQ.then_normal ?_
  refine SC.no rfl ?_
  refine SC.skip ?_
  refine SQ.then_normal ?_
  refine SC.seq ?_
  refine SC.seq ?_
  refine SC.region ?_
  refine SO.val rfl rfl rfl rfl (.fieldAddr rfl rfl fa23_0) ?_
  refine SO.val rfl rfl rfl rfl (.load rfl rfl ag9 (cell_of' (hO2.at (i := 0) rfl) rfl)) ?_
  refine SO.val rfl rfl rfl rfl (.lenS rfl rfl Tryz.underlying9) ?_
  refine SO.val rfl rfl rfl rfl (.gtr rfl rfl rfl) ?_
  refine SO.nil ?_
  refine SQ.then_normal ?_
  refine SC.dec rfl (fun c3 => ?_) (fun c3 => ?_)
  ·
    refine SC.seq ?_
    refine SC.region ?_
    refine SO.val rfl rfl rfl rfl (.assign rfl rfl) ?_
    refine SO.nil ?_
    refine SQ.then_normal ?_
    refine SC.ret ?_
    refine SQ.then_ret ?_
    refine SQ.out (.inl rfl) (res1 rfl rfl) ?_
    have hEE := hO2.toBelow ⟨hb1, trivial⟩
    first | exact ⟨rfl, hEE⟩ | exact ⟨rfl, hBb.trans (hEE.mono hBb.size)⟩
  ·
    refine SC.skip ?_
    refine SQ.then_normal ?_
    refine SC.seq ?_
    refine SC.region ?_
    refine SO.val rfl rfl rfl rfl (.loadB [_, _] rfl rfl ag23 sz23 (hO2.at (i := 0) rfl) rfl rfl) ?_
    refine SO.call rfl rfl rfl rfl (.callF rfl rfl en22) (keep_any s k _ (hO2.good hG) (by omega)) ?_
    rintro _ w5 ⟨v, rfl, ht, hb5⟩
    have hOb := hO2.below hb5
    have q0 := hOb.at (i := 0) rfl
    have hGb := hOb.good hG
    have hBb := hOb.toBelow ⟨hb1, trivial⟩
    obtain ⟨tT, tx, rfl⟩ := ht.iface
    have hO5 := Own.start hGb
    have hz2 : s.size ≤ 1073741824 := by omega
    refine ⟨_, rfl, ?_⟩
    refine SO.val rfl rfl rfl rfl (.move rfl rfl) ?_
    refine SO.val rfl rfl rfl rfl (.extract rfl rfl rfl) ?_
    refine SO.val rfl rfl rfl rfl (.extract rfl rfl rfl) ?_
    refine SO.val rfl rfl rfl rfl (.assign rfl rfl) ?_
    refine SO.val rfl rfl rfl rfl (.assign rfl rfl) ?_
    refine SO.nil ?_
    refine SQ.then_normal ?_
    refine SC.seq ?_
    refine SC.seq ?_
    refine SC.region ?_
    refine SO.val rfl rfl rfl rfl (.move rfl rfl) ?_
    refine SO.val rfl rfl rfl rfl (.not rfl rfl) ?_
    refine SO.nil ?_
    refine SQ.then_normal ?_
    refine SC.no rfl ?_
    refine SC.skip ?_
    refine SQ.then_normal ?_
    refine SC.seq ?_
    refine SC.region ?_
    refine SO.val rfl rfl rfl rfl (.assign rfl rfl) ?_
    refine SO.nil ?_
    refine SQ.then_normal ?_
    refine SC.seq ?_
    refine SC.region ?_
    refine SO.val rfl rfl rfl rfl (.move rfl rfl) ?_
    refine SO.call rfl rfl rfl rfl (.callF rfl rfl en29) (lines_count (.iface tT tx) s _ (hO5.good hGb) (ht.below (hO5.toBelow trivial))) ?_
    rintro _ w6 ⟨rfl, hb6⟩
    have hO6 := hO5.below hb6
    refine ⟨_, rfl, ?_⟩
    refine SO.val rfl rfl rfl rfl (.assign rfl rfl) ?_
    refine SO.nil ?_
    refine SQ.then_normal ?_
    refine SC.seq ?_
    refine SC.seq ?_
    refine SC.region ?_
    refine SO.val rfl rfl rfl rfl (.assign rfl rfl) ?_
    refine SO.nil ?_
    refine SQ.then_normal ?_
    refine SC.block ?_
    refine SC.loop (α := Int × Nat) (fun x => [(1, .pointer (some ⟨b1, 0, none⟩)), (3, .iface tT tx), (5, .int .i64 ((x.2 : Nat) : Int)), (6, .int .i64 ((nlC (bl s) + 1 : Nat) : Int)), (7, .int .i64 x.1)]) (fun x v => 0 ≤ x.1 ∧ x.1 ≤ nlC (bl s) ∧ x.2 = bgn (bl s) x.1 ∧ Ow.Own w5 [] v) (fun x => ((nlC (bl s) : Int) + 1 - x.1).toNat) (0, 0) ?_ ?_ ?_
    · exact ⟨rfl, rfl, rfl, rfl, rfl, trivial⟩
    · exact ⟨by simp, by simp, by simp only; rw [bgn_zero], hO6⟩
    rintro ⟨i, a⟩ w7 ⟨hi0, hi1, hat, hO7⟩
    simp only at hi0 hi1 hat
    subst hat
    show SC _ _ _ _ _ _ _ [(1, .pointer (some ⟨b1, 0, none⟩)), (3, .iface tT tx), (5, .int .i64 ((bgn (bl s) i : Nat) : Int)), (6, .int .i64 ((nlC (bl s) + 1 : Nat) : Int)), (7, .int .i64 i)] _
    have hnl := nlC_le (bl s)
    rw [bl_length] at hnl
    obtain ⟨e0, eF, eT, eE⟩ := lineB_eq (s := s) hi0 hi1
    obtain ⟨l1, l2, l3, l4⟩ := lend_spec (l := bl s) hi0 hi1
    rw [bl_length] at l2
    have lc := lend_le (bl s) i
    have hln : (lnT s i) = lineB s i := by unfold lnT lineB; rw [if_neg (by omega)]
    have hline : (lnT s i) = s.extract (((spF (bl s) i : Nat) : Int)).toNat (((spT (bl s) i : Nat) : Int)).toNat := by
      rw [hln]; unfold lineB slT; rw [if_neg (by unfold bad; omega)]
    have hlsz : (lnT s i).size = lend (bl s) i - bgn (bl s) i := by rw [hln, ← bl_length, e0, sub_length (by rw [bl_length]; exact l2)]
    have hle : noLine (bl s) ((nlC (bl s) + 1 : Nat) : Int) := by unfold noLine; omega
    have hlE : spE (bl s) ((nlC (bl s) + 1 : Nat) : Int) = 1 := by unfold spE; rw [if_pos hle]
    refine SC.seq ?_
    refine SC.seq ?_
    refine SC.region ?_
    refine SO.val rfl rfl rfl rfl (.move rfl rfl) ?_
    refine SO.val rfl rfl rfl rfl (.move rfl rfl) ?_
    refine SO.val rfl rfl rfl rfl (decT (.lss rfl rfl rfl) (by omega)) ?_
    refine SO.nil ?_
    refine SQ.then_normal ?_
    refine SC.yes rfl ?_
    refine SC.skip ?_
    refine SQ.then_normal ?_
    refine SC.seq ?_
    refine SC.block ?_
    refine SC.seq ?_
    refine SC.region ?_
    refine SO.val rfl rfl rfl rfl (.move rfl rfl) ?_
    refine SO.val rfl rfl rfl rfl (.move rfl rfl) ?_
    refine SO.call rfl rfl rfl rfl (.callF rfl rfl en28) (lines_span (.iface tT tx) s _ _ (hO7.good hGb) (ht.below (hO7.toBelow trivial))) ?_
    rintro _ w8 ⟨rfl, hb8⟩
    have hO8 := hO7.below hb8
    refine ⟨_, rfl, ?_⟩
    refine SO.val rfl rfl rfl rfl (.move rfl rfl) ?_
    refine SO.val rfl rfl rfl rfl (.extract rfl rfl rfl) ?_
    refine SO.val rfl rfl rfl rfl (.extract rfl rfl rfl) ?_
    refine SO.alloc hO8 rfl rfl rfl rfl zv41 [_, _] rfl ?_
    intro b9 w9 hb9 hO9
    refine SO.store hO9 (i := 0) rfl rfl rfl rfl rfl rfl sz41 rfl rfl [(_, .cells [_, _].toArray _ _)] rfl ?_
    intro w10 hO10
    refine SO.val rfl rfl rfl rfl (.assign rfl rfl) ?_
    refine SO.nil ?_
    refine SQ.then_normal ?_
    refine SC.seq ?_
    refine SC.region ?_
    refine SO.val rfl rfl rfl rfl (.move rfl rfl) ?_
    refine SO.val rfl rfl rfl rfl (.move rfl rfl) ?_
    refine SO.call rfl rfl rfl rfl (.callF rfl rfl en35) (lines_line (.iface tT tx) s _ _ (hO10.good hGb) (ht.below (hO10.toBelow ⟨hb9, trivial⟩))) ?_
    rintro _ w11 ⟨rfl, hb11⟩
    have hO11 := hO10.below hb11
    refine ⟨_, rfl, ?_⟩
    refine SO.val rfl rfl rfl rfl (.move rfl rfl) ?_
    refine SO.val rfl rfl rfl rfl (.extract rfl rfl rfl) ?_
    refine SO.val rfl rfl rfl rfl (.extract rfl rfl rfl) ?_
    refine SO.val rfl rfl rfl rfl (.assign rfl rfl) ?_
    refine SO.val rfl rfl rfl rfl (.assign rfl rfl) ?_
    refine SO.nil ?_
    refine SQ.then_normal ?_
    refine SC.seq ?_
    refine SC.seq ?_
    refine SC.region ?_
    refine SO.val rfl rfl rfl rfl (.move rfl rfl) ?_
    refine SO.val rfl rfl rfl rfl (decF (.neq rfl rfl rfl) (by omega)) ?_
    refine SO.val rfl rfl rfl rfl (.move rfl rfl) ?_
    refine SO.val rfl rfl rfl rfl (.move rfl rfl) ?_
    refine SO.val rfl rfl rfl rfl (decF (.neq rfl rfl rfl) (by omega)) ?_
    refine SO.val rfl rfl rfl rfl (.pickF rfl rfl rfl) ?_
    refine SO.val rfl rfl rfl rfl (.move rfl rfl) ?_
    refine SO.val rfl rfl rfl rfl (.fieldAddr rfl rfl fa41_0) ?_
    refine SO.val rfl rfl rfl rfl (.load rfl rfl ag3 (cell_of' (hO11.at (i := 0) rfl) rfl)) ?_
    refine SO.val rfl rfl rfl rfl (.move rfl rfl) ?_
    refine SO.val rfl rfl rfl rfl (decF (.neq rfl rfl rfl) (by omega)) ?_
    refine SO.val rfl rfl rfl rfl (.pickF rfl rfl rfl) ?_
    refine SO.val rfl rfl rfl rfl (.move rfl rfl) ?_
    refine SO.val rfl rfl rfl rfl (.fieldAddr rfl rfl fa41_1) ?_
    refine SO.val rfl rfl rfl rfl (.load rfl rfl ag3 (cell_of' (hO11.at (i := 0) rfl) rfl)) ?_
    refine SO.val rfl rfl rfl rfl (.fieldAddr rfl rfl fa41_0) ?_
    refine SO.val rfl rfl rfl rfl (.load rfl rfl ag3 (cell_of' (hO11.at (i := 0) rfl) rfl)) ?_
    refine SO.val rfl rfl rfl rfl (decF (.lss rfl rfl rfl) (by omega)) ?_
    refine SO.val rfl rfl rfl rfl (.pickF rfl rfl rfl) ?_
    refine SO.val rfl rfl rfl rfl (.move rfl rfl) ?_
    refine SO.val rfl rfl rfl rfl (.fieldAddr rfl rfl fa41_1) ?_
    refine SO.val rfl rfl rfl rfl (.load rfl rfl ag3 (cell_of' (hO11.at (i := 0) rfl) rfl)) ?_
    refine SO.val rfl rfl rfl rfl (.fieldAddr rfl rfl fa23_0) ?_
    refine SO.val rfl rfl rfl rfl (.load rfl rfl ag9 (cell_of' (hO11.heapO ⟨hb9, trivial⟩ q0) rfl)) ?_
    refine SO.val rfl rfl rfl rfl (.lenS rfl rfl Tryz.underlying9) ?_
    refine SO.val rfl rfl rfl rfl (decF (.gtr rfl rfl rfl) (by omega)) ?_
    refine SO.val rfl rfl rfl rfl (.pickF rfl rfl rfl) ?_
    refine SO.val rfl rfl rfl rfl (.move rfl rfl) ?_
    refine SO.val rfl rfl rfl rfl (.move rfl rfl) ?_
    refine SO.val rfl rfl rfl rfl (.fieldAddr rfl rfl fa23_0) ?_
    refine SO.val rfl rfl rfl rfl (.load rfl rfl ag9 (cell_of' (hO11.heapO ⟨hb9, trivial⟩ q0) rfl)) ?_
    refine SO.val rfl rfl rfl rfl (.fieldAddr rfl rfl fa41_0) ?_
    refine SO.val rfl rfl rfl rfl (.load rfl rfl ag3 (cell_of' (hO11.at (i := 0) rfl) rfl)) ?_
    refine SO.val rfl rfl rfl rfl (.fieldAddr rfl rfl fa41_1) ?_
    refine SO.val rfl rfl rfl rfl (.load rfl rfl ag3 (cell_of' (hO11.at (i := 0) rfl) rfl)) ?_
    refine SO.val rfl rfl rfl rfl (.sliceLH rfl rfl rfl rfl Tryz.underlying9 (by omega)) ?_
    refine SO.val rfl rfl rfl rfl (decF (.strNe rfl rfl rfl) (fun h => h hline)) ?_
    refine SO.val rfl rfl rfl rfl (.pickF rfl rfl rfl) ?_
    refine SO.nil ?_
    refine SQ.then_normal ?_
    refine SC.no rfl ?_
    refine SC.skip ?_
    refine SQ.then_normal ?_
    refine SC.seq ?_
    refine SC.seq ?_
    refine SC.region ?_
    refine SO.val rfl rfl rfl rfl (.assign rfl rfl) ?_
    refine SO.nil ?_
    refine SQ.then_normal ?_
    refine SC.block ?_
    refine SC.loop (α := Nat) (fun x => [(1, .pointer (some ⟨b1, 0, none⟩)), (3, .iface tT tx), (5, .int .i64 ((bgn (bl s) i : Nat) : Int)), (6, .int .i64 ((nlC (bl s) + 1 : Nat) : Int)), (7, .int .i64 i), (8, .pointer (some ⟨b9, 0, none⟩)), (10, .string (lnT s i)), (12, .int .i64 (x : Nat))]) (fun x v => x ≤ (lnT s i).size ∧ Ow.Own w5 [(b9, .cells [.int .i64 (spF (bl s) i : Nat), .int .i64 (spT (bl s) i : Nat)].toArray 41 (0, 0))] v) (fun x => (lnT s i).size - x) 0 ?_ ?_ ?_
    · exact ⟨rfl, rfl, rfl, rfl, rfl, rfl, rfl, rfl, trivial⟩
    · exact ⟨Nat.zero_le _, hO11⟩
    rintro j w12 ⟨hj, hO12⟩
    refine SC.seq ?_
    refine SC.seq ?_
    refine SC.region ?_
    refine SO.val rfl rfl rfl rfl (.move rfl rfl) ?_
    refine SO.val rfl rfl rfl rfl (.move rfl rfl) ?_
    refine SO.val rfl rfl rfl rfl (.lenS rfl rfl Tryz.underlying9) ?_
    refine SO.val rfl rfl rfl rfl (.lss rfl rfl rfl) ?_
    refine SO.nil ?_
    refine SQ.then_normal ?_
    refine SC.dec rfl (fun c13 => ?_) (fun c13 => ?_)
    ·
      have hjb : by' (bl (lnT s i)) ((j : Nat) : Int).toNat ≠ 10 := by
        rw [Int.toNat_natCast, hln, e0, sub_by (by omega)]; exact no_lf hi0 hi1 (by omega) (by omega)
      refine SC.skip ?_
      refine SQ.then_normal ?_
      refine SC.seq ?_
      refine SC.block ?_
      refine SC.seq ?_
      refine SC.region ?_
      refine SO.val rfl rfl rfl rfl (.move rfl rfl) ?_
      refine SO.val rfl rfl rfl rfl (.move rfl rfl) ?_
      refine SO.val rfl rfl rfl rfl (.indexS rfl rfl rfl Tryz.underlying9 (by omega)) ?_
      refine SO.val rfl rfl rfl rfl (decF (.eql rfl rfl rfl) (by omega)) ?_
      refine SO.nil ?_
      refine SQ.then_normal ?_
      refine SC.no rfl ?_
      refine SC.skip ?_
      refine SQ.block_normal ?_
      refine SQ.then_normal ?_
      refine SC.region ?_
      refine SO.val rfl rfl rfl rfl (.move rfl rfl) ?_
      refine SO.val rfl rfl rfl rfl (.add rfl rfl rfl (by omega)) ?_
      refine SO.val rfl rfl rfl rfl (.assign rfl rfl) ?_
      refine SO.nil ?_
      refine SQ.round (j + 1) (by omega) ⟨rfl, rfl, rfl, rfl, rfl, rfl, rfl, rfl, trivial⟩ ⟨by omega, hO12⟩
    ·
      refine SC.exit ?_
      refine SQ.then_exit ?_
      refine SQ.then_exit ?_
      refine SQ.block_exit ?_
      refine SQ.then_normal ?_
      refine SC.seq ?_
      refine SC.seq ?_
      refine SC.region ?_
      refine SO.val rfl rfl rfl rfl (.move rfl rfl) ?_
      refine SO.val rfl rfl rfl rfl (.move rfl rfl) ?_
      refine SO.val rfl rfl rfl rfl (.sub rfl rfl rfl (by omega)) ?_
      refine SO.val rfl rfl rfl rfl (.eql rfl rfl rfl) ?_
      refine SO.nil ?_
      refine SQ.then_normal ?_
      refine SC.dec rfl (fun c14 => ?_) (fun c14 => ?_)
      ·
        have hlen9 : lend (bl s) i = s.size := by rcases l4 with l4 | l4 | l4; (· rw [← bl_length]; exact l4.2); (· omega); (· omega)
        refine SC.seq ?_
        refine SC.region ?_
        refine SO.val rfl rfl rfl rfl (.move rfl rfl) ?_
        refine SO.val rfl rfl rfl rfl (.move rfl rfl) ?_
        refine SO.call rfl rfl rfl rfl (.callF rfl rfl en28) (lines_span (.iface tT tx) s _ _ (hO12.good hGb) (ht.below (hO12.toBelow ⟨hb9, trivial⟩))) ?_
        rintro _ w15 ⟨rfl, hb15⟩
        have hO15 := hO12.below hb15
        refine ⟨_, rfl, ?_⟩
        refine SO.val rfl rfl rfl rfl (.move rfl rfl) ?_
        refine SO.val rfl rfl rfl rfl (.extract rfl rfl rfl) ?_
        refine SO.val rfl rfl rfl rfl (.extract rfl rfl rfl) ?_
        refine SO.alloc hO15 rfl rfl rfl rfl zv41 [_, _] rfl ?_
        intro b16 w16 hb16 hO16
        refine SO.store hO16 (i := 0) rfl rfl rfl rfl rfl rfl sz41 rfl rfl [(_, .cells [_, _].toArray _ _), _] rfl ?_
        intro w17 hO17
        refine SO.val rfl rfl rfl rfl (.assign rfl rfl) ?_
        refine SO.nil ?_
        refine SQ.then_normal ?_
        refine SC.seq ?_
        refine SC.region ?_
        refine SO.val rfl rfl rfl rfl (.fieldAddr rfl rfl fa41_1) ?_
        refine SO.val rfl rfl rfl rfl (.load rfl rfl ag3 (cell_of' (hO17.at (i := 1) rfl) rfl)) ?_
        refine SO.val rfl rfl rfl rfl (.fieldAddr rfl rfl fa23_0) ?_
        refine SO.val rfl rfl rfl rfl (.load rfl rfl ag9 (cell_of' (hO17.heapO ⟨hb16, hb9, trivial⟩ q0) rfl)) ?_
        refine SO.val rfl rfl rfl rfl (.lenS rfl rfl Tryz.underlying9) ?_
        refine SO.val rfl rfl rfl rfl (decT (.eql rfl rfl rfl) (by omega)) ?_
        refine SO.val rfl rfl rfl rfl (.move rfl rfl) ?_
        refine SO.val rfl rfl rfl rfl (.move rfl rfl) ?_
        refine SO.val rfl rfl rfl rfl (decT (.eql rfl rfl rfl) (by omega)) ?_
        refine SO.val rfl rfl rfl rfl (.pickT rfl rfl rfl) ?_
        refine SO.val rfl rfl rfl rfl (.assign rfl rfl) ?_
        refine SO.nil ?_
        refine SQ.then_normal ?_
        refine SC.ret ?_
        refine SQ.then_ret ?_
        refine SQ.block_ret ?_
        refine SQ.then_ret ?_
        refine SQ.then_ret ?_
        refine SQ.block_ret ?_
        refine SQ.then_ret ?_
        refine SQ.out (.inl rfl) (res1 rfl rfl) ?_
        have hEE := hO17.toBelow ⟨hb16, hb9, trivial⟩
        first | exact ⟨rfl, hEE⟩ | exact ⟨rfl, hBb.trans (hEE.mono hBb.size)⟩
      ·
        have hk2 : i < nlC (bl s) := by omega
        have hcn := cNext_lend (l := bl s) hi0 hk2
        have hbs := bgn_le (bl s) (i + 1)
        rw [bl_length] at hbs
        obtain ⟨hp1, hp2⟩ := bgn_lf (l := bl s) (k := i + 1) (by omega) (by omega)
        have hcases : (bgn (bl s) (i + 1) = lend (bl s) i + 1) ∨ (bgn (bl s) (i + 1) = lend (bl s) i + 2 ∧ by' (bl s) (lend (bl s) i) = 13) := by rcases l4 with l4 | l4 | l4; (· omega); (· exact .inl l4.2.2.2); (· exact .inr ⟨l4.2.2.2, l4.2.1⟩)
        have hbx1 : by' (bl s) (((bgn (bl s) (i + 1) : Nat) : Int) - 1).toNat = 10 := by rw [show (((bgn (bl s) (i + 1) : Nat) : Int) - 1).toNat = bgn (bl s) (i + 1) - 1 by omega]; exact hp2
        refine SC.skip ?_
        refine SQ.then_normal ?_
        refine SC.seq ?_
        refine SC.region ?_
        refine SO.val rfl rfl rfl rfl (.fieldAddr rfl rfl fa23_0) ?_
        refine SO.val rfl rfl rfl rfl (.load rfl rfl ag9 (cell_of' (hO12.heapO ⟨hb9, trivial⟩ q0) rfl)) ?_
        refine SO.val rfl rfl rfl rfl (.fieldAddr rfl rfl fa41_1) ?_
        refine SO.val rfl rfl rfl rfl (.load rfl rfl ag3 (cell_of' (hO12.at (i := 0) rfl) rfl)) ?_
        refine SO.call rfl rfl rfl rfl (.callF rfl rfl en30) ((by have h := cnext_at s (lend (bl s) i) _ (hO12.good hGb) (by omega); rw [hcn, ← eT] at h; exact h)) ?_
        rintro _ w19 ⟨rfl, hb19⟩
        have hO19 := hO12.below hb19
        refine ⟨_, rfl, ?_⟩
        refine SO.val rfl rfl rfl rfl (.assign rfl rfl) ?_
        refine SO.nil ?_
        refine SQ.then_normal ?_
        refine SC.seq ?_
        refine SC.seq ?_
        refine SC.region ?_
        refine SO.val rfl rfl rfl rfl (.move rfl rfl) ?_
        refine SO.val rfl rfl rfl rfl (.fieldAddr rfl rfl fa23_0) ?_
        refine SO.val rfl rfl rfl rfl (.load rfl rfl ag9 (cell_of' (hO19.heapO ⟨hb9, trivial⟩ q0) rfl)) ?_
        refine SO.val rfl rfl rfl rfl (.lenS rfl rfl Tryz.underlying9) ?_
        refine SO.val rfl rfl rfl rfl (decF (.gtr rfl rfl rfl) (by omega)) ?_
        refine SO.val rfl rfl rfl rfl (.move rfl rfl) ?_
        refine SO.val rfl rfl rfl rfl (.move rfl rfl) ?_
        refine SO.val rfl rfl rfl rfl (.fieldAddr rfl rfl fa41_1) ?_
        refine SO.val rfl rfl rfl rfl (.load rfl rfl ag3 (cell_of' (hO19.at (i := 0) rfl) rfl)) ?_
        refine SO.val rfl rfl rfl rfl (decF (.leq rfl rfl rfl) (by omega)) ?_
        refine SO.val rfl rfl rfl rfl (.pickF rfl rfl rfl) ?_
        refine SO.val rfl rfl rfl rfl (.move rfl rfl) ?_
        refine SO.val rfl rfl rfl rfl (.fieldAddr rfl rfl fa23_0) ?_
        refine SO.val rfl rfl rfl rfl (.load rfl rfl ag9 (cell_of' (hO19.heapO ⟨hb9, trivial⟩ q0) rfl)) ?_
        refine SO.val rfl rfl rfl rfl (.move rfl rfl) ?_
        refine SO.val rfl rfl rfl rfl (.sub rfl rfl rfl (by omega)) ?_
        refine SO.val rfl rfl rfl rfl (.indexS rfl rfl rfl Tryz.underlying9 (by omega)) ?_
        refine SO.val rfl rfl rfl rfl (decF (.neq rfl rfl rfl) (by omega)) ?_
        refine SO.val rfl rfl rfl rfl (.pickF rfl rfl rfl) ?_
        refine SO.val rfl rfl rfl rfl (.move rfl rfl) ?_
        refine SO.val rfl rfl rfl rfl (.move rfl rfl) ?_
        refine SO.val rfl rfl rfl rfl (.fieldAddr rfl rfl fa41_1) ?_
        refine SO.val rfl rfl rfl rfl (.load rfl rfl ag3 (cell_of' (hO19.at (i := 0) rfl) rfl)) ?_
        refine SO.val rfl rfl rfl rfl (.sub rfl rfl rfl (by omega)) ?_
        refine SO.val rfl rfl rfl rfl (decF (.gtr rfl rfl rfl) (by omega)) ?_
        refine SO.val rfl rfl rfl rfl (.pickF rfl rfl rfl) ?_
        refine SO.val rfl rfl rfl rfl (.move rfl rfl) ?_
        refine SO.val rfl rfl rfl rfl (.move rfl rfl) ?_
        refine SO.val rfl rfl rfl rfl (.fieldAddr rfl rfl fa41_1) ?_
        refine SO.val rfl rfl rfl rfl (.load rfl rfl ag3 (cell_of' (hO19.at (i := 0) rfl) rfl)) ?_
        refine SO.val rfl rfl rfl rfl (.sub rfl rfl rfl (by omega)) ?_
        refine SO.val rfl rfl rfl rfl (.eql rfl rfl rfl) ?_
        refine SO.val rfl rfl rfl rfl (.move rfl rfl) ?_
        refine SO.dec 153 rfl (fun g20 => ?_) (fun g20 => ?_)
        ·
          have hb13 : by' (bl s) ((spT (bl s) i : Nat) : Int).toNat = 13 := by rw [Int.toNat_natCast, eT]; rcases hcases with h | h; (· omega); (· exact h.2)
          refine SO.val rfl rfl rfl rfl (.fieldAddr rfl rfl fa23_0) ?_
          refine SO.val rfl rfl rfl rfl (.load rfl rfl ag9 (cell_of' (hO19.heapO ⟨hb9, trivial⟩ q0) rfl)) ?_
          refine SO.val rfl rfl rfl rfl (.fieldAddr rfl rfl fa41_1) ?_
          refine SO.val rfl rfl rfl rfl (.load rfl rfl ag3 (cell_of' (hO19.at (i := 0) rfl) rfl)) ?_
          refine SO.val rfl rfl rfl rfl (.indexS rfl rfl rfl Tryz.underlying9 (by omega)) ?_
          refine SO.val rfl rfl rfl rfl (decF (.neq rfl rfl rfl) (by omega)) ?_
          refine SO.val rfl rfl rfl rfl (.pickT rfl rfl rfl) ?_
          refine SO.val rfl rfl rfl rfl (.pickF rfl rfl rfl) ?_
          refine SO.nil ?_
          refine SQ.then_normal ?_
          refine SC.no rfl ?_
          refine SC.skip ?_
          refine SQ.then_normal ?_
          refine SC.region ?_
          refine SO.val rfl rfl rfl rfl (.move rfl rfl) ?_
          refine SO.val rfl rfl rfl rfl (.assign rfl rfl) ?_
          refine SO.nil ?_
          refine SQ.block_normal ?_
          refine SQ.then_normal ?_
          refine SC.region ?_
          refine SO.val rfl rfl rfl rfl (.move rfl rfl) ?_
          refine SO.val rfl rfl rfl rfl (.add rfl rfl rfl (by omega)) ?_
          refine SO.val rfl rfl rfl rfl (.assign rfl rfl) ?_
          refine SO.nil ?_
          refine SQ.round (i + 1, bgn (bl s) (i + 1)) (by simp only; omega) ⟨rfl, rfl, rfl, rfl, rfl, trivial⟩ ⟨by simp only; omega, by simp only; omega, rfl, (hO19.tail hb9)⟩
        ·
          refine SO.pass rfl rfl rfl ?_
          refine SO.pass rfl rfl rfl ?_
          refine SO.pass rfl rfl rfl ?_
          refine SO.pass rfl rfl rfl ?_
          refine SO.pass rfl rfl rfl ?_
          refine SO.pass rfl rfl rfl ?_
          refine SO.val rfl rfl rfl rfl (.pickF rfl rfl rfl) ?_
          refine SO.val rfl rfl rfl rfl (.pickF rfl rfl rfl) ?_
          refine SO.nil ?_
          refine SQ.then_normal ?_
          refine SC.no rfl ?_
          refine SC.skip ?_
          refine SQ.then_normal ?_
          refine SC.region ?_
          refine SO.val rfl rfl rfl rfl (.move rfl rfl) ?_
          refine SO.val rfl rfl rfl rfl (.assign rfl rfl) ?_
          refine SO.nil ?_
          refine SQ.block_normal ?_
          refine SQ.then_normal ?_
          refine SC.region ?_
          refine SO.val rfl rfl rfl rfl (.move rfl rfl) ?_
          refine SO.val rfl rfl rfl rfl (.add rfl rfl rfl (by omega)) ?_
          refine SO.val rfl rfl rfl rfl (.assign rfl rfl) ?_
          refine SO.nil ?_
          refine SQ.round (i + 1, bgn (bl s) (i + 1)) (by simp only; omega) ⟨rfl, rfl, rfl, rfl, rfl, trivial⟩ ⟨by simp only; omega, by simp only; omega, rfl, (hO19.tail hb9)⟩

end Go.Proofs.YtclgplkkajfenaaGreatDoor
