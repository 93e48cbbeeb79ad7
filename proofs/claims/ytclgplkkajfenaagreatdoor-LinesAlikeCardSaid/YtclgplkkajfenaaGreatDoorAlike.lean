/- LinesAlike, the walk. -/
import Derived.Test.YtclgplkkajfenaaGreatDoorLaws
namespace Go.Proofs.YtclgplkkajfenaaGreatDoor
open Go Go.RowKit Ow
theorem bd23_0_1_Alike (x0 : ByteArray) (x1 : Int) : ∀ w, (Instr.build 23 [(0, .string x0), (1, .int .i64 x1)].toArray).run Tryz.prog w = .ok (.agg [.string x0, .int .i64 x1].toArray) w := fun _ => by kernel_rfl
set_option maxRecDepth 20000 in
set_option maxHeartbeats 400000 in
theorem alike_any (s : ByteArray) (k other n ln cl : Int) (w : World) (hG : Good w) :
    Calls Tryz.prog 5 #[.agg #[.string s, .int .i64 k], .int .i64 other, .agg #[.int .i64 n, .int .i64 ln, .int .i64 cl]] w fun e w' => e = .returned (.bool true) ∧ Below w.heap.size w w' := by
  have hO0 := Own.start hG
  refine enter Tryz.func5 rfl rfl rfl 0 ?_
  refine SC.seq ?_
  refine SC.region ?_
  refine SO.box hO0 rfl rfl rfl rfl rfl [_, _] rfl ?_
  intro b1 w1 hb1 hO1
  refine SO.box hO1 rfl rfl rfl rfl rfl [_, _, _] rfl ?_
  intro b2 w2 hb2 hO2
  refine SO.val rfl rfl rfl rfl (.assign rfl rfl) ?_
  refine SO.nil ?_
  refine SQ.then_normal ?_
  refine SC.seq ?_
  refine SC.seq ?_
  refine SC.region ?_
  refine SO.call rfl rfl rfl rfl (.callF rfl rfl en21) (awake_any _ (hO2.good hG)) ?_
  rintro _ w3 ⟨rfl, hb3⟩
  have hO3 := hO2.below hb3
  refine ⟨_, rfl, ?_⟩
  refine SO.val rfl rfl rfl rfl (.not rfl rfl) ?_
  refine SO.nil ?_
  refine SQ.then_normal ?_
  refine SC.no rfl ?_
  refine SC.skip ?_
  refine SQ.then_normal ?_
  refine SC.seq ?_
  refine SC.seq ?_
  refine SC.region ?_
  refine SO.val rfl rfl rfl rfl (.fieldAddr rfl rfl fa23_0) ?_
  refine SO.val rfl rfl rfl rfl (.load rfl rfl ag9 (cell_of' (hO3.at (i := 1) rfl) rfl)) ?_
  refine SO.val rfl rfl rfl rfl (.lenS rfl rfl Tryz.underlying9) ?_
  refine SO.val rfl rfl rfl rfl (.gtr rfl rfl rfl) ?_
  refine SO.nil ?_
  refine SQ.then_normal ?_
  refine SC.dec rfl (fun c4 => ?_) (fun c4 => ?_)
  ·
    refine SC.seq ?_
    refine SC.region ?_
    refine SO.val rfl rfl rfl rfl (.assign rfl rfl) ?_
    refine SO.nil ?_
    refine SQ.then_normal ?_
    refine SC.ret ?_
    refine SQ.then_ret ?_
    refine SQ.out (.inl rfl) (res1 rfl rfl) ?_
    have hE := hO3.toBelow ⟨hb2, hb1, trivial⟩
    first | exact ⟨rfl, hE⟩ | exact ⟨rfl, hBc.trans (hE.mono hBc.size)⟩
  ·
    refine SC.skip ?_
    refine SQ.then_normal ?_
    refine SC.seq ?_
    refine SC.region ?_
    refine SO.val rfl rfl rfl rfl (.fieldAddr rfl rfl fa49_0) ?_
    refine SO.val rfl rfl rfl rfl (.load rfl rfl ag3 (cell_of' (hO3.at (i := 0) rfl) rfl)) ?_
    refine SO.val rfl rfl rfl rfl (.assign rfl rfl) ?_
    refine SO.nil ?_
    refine SQ.then_normal ?_
    refine SC.seq ?_
    refine SC.region ?_
    refine SO.val rfl rfl rfl rfl (.fieldAddr rfl rfl fa49_1) ?_
    refine SO.val rfl rfl rfl rfl (.loadB [_, _] rfl rfl ag37 sz37 (hO3.at (i := 0) rfl) rfl rfl) ?_
    refine SO.alloc hO3 rfl rfl rfl rfl zv37 [_, _] rfl ?_
    intro b6 w6 hb6 hO6
    refine SO.store hO6 (i := 0) rfl rfl rfl rfl rfl rfl sz37 rfl rfl [(_, .cells [_, _].toArray _ _), _, _] rfl ?_
    intro w7 hO7
    refine SO.nil ?_
    refine SQ.then_normal ?_
    refine SC.seq ?_
    refine SC.region ?_
    refine SO.val rfl rfl rfl rfl (.loadB [_, _] rfl rfl ag23 sz23 (hO7.at (i := 2) rfl) rfl rfl) ?_
    refine SO.call rfl rfl rfl rfl (.callF rfl rfl en22) (keep_any s k _ (hO7.good hG) (by omega)) ?_
    rintro _ w8 ⟨v, rfl, ht, hb8⟩
    have hOb := hO7.below hb8
    have q0 := hOb.at (i := 0) rfl
    have q1 := hOb.at (i := 1) rfl
    have q2 := hOb.at (i := 2) rfl
    have hGb := hOb.good hG
    have hBb := hOb.toBelow ⟨hb6, hb2, hb1, trivial⟩
    obtain ⟨tT, tx, rfl⟩ := ht.iface
    have hO8 := Own.start hGb
    refine ⟨_, rfl, ?_⟩
    refine SO.val rfl rfl rfl rfl (.move rfl rfl) ?_
    refine SO.val rfl rfl rfl rfl (.extract rfl rfl rfl) ?_
    refine SO.val rfl rfl rfl rfl (.extract rfl rfl rfl) ?_
    refine SO.val rfl rfl rfl rfl (.assign rfl rfl) ?_
    refine SO.val rfl rfl rfl rfl (.assign rfl rfl) ?_
    refine SO.nil ?_
    refine SQ.then_normal ?_
    refine SC.seq ?_
    refine SC.region ?_
    refine SO.val rfl rfl rfl rfl (.fieldAddr rfl rfl fa23_0) ?_
    first | refine SO.val rfl rfl rfl rfl (.load rfl rfl ag9 (cell_of' (hO8.heapO trivial r0) rfl)) ?_ | refine SO.val rfl rfl rfl rfl (.load rfl rfl ag9 (cell_of' (hO8.heapO trivial r1) rfl)) ?_ | refine SO.val rfl rfl rfl rfl (.load rfl rfl ag9 (cell_of' (hO8.heapO trivial r2) rfl)) ?_ | refine SO.val rfl rfl rfl rfl (.load rfl rfl ag9 (cell_of' (hO8.heapO trivial q0) rfl)) ?_ | refine SO.val rfl rfl rfl rfl (.load rfl rfl ag9 (cell_of' (hO8.heapO trivial q1) rfl)) ?_ | refine SO.val rfl rfl rfl rfl (.load rfl rfl ag9 (cell_of' (hO8.heapO trivial q2) rfl)) ?_
    refine SO.val rfl rfl rfl rfl (.move rfl rfl) ?_
    refine SO.val rfl rfl rfl rfl (.build rfl rfl (bd23_0_1_Alike _ _)) ?_
    refine SO.call rfl rfl rfl rfl (.callF rfl rfl en22) (keep_any s other _ (hO8.good hGb) (by omega)) ?_
    rintro _ w9 ⟨v2, rfl, hu, hb9⟩
    have hOc := hO8.below hb9
    have r0 := hOc.heapO trivial q0
    have r1 := hOc.heapO trivial q1
    have r2 := hOc.heapO trivial q2
    have ht2 := ht.below (hOc.toBelow trivial)
    have hGc := hOc.good hGb
    have hBc := hBb.trans ((hOc.toBelow trivial).mono hBb.size)
    obtain ⟨uT, ux, rfl⟩ := hu.iface
    have hO9 := Own.start hGc
    refine ⟨_, rfl, ?_⟩
    refine SO.val rfl rfl rfl rfl (.move rfl rfl) ?_
    refine SO.val rfl rfl rfl rfl (.extract rfl rfl rfl) ?_
    refine SO.val rfl rfl rfl rfl (.extract rfl rfl rfl) ?_
    refine SO.val rfl rfl rfl rfl (.assign rfl rfl) ?_
    refine SO.val rfl rfl rfl rfl (.assign rfl rfl) ?_
    refine SO.nil ?_
    refine SQ.then_normal ?_
    refine SC.seq ?_
    refine SC.seq ?_
    refine SC.region ?_
    refine SO.val rfl rfl rfl rfl (.move rfl rfl) ?_
    refine SO.val rfl rfl rfl rfl (.not rfl rfl) ?_
    refine SO.val rfl rfl rfl rfl (.move rfl rfl) ?_
    refine SO.val rfl rfl rfl rfl (.move rfl rfl) ?_
    refine SO.val rfl rfl rfl rfl (.not rfl rfl) ?_
    refine SO.val rfl rfl rfl rfl (.pickF rfl rfl rfl) ?_
    refine SO.nil ?_
    refine SQ.then_normal ?_
    refine SC.no rfl ?_
    refine SC.skip ?_
    refine SQ.then_normal ?_
    refine SC.seq ?_
    refine SC.region ?_
    refine SO.val rfl rfl rfl rfl (.move rfl rfl) ?_
    refine SO.val rfl rfl rfl rfl (.move rfl rfl) ?_
    refine SO.call rfl rfl rfl rfl (.callF rfl rfl en23) (lines_column (.iface tT tx) s _ _ (hO9.good hGc) (ht2.below (hO9.toBelow trivial))) ?_
    rintro _ w10 ⟨rfl, hb10⟩
    have hO10 := hO9.below hb10
    refine ⟨_, rfl, ?_⟩
    refine SO.val rfl rfl rfl rfl (.move rfl rfl) ?_
    refine SO.val rfl rfl rfl rfl (.extract rfl rfl rfl) ?_
    refine SO.val rfl rfl rfl rfl (.extract rfl rfl rfl) ?_
    refine SO.val rfl rfl rfl rfl (.assign rfl rfl) ?_
    refine SO.val rfl rfl rfl rfl (.assign rfl rfl) ?_
    refine SO.nil ?_
    refine SQ.then_normal ?_
    refine SC.seq ?_
    refine SC.region ?_
    refine SO.val rfl rfl rfl rfl (.move rfl rfl) ?_
    refine SO.val rfl rfl rfl rfl (.move rfl rfl) ?_
    refine SO.call rfl rfl rfl rfl (.callF rfl rfl en23) (lines_column (.iface uT ux) s _ _ (hO10.good hGc) (hu.below (hO10.toBelow trivial))) ?_
    rintro _ w11 ⟨rfl, hb11⟩
    have hO11 := hO10.below hb11
    refine ⟨_, rfl, ?_⟩
    refine SO.val rfl rfl rfl rfl (.move rfl rfl) ?_
    refine SO.val rfl rfl rfl rfl (.extract rfl rfl rfl) ?_
    refine SO.val rfl rfl rfl rfl (.extract rfl rfl rfl) ?_
    refine SO.val rfl rfl rfl rfl (.assign rfl rfl) ?_
    refine SO.val rfl rfl rfl rfl (.assign rfl rfl) ?_
    refine SO.nil ?_
    refine SQ.then_normal ?_
    refine SC.seq ?_
    refine SC.region ?_
    refine SO.val rfl rfl rfl rfl (.move rfl rfl) ?_
    refine SO.val rfl rfl rfl rfl (.move rfl rfl) ?_
    refine SO.call rfl rfl rfl rfl (.callF rfl rfl en28) (lines_span (.iface tT tx) s _ _ (hO11.good hGc) (ht2.below (hO11.toBelow trivial))) ?_
    rintro _ w12 ⟨rfl, hb12⟩
    have hO12 := hO11.below hb12
    refine ⟨_, rfl, ?_⟩
    refine SO.val rfl rfl rfl rfl (.move rfl rfl) ?_
    refine SO.val rfl rfl rfl rfl (.extract rfl rfl rfl) ?_
    refine SO.val rfl rfl rfl rfl (.extract rfl rfl rfl) ?_
    refine SO.alloc hO12 rfl rfl rfl rfl zv41 [_, _] rfl ?_
    intro b13 w13 hb13 hO13
    refine SO.store hO13 (i := 0) rfl rfl rfl rfl rfl rfl sz41 rfl rfl [(_, .cells [_, _].toArray _ _)] rfl ?_
    intro w14 hO14
    refine SO.val rfl rfl rfl rfl (.assign rfl rfl) ?_
    refine SO.nil ?_
    refine SQ.then_normal ?_
    refine SC.seq ?_
    refine SC.region ?_
    refine SO.val rfl rfl rfl rfl (.move rfl rfl) ?_
    refine SO.val rfl rfl rfl rfl (.move rfl rfl) ?_
    refine SO.call rfl rfl rfl rfl (.callF rfl rfl en28) (lines_span (.iface uT ux) s _ _ (hO14.good hGc) (hu.below (hO14.toBelow ⟨hb13, trivial⟩))) ?_
    rintro _ w15 ⟨rfl, hb15⟩
    have hO15 := hO14.below hb15
    refine ⟨_, rfl, ?_⟩
    refine SO.val rfl rfl rfl rfl (.move rfl rfl) ?_
    refine SO.val rfl rfl rfl rfl (.extract rfl rfl rfl) ?_
    refine SO.val rfl rfl rfl rfl (.extract rfl rfl rfl) ?_
    refine SO.alloc hO15 rfl rfl rfl rfl zv41 [_, _] rfl ?_
    intro b16 w16 hb16 hO16
    refine SO.store hO16 (i := 0) rfl rfl rfl rfl rfl rfl sz41 rfl rfl [(_, .cells [_, _].toArray _ _), _] rfl ?_
    intro w17 hO17
    refine SO.val rfl rfl rfl rfl (.assign rfl rfl) ?_
    refine SO.nil ?_
    refine SQ.then_normal ?_
    refine SC.seq ?_
    refine SC.seq ?_
    refine SC.region ?_
    refine SO.val rfl rfl rfl rfl (.move rfl rfl) ?_
    refine SO.val rfl rfl rfl rfl (.move rfl rfl) ?_
    refine SO.val rfl rfl rfl rfl (decF (.neq rfl rfl rfl) (by omega)) ?_
    refine SO.val rfl rfl rfl rfl (.move rfl rfl) ?_
    refine SO.val rfl rfl rfl rfl (.move rfl rfl) ?_
    refine SO.val rfl rfl rfl rfl (.move rfl rfl) ?_
    refine SO.val rfl rfl rfl rfl (decF (.neq rfl rfl rfl) (by omega)) ?_
    refine SO.val rfl rfl rfl rfl (.pickF rfl rfl rfl) ?_
    refine SO.val rfl rfl rfl rfl (.move rfl rfl) ?_
    refine SO.val rfl rfl rfl rfl (.loadB [_, _] rfl rfl ag41 sz41 (hO17.at (i := 1) rfl) rfl rfl) ?_
    refine SO.val rfl rfl rfl rfl (.loadB [_, _] rfl rfl ag41 sz41 (hO17.at (i := 0) rfl) rfl rfl) ?_
    refine SO.val rfl rfl rfl rfl (decF (.neq41 rfl rfl rfl) (by simp)) ?_
    refine SO.val rfl rfl rfl rfl (.pickF rfl rfl rfl) ?_
    refine SO.val rfl rfl rfl rfl (.move rfl rfl) ?_
    refine SO.val rfl rfl rfl rfl (.move rfl rfl) ?_
    refine SO.val rfl rfl rfl rfl (.move rfl rfl) ?_
    refine SO.val rfl rfl rfl rfl (decF (.neq rfl rfl rfl) (by omega)) ?_
    refine SO.val rfl rfl rfl rfl (.pickF rfl rfl rfl) ?_
    refine SO.val rfl rfl rfl rfl (.move rfl rfl) ?_
    refine SO.val rfl rfl rfl rfl (.move rfl rfl) ?_
    refine SO.call rfl rfl rfl rfl (.callF rfl rfl en29) (lines_count (.iface tT tx) s  _ (hO17.good hGc) (ht2.below (hO17.toBelow ⟨hb16, hb13, trivial⟩))) ?_
    rintro _ w18 ⟨rfl, hb18⟩
    have hO18 := hO17.below hb18
    refine ⟨_, rfl, ?_⟩
    refine SO.val rfl rfl rfl rfl (.move rfl rfl) ?_
    refine SO.call rfl rfl rfl rfl (.callF rfl rfl en29) (lines_count (.iface uT ux) s  _ (hO18.good hGc) (hu.below (hO18.toBelow ⟨hb16, hb13, trivial⟩))) ?_
    rintro _ w19 ⟨rfl, hb19⟩
    have hO19 := hO18.below hb19
    refine ⟨_, rfl, ?_⟩
    refine SO.val rfl rfl rfl rfl (decF (.neq rfl rfl rfl) (by omega)) ?_
    refine SO.val rfl rfl rfl rfl (.pickF rfl rfl rfl) ?_
    refine SO.nil ?_
    refine SQ.then_normal ?_
    refine SC.no rfl ?_
    refine SC.skip ?_
    refine SQ.then_normal ?_
    refine SC.seq ?_
    refine SC.region ?_
    refine SO.val rfl rfl rfl rfl (.move rfl rfl) ?_
    refine SO.val rfl rfl rfl rfl (.move rfl rfl) ?_
    refine SO.call rfl rfl rfl rfl (.callF rfl rfl en27) (lines_of (.iface tT tx) s _ _ (hO19.good hGc) (ht2.below (hO19.toBelow ⟨hb16, hb13, trivial⟩))) ?_
    rintro _ w20 ⟨rfl, hb20⟩
    have hO20 := hO19.below hb20
    refine ⟨_, rfl, ?_⟩
    refine SO.val rfl rfl rfl rfl (.move rfl rfl) ?_
    refine SO.val rfl rfl rfl rfl (.extract rfl rfl rfl) ?_
    refine SO.val rfl rfl rfl rfl (.extract rfl rfl rfl) ?_
    refine SO.val rfl rfl rfl rfl (.assign rfl rfl) ?_
    refine SO.val rfl rfl rfl rfl (.assign rfl rfl) ?_
    refine SO.nil ?_
    refine SQ.then_normal ?_
    refine SC.seq ?_
    refine SC.region ?_
    refine SO.val rfl rfl rfl rfl (.move rfl rfl) ?_
    refine SO.val rfl rfl rfl rfl (.move rfl rfl) ?_
    refine SO.call rfl rfl rfl rfl (.callF rfl rfl en27) (lines_of (.iface uT ux) s _ _ (hO20.good hGc) (hu.below (hO20.toBelow ⟨hb16, hb13, trivial⟩))) ?_
    rintro _ w21 ⟨rfl, hb21⟩
    have hO21 := hO20.below hb21
    refine ⟨_, rfl, ?_⟩
    refine SO.val rfl rfl rfl rfl (.move rfl rfl) ?_
    refine SO.val rfl rfl rfl rfl (.extract rfl rfl rfl) ?_
    refine SO.val rfl rfl rfl rfl (.extract rfl rfl rfl) ?_
    refine SO.val rfl rfl rfl rfl (.assign rfl rfl) ?_
    refine SO.val rfl rfl rfl rfl (.assign rfl rfl) ?_
    refine SO.nil ?_
    refine SQ.then_normal ?_
    refine SC.seq ?_
    refine SC.region ?_
    refine SO.val rfl rfl rfl rfl (.move rfl rfl) ?_
    refine SO.val rfl rfl rfl rfl (.fieldAddr rfl rfl fa37_0) ?_
    first | refine SO.val rfl rfl rfl rfl (.load rfl rfl ag3 (cell_of' (hO21.heapO ⟨hb16, hb13, trivial⟩ r0) rfl)) ?_ | refine SO.val rfl rfl rfl rfl (.load rfl rfl ag3 (cell_of' (hO21.heapO ⟨hb16, hb13, trivial⟩ r1) rfl)) ?_ | refine SO.val rfl rfl rfl rfl (.load rfl rfl ag3 (cell_of' (hO21.heapO ⟨hb16, hb13, trivial⟩ r2) rfl)) ?_ | refine SO.val rfl rfl rfl rfl (.load rfl rfl ag3 (cell_of' (hO21.heapO ⟨hb16, hb13, trivial⟩ q0) rfl)) ?_ | refine SO.val rfl rfl rfl rfl (.load rfl rfl ag3 (cell_of' (hO21.heapO ⟨hb16, hb13, trivial⟩ q1) rfl)) ?_ | refine SO.val rfl rfl rfl rfl (.load rfl rfl ag3 (cell_of' (hO21.heapO ⟨hb16, hb13, trivial⟩ q2) rfl)) ?_
    refine SO.val rfl rfl rfl rfl (.fieldAddr rfl rfl fa37_1) ?_
    first | refine SO.val rfl rfl rfl rfl (.load rfl rfl ag3 (cell_of' (hO21.heapO ⟨hb16, hb13, trivial⟩ r0) rfl)) ?_ | refine SO.val rfl rfl rfl rfl (.load rfl rfl ag3 (cell_of' (hO21.heapO ⟨hb16, hb13, trivial⟩ r1) rfl)) ?_ | refine SO.val rfl rfl rfl rfl (.load rfl rfl ag3 (cell_of' (hO21.heapO ⟨hb16, hb13, trivial⟩ r2) rfl)) ?_ | refine SO.val rfl rfl rfl rfl (.load rfl rfl ag3 (cell_of' (hO21.heapO ⟨hb16, hb13, trivial⟩ q0) rfl)) ?_ | refine SO.val rfl rfl rfl rfl (.load rfl rfl ag3 (cell_of' (hO21.heapO ⟨hb16, hb13, trivial⟩ q1) rfl)) ?_ | refine SO.val rfl rfl rfl rfl (.load rfl rfl ag3 (cell_of' (hO21.heapO ⟨hb16, hb13, trivial⟩ q2) rfl)) ?_
    refine SO.call rfl rfl rfl rfl (.callF rfl rfl en25) (lines_at (.iface tT tx) s _ _ _ (hO21.good hGc) (ht2.below (hO21.toBelow ⟨hb16, hb13, trivial⟩))) ?_
    rintro _ w22 ⟨rfl, hb22⟩
    have hO22 := hO21.below hb22
    refine ⟨_, rfl, ?_⟩
    refine SO.val rfl rfl rfl rfl (.move rfl rfl) ?_
    refine SO.val rfl rfl rfl rfl (.extract rfl rfl rfl) ?_
    refine SO.val rfl rfl rfl rfl (.extract rfl rfl rfl) ?_
    refine SO.val rfl rfl rfl rfl (.assign rfl rfl) ?_
    refine SO.val rfl rfl rfl rfl (.assign rfl rfl) ?_
    refine SO.nil ?_
    refine SQ.then_normal ?_
    refine SC.seq ?_
    refine SC.region ?_
    refine SO.val rfl rfl rfl rfl (.move rfl rfl) ?_
    refine SO.val rfl rfl rfl rfl (.fieldAddr rfl rfl fa37_0) ?_
    first | refine SO.val rfl rfl rfl rfl (.load rfl rfl ag3 (cell_of' (hO22.heapO ⟨hb16, hb13, trivial⟩ r0) rfl)) ?_ | refine SO.val rfl rfl rfl rfl (.load rfl rfl ag3 (cell_of' (hO22.heapO ⟨hb16, hb13, trivial⟩ r1) rfl)) ?_ | refine SO.val rfl rfl rfl rfl (.load rfl rfl ag3 (cell_of' (hO22.heapO ⟨hb16, hb13, trivial⟩ r2) rfl)) ?_ | refine SO.val rfl rfl rfl rfl (.load rfl rfl ag3 (cell_of' (hO22.heapO ⟨hb16, hb13, trivial⟩ q0) rfl)) ?_ | refine SO.val rfl rfl rfl rfl (.load rfl rfl ag3 (cell_of' (hO22.heapO ⟨hb16, hb13, trivial⟩ q1) rfl)) ?_ | refine SO.val rfl rfl rfl rfl (.load rfl rfl ag3 (cell_of' (hO22.heapO ⟨hb16, hb13, trivial⟩ q2) rfl)) ?_
    refine SO.val rfl rfl rfl rfl (.fieldAddr rfl rfl fa37_1) ?_
    first | refine SO.val rfl rfl rfl rfl (.load rfl rfl ag3 (cell_of' (hO22.heapO ⟨hb16, hb13, trivial⟩ r0) rfl)) ?_ | refine SO.val rfl rfl rfl rfl (.load rfl rfl ag3 (cell_of' (hO22.heapO ⟨hb16, hb13, trivial⟩ r1) rfl)) ?_ | refine SO.val rfl rfl rfl rfl (.load rfl rfl ag3 (cell_of' (hO22.heapO ⟨hb16, hb13, trivial⟩ r2) rfl)) ?_ | refine SO.val rfl rfl rfl rfl (.load rfl rfl ag3 (cell_of' (hO22.heapO ⟨hb16, hb13, trivial⟩ q0) rfl)) ?_ | refine SO.val rfl rfl rfl rfl (.load rfl rfl ag3 (cell_of' (hO22.heapO ⟨hb16, hb13, trivial⟩ q1) rfl)) ?_ | refine SO.val rfl rfl rfl rfl (.load rfl rfl ag3 (cell_of' (hO22.heapO ⟨hb16, hb13, trivial⟩ q2) rfl)) ?_
    refine SO.call rfl rfl rfl rfl (.callF rfl rfl en25) (lines_at (.iface uT ux) s _ _ _ (hO22.good hGc) (hu.below (hO22.toBelow ⟨hb16, hb13, trivial⟩))) ?_
    rintro _ w23 ⟨rfl, hb23⟩
    have hO23 := hO22.below hb23
    refine ⟨_, rfl, ?_⟩
    refine SO.val rfl rfl rfl rfl (.move rfl rfl) ?_
    refine SO.val rfl rfl rfl rfl (.extract rfl rfl rfl) ?_
    refine SO.val rfl rfl rfl rfl (.extract rfl rfl rfl) ?_
    refine SO.val rfl rfl rfl rfl (.assign rfl rfl) ?_
    refine SO.val rfl rfl rfl rfl (.assign rfl rfl) ?_
    refine SO.nil ?_
    refine SQ.then_normal ?_
    refine SC.seq ?_
    refine SC.region ?_
    refine SO.val rfl rfl rfl rfl (.move rfl rfl) ?_
    refine SO.val rfl rfl rfl rfl (.move rfl rfl) ?_
    refine SO.val rfl rfl rfl rfl (decT (.eql rfl rfl rfl) (by omega)) ?_
    refine SO.val rfl rfl rfl rfl (.move rfl rfl) ?_
    refine SO.val rfl rfl rfl rfl (.move rfl rfl) ?_
    refine SO.val rfl rfl rfl rfl (.move rfl rfl) ?_
    refine SO.val rfl rfl rfl rfl (decT (.eql rfl rfl rfl) (by omega)) ?_
    refine SO.val rfl rfl rfl rfl (.pickT rfl rfl rfl) ?_
    refine SO.val rfl rfl rfl rfl (.move rfl rfl) ?_
    refine SO.val rfl rfl rfl rfl (.move rfl rfl) ?_
    refine SO.val rfl rfl rfl rfl (.move rfl rfl) ?_
    refine SO.val rfl rfl rfl rfl (decT (.eql rfl rfl rfl) (by omega)) ?_
    refine SO.val rfl rfl rfl rfl (.pickT rfl rfl rfl) ?_
    refine SO.val rfl rfl rfl rfl (.move rfl rfl) ?_
    refine SO.val rfl rfl rfl rfl (.move rfl rfl) ?_
    refine SO.val rfl rfl rfl rfl (.move rfl rfl) ?_
    refine SO.val rfl rfl rfl rfl (decT (.eql rfl rfl rfl) (by omega)) ?_
    refine SO.val rfl rfl rfl rfl (.pickT rfl rfl rfl) ?_
    refine SO.val rfl rfl rfl rfl (.assign rfl rfl) ?_
    refine SO.nil ?_
    refine SQ.then_normal ?_
    refine SC.ret ?_
    refine SQ.out (.inl rfl) (res1 rfl rfl) ?_
    have hE := hO23.toBelow ⟨hb16, hb13, trivial⟩
    first | exact ⟨rfl, hE⟩ | exact ⟨rfl, hBc.trans (hE.mono hBc.size)⟩

end Go.Proofs.YtclgplkkajfenaaGreatDoor
