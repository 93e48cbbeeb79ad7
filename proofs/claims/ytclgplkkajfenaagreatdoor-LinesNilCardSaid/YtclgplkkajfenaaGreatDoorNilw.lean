/- LinesNil, the walk. -/
import Derived.Test.YtclgplkkajfenaaGreatDoorNilt
import Derived.Test.YtclgplkkajfenaaGreatDoorNili
namespace Go.Proofs.YtclgplkkajfenaaGreatDoor
open Go Go.RowKit Ow
set_option maxRecDepth 20000 in
set_option maxHeartbeats 400000 in
theorem emptyT (v : Value) (n ln cl : Int) (w : World) (hG : Good w) (ht : TextT w v ⟨#[]⟩) :
    Calls Tryz.prog 37 #[v, .int .i64 n, .agg #[.int .i64 ln, .int .i64 cl]] w fun e w' => e = .returned (.bool true) ∧ Below w.heap.size w w' := by
  have hc1 : ((nlC (bl ⟨#[]⟩) + 1 : Nat) : Int) = 1 := rfl
  have hL1 : (linesL (bl ⟨#[]⟩)).length = 1 := rfl
  have hO0 := Own.start hG
  refine enterM Tryz.func37 rfl rfl rfl 5 ?_
  refine SC.sr ?_
  refine SO.box hO0 rfl rfl rfl rfl rfl [_, _] rfl ?_
  intro b1 w1 hb1 hO1
  refine SO.as ?_
  refine SO.nn ?_
  refine SC.sr ?_
  refine SO.mv ?_
  refine SO.mv ?_
  refine SO.call rfl rfl rfl rfl (.callF rfl rfl en27) (lines_ofT v ⟨#[]⟩ _ _ (hO1.good hG) (ht.below (hO1.toBelow ⟨hb1, trivial⟩))) ?_
  rintro _ w2 ⟨rfl, hb2⟩
  have hO2 := hO1.below hb2
  refine ⟨_, rfl, ?_⟩
  refine SO.mv ?_
  refine SO.v (.extract rfl rfl rfl) ?_
  refine SO.v (.extract rfl rfl rfl) ?_
  refine SO.as ?_
  refine SO.as ?_
  refine SO.nn ?_
  refine SC.sr ?_
  refine SO.mv ?_
  refine SO.call rfl rfl rfl rfl (.callF rfl rfl en33) (refof_any ⟨#[]⟩ _ _ (hO2.good hG) (by decide)) ?_
  rintro _ w3 ⟨rfl, hb3⟩
  have hO3 := hO2.below hb3
  refine ⟨_, rfl, ?_⟩
  refine SO.mv ?_
  refine SO.v (.extract rfl rfl rfl) ?_
  refine SO.v (.extract rfl rfl rfl) ?_
  refine SO.as ?_
  refine SO.as ?_
  refine SO.nn ?_
  refine SC.sr ?_
  refine SO.mv ?_
  refine SO.mv ?_
  refine SO.call rfl rfl rfl rfl (.callF rfl rfl en28) (lines_spanT v ⟨#[]⟩ _ _ (hO3.good hG) (ht.below (hO3.toBelow ⟨hb1, trivial⟩))) ?_
  rintro _ w4 ⟨rfl, hb4⟩
  have hO4 := hO3.below hb4
  refine ⟨_, rfl, ?_⟩
  refine SO.mv ?_
  refine SO.v (.extract rfl rfl rfl) ?_
  refine SO.v (.extract rfl rfl rfl) ?_
  refine SO.alloc hO4 rfl rfl rfl rfl zv41 [_, _] rfl ?_
  intro b5 w5 hb5 hO5
  refine SO.store hO5 (i := 0) rfl rfl rfl rfl rfl rfl sz41 rfl rfl [(_, .cells [_, _].toArray _ _), _] rfl ?_
  intro w6 hO6
  refine SO.as ?_
  refine SO.nn ?_
  refine SC.sr ?_
  refine SO.mv ?_
  refine SO.call rfl rfl rfl rfl (.callF rfl rfl en34) (refspan_any ⟨#[]⟩ _ _ (hO6.good hG) (by decide)) ?_
  rintro _ w7 ⟨rfl, hb7⟩
  have hO7 := hO6.below hb7
  refine ⟨_, rfl, ?_⟩
  refine SO.mv ?_
  refine SO.v (.extract rfl rfl rfl) ?_
  refine SO.v (.extract rfl rfl rfl) ?_
  refine SO.alloc hO7 rfl rfl rfl rfl zv41 [_, _] rfl ?_
  intro b8 w8 hb8 hO8
  refine SO.store hO8 (i := 0) rfl rfl rfl rfl rfl rfl sz41 rfl rfl [(_, .cells [_, _].toArray _ _), _, _] rfl ?_
  intro w9 hO9
  refine SO.as ?_
  refine SO.nn ?_
  refine SC.seq ?_
  refine SC.sr ?_
  refine SO.mv ?_
  refine SO.call rfl rfl rfl rfl (.callF rfl rfl en29) (lines_countT v ⟨#[]⟩  _ (hO9.good hG) (ht.below (hO9.toBelow ⟨hb8, hb5, hb1, trivial⟩))) ?_
  rintro _ w10 ⟨rfl, hb10⟩
  have hO10 := hO9.below hb10
  refine ⟨_, rfl, ?_⟩
  refine SO.v (decF (.neq rfl rfl rfl) (by omega)) ?_
  refine SO.mv ?_
  refine SO.mv ?_
  refine SO.mv ?_
  refine SO.v (decF (.neq rfl rfl rfl) (by omega)) ?_
  refine SO.v (.pickF rfl rfl rfl) ?_
  refine SO.mv ?_
  refine SO.mv ?_
  refine SO.mv ?_
  refine SO.v (decF (.neq rfl rfl rfl) (by omega)) ?_
  refine SO.v (.pickF rfl rfl rfl) ?_
  refine SO.mv ?_
  refine SO.v (.loadB [_, _] rfl rfl ag41 sz41 (hO10.at (i := 1) rfl) rfl rfl) ?_
  refine SO.v (.loadB [_, _] rfl rfl ag41 sz41 (hO10.at (i := 0) rfl) rfl rfl) ?_
  refine SO.v (decF (.neq41 rfl rfl rfl) (by simp)) ?_
  refine SO.v (.pickF rfl rfl rfl) ?_
  refine SO.mv ?_
  refine SO.mv ?_
  refine SO.mv ?_
  refine SO.v (decF (.neq rfl rfl rfl) (by omega)) ?_
  refine SO.v (.pickF rfl rfl rfl) ?_
  refine SO.nn ?_
  refine SC.no rfl ?_
  refine SC.skip ?_
  refine SQ.then_normal ?_
  refine SC.sr ?_
  refine SO.mv ?_
  refine SO.mv ?_
  refine SO.call rfl rfl rfl rfl (.callF rfl rfl en35) (lines_lineT v ⟨#[]⟩ _ _ (hO10.good hG) (ht.below (hO10.toBelow ⟨hb8, hb5, hb1, trivial⟩))) ?_
  rintro _ w11 ⟨rfl, hb11⟩
  have hO11 := hO10.below hb11
  refine ⟨_, rfl, ?_⟩
  refine SO.mv ?_
  refine SO.v (.extract rfl rfl rfl) ?_
  refine SO.v (.extract rfl rfl rfl) ?_
  refine SO.as ?_
  refine SO.as ?_
  refine SO.nn ?_
  refine SC.sr ?_
  refine SO.mv ?_
  refine SO.call rfl rfl rfl rfl (.callF rfl rfl en36) (refline_any ⟨#[]⟩ _ _ (hO11.good hG) (by decide)) ?_
  rintro _ w12 ⟨rfl, hb12⟩
  have hO12 := hO11.below hb12
  refine ⟨_, rfl, ?_⟩
  refine SO.mv ?_
  refine SO.v (.extract rfl rfl rfl) ?_
  refine SO.v (.extract rfl rfl rfl) ?_
  refine SO.as ?_
  refine SO.as ?_
  refine SO.nn ?_
  refine SC.sr ?_
  refine SO.mv ?_
  refine SO.mv ?_
  refine SO.call rfl rfl rfl rfl (.callF rfl rfl en23) (lines_columnT v ⟨#[]⟩ _ _ (hO12.good hG) (ht.below (hO12.toBelow ⟨hb8, hb5, hb1, trivial⟩))) ?_
  rintro _ w13 ⟨rfl, hb13⟩
  have hO13 := hO12.below hb13
  refine ⟨_, rfl, ?_⟩
  refine SO.mv ?_
  refine SO.v (.extract rfl rfl rfl) ?_
  refine SO.v (.extract rfl rfl rfl) ?_
  refine SO.as ?_
  refine SO.as ?_
  refine SO.nn ?_
  refine SC.sr ?_
  refine SO.mv ?_
  refine SO.call rfl rfl rfl rfl (.callF rfl rfl en24) (refcolumn_any ⟨#[]⟩ _ _ (hO13.good hG) (by decide)) ?_
  rintro _ w14 ⟨rfl, hb14⟩
  have hO14 := hO13.below hb14
  refine ⟨_, rfl, ?_⟩
  refine SO.mv ?_
  refine SO.v (.extract rfl rfl rfl) ?_
  refine SO.v (.extract rfl rfl rfl) ?_
  refine SO.as ?_
  refine SO.as ?_
  refine SO.nn ?_
  refine SC.seq ?_
  refine SC.sr ?_
  refine SO.mv ?_
  refine SO.mv ?_
  refine SO.v (decF (.strNe rfl rfl rfl) (fun h => h rfl)) ?_
  refine SO.mv ?_
  refine SO.mv ?_
  refine SO.mv ?_
  refine SO.v (decF (.neq rfl rfl rfl) (by omega)) ?_
  refine SO.v (.pickF rfl rfl rfl) ?_
  refine SO.mv ?_
  refine SO.mv ?_
  refine SO.mv ?_
  refine SO.v (decF (.neq rfl rfl rfl) (by omega)) ?_
  refine SO.v (.pickF rfl rfl rfl) ?_
  refine SO.mv ?_
  refine SO.mv ?_
  refine SO.mv ?_
  refine SO.v (decF (.neq rfl rfl rfl) (by omega)) ?_
  refine SO.v (.pickF rfl rfl rfl) ?_
  refine SO.nn ?_
  refine SC.no rfl ?_
  refine SC.skip ?_
  refine SQ.then_normal ?_
  refine SC.sr ?_
  refine SO.mv ?_
  refine SO.v (.fieldAddr rfl rfl fa37_0) ?_
  refine SO.v (.load rfl rfl ag3 (cell_of' (hO14.at (i := 2) rfl) rfl)) ?_
  refine SO.v (.fieldAddr rfl rfl fa37_1) ?_
  refine SO.v (.load rfl rfl ag3 (cell_of' (hO14.at (i := 2) rfl) rfl)) ?_
  refine SO.call rfl rfl rfl rfl (.callF rfl rfl en25) (lines_atT v ⟨#[]⟩ _ _ _ (hO14.good hG) (ht.below (hO14.toBelow ⟨hb8, hb5, hb1, trivial⟩))) ?_
  rintro _ w15 ⟨rfl, hb15⟩
  have hO15 := hO14.below hb15
  refine ⟨_, rfl, ?_⟩
  refine SO.mv ?_
  refine SO.v (.extract rfl rfl rfl) ?_
  refine SO.v (.extract rfl rfl rfl) ?_
  refine SO.as ?_
  refine SO.as ?_
  refine SO.nn ?_
  refine SC.sr ?_
  refine SO.v (.fieldAddr rfl rfl fa37_0) ?_
  refine SO.v (.load rfl rfl ag3 (cell_of' (hO15.at (i := 2) rfl) rfl)) ?_
  refine SO.v (.fieldAddr rfl rfl fa37_1) ?_
  refine SO.v (.load rfl rfl ag3 (cell_of' (hO15.at (i := 2) rfl) rfl)) ?_
  refine SO.call rfl rfl rfl rfl (.callF rfl rfl en26) (refat_any ⟨#[]⟩ _ _ _ (hO15.good hG) (by decide)) ?_
  rintro _ w16 ⟨rfl, hb16⟩
  have hO16 := hO15.below hb16
  refine ⟨_, rfl, ?_⟩
  refine SO.mv ?_
  refine SO.v (.extract rfl rfl rfl) ?_
  refine SO.v (.extract rfl rfl rfl) ?_
  refine SO.as ?_
  refine SO.as ?_
  refine SO.nn ?_
  refine SC.sr ?_
  refine SO.alloc hO16 rfl rfl rfl rfl zv3 [_] rfl ?_
  intro b17 w17 hb17 hO17
  refine SO.store hO17 (i := 0) rfl rfl rfl rfl rfl rfl sz3 rfl rfl [(_, .cells [_].toArray _ _), _, _, _] rfl ?_
  intro w18 hO18
  refine SO.nn ?_
  refine SC.sr ?_
  refine SO.mv ?_
  refine SO.call rfl rfl rfl rfl (.callF rfl rfl en46) (lines_linesT v ⟨#[]⟩  _ (hO18.good hG) (ht.below (hO18.toBelow ⟨hb17, hb8, hb5, hb1, trivial⟩))) ?_
  rintro _ w19 ⟨bi, rfl, hbi, hcap, hb19⟩
  have hO19 := hO18.below hb19
  refine ⟨_, rfl, ?_⟩
  refine SO.as ?_
  refine SO.nn ?_
  refine SC.seq ?_
  refine SC.sr ?_
  refine SO.mv ?_
  refine SO.v (.funcNil rfl rfl rfl) ?_
  refine SO.nn ?_
  refine SC.no rfl ?_
  refine SC.skip ?_
  refine SQ.then_normal ?_
  refine SC.seq ?_
  refine SC.sr ?_
  refine SO.mv ?_
  refine SO.nn ?_
  refine SC.block ?_
  have hlt20 : ∀ b ∈ [b17, b8, b5, b1], b < w19.heap.size := hO19.ltN
  have hsz20 := hO19.size
  refine SC.range (α := Int × Int × Int) (β := Unit) hO19 rfl en94 (encs := encL) (by omega) (lines_stopsT v ⟨#[]⟩ bi _ _ (hO19.good hG) hcap (ht.below (hO19.toBelow ⟨hb17, hb8, hb5, hb1, trivial⟩))) KpB.trans (fun W l o1 o2 hl hx hc _ => KpB.put (Nat.le_trans hO19.base hO19.size) W l o1 o2 hl hx hc) (fun _ => rfl) (by decide) (fun pre => [(b17, .cells #[.int .i64 (pre.length : Nat)] 3 (0, 0)), (b8, .cells #[.int .i64 (spF (bl ⟨#[]⟩) n : Nat), .int .i64 (spT (bl ⟨#[]⟩) n : Nat)] 41 (0, 0)), (b5, .cells #[.int .i64 (spF (bl ⟨#[]⟩) n : Nat), .int .i64 (spT (bl ⟨#[]⟩) n : Nat)] 41 (0, 0)), (b1, .cells #[.int .i64 ln, .int .i64 cl] 37 (0, 0))]) (fun _ _ => False) (fun _ _ => []) rfl (fun _ => rfl) (fun _ _ h => h.elim) (fun _ _ => [(19, .pointer (some ⟨b17, 0, none⟩))]) (fun _ _ _ => True) (fun _ _ _ _ _ _ h _ _ => h) ?_ ?_ ?_ ?_
  · intro l pre x W hI hW
    have hA20 := hI.adopt
    refine SC.skip ?_
    have hE := hA20
    exact SQ.assigned () ⟨rfl, trivial⟩ trivial (hE.keeps (namesLt rfl hlt20)) (KpB.of_own hE (namesLt rfl hlt20)) (hI.comp hE rfl)
  · intro l pre x u W hI hW hM hlen
    have hB20 := hI.adopt
    refine SC.block ?_
    refine SC.region ?_
    refine SO.v (.load rfl rfl ag3 (cell_of' (hB20.at (i := 0) rfl) rfl)) ?_
    refine SO.v (.add rfl rfl rfl (by omega)) ?_
    refine SO.store hB20 (i := 0) rfl rfl rfl rfl rfl rfl sz3 rfl rfl [(_, .cells [_].toArray _ _), _, _, _] rfl ?_
    intro w21 hO21
    refine SO.nil ?_
    refine SQ.block_normal ?_
    have hE := hO21
    rw [show ((pre.length : Int) + 1) = ((pre ++ [x]).length : Nat) by simp] at hE
    exact SQ.goes (hE.keeps (namesLt rfl hlt20)) (KpB.of_own hE (namesLt rfl hlt20)) (hI.comp hE rfl)
  · intro d22 xs W hd22 hS hO22
    subst hS
    refine SQ.block_normal ?_
    refine SQ.then_normal ?_
    refine SC.sr ?_
    refine SO.mv ?_
    refine SO.mv ?_
    refine SO.v (decT (.eql rfl rfl rfl) (by omega)) ?_
    refine SO.mv ?_
    refine SO.mv ?_
    refine SO.mv ?_
    refine SO.v (decT (.eql rfl rfl rfl) (by omega)) ?_
    refine SO.v (.pickT rfl rfl rfl) ?_
    refine SO.mv ?_
    refine SO.v (.load rfl rfl ag3 (cell_of' (hO22.at (i := 1) rfl) rfl)) ?_
    refine SO.v (decT (.eql rfl rfl rfl) (by omega)) ?_
    refine SO.v (.pickT rfl rfl rfl) ?_
    refine SO.as ?_
    refine SO.nn ?_
    refine SC.ret ?_
    refine SQ.outM [d22] hO22 (List.forall_mem_cons.2 ⟨hd22, fun _ h => by cases h⟩) (.inl rfl) (fun w23 hO23 => ⟨_, res1 (t := 6) rfl rfl, ?_⟩)
    exact ⟨rfl, hO23.toBelow ⟨hb17, hb8, hb5, hb1, trivial⟩⟩
  · intro d c pre W hd hSp hX; exact hX.elim

set_option maxRecDepth 20000 in
set_option maxHeartbeats 400000 in
theorem emptyN (v : Value) (n ln cl : Int) (w : World) (hG : Good w) (ht : TextN w v ⟨#[]⟩) :
    Calls Tryz.prog 37 #[v, .int .i64 n, .agg #[.int .i64 ln, .int .i64 cl]] w fun e w' => e = .returned (.bool true) ∧ Below w.heap.size w w' := by
  have hc1 : ((nlC (bl ⟨#[]⟩) + 1 : Nat) : Int) = 1 := rfl
  have hL1 : (linesL (bl ⟨#[]⟩)).length = 1 := rfl
  have hO0 := Own.start hG
  refine enterM Tryz.func37 rfl rfl rfl 5 ?_
  refine SC.sr ?_
  refine SO.box hO0 rfl rfl rfl rfl rfl [_, _] rfl ?_
  intro b1 w1 hb1 hO1
  refine SO.as ?_
  refine SO.nn ?_
  refine SC.sr ?_
  refine SO.mv ?_
  refine SO.mv ?_
  refine SO.call rfl rfl rfl rfl (.callF rfl rfl en27) (lines_ofN v ⟨#[]⟩ _ _ (hO1.good hG) (ht.below (hO1.toBelow ⟨hb1, trivial⟩))) ?_
  rintro _ w2 ⟨rfl, hb2⟩
  have hO2 := hO1.below hb2
  refine ⟨_, rfl, ?_⟩
  refine SO.mv ?_
  refine SO.v (.extract rfl rfl rfl) ?_
  refine SO.v (.extract rfl rfl rfl) ?_
  refine SO.as ?_
  refine SO.as ?_
  refine SO.nn ?_
  refine SC.sr ?_
  refine SO.mv ?_
  refine SO.call rfl rfl rfl rfl (.callF rfl rfl en33) (refof_any ⟨#[]⟩ _ _ (hO2.good hG) (by decide)) ?_
  rintro _ w3 ⟨rfl, hb3⟩
  have hO3 := hO2.below hb3
  refine ⟨_, rfl, ?_⟩
  refine SO.mv ?_
  refine SO.v (.extract rfl rfl rfl) ?_
  refine SO.v (.extract rfl rfl rfl) ?_
  refine SO.as ?_
  refine SO.as ?_
  refine SO.nn ?_
  refine SC.sr ?_
  refine SO.mv ?_
  refine SO.mv ?_
  refine SO.call rfl rfl rfl rfl (.callF rfl rfl en28) (lines_spanN v ⟨#[]⟩ _ _ (hO3.good hG) (ht.below (hO3.toBelow ⟨hb1, trivial⟩))) ?_
  rintro _ w4 ⟨rfl, hb4⟩
  have hO4 := hO3.below hb4
  refine ⟨_, rfl, ?_⟩
  refine SO.mv ?_
  refine SO.v (.extract rfl rfl rfl) ?_
  refine SO.v (.extract rfl rfl rfl) ?_
  refine SO.alloc hO4 rfl rfl rfl rfl zv41 [_, _] rfl ?_
  intro b5 w5 hb5 hO5
  refine SO.store hO5 (i := 0) rfl rfl rfl rfl rfl rfl sz41 rfl rfl [(_, .cells [_, _].toArray _ _), _] rfl ?_
  intro w6 hO6
  refine SO.as ?_
  refine SO.nn ?_
  refine SC.sr ?_
  refine SO.mv ?_
  refine SO.call rfl rfl rfl rfl (.callF rfl rfl en34) (refspan_any ⟨#[]⟩ _ _ (hO6.good hG) (by decide)) ?_
  rintro _ w7 ⟨rfl, hb7⟩
  have hO7 := hO6.below hb7
  refine ⟨_, rfl, ?_⟩
  refine SO.mv ?_
  refine SO.v (.extract rfl rfl rfl) ?_
  refine SO.v (.extract rfl rfl rfl) ?_
  refine SO.alloc hO7 rfl rfl rfl rfl zv41 [_, _] rfl ?_
  intro b8 w8 hb8 hO8
  refine SO.store hO8 (i := 0) rfl rfl rfl rfl rfl rfl sz41 rfl rfl [(_, .cells [_, _].toArray _ _), _, _] rfl ?_
  intro w9 hO9
  refine SO.as ?_
  refine SO.nn ?_
  refine SC.seq ?_
  refine SC.sr ?_
  refine SO.mv ?_
  refine SO.call rfl rfl rfl rfl (.callF rfl rfl en29) (lines_countN v ⟨#[]⟩  _ (hO9.good hG) (ht.below (hO9.toBelow ⟨hb8, hb5, hb1, trivial⟩))) ?_
  rintro _ w10 ⟨rfl, hb10⟩
  have hO10 := hO9.below hb10
  refine ⟨_, rfl, ?_⟩
  refine SO.v (decF (.neq rfl rfl rfl) (by omega)) ?_
  refine SO.mv ?_
  refine SO.mv ?_
  refine SO.mv ?_
  refine SO.v (decF (.neq rfl rfl rfl) (by omega)) ?_
  refine SO.v (.pickF rfl rfl rfl) ?_
  refine SO.mv ?_
  refine SO.mv ?_
  refine SO.mv ?_
  refine SO.v (decF (.neq rfl rfl rfl) (by omega)) ?_
  refine SO.v (.pickF rfl rfl rfl) ?_
  refine SO.mv ?_
  refine SO.v (.loadB [_, _] rfl rfl ag41 sz41 (hO10.at (i := 1) rfl) rfl rfl) ?_
  refine SO.v (.loadB [_, _] rfl rfl ag41 sz41 (hO10.at (i := 0) rfl) rfl rfl) ?_
  refine SO.v (decF (.neq41 rfl rfl rfl) (by simp)) ?_
  refine SO.v (.pickF rfl rfl rfl) ?_
  refine SO.mv ?_
  refine SO.mv ?_
  refine SO.mv ?_
  refine SO.v (decF (.neq rfl rfl rfl) (by omega)) ?_
  refine SO.v (.pickF rfl rfl rfl) ?_
  refine SO.nn ?_
  refine SC.no rfl ?_
  refine SC.skip ?_
  refine SQ.then_normal ?_
  refine SC.sr ?_
  refine SO.mv ?_
  refine SO.mv ?_
  refine SO.call rfl rfl rfl rfl (.callF rfl rfl en35) (lines_lineN v ⟨#[]⟩ _ _ (hO10.good hG) (ht.below (hO10.toBelow ⟨hb8, hb5, hb1, trivial⟩))) ?_
  rintro _ w11 ⟨rfl, hb11⟩
  have hO11 := hO10.below hb11
  refine ⟨_, rfl, ?_⟩
  refine SO.mv ?_
  refine SO.v (.extract rfl rfl rfl) ?_
  refine SO.v (.extract rfl rfl rfl) ?_
  refine SO.as ?_
  refine SO.as ?_
  refine SO.nn ?_
  refine SC.sr ?_
  refine SO.mv ?_
  refine SO.call rfl rfl rfl rfl (.callF rfl rfl en36) (refline_any ⟨#[]⟩ _ _ (hO11.good hG) (by decide)) ?_
  rintro _ w12 ⟨rfl, hb12⟩
  have hO12 := hO11.below hb12
  refine ⟨_, rfl, ?_⟩
  refine SO.mv ?_
  refine SO.v (.extract rfl rfl rfl) ?_
  refine SO.v (.extract rfl rfl rfl) ?_
  refine SO.as ?_
  refine SO.as ?_
  refine SO.nn ?_
  refine SC.sr ?_
  refine SO.mv ?_
  refine SO.mv ?_
  refine SO.call rfl rfl rfl rfl (.callF rfl rfl en23) (lines_columnN v ⟨#[]⟩ _ _ (hO12.good hG) (ht.below (hO12.toBelow ⟨hb8, hb5, hb1, trivial⟩))) ?_
  rintro _ w13 ⟨rfl, hb13⟩
  have hO13 := hO12.below hb13
  refine ⟨_, rfl, ?_⟩
  refine SO.mv ?_
  refine SO.v (.extract rfl rfl rfl) ?_
  refine SO.v (.extract rfl rfl rfl) ?_
  refine SO.as ?_
  refine SO.as ?_
  refine SO.nn ?_
  refine SC.sr ?_
  refine SO.mv ?_
  refine SO.call rfl rfl rfl rfl (.callF rfl rfl en24) (refcolumn_any ⟨#[]⟩ _ _ (hO13.good hG) (by decide)) ?_
  rintro _ w14 ⟨rfl, hb14⟩
  have hO14 := hO13.below hb14
  refine ⟨_, rfl, ?_⟩
  refine SO.mv ?_
  refine SO.v (.extract rfl rfl rfl) ?_
  refine SO.v (.extract rfl rfl rfl) ?_
  refine SO.as ?_
  refine SO.as ?_
  refine SO.nn ?_
  refine SC.seq ?_
  refine SC.sr ?_
  refine SO.mv ?_
  refine SO.mv ?_
  refine SO.v (decF (.strNe rfl rfl rfl) (fun h => h rfl)) ?_
  refine SO.mv ?_
  refine SO.mv ?_
  refine SO.mv ?_
  refine SO.v (decF (.neq rfl rfl rfl) (by omega)) ?_
  refine SO.v (.pickF rfl rfl rfl) ?_
  refine SO.mv ?_
  refine SO.mv ?_
  refine SO.mv ?_
  refine SO.v (decF (.neq rfl rfl rfl) (by omega)) ?_
  refine SO.v (.pickF rfl rfl rfl) ?_
  refine SO.mv ?_
  refine SO.mv ?_
  refine SO.mv ?_
  refine SO.v (decF (.neq rfl rfl rfl) (by omega)) ?_
  refine SO.v (.pickF rfl rfl rfl) ?_
  refine SO.nn ?_
  refine SC.no rfl ?_
  refine SC.skip ?_
  refine SQ.then_normal ?_
  refine SC.sr ?_
  refine SO.mv ?_
  refine SO.v (.fieldAddr rfl rfl fa37_0) ?_
  refine SO.v (.load rfl rfl ag3 (cell_of' (hO14.at (i := 2) rfl) rfl)) ?_
  refine SO.v (.fieldAddr rfl rfl fa37_1) ?_
  refine SO.v (.load rfl rfl ag3 (cell_of' (hO14.at (i := 2) rfl) rfl)) ?_
  refine SO.call rfl rfl rfl rfl (.callF rfl rfl en25) (lines_atN v ⟨#[]⟩ _ _ _ (hO14.good hG) (ht.below (hO14.toBelow ⟨hb8, hb5, hb1, trivial⟩))) ?_
  rintro _ w15 ⟨rfl, hb15⟩
  have hO15 := hO14.below hb15
  refine ⟨_, rfl, ?_⟩
  refine SO.mv ?_
  refine SO.v (.extract rfl rfl rfl) ?_
  refine SO.v (.extract rfl rfl rfl) ?_
  refine SO.as ?_
  refine SO.as ?_
  refine SO.nn ?_
  refine SC.sr ?_
  refine SO.v (.fieldAddr rfl rfl fa37_0) ?_
  refine SO.v (.load rfl rfl ag3 (cell_of' (hO15.at (i := 2) rfl) rfl)) ?_
  refine SO.v (.fieldAddr rfl rfl fa37_1) ?_
  refine SO.v (.load rfl rfl ag3 (cell_of' (hO15.at (i := 2) rfl) rfl)) ?_
  refine SO.call rfl rfl rfl rfl (.callF rfl rfl en26) (refat_any ⟨#[]⟩ _ _ _ (hO15.good hG) (by decide)) ?_
  rintro _ w16 ⟨rfl, hb16⟩
  have hO16 := hO15.below hb16
  refine ⟨_, rfl, ?_⟩
  refine SO.mv ?_
  refine SO.v (.extract rfl rfl rfl) ?_
  refine SO.v (.extract rfl rfl rfl) ?_
  refine SO.as ?_
  refine SO.as ?_
  refine SO.nn ?_
  refine SC.sr ?_
  refine SO.alloc hO16 rfl rfl rfl rfl zv3 [_] rfl ?_
  intro b17 w17 hb17 hO17
  refine SO.store hO17 (i := 0) rfl rfl rfl rfl rfl rfl sz3 rfl rfl [(_, .cells [_].toArray _ _), _, _, _] rfl ?_
  intro w18 hO18
  refine SO.nn ?_
  refine SC.sr ?_
  refine SO.mv ?_
  refine SO.call rfl rfl rfl rfl (.callF rfl rfl en46) (lines_linesN v ⟨#[]⟩  _ (hO18.good hG) (ht.below (hO18.toBelow ⟨hb17, hb8, hb5, hb1, trivial⟩))) ?_
  rintro _ w19 ⟨bi, rfl, hbi, hcap, hb19⟩
  have hO19 := hO18.below hb19
  refine ⟨_, rfl, ?_⟩
  refine SO.as ?_
  refine SO.nn ?_
  refine SC.seq ?_
  refine SC.sr ?_
  refine SO.mv ?_
  refine SO.v (.funcNil rfl rfl rfl) ?_
  refine SO.nn ?_
  refine SC.no rfl ?_
  refine SC.skip ?_
  refine SQ.then_normal ?_
  refine SC.seq ?_
  refine SC.sr ?_
  refine SO.mv ?_
  refine SO.nn ?_
  refine SC.block ?_
  have hlt20 : ∀ b ∈ [b17, b8, b5, b1], b < w19.heap.size := hO19.ltN
  have hsz20 := hO19.size
  refine SC.range (α := Int × Int × Int) (β := Unit) hO19 rfl en94 (encs := encL) (by omega) (lines_stopsN v ⟨#[]⟩ bi _ _ (hO19.good hG) hcap (ht.below (hO19.toBelow ⟨hb17, hb8, hb5, hb1, trivial⟩))) KpB.trans (fun W l o1 o2 hl hx hc _ => KpB.put (Nat.le_trans hO19.base hO19.size) W l o1 o2 hl hx hc) (fun _ => rfl) (by decide) (fun pre => [(b17, .cells #[.int .i64 (pre.length : Nat)] 3 (0, 0)), (b8, .cells #[.int .i64 (spF (bl ⟨#[]⟩) n : Nat), .int .i64 (spT (bl ⟨#[]⟩) n : Nat)] 41 (0, 0)), (b5, .cells #[.int .i64 (spF (bl ⟨#[]⟩) n : Nat), .int .i64 (spT (bl ⟨#[]⟩) n : Nat)] 41 (0, 0)), (b1, .cells #[.int .i64 ln, .int .i64 cl] 37 (0, 0))]) (fun _ _ => False) (fun _ _ => []) rfl (fun _ => rfl) (fun _ _ h => h.elim) (fun _ _ => [(19, .pointer (some ⟨b17, 0, none⟩))]) (fun _ _ _ => True) (fun _ _ _ _ _ _ h _ _ => h) ?_ ?_ ?_ ?_
  · intro l pre x W hI hW
    have hA20 := hI.adopt
    refine SC.skip ?_
    have hE := hA20
    exact SQ.assigned () ⟨rfl, trivial⟩ trivial (hE.keeps (namesLt rfl hlt20)) (KpB.of_own hE (namesLt rfl hlt20)) (hI.comp hE rfl)
  · intro l pre x u W hI hW hM hlen
    have hB20 := hI.adopt
    refine SC.block ?_
    refine SC.region ?_
    refine SO.v (.load rfl rfl ag3 (cell_of' (hB20.at (i := 0) rfl) rfl)) ?_
    refine SO.v (.add rfl rfl rfl (by omega)) ?_
    refine SO.store hB20 (i := 0) rfl rfl rfl rfl rfl rfl sz3 rfl rfl [(_, .cells [_].toArray _ _), _, _, _] rfl ?_
    intro w21 hO21
    refine SO.nil ?_
    refine SQ.block_normal ?_
    have hE := hO21
    rw [show ((pre.length : Int) + 1) = ((pre ++ [x]).length : Nat) by simp] at hE
    exact SQ.goes (hE.keeps (namesLt rfl hlt20)) (KpB.of_own hE (namesLt rfl hlt20)) (hI.comp hE rfl)
  · intro d22 xs W hd22 hS hO22
    subst hS
    refine SQ.block_normal ?_
    refine SQ.then_normal ?_
    refine SC.sr ?_
    refine SO.mv ?_
    refine SO.mv ?_
    refine SO.v (decT (.eql rfl rfl rfl) (by omega)) ?_
    refine SO.mv ?_
    refine SO.mv ?_
    refine SO.mv ?_
    refine SO.v (decT (.eql rfl rfl rfl) (by omega)) ?_
    refine SO.v (.pickT rfl rfl rfl) ?_
    refine SO.mv ?_
    refine SO.v (.load rfl rfl ag3 (cell_of' (hO22.at (i := 1) rfl) rfl)) ?_
    refine SO.v (decT (.eql rfl rfl rfl) (by omega)) ?_
    refine SO.v (.pickT rfl rfl rfl) ?_
    refine SO.as ?_
    refine SO.nn ?_
    refine SC.ret ?_
    refine SQ.outM [d22] hO22 (List.forall_mem_cons.2 ⟨hd22, fun _ h => by cases h⟩) (.inl rfl) (fun w23 hO23 => ⟨_, res1 (t := 6) rfl rfl, ?_⟩)
    exact ⟨rfl, hO23.toBelow ⟨hb17, hb8, hb5, hb1, trivial⟩⟩
  · intro d c pre W hd hSp hX; exact hX.elim

theorem mi56_Nilw : ∀ v w, (Instr.makeInterface 56 v).run Tryz.prog w = .ok (.iface 56 v) w := fun _ _ => by kernel_rfl
theorem mi57_Nilw : ∀ v w, (Instr.makeInterface 57 v).run Tryz.prog w = .ok (.iface 57 v) w := fun _ _ => by kernel_rfl
set_option maxRecDepth 20000 in
set_option maxHeartbeats 400000 in
theorem nil_any (n ln cl : Int) (w : World) (hG : Good w) :
    Calls Tryz.prog 8 #[.int .i64 n, .agg #[.int .i64 ln, .int .i64 cl]] w fun e w' => e = .returned (.bool true) ∧ Below w.heap.size w w' := by
  have hO0 := Own.start hG
  refine enter Tryz.func8 rfl rfl rfl 0 ?_
  refine SC.sr ?_
  refine SO.box hO0 rfl rfl rfl rfl rfl [_, _] rfl ?_
  intro b1 w1 hb1 hO1
  refine SO.as ?_
  refine SO.nn ?_
  refine SC.seq ?_
  refine SC.sr ?_
  refine SO.call rfl rfl rfl rfl (.callF rfl rfl en21) (awake_any _ (hO1.good hG)) ?_
  rintro _ w2 ⟨rfl, hb2⟩
  have hO2 := hO1.below hb2
  refine ⟨_, rfl, ?_⟩
  refine SO.v (.not rfl rfl) ?_
  refine SO.nn ?_
  refine SC.no rfl ?_
  refine SC.skip ?_
  refine SQ.then_normal ?_
  refine SC.sr ?_
  refine SO.as ?_
  refine SO.nn ?_
  refine SC.sr ?_
  refine SO.as ?_
  refine SO.nn ?_
  refine SC.sr ?_
  refine SO.mv ?_
  refine SO.v (.loadB [_, _] rfl rfl ag37 sz37 (hO2.at (i := 0) rfl) rfl rfl) ?_
  refine SO.call rfl rfl rfl rfl (.callF rfl rfl en37) (emptyN .nilIface _ _ _ _ (hO2.good hG) ⟨rfl, rfl⟩) ?_
  rintro _ w3 ⟨rfl, hb3⟩
  have hO3 := hO2.below hb3
  refine ⟨_, rfl, ?_⟩
  refine SO.mv ?_
  refine SO.mv ?_
  refine SO.v (.iface rfl rfl mi56_Nilw) ?_
  refine SO.mv ?_
  refine SO.v (.loadB [_, _] rfl rfl ag37 sz37 (hO3.at (i := 0) rfl) rfl rfl) ?_
  refine SO.call rfl rfl rfl rfl (.callF rfl rfl en37) (emptyT _ _ _ _ _ (hO3.good hG) ⟨rfl, .inr rfl⟩) ?_
  rintro _ w4 ⟨rfl, hb4⟩
  have hO4 := hO3.below hb4
  refine ⟨_, rfl, ?_⟩
  refine SO.v (.pickT rfl rfl rfl) ?_
  refine SO.mv ?_
  refine SO.mv ?_
  refine SO.v (.iface rfl rfl mi57_Nilw) ?_
  refine SO.mv ?_
  refine SO.v (.loadB [_, _] rfl rfl ag37 sz37 (hO4.at (i := 0) rfl) rfl rfl) ?_
  refine SO.call rfl rfl rfl rfl (.callF rfl rfl en37) (emptyT _ _ _ _ _ (hO4.good hG) ⟨rfl, .inl rfl⟩) ?_
  rintro _ w5 ⟨rfl, hb5⟩
  have hO5 := hO4.below hb5
  refine ⟨_, rfl, ?_⟩
  refine SO.v (.pickT rfl rfl rfl) ?_
  refine SO.as ?_
  refine SO.nn ?_
  refine SC.ret ?_
  refine SQ.out (.inl rfl) (res1 rfl rfl) ?_
  exact ⟨rfl, hO5.toBelow ⟨hb1, trivial⟩⟩

end Go.Proofs.YtclgplkkajfenaaGreatDoor
