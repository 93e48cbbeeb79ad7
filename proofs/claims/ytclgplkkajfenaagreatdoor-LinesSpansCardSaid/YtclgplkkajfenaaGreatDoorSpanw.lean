/- LinesSpans, the walk. -/
import Derived.Test.YtclgplkkajfenaaGreatDoorRef7
import Derived.Test.YtclgplkkajfenaaGreatDoorOpn
namespace Go.Proofs.YtclgplkkajfenaaGreatDoor
open Go Go.RowKit Ow
set_option maxRecDepth 20000 in
set_option maxHeartbeats 400000 in
theorem spans_any (s : ByteArray) (k : Int) (v1 : Value) (ns : List Int) (w : World) (hG : Good w) (h1 : RowsO encI 1 w v1 ns) :
    Calls Tryz.prog 6 #[.agg #[.string s, .int .i64 k], v1] w fun e w' => e = .returned (.bool true) ∧ Below w.heap.size w w' := by
  obtain ⟨pn, capn, rfl, hcapn, hmn, hcelln⟩ := h1
  simp only [maxLen] at hmn
  have hO0 := Own.start hG
  refine enter Tryz.func6 rfl rfl rfl 0 ?_
  refine SC.sr ?_
  refine SO.box hO0 rfl rfl rfl rfl rfl [_, _] rfl ?_
  intro b1 w1 hb1 hO1
  refine SO.as ?_
  refine SO.nn ?_
  refine SC.seq ?_
  refine SC.sr ?_
  refine SO.call rfl rfl rfl rfl (.callF rfl rfl en21) (awake_any _ (hO1.good hG)) ?_
  rintro _ w2 ⟨rfl, hb2⟩
  have hO2 := hO1.below hb2
  refine ⟨_, rfl, ?_⟩
  refine SO.v (.not rfl rfl) ?_
  refine SO.nn ?_
  refine SC.no rfl ?_
  refine SC.skip ?_
  refine SQ.then_normal ?_
  refine SC.seq ?_
  refine SC.sr ?_
  refine SO.v (.fieldAddr rfl rfl fa23_0) ?_
  refine SO.v (.load rfl rfl ag9 (cell_of' (hO2.at (i := 0) rfl) rfl)) ?_
  refine SO.v (.lenS rfl rfl Tryz.underlying9) ?_
  refine SO.v (.gtr rfl rfl rfl) ?_
  refine SO.nn ?_
  refine SC.dec rfl (fun c3 => ?_) (fun c3 => ?_)
  ·
   refine SC.sr ?_
   refine SO.as ?_
   refine SO.nn ?_
   refine SC.ret ?_
   refine SQ.then_ret ?_
   refine SQ.out (.inl rfl) (res1 rfl rfl) ?_
   have hEE := hO2.toBelow ⟨hb1, trivial⟩
   exact ⟨rfl, hEE⟩
  ·
   refine SC.skip ?_
   refine SQ.then_normal ?_
   refine SC.sr ?_
   refine SO.v (.loadB [_, _] rfl rfl ag23 sz23 (hO2.at (i := 0) rfl) rfl rfl) ?_
   refine SO.call rfl rfl rfl rfl (.callF rfl rfl en22) (keep_any s k _ (hO2.good hG) (by omega)) ?_
   rintro _ w5 ⟨v, rfl, ht, hb5⟩
   have hOb := hO2.below hb5
   have q0 := hOb.at (i := 0) rfl
   have hGb := hOb.good hG
   have hBb := hOb.toBelow ⟨hb1, trivial⟩
   obtain ⟨tT, tx, rfl⟩ := ht.iface
   have hO5 := Own.start hGb
   have hz2 : s.size ≤ 1099511627775 := by omega
   refine ⟨_, rfl, ?_⟩
   refine SO.mv ?_
   refine SO.v (.extract rfl rfl rfl) ?_
   refine SO.v (.extract rfl rfl rfl) ?_
   refine SO.as ?_
   refine SO.as ?_
   refine SO.nn ?_
   refine SC.seq ?_
   refine SC.seq ?_
   refine SC.drawO mixed hO5 (fun hO6 => ?_)
   refine SA.tm 0 rfl hO6 ?_
   refine SA.tk 1 rfl hO6 (fun v hv => .not rfl rfl) ?_
   refine SA.tm 2 rfl hO6 ?_
   refine SA.tm 3 rfl hO6 ?_
   refine SA.tk 5 rfl hO6 (fun v hv => .fieldAddr rfl rfl fa23_0) ?_
   refine SA.tk 6 rfl hO6 (fun v hv => .load rfl rfl ag9 (cell_of' (hv.heapO trivial q0) rfl)) ?_
   refine SA.one 4 (by kernel_rfl) ?_
   refine SB.call rfl rfl rfl rfl (.callF rfl rfl en29) (lines_count (.iface tT tx) s _ (hO6.good hGb) (ht.below (hO6.toBelow trivial))) ?_
   rintro _ w7 ⟨rfl, hb7⟩
   have hO7 := hO6.below hb7
   refine ⟨_, rfl, hO7, ?_⟩
   refine SA.one 7 (by kernel_rfl) ?_
   refine SB.call rfl rfl rfl rfl (.callF rfl rfl en32) (refcount_any s _ (hO7.good hGb) hz2) ?_
   rintro _ w8 ⟨rfl, hb8⟩
   have hO8 := hO7.below hb8
   refine ⟨_, rfl, hO8, ?_⟩
   refine SA.tk 8 rfl hO8 (fun v hv => decF (.neq rfl rfl rfl) (by omega)) ?_
   refine SA.tk 9 rfl hO8 (fun v hv => .pickF rfl rfl rfl) ?_
   refine SA.done (by kernel_rfl) ?_
   refine SQ.then_normal ?_
   refine SC.no rfl ?_
   refine SC.skip ?_
   refine SQ.then_normal ?_
   refine SC.seq ?_
   refine SC.sr ?_
   refine SO.as ?_
   refine SO.nn ?_
   refine SC.block ?_
   refine SC.loop (α := Nat) (fun x => [(1, .slice pn ns.length capn), (2, .pointer (some ⟨b1, 0, none⟩)), (5, .iface tT tx), (7, .int .i64 (x : Int))]) (fun x v => x ≤ ns.length ∧ Ow.Own w5 [] v) (fun x => ns.length - x) 0 ?_ ?_ ?_
   · exact ⟨rfl, rfl, rfl, rfl, trivial⟩
   · exact ⟨Nat.zero_le _, hO8⟩
   rintro x w9 ⟨hx, hO9⟩
   refine SC.seq ?_
   refine SC.sr ?_
   refine SO.mv ?_
   refine SO.mv ?_
   refine SO.v (.lenA rfl rfl Tryz.underlying24) ?_
   refine SO.v (.lss rfl rfl rfl) ?_
   refine SO.nn ?_
   refine SC.dec rfl (fun c10 => ?_) (fun c10 => ?_)
   ·
    have hlt : x < ns.length := by omega
    obtain ⟨gn, ofn, rfl, hcn⟩ := hcelln x _ (List.getElem?_eq_getElem hlt)
    have hcn0 := hcn 0 _ rfl
    refine SC.skip ?_
    refine SQ.then_normal ?_
    refine SC.seq ?_
    refine SC.block ?_
    refine SC.sr ?_
    refine SO.mv ?_
    refine SO.mv ?_
    refine SO.mv ?_
    refine SO.v (.indexAddr rfl rfl rfl Tryz.underlying24 sz3 (by omega) (by omega)) ?_
    refine SO.v (.load rfl rfl ag3 (hO9.cellO trivial (hBb.cell (World.block_lt_of_cell? _ _ hcn0) |>.trans hcn0))) ?_
    refine SO.call rfl rfl rfl rfl (.callF rfl rfl en27) (lines_of (.iface tT tx) s _ _ (hO9.good hGb) (ht.below (hO9.toBelow trivial))) ?_
    rintro _ w11 ⟨rfl, hb11⟩
    have hO11 := hO9.below hb11
    refine ⟨_, rfl, ?_⟩
    refine SO.mv ?_
    refine SO.v (.extract rfl rfl rfl) ?_
    refine SO.v (.extract rfl rfl rfl) ?_
    refine SO.as ?_
    refine SO.as ?_
    refine SO.nn ?_
    refine SC.seq ?_
    refine SC.drawO mixed hO11 (fun hO12 => ?_)
    refine SA.tk 0 rfl hO12 (fun v hv => .fieldAddr rfl rfl fa23_0) ?_
    refine SA.tk 1 rfl hO12 (fun v hv => .load rfl rfl ag9 (cell_of' (hv.heapO trivial q0) rfl)) ?_
    refine SA.tm 2 rfl hO12 ?_
    refine SA.tm 3 rfl hO12 ?_
    refine SA.tk 4 rfl hO12 (fun v hv => .indexAddr rfl rfl rfl Tryz.underlying24 sz3 (by omega) (by omega)) ?_
    refine SA.tk 5 rfl hO12 (fun v hv => .load rfl rfl ag3 (hv.cellO trivial (hBb.cell (World.block_lt_of_cell? _ _ hcn0) |>.trans hcn0))) ?_
    refine SA.one 6 (by kernel_rfl) ?_
    refine SB.call rfl rfl rfl rfl (.callF rfl rfl en33) (refof_any s _ _ (hO12.good hGb) hz2) ?_
    rintro _ w13 ⟨rfl, hb13⟩
    have hO13 := hO12.below hb13
    refine ⟨_, rfl, hO13, ?_⟩
    refine SA.tm 7 rfl hO13 ?_
    refine SA.tk 8 rfl hO13 (fun v hv => .extract rfl rfl rfl) ?_
    refine SA.tk 9 rfl hO13 (fun v hv => .extract rfl rfl rfl) ?_
    refine SA.ta 10 rfl hO13 ?_
    refine SA.ta 11 rfl hO13 ?_
    refine SA.done (by kernel_rfl) ?_
    refine SQ.then_normal ?_
    refine SC.sr ?_
    refine SO.mv ?_
    refine SO.mv ?_
    refine SO.mv ?_
    refine SO.v (.indexAddr rfl rfl rfl Tryz.underlying24 sz3 (by omega) (by omega)) ?_
    refine SO.v (.load rfl rfl ag3 (hO13.cellO trivial (hBb.cell (World.block_lt_of_cell? _ _ hcn0) |>.trans hcn0))) ?_
    refine SO.call rfl rfl rfl rfl (.callF rfl rfl en28) (lines_span (.iface tT tx) s _ _ (hO13.good hGb) (ht.below (hO13.toBelow trivial))) ?_
    rintro _ w14 ⟨rfl, hb14⟩
    have hO14 := hO13.below hb14
    refine ⟨_, rfl, ?_⟩
    refine SO.mv ?_
    refine SO.v (.extract rfl rfl rfl) ?_
    refine SO.v (.extract rfl rfl rfl) ?_
    refine SO.alloc hO14 rfl rfl rfl rfl zv41 [_, _] rfl ?_
    intro b15 w15 hb15 hO15
    refine SO.store hO15 (i := 0) rfl rfl rfl rfl rfl rfl sz41 rfl rfl [(_, .cells [_, _].toArray _ _)] rfl ?_
    intro w16 hO16
    refine SO.as ?_
    refine SO.nn ?_
    refine SC.seq ?_
    refine SC.drawO mixed hO16 (fun hO17 => ?_)
    refine SA.tk 0 rfl hO17 (fun v hv => .fieldAddr rfl rfl fa23_0) ?_
    refine SA.tk 1 rfl hO17 (fun v hv => .load rfl rfl ag9 (cell_of' (hv.heapO ⟨hb15, trivial⟩ q0) rfl)) ?_
    refine SA.tm 2 rfl hO17 ?_
    refine SA.tm 3 rfl hO17 ?_
    refine SA.tk 4 rfl hO17 (fun v hv => .indexAddr rfl rfl rfl Tryz.underlying24 sz3 (by omega) (by omega)) ?_
    refine SA.tk 5 rfl hO17 (fun v hv => .load rfl rfl ag3 (hv.cellO ⟨hb15, trivial⟩ (hBb.cell (World.block_lt_of_cell? _ _ hcn0) |>.trans hcn0))) ?_
    refine SA.two 6 10 (by kernel_rfl) ?_ ?_
    ·
     refine SB.call rfl rfl rfl rfl (.callF rfl rfl en34) (refspan_any s _ _ (hO17.good hGb) hz2) ?_
     rintro _ w18 ⟨rfl, hb18⟩
     have hO18 := hO17.below hb18
     refine ⟨_, rfl, hO18, ?_⟩
     refine SA.tm 7 rfl hO18 ?_
     refine SA.tk 8 rfl hO18 (fun v hv => .extract rfl rfl rfl) ?_
     refine SA.tk 9 rfl hO18 (fun v hv => .extract rfl rfl rfl) ?_
     refine SA.one 10 (by kernel_rfl) ?_
     refine SB.alloc hO18 rfl rfl rfl rfl rfl zv41 [_, _] rfl ?_
     intro b19 w19 hb19 hO19
     refine ⟨(hO19.tail hb19), ?_⟩
     refine SA.one 11 (by kernel_rfl) ?_
     refine SB.store hO19 (j := 0) rfl rfl rfl rfl rfl rfl rfl sz41 rfl rfl [(_, .cells [_, _].toArray _ _), _] rfl ?_
     intro w20 hO20
     refine ⟨(hO20.tail hb19), ?_⟩
     refine SA.ta 12 rfl (hO20.tail hb19) ?_
     refine SA.done (by kernel_rfl) ?_
     refine SQ.then_normal ?_
     refine SC.seq ?_
     refine SC.sr ?_
     refine SO.mv ?_
     refine SO.mv ?_
     refine SO.v (decF (.neq rfl rfl rfl) (by omega)) ?_
     refine SO.mv ?_
     refine SO.mv ?_
     refine SO.mv ?_
     refine SO.v (decF (.neq rfl rfl rfl) (by omega)) ?_
     refine SO.v (.pickF rfl rfl rfl) ?_
     refine SO.mv ?_
     refine SO.v (.loadB [_, _] rfl rfl ag41 sz41 (hO20.at (i := 1) rfl) rfl rfl) ?_
     refine SO.v (.loadB [_, _] rfl rfl ag41 sz41 (hO20.at (i := 0) rfl) rfl rfl) ?_
     refine SO.v (decF (.neq41 rfl rfl rfl) (by simp)) ?_
     refine SO.v (.pickF rfl rfl rfl) ?_
     refine SO.mv ?_
     refine SO.mv ?_
     refine SO.mv ?_
     refine SO.v (decF (.neq rfl rfl rfl) (by omega)) ?_
     refine SO.v (.pickF rfl rfl rfl) ?_
     refine SO.nn ?_
     refine SC.no rfl ?_
     refine SC.skip ?_
     refine SQ.then_normal ?_
     refine SC.sr ?_
     refine SO.mv ?_
     refine SO.mv ?_
     refine SO.mv ?_
     refine SO.v (.indexAddr rfl rfl rfl Tryz.underlying24 sz3 (by omega) (by omega)) ?_
     refine SO.v (.load rfl rfl ag3 (hO20.cellO ⟨hb19, hb15, trivial⟩ (hBb.cell (World.block_lt_of_cell? _ _ hcn0) |>.trans hcn0))) ?_
     refine SO.call rfl rfl rfl rfl (.callF rfl rfl en35) (lines_line (.iface tT tx) s _ _ (hO20.good hGb) (ht.below (hO20.toBelow ⟨hb19, hb15, trivial⟩))) ?_
     rintro _ w21 ⟨rfl, hb21⟩
     have hO21 := hO20.below hb21
     refine ⟨_, rfl, ?_⟩
     refine SO.mv ?_
     refine SO.v (.extract rfl rfl rfl) ?_
     refine SO.v (.extract rfl rfl rfl) ?_
     refine SO.as ?_
     refine SO.as ?_
     refine SO.nn ?_
     refine SC.seq ?_
     refine SC.drawO mixed hO21 (fun hO22 => ?_)
     refine SA.tk 0 rfl hO22 (fun v hv => .fieldAddr rfl rfl fa23_0) ?_
     refine SA.tk 1 rfl hO22 (fun v hv => .load rfl rfl ag9 (cell_of' (hv.heapO ⟨hb19, hb15, trivial⟩ q0) rfl)) ?_
     refine SA.tm 2 rfl hO22 ?_
     refine SA.tm 3 rfl hO22 ?_
     refine SA.tk 4 rfl hO22 (fun v hv => .indexAddr rfl rfl rfl Tryz.underlying24 sz3 (by omega) (by omega)) ?_
     refine SA.tk 5 rfl hO22 (fun v hv => .load rfl rfl ag3 (hv.cellO ⟨hb19, hb15, trivial⟩ (hBb.cell (World.block_lt_of_cell? _ _ hcn0) |>.trans hcn0))) ?_
     refine SA.one 6 (by kernel_rfl) ?_
     refine SB.call rfl rfl rfl rfl (.callF rfl rfl en36) (refline_any s _ _ (hO22.good hGb) hz2) ?_
     rintro _ w23 ⟨rfl, hb23⟩
     have hO23 := hO22.below hb23
     refine ⟨_, rfl, hO23, ?_⟩
     refine SA.tm 7 rfl hO23 ?_
     refine SA.tk 8 rfl hO23 (fun v hv => .extract rfl rfl rfl) ?_
     refine SA.tk 9 rfl hO23 (fun v hv => .extract rfl rfl rfl) ?_
     refine SA.ta 10 rfl hO23 ?_
     refine SA.ta 11 rfl hO23 ?_
     refine SA.done (by kernel_rfl) ?_
     refine SQ.then_normal ?_
     refine SC.sr ?_
     refine SO.mv ?_
     refine SO.mv ?_
     refine SO.v (decF (.strNe rfl rfl rfl) (fun h => h rfl)) ?_
     refine SO.mv ?_
     refine SO.mv ?_
     refine SO.mv ?_
     refine SO.v (decF (.neq rfl rfl rfl) (by omega)) ?_
     refine SO.v (.pickF rfl rfl rfl) ?_
     refine SO.nn ?_
     refine SC.no rfl ?_
     refine SC.skip ?_
     refine SQ.block_normal ?_
     refine SQ.then_normal ?_
     refine SC.region ?_
     refine SO.mv ?_
     refine SO.v (.add rfl rfl rfl (by omega)) ?_
     refine SO.as ?_
     refine SO.nil ?_
     refine SQ.round (x + 1) (by omega) ⟨rfl, rfl, rfl, rfl, trivial⟩ ⟨by omega, ((hO23.tail hb19).tail hb15)⟩
    ·
     refine SB.alloc hO17 rfl rfl rfl rfl rfl zv41 [_, _] rfl ?_
     intro b24 w24 hb24 hO24
     refine ⟨(hO24.tail hb24), ?_⟩
     refine SA.one 6 (by kernel_rfl) ?_
     refine SB.call rfl rfl rfl rfl (.callF rfl rfl en34) (refspan_any s _ _ (hO24.good hGb) hz2) ?_
     rintro _ w25 ⟨rfl, hb25⟩
     have hO25 := hO24.below hb25
     refine ⟨_, rfl, (hO25.tail hb24), ?_⟩
     refine SA.tm 7 rfl (hO25.tail hb24) ?_
     refine SA.tk 8 rfl (hO25.tail hb24) (fun v hv => .extract rfl rfl rfl) ?_
     refine SA.tk 9 rfl (hO25.tail hb24) (fun v hv => .extract rfl rfl rfl) ?_
     refine SA.one 11 (by kernel_rfl) ?_
     refine SB.store hO25 (j := 0) rfl rfl rfl rfl rfl rfl rfl sz41 rfl rfl [(_, .cells [_, _].toArray _ _), _] rfl ?_
     intro w26 hO26
     refine ⟨(hO26.tail hb24), ?_⟩
     refine SA.ta 12 rfl (hO26.tail hb24) ?_
     refine SA.done (by kernel_rfl) ?_
     refine SQ.then_normal ?_
     refine SC.seq ?_
     refine SC.sr ?_
     refine SO.mv ?_
     refine SO.mv ?_
     refine SO.v (decF (.neq rfl rfl rfl) (by omega)) ?_
     refine SO.mv ?_
     refine SO.mv ?_
     refine SO.mv ?_
     refine SO.v (decF (.neq rfl rfl rfl) (by omega)) ?_
     refine SO.v (.pickF rfl rfl rfl) ?_
     refine SO.mv ?_
     refine SO.v (.loadB [_, _] rfl rfl ag41 sz41 (hO26.at (i := 1) rfl) rfl rfl) ?_
     refine SO.v (.loadB [_, _] rfl rfl ag41 sz41 (hO26.at (i := 0) rfl) rfl rfl) ?_
     refine SO.v (decF (.neq41 rfl rfl rfl) (by simp)) ?_
     refine SO.v (.pickF rfl rfl rfl) ?_
     refine SO.mv ?_
     refine SO.mv ?_
     refine SO.mv ?_
     refine SO.v (decF (.neq rfl rfl rfl) (by omega)) ?_
     refine SO.v (.pickF rfl rfl rfl) ?_
     refine SO.nn ?_
     refine SC.no rfl ?_
     refine SC.skip ?_
     refine SQ.then_normal ?_
     refine SC.sr ?_
     refine SO.mv ?_
     refine SO.mv ?_
     refine SO.mv ?_
     refine SO.v (.indexAddr rfl rfl rfl Tryz.underlying24 sz3 (by omega) (by omega)) ?_
     refine SO.v (.load rfl rfl ag3 (hO26.cellO ⟨hb24, hb15, trivial⟩ (hBb.cell (World.block_lt_of_cell? _ _ hcn0) |>.trans hcn0))) ?_
     refine SO.call rfl rfl rfl rfl (.callF rfl rfl en35) (lines_line (.iface tT tx) s _ _ (hO26.good hGb) (ht.below (hO26.toBelow ⟨hb24, hb15, trivial⟩))) ?_
     rintro _ w27 ⟨rfl, hb27⟩
     have hO27 := hO26.below hb27
     refine ⟨_, rfl, ?_⟩
     refine SO.mv ?_
     refine SO.v (.extract rfl rfl rfl) ?_
     refine SO.v (.extract rfl rfl rfl) ?_
     refine SO.as ?_
     refine SO.as ?_
     refine SO.nn ?_
     refine SC.seq ?_
     refine SC.drawO mixed hO27 (fun hO28 => ?_)
     refine SA.tk 0 rfl hO28 (fun v hv => .fieldAddr rfl rfl fa23_0) ?_
     refine SA.tk 1 rfl hO28 (fun v hv => .load rfl rfl ag9 (cell_of' (hv.heapO ⟨hb24, hb15, trivial⟩ q0) rfl)) ?_
     refine SA.tm 2 rfl hO28 ?_
     refine SA.tm 3 rfl hO28 ?_
     refine SA.tk 4 rfl hO28 (fun v hv => .indexAddr rfl rfl rfl Tryz.underlying24 sz3 (by omega) (by omega)) ?_
     refine SA.tk 5 rfl hO28 (fun v hv => .load rfl rfl ag3 (hv.cellO ⟨hb24, hb15, trivial⟩ (hBb.cell (World.block_lt_of_cell? _ _ hcn0) |>.trans hcn0))) ?_
     refine SA.one 6 (by kernel_rfl) ?_
     refine SB.call rfl rfl rfl rfl (.callF rfl rfl en36) (refline_any s _ _ (hO28.good hGb) hz2) ?_
     rintro _ w29 ⟨rfl, hb29⟩
     have hO29 := hO28.below hb29
     refine ⟨_, rfl, hO29, ?_⟩
     refine SA.tm 7 rfl hO29 ?_
     refine SA.tk 8 rfl hO29 (fun v hv => .extract rfl rfl rfl) ?_
     refine SA.tk 9 rfl hO29 (fun v hv => .extract rfl rfl rfl) ?_
     refine SA.ta 10 rfl hO29 ?_
     refine SA.ta 11 rfl hO29 ?_
     refine SA.done (by kernel_rfl) ?_
     refine SQ.then_normal ?_
     refine SC.sr ?_
     refine SO.mv ?_
     refine SO.mv ?_
     refine SO.v (decF (.strNe rfl rfl rfl) (fun h => h rfl)) ?_
     refine SO.mv ?_
     refine SO.mv ?_
     refine SO.mv ?_
     refine SO.v (decF (.neq rfl rfl rfl) (by omega)) ?_
     refine SO.v (.pickF rfl rfl rfl) ?_
     refine SO.nn ?_
     refine SC.no rfl ?_
     refine SC.skip ?_
     refine SQ.block_normal ?_
     refine SQ.then_normal ?_
     refine SC.region ?_
     refine SO.mv ?_
     refine SO.v (.add rfl rfl rfl (by omega)) ?_
     refine SO.as ?_
     refine SO.nil ?_
     refine SQ.round (x + 1) (by omega) ⟨rfl, rfl, rfl, rfl, trivial⟩ ⟨by omega, ((hO29.tail hb24).tail hb15)⟩
   ·
    refine SC.exit ?_
    refine SQ.then_exit ?_
    refine SQ.then_exit ?_
    refine SQ.block_exit ?_
    refine SQ.then_normal ?_
    refine SC.sr ?_
    refine SO.as ?_
    refine SO.nn ?_
    refine SC.ret ?_
    refine SQ.out (.inl rfl) (res1 rfl rfl) ?_
    have hEE := hO9.toBelow trivial
    exact ⟨rfl, hBb.trans (hEE.mono hBb.size)⟩

end Go.Proofs.YtclgplkkajfenaaGreatDoor
