/- LinesColumns, the walk. -/
import Derived.Test.YtclgplkkajfenaaGreatDoorRef7
import Derived.Test.YtclgplkkajfenaaGreatDoorOpn
namespace Go.Proofs.YtclgplkkajfenaaGreatDoor
open Go Go.RowKit Ow
set_option maxRecDepth 20000 in
set_option maxHeartbeats 400000 in
theorem columns_any (s : ByteArray) (k : Int) (v1 v2 : Value) (ns : List Int) (ps : List (Int × Int)) (w : World) (hG : Good w) (h1 : RowsO encI 1 w v1 ns) (h2 : RowsO encP 2 w v2 ps) :
    Calls Tryz.prog 3 #[.agg #[.string s, .int .i64 k], v1, v2] w fun e w' => e = .returned (.bool true) ∧ Below w.heap.size w w' := by
  obtain ⟨pn, capn, rfl, hcapn, hmn, hcelln⟩ := h1
  obtain ⟨pp, capp, rfl, hcapp, hmp, hcellp⟩ := h2
  simp only [maxLen] at hmn hmp
  have hO0 := Own.start hG
  refine enter Tryz.func3 rfl rfl rfl 0 ?_
  refine SC.sr ?_
  refine SO.box hO0 rfl rfl rfl rfl rfl [_, _] rfl ?_
  intro b1 w1 hb1 hO1
  refine SO.as ?_
  refine SO.nn ?_
  refine SC.seq ?_
  refine SC.sr ?_
  refine SO.call rfl rfl rfl rfl (.callF rfl rfl en21) (awake_any _ (hO1.good hG)) ?_
  rintro _ w2 ⟨rfl, hb2⟩
  have hO2 := hO1.below hb2
  refine ⟨_, rfl, ?_⟩
  refine SO.v (.not rfl rfl) ?_
  refine SO.nn ?_
  refine SC.no rfl ?_
  refine SC.skip ?_
  refine SQ.then_normal ?_
  refine SC.seq ?_
  refine SC.sr ?_
  refine SO.v (.fieldAddr rfl rfl fa23_0) ?_
  refine SO.v (.load rfl rfl ag9 (cell_of' (hO2.at (i := 0) rfl) rfl)) ?_
  refine SO.v (.lenS rfl rfl Tryz.underlying9) ?_
  refine SO.v (.gtr rfl rfl rfl) ?_
  refine SO.nn ?_
  refine SC.dec rfl (fun c3 => ?_) (fun c3 => ?_)
  ·
   refine SC.sr ?_
   refine SO.as ?_
   refine SO.nn ?_
   refine SC.ret ?_
   refine SQ.then_ret ?_
   refine SQ.out (.inl rfl) (res1 rfl rfl) ?_
   have hEE := hO2.toBelow ⟨hb1, trivial⟩
   exact ⟨rfl, hEE⟩
  ·
   refine SC.skip ?_
   refine SQ.then_normal ?_
   refine SC.sr ?_
   refine SO.v (.loadB [_, _] rfl rfl ag23 sz23 (hO2.at (i := 0) rfl) rfl rfl) ?_
   refine SO.call rfl rfl rfl rfl (.callF rfl rfl en22) (keep_any s k _ (hO2.good hG) (by omega)) ?_
   rintro _ w5 ⟨v, rfl, ht, hb5⟩
   have hOb := hO2.below hb5
   have q0 := hOb.at (i := 0) rfl
   have hGb := hOb.good hG
   have hBb := hOb.toBelow ⟨hb1, trivial⟩
   obtain ⟨tT, tx, rfl⟩ := ht.iface
   have hO5 := Own.start hGb
   have hz2 : s.size ≤ 1099511627775 := by omega
   refine ⟨_, rfl, ?_⟩
   refine SO.mv ?_
   refine SO.v (.extract rfl rfl rfl) ?_
   refine SO.v (.extract rfl rfl rfl) ?_
   refine SO.as ?_
   refine SO.as ?_
   refine SO.nn ?_
   refine SC.seq ?_
   refine SC.sr ?_
   refine SO.mv ?_
   refine SO.v (.not rfl rfl) ?_
   refine SO.nn ?_
   refine SC.no rfl ?_
   refine SC.skip ?_
   refine SQ.then_normal ?_
   refine SC.seq ?_
   refine SC.sr ?_
   refine SO.as ?_
   refine SO.nn ?_
   refine SC.block ?_
   refine SC.loop (α := Nat) (fun x => [(1, .slice pn ns.length capn), (2, .slice pp ps.length capp), (3, .pointer (some ⟨b1, 0, none⟩)), (7, .iface tT tx), (9, .int .i64 (x : Int))]) (fun x v => x ≤ ns.length ∧ Ow.Own w5 [] v) (fun x => ns.length - x) 0 ?_ ?_ ?_
   · exact ⟨rfl, rfl, rfl, rfl, rfl, trivial⟩
   · exact ⟨Nat.zero_le _, hO5⟩
   rintro x w6 ⟨hx, hO6⟩
   refine SC.seq ?_
   refine SC.sr ?_
   refine SO.mv ?_
   refine SO.mv ?_
   refine SO.v (.lenA rfl rfl Tryz.underlying24) ?_
   refine SO.v (.lss rfl rfl rfl) ?_
   refine SO.nn ?_
   refine SC.dec rfl (fun c7 => ?_) (fun c7 => ?_)
   ·
    have hlt : x < ns.length := by omega
    obtain ⟨gn, ofn, rfl, hcn⟩ := hcelln x _ (List.getElem?_eq_getElem hlt)
    have hcn0 := hcn 0 _ rfl
    refine SC.skip ?_
    refine SQ.then_normal ?_
    refine SC.seq ?_
    refine SC.block ?_
    refine SC.sr ?_
    refine SO.mv ?_
    refine SO.mv ?_
    refine SO.mv ?_
    refine SO.v (.indexAddr rfl rfl rfl Tryz.underlying24 sz3 (by omega) (by omega)) ?_
    refine SO.v (.load rfl rfl ag3 (hO6.cellO trivial (hBb.cell (World.block_lt_of_cell? _ _ hcn0) |>.trans hcn0))) ?_
    refine SO.call rfl rfl rfl rfl (.callF rfl rfl en23) (lines_column (.iface tT tx) s _ _ (hO6.good hGb) (ht.below (hO6.toBelow trivial))) ?_
    rintro _ w8 ⟨rfl, hb8⟩
    have hO8 := hO6.below hb8
    refine ⟨_, rfl, ?_⟩
    refine SO.mv ?_
    refine SO.v (.extract rfl rfl rfl) ?_
    refine SO.v (.extract rfl rfl rfl) ?_
    refine SO.as ?_
    refine SO.as ?_
    refine SO.nn ?_
    refine SC.seq ?_
    refine SC.drawO mixed hO8 (fun hO9 => ?_)
    refine SA.tk 0 rfl hO9 (fun v hv => .fieldAddr rfl rfl fa23_0) ?_
    refine SA.tk 1 rfl hO9 (fun v hv => .load rfl rfl ag9 (cell_of' (hv.heapO trivial q0) rfl)) ?_
    refine SA.tm 2 rfl hO9 ?_
    refine SA.tm 3 rfl hO9 ?_
    refine SA.tk 4 rfl hO9 (fun v hv => .indexAddr rfl rfl rfl Tryz.underlying24 sz3 (by omega) (by omega)) ?_
    refine SA.tk 5 rfl hO9 (fun v hv => .load rfl rfl ag3 (hv.cellO trivial (hBb.cell (World.block_lt_of_cell? _ _ hcn0) |>.trans hcn0))) ?_
    refine SA.one 6 (by kernel_rfl) ?_
    refine SB.call rfl rfl rfl rfl (.callF rfl rfl en24) (refcolumn_any s _ _ (hO9.good hGb) hz2) ?_
    rintro _ w10 ⟨rfl, hb10⟩
    have hO10 := hO9.below hb10
    refine ⟨_, rfl, hO10, ?_⟩
    refine SA.tm 7 rfl hO10 ?_
    refine SA.tk 8 rfl hO10 (fun v hv => .extract rfl rfl rfl) ?_
    refine SA.tk 9 rfl hO10 (fun v hv => .extract rfl rfl rfl) ?_
    refine SA.ta 10 rfl hO10 ?_
    refine SA.ta 11 rfl hO10 ?_
    refine SA.done (by kernel_rfl) ?_
    refine SQ.then_normal ?_
    refine SC.sr ?_
    refine SO.mv ?_
    refine SO.mv ?_
    refine SO.v (decF (.neq rfl rfl rfl) (by omega)) ?_
    refine SO.mv ?_
    refine SO.mv ?_
    refine SO.mv ?_
    refine SO.v (decF (.neq rfl rfl rfl) (by omega)) ?_
    refine SO.v (.pickF rfl rfl rfl) ?_
    refine SO.nn ?_
    refine SC.no rfl ?_
    refine SC.skip ?_
    refine SQ.block_normal ?_
    refine SQ.then_normal ?_
    refine SC.region ?_
    refine SO.mv ?_
    refine SO.v (.add rfl rfl rfl (by omega)) ?_
    refine SO.as ?_
    refine SO.nil ?_
    refine SQ.round (x + 1) (by omega) ⟨rfl, rfl, rfl, rfl, rfl, trivial⟩ ⟨by omega, hO10⟩
   ·
    refine SC.exit ?_
    refine SQ.then_exit ?_
    refine SQ.then_exit ?_
    refine SQ.block_exit ?_
    refine SQ.then_normal ?_
    refine SC.seq ?_
    refine SC.sr ?_
    refine SO.as ?_
    refine SO.nn ?_
    refine SC.block ?_
    refine SC.loop (α := Nat) (fun x => [(2, .slice pp ps.length capp), (3, .pointer (some ⟨b1, 0, none⟩)), (7, .iface tT tx), (14, .int .i64 (x : Int))]) (fun x v => x ≤ ps.length ∧ Ow.Own w5 [] v) (fun x => ps.length - x) 0 ?_ ?_ ?_
    · exact ⟨rfl, rfl, rfl, rfl, trivial⟩
    · exact ⟨Nat.zero_le _, hO6⟩
    rintro x w11 ⟨hx2, hO11⟩
    refine SC.seq ?_
    refine SC.sr ?_
    refine SO.mv ?_
    refine SO.mv ?_
    refine SO.v (.lenA rfl rfl Tryz.underlying25) ?_
    refine SO.v (.lss rfl rfl rfl) ?_
    refine SO.nn ?_
    refine SC.dec rfl (fun c12 => ?_) (fun c12 => ?_)
    ·
     have hlt : x < ps.length := by omega
     obtain ⟨gp, ofp, rfl, hcp⟩ := hcellp x _ (List.getElem?_eq_getElem hlt)
     have hcp0 := hcp 0 _ rfl
     have hcp1 := hcp 1 _ rfl
     refine SC.skip ?_
     refine SQ.then_normal ?_
     refine SC.seq ?_
     refine SC.block ?_
     refine SC.seq ?_
     refine SC.drawO mixed hO11 (fun hO13 => ?_)
     refine SA.tm 0 rfl hO13 ?_
     refine SA.tm 1 rfl hO13 ?_
     refine SA.tm 2 rfl hO13 ?_
     refine SA.tk 3 rfl hO13 (fun v hv => .indexAddr rfl rfl rfl Tryz.underlying25 sz37 (by omega) (by omega)) ?_
     refine SA.tk 4 rfl hO13 (fun v hv => .fieldAddr rfl rfl fa37_0) ?_
     refine SA.tk 5 rfl hO13 (fun v hv => .load rfl rfl ag3 (hv.cellO trivial (hBb.cell (World.block_lt_of_cell? _ _ hcp0) |>.trans hcp0))) ?_
     refine SA.tm 6 rfl hO13 ?_
     refine SA.tm 7 rfl hO13 ?_
     refine SA.tk 8 rfl hO13 (fun v hv => .indexAddr rfl rfl rfl Tryz.underlying25 sz37 (by omega) (by omega)) ?_
     refine SA.tk 9 rfl hO13 (fun v hv => .fieldAddr rfl rfl fa37_1) ?_
     refine SA.tk 10 rfl hO13 (fun v hv => .load rfl rfl ag3 (hv.cellO trivial (hBb.cell (World.block_lt_of_cell? _ _ hcp1) |>.trans hcp1))) ?_
     refine SA.one 11 (by kernel_rfl) ?_
     refine SB.call rfl rfl rfl rfl (.callF rfl rfl en25) (lines_at (.iface tT tx) s _ _ _ (hO13.good hGb) (ht.below (hO13.toBelow trivial))) ?_
     rintro _ w14 ⟨rfl, hb14⟩
     have hO14 := hO13.below hb14
     refine ⟨_, rfl, hO14, ?_⟩
     refine SA.tm 12 rfl hO14 ?_
     refine SA.tk 13 rfl hO14 (fun v hv => .extract rfl rfl rfl) ?_
     refine SA.tk 14 rfl hO14 (fun v hv => .extract rfl rfl rfl) ?_
     refine SA.ta 15 rfl hO14 ?_
     refine SA.ta 16 rfl hO14 ?_
     refine SA.done (by kernel_rfl) ?_
     refine SQ.then_normal ?_
     refine SC.seq ?_
     refine SC.drawO mixed hO14 (fun hO15 => ?_)
     refine SA.tk 0 rfl hO15 (fun v hv => .fieldAddr rfl rfl fa23_0) ?_
     refine SA.tk 1 rfl hO15 (fun v hv => .load rfl rfl ag9 (cell_of' (hv.heapO trivial q0) rfl)) ?_
     refine SA.tm 2 rfl hO15 ?_
     refine SA.tm 3 rfl hO15 ?_
     refine SA.tk 4 rfl hO15 (fun v hv => .indexAddr rfl rfl rfl Tryz.underlying25 sz37 (by omega) (by omega)) ?_
     refine SA.tk 5 rfl hO15 (fun v hv => .fieldAddr rfl rfl fa37_0) ?_
     refine SA.tk 6 rfl hO15 (fun v hv => .load rfl rfl ag3 (hv.cellO trivial (hBb.cell (World.block_lt_of_cell? _ _ hcp0) |>.trans hcp0))) ?_
     refine SA.tm 7 rfl hO15 ?_
     refine SA.tm 8 rfl hO15 ?_
     refine SA.tk 9 rfl hO15 (fun v hv => .indexAddr rfl rfl rfl Tryz.underlying25 sz37 (by omega) (by omega)) ?_
     refine SA.tk 10 rfl hO15 (fun v hv => .fieldAddr rfl rfl fa37_1) ?_
     refine SA.tk 11 rfl hO15 (fun v hv => .load rfl rfl ag3 (hv.cellO trivial (hBb.cell (World.block_lt_of_cell? _ _ hcp1) |>.trans hcp1))) ?_
     refine SA.one 12 (by kernel_rfl) ?_
     refine SB.call rfl rfl rfl rfl (.callF rfl rfl en26) (refat_any s _ _ _ (hO15.good hGb) hz2) ?_
     rintro _ w16 ⟨rfl, hb16⟩
     have hO16 := hO15.below hb16
     refine ⟨_, rfl, hO16, ?_⟩
     refine SA.tm 13 rfl hO16 ?_
     refine SA.tk 14 rfl hO16 (fun v hv => .extract rfl rfl rfl) ?_
     refine SA.tk 15 rfl hO16 (fun v hv => .extract rfl rfl rfl) ?_
     refine SA.ta 16 rfl hO16 ?_
     refine SA.ta 17 rfl hO16 ?_
     refine SA.done (by kernel_rfl) ?_
     refine SQ.then_normal ?_
     refine SC.sr ?_
     refine SO.mv ?_
     refine SO.mv ?_
     refine SO.v (decF (.neq rfl rfl rfl) (by omega)) ?_
     refine SO.mv ?_
     refine SO.mv ?_
     refine SO.mv ?_
     refine SO.v (decF (.neq rfl rfl rfl) (by omega)) ?_
     refine SO.v (.pickF rfl rfl rfl) ?_
     refine SO.nn ?_
     refine SC.no rfl ?_
     refine SC.skip ?_
     refine SQ.block_normal ?_
     refine SQ.then_normal ?_
     refine SC.region ?_
     refine SO.mv ?_
     refine SO.v (.add rfl rfl rfl (by omega)) ?_
     refine SO.as ?_
     refine SO.nil ?_
     refine SQ.round (x + 1) (by omega) ⟨rfl, rfl, rfl, rfl, trivial⟩ ⟨by omega, hO16⟩
    ·
     refine SC.exit ?_
     refine SQ.then_exit ?_
     refine SQ.then_exit ?_
     refine SQ.block_exit ?_
     refine SQ.then_normal ?_
     refine SC.sr ?_
     refine SO.as ?_
     refine SO.nn ?_
     refine SC.ret ?_
     refine SQ.out (.inl rfl) (res1 rfl rfl) ?_
     have hEE := hO11.toBelow trivial
     exact ⟨rfl, hBb.trans (hEE.mono hBb.size)⟩

end Go.Proofs.YtclgplkkajfenaaGreatDoor
