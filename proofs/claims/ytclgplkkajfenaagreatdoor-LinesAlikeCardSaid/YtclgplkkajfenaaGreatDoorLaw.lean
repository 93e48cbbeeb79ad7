/- keep. -/
import Derived.Test.YtclgplkkajfenaaGreatDoorLin3
namespace Go.Proofs.YtclgplkkajfenaaGreatDoor
open Go Go.RowKit Ow
theorem mi56_Law : ∀ v w, (Instr.makeInterface 56 v).run Tryz.prog w = .ok (.iface 56 v) w := fun _ _ => by kernel_rfl
theorem mi57_Law : ∀ v w, (Instr.makeInterface 57 v).run Tryz.prog w = .ok (.iface 57 v) w := fun _ _ => by kernel_rfl
set_option maxRecDepth 20000 in
set_option maxHeartbeats 400000 in
theorem keep_any (s : ByteArray) (k : Int) (w : World) (hG : Good w) (hz : s.size ≤ 1073741824) :
    Calls Tryz.prog 22 #[.agg #[.string s, .int .i64 k]] w fun e w' => ∃ v, e = .returned (.tuple #[v, .bool true]) ∧ TextAt w' v s ∧ Below w.heap.size w w' := by
  have hh : held 1073741824 = 1073741824 := by decide
  have hO0 := Own.start hG
  refine enter Tryz.func22 rfl rfl rfl 0 ?_
  refine SC.seq ?_
  refine SC.region ?_
  refine SO.box hO0 rfl rfl rfl rfl rfl [_, _] rfl ?_
  intro b1 w1 hb1 hO1
  refine SO.val rfl rfl rfl rfl (.assign rfl rfl) ?_
  refine SO.val rfl rfl rfl rfl (.assign rfl rfl) ?_
  refine SO.nil ?_
  refine SQ.then_normal ?_
  refine SC.seq ?_
  refine SC.seq ?_
  refine SC.region ?_
  refine SO.val rfl rfl rfl rfl (.fieldAddr rfl rfl fa23_1) ?_
  refine SO.val rfl rfl rfl rfl (.load rfl rfl ag3 (cell_of' (hO1.at (i := 0) rfl) rfl)) ?_
  refine SO.val rfl rfl rfl rfl (.eql rfl rfl rfl) ?_
  refine SO.nil ?_
  refine SQ.then_normal ?_
  refine SC.dec rfl (fun c2 => ?_) (fun c2 => ?_)
  ·
    refine SC.seq ?_
    refine SC.region ?_
    refine SO.val rfl rfl rfl rfl (.fieldAddr rfl rfl fa23_0) ?_
    refine SO.val rfl rfl rfl rfl (.load rfl rfl ag9 (cell_of' (hO1.at (i := 0) rfl) rfl)) ?_
    refine SO.call rfl rfl rfl rfl (.callF rfl rfl en40) (gap_new _ _ _ (hO1.good hG)) ?_
    rintro _ w3 hgn
    rw [hh] at hgn
    rcases hgn with ⟨_, hlt, _⟩ | ⟨bg, rfl, hbg, hga, _, hb3⟩
    · omega
    have hOb := hO1.below hb3
    have hbx := hOb.at (i := 0) rfl
    have hGb := hOb.good hG
    have hBb := hOb.toBelow ⟨hb1, trivial⟩
    have hO3 := Own.start hGb
    refine ⟨_, rfl, ?_⟩
    refine SO.val rfl rfl rfl rfl (.move rfl rfl) ?_
    refine SO.val rfl rfl rfl rfl (.extract rfl rfl rfl) ?_
    refine SO.val rfl rfl rfl rfl (.extract rfl rfl rfl) ?_
    refine SO.val rfl rfl rfl rfl (.assign rfl rfl) ?_
    refine SO.val rfl rfl rfl rfl (.assign rfl rfl) ?_
    refine SO.nil ?_
    refine SQ.then_normal ?_
    refine SC.seq ?_
    refine SC.seq ?_
    refine SC.drawO mixed hO3 (fun hO4 => ?_)
    refine SA.take (by kernel_rfl) 0 rfl (by kernel_rfl) (by kernel_rfl) rfl rfl (fun _ _ _ h => h) rfl hO4 (fun v hv => .move rfl rfl) ?_
    refine SA.take (by kernel_rfl) 1 rfl (by kernel_rfl) (by kernel_rfl) rfl rfl (fun _ _ _ h => h) rfl hO4 (fun v hv => decF (.neq rfl rfl rfl) (by omega)) ?_
    refine SA.take (by kernel_rfl) 2 rfl (by kernel_rfl) (by kernel_rfl) rfl rfl (fun _ _ _ h => h) rfl hO4 (fun v hv => .move rfl rfl) ?_
    refine SA.take (by kernel_rfl) 3 rfl (by kernel_rfl) (by kernel_rfl) rfl rfl (fun _ _ _ h => h) rfl hO4 (fun v hv => .move rfl rfl) ?_
    refine SA.take (by kernel_rfl) 4 rfl (by kernel_rfl) (by kernel_rfl) rfl rfl (fun _ _ _ h => h) rfl hO4 (fun v hv => .ptrEq (b := false) rfl rfl rfl Tryz.underlying57 rfl) ?_
    refine SA.take (by kernel_rfl) 5 rfl (by kernel_rfl) (by kernel_rfl) rfl rfl (fun _ _ _ h => h) rfl hO4 (fun v hv => .pickF rfl rfl rfl) ?_
    refine SA.take (by kernel_rfl) 6 rfl (by kernel_rfl) (by kernel_rfl) rfl rfl (fun _ _ _ h => h) rfl hO4 (fun v hv => .move rfl rfl) ?_
    refine SA.take (by kernel_rfl) 7 rfl (by kernel_rfl) (by kernel_rfl) rfl rfl (fun _ _ _ h => h) rfl hO4 (fun v hv => .move rfl rfl) ?_
    refine SA.take (by kernel_rfl) 9 rfl (by kernel_rfl) (by kernel_rfl) rfl rfl (fun _ _ _ h => h) rfl hO4 (fun v hv => .fieldAddr rfl rfl fa23_0) ?_
    refine SA.take (by kernel_rfl) 10 rfl (by kernel_rfl) (by kernel_rfl) rfl rfl (fun _ _ _ h => h) rfl hO4 (fun v hv => .load rfl rfl ag9 (cell_of' (hv.heapO trivial hbx) rfl)) ?_
    refine SA.one 8 (by kernel_rfl) ?_
    refine SB.call rfl rfl rfl rfl (.callF rfl rfl en75) (gap_text bg s _ _ (hO4.good hGb) (hga.below (hO4.toBelow trivial))) ?_
    rintro _ w5 ⟨rfl, hb5⟩
    have hO5 := hO4.below hb5
    refine ⟨_, rfl, hO5, ?_⟩
    refine SA.take (by kernel_rfl) 11 rfl (by kernel_rfl) (by kernel_rfl) rfl rfl (fun _ _ _ h => h) rfl hO5 (fun v hv => decF (.strNe rfl rfl rfl) (fun h => h rfl)) ?_
    refine SA.take (by kernel_rfl) 12 rfl (by kernel_rfl) (by kernel_rfl) rfl rfl (fun _ _ _ h => h) rfl hO5 (fun v hv => .pickF rfl rfl rfl) ?_
    refine SA.done (by kernel_rfl) ?_
    refine SQ.then_normal ?_
    refine SC.no rfl ?_
    refine SC.skip ?_
    refine SQ.then_normal ?_
    refine SC.seq ?_
    refine SC.region ?_
    refine SO.val rfl rfl rfl rfl (.move rfl rfl) ?_
    refine SO.val rfl rfl rfl rfl (.iface rfl rfl mi57_Law) ?_
    refine SO.val rfl rfl rfl rfl (.assign rfl rfl) ?_
    refine SO.val rfl rfl rfl rfl (.assign rfl rfl) ?_
    refine SO.nil ?_
    refine SQ.then_normal ?_
    refine SC.ret ?_
    refine SQ.then_ret ?_
    refine SQ.out (.inl rfl) (res2 rfl rfl rfl) ?_
    have hE := hO5.toBelow trivial
    first | exact ⟨_, rfl, .inl ⟨bg, _, rfl, hga.below hE⟩, hBb.trans (hE.mono hBb.size)⟩ | exact ⟨_, rfl, .inr ⟨bs2_Law, _, rfl, hsa.below hE⟩, hBb.trans (hE.mono hBb.size)⟩
  ·
    refine SC.skip ?_
    refine SQ.then_normal ?_
    refine SC.seq ?_
    refine SC.region ?_
    refine SO.val rfl rfl rfl rfl (.fieldAddr rfl rfl fa23_1) ?_
    refine SO.val rfl rfl rfl rfl (.load rfl rfl ag3 (cell_of' (hO1.at (i := 0) rfl) rfl)) ?_
    refine SO.val rfl rfl rfl rfl (.fieldAddr rfl rfl fa23_0) ?_
    refine SO.val rfl rfl rfl rfl (.load rfl rfl ag9 (cell_of' (hO1.at (i := 0) rfl) rfl)) ?_
    refine SO.call rfl rfl rfl rfl (.callF rfl rfl en43) (store_new _ _ _ _ _ _ (hO1.good hG) (by omega)) ?_
    rintro _ w7 hsn
    rw [hh] at hsn
    rcases hsn with ⟨_, hlt, _⟩ | ⟨bs2_Law, u, kd, tp, rfl, hbs2, hle, hst, hu, _, _, _, hb7⟩
    · omega
    have hOb := hO1.below hb7
    have hbx := hOb.at (i := 0) rfl
    have hGb := hOb.good hG
    have hBb := hOb.toBelow ⟨hb1, trivial⟩
    have hO7 := Own.start hGb
    have hsa : StoreAt _ bs2_Law s 1073741824 := ⟨u, kd, _, tp, 0, 0, 0, hst, hu⟩
    refine ⟨_, rfl, ?_⟩
    refine SO.val rfl rfl rfl rfl (.move rfl rfl) ?_
    refine SO.val rfl rfl rfl rfl (.extract rfl rfl rfl) ?_
    refine SO.val rfl rfl rfl rfl (.extract rfl rfl rfl) ?_
    refine SO.val rfl rfl rfl rfl (.assign rfl rfl) ?_
    refine SO.val rfl rfl rfl rfl (.assign rfl rfl) ?_
    refine SO.nil ?_
    refine SQ.then_normal ?_
    refine SC.seq ?_
    refine SC.seq ?_
    refine SC.drawO mixed hO7 (fun hO8 => ?_)
    refine SA.take (by kernel_rfl) 0 rfl (by kernel_rfl) (by kernel_rfl) rfl rfl (fun _ _ _ h => h) rfl hO8 (fun v hv => .move rfl rfl) ?_
    refine SA.take (by kernel_rfl) 1 rfl (by kernel_rfl) (by kernel_rfl) rfl rfl (fun _ _ _ h => h) rfl hO8 (fun v hv => decF (.neq rfl rfl rfl) (by omega)) ?_
    refine SA.take (by kernel_rfl) 2 rfl (by kernel_rfl) (by kernel_rfl) rfl rfl (fun _ _ _ h => h) rfl hO8 (fun v hv => .move rfl rfl) ?_
    refine SA.take (by kernel_rfl) 3 rfl (by kernel_rfl) (by kernel_rfl) rfl rfl (fun _ _ _ h => h) rfl hO8 (fun v hv => .move rfl rfl) ?_
    refine SA.take (by kernel_rfl) 4 rfl (by kernel_rfl) (by kernel_rfl) rfl rfl (fun _ _ _ h => h) rfl hO8 (fun v hv => .ptrEq (b := false) rfl rfl rfl Tryz.underlying56 rfl) ?_
    refine SA.take (by kernel_rfl) 5 rfl (by kernel_rfl) (by kernel_rfl) rfl rfl (fun _ _ _ h => h) rfl hO8 (fun v hv => .pickF rfl rfl rfl) ?_
    refine SA.take (by kernel_rfl) 6 rfl (by kernel_rfl) (by kernel_rfl) rfl rfl (fun _ _ _ h => h) rfl hO8 (fun v hv => .move rfl rfl) ?_
    refine SA.take (by kernel_rfl) 7 rfl (by kernel_rfl) (by kernel_rfl) rfl rfl (fun _ _ _ h => h) rfl hO8 (fun v hv => .move rfl rfl) ?_
    refine SA.take (by kernel_rfl) 9 rfl (by kernel_rfl) (by kernel_rfl) rfl rfl (fun _ _ _ h => h) rfl hO8 (fun v hv => .fieldAddr rfl rfl fa23_0) ?_
    refine SA.take (by kernel_rfl) 10 rfl (by kernel_rfl) (by kernel_rfl) rfl rfl (fun _ _ _ h => h) rfl hO8 (fun v hv => .load rfl rfl ag9 (cell_of' (hv.heapO trivial hbx) rfl)) ?_
    refine SA.one 8 (by kernel_rfl) ?_
    refine SB.call rfl rfl rfl rfl (.callF rfl rfl en47) (store_text bs2_Law s _ _ (hO8.good hGb) (hsa.below (hO8.toBelow trivial))) ?_
    rintro _ w9 ⟨rfl, hb9⟩
    have hO9 := hO8.below hb9
    refine ⟨_, rfl, hO9, ?_⟩
    refine SA.take (by kernel_rfl) 11 rfl (by kernel_rfl) (by kernel_rfl) rfl rfl (fun _ _ _ h => h) rfl hO9 (fun v hv => decF (.strNe rfl rfl rfl) (fun h => h rfl)) ?_
    refine SA.take (by kernel_rfl) 12 rfl (by kernel_rfl) (by kernel_rfl) rfl rfl (fun _ _ _ h => h) rfl hO9 (fun v hv => .pickF rfl rfl rfl) ?_
    refine SA.done (by kernel_rfl) ?_
    refine SQ.then_normal ?_
    refine SC.no rfl ?_
    refine SC.skip ?_
    refine SQ.then_normal ?_
    refine SC.seq ?_
    refine SC.region ?_
    refine SO.val rfl rfl rfl rfl (.move rfl rfl) ?_
    refine SO.val rfl rfl rfl rfl (.iface rfl rfl mi56_Law) ?_
    refine SO.val rfl rfl rfl rfl (.assign rfl rfl) ?_
    refine SO.val rfl rfl rfl rfl (.assign rfl rfl) ?_
    refine SO.nil ?_
    refine SQ.then_normal ?_
    refine SC.ret ?_
    refine SQ.out (.inl rfl) (res2 rfl rfl rfl) ?_
    have hE := hO9.toBelow trivial
    first | exact ⟨_, rfl, .inl ⟨bg, _, rfl, hga.below hE⟩, hBb.trans (hE.mono hBb.size)⟩ | exact ⟨_, rfl, .inr ⟨bs2_Law, _, rfl, hsa.below hE⟩, hBb.trans (hE.mono hBb.size)⟩

end Go.Proofs.YtclgplkkajfenaaGreatDoor
