/- move: to the words. -/
import Derived.Test.YtclgplkkajfenaaGreatDoorWor4
namespace Go.Proofs.YtclgplkkajfenaaGreatDoor
open Go Go.RowKit Ow
set_option maxRecDepth 20000 in
set_option maxHeartbeats 400000 in
theorem mv_wordLeft (y b : Nat) (g : Int) (s : ByteArray) (lim : Nat) (a : Int) (w : World) (hG : Good w) (h2 : 2 ≤ y) (on : w.heap[y]? = some (walkO b g)) (hp : StoreAt w b s lim) :
    Calls Tryz.prog 174 #[.pointer (some ⟨y, 0, none⟩), .int .i64 a] w fun e w' => e = .returned (.tuple #[.int .i64 (wBehind s a), .bool (decide (a > 0))]) ∧ Ow.Own w [(y, walkO b (g))] w' := by
  have hsz := hp.size
  have hO0 := (Own.start hG).know on (by simp) h2
  refine enter Tryz.func174 rfl rfl rfl 0 ?_
  refine SC.sr ?_
  refine SO.as ?_
  refine SO.as ?_
  refine SO.nn ?_
  refine SC.sr ?_
  refine SO.mv ?_
  refine SO.v (.nilCheck rfl rfl) ?_
  refine SO.v (.fieldAddr rfl rfl fa168_0) ?_
  refine SO.v (.load rfl rfl ag56 (cell_of' (hO0.at (i := 0) rfl) rfl)) ?_
  refine SO.call rfl rfl rfl rfl (.callF rfl rfl en47) (store_text b s lim  _ (hO0.good hG) (store_walked hp on hO0)) ?_
  rintro _ w1 ⟨rfl, hb1⟩
  have hO1 := hO0.below hb1
  refine ⟨_, rfl, ?_⟩
  refine SO.mv ?_
  refine SO.call rfl rfl rfl rfl (.callF rfl rfl en202) (behind_any s _ _ (hO1.good hG) (by omega)) ?_
  rintro _ w2 ⟨rfl, hb2⟩
  have hO2 := hO1.below hb2
  refine ⟨_, rfl, ?_⟩
  refine SO.mv ?_
  refine SO.v (.gtr rfl rfl rfl) ?_
  refine SO.as ?_
  refine SO.as ?_
  refine SO.nn ?_
  refine SC.ret ?_
  refine SQ.out (.inl rfl) (res2 rfl rfl rfl) ?_
  exact ⟨rfl, hO2⟩

set_option maxRecDepth 20000 in
set_option maxHeartbeats 400000 in
theorem mv_wordRight (y b : Nat) (g : Int) (s : ByteArray) (lim : Nat) (a : Int) (w : World) (hG : Good w) (h2 : 2 ≤ y) (on : w.heap[y]? = some (walkO b g)) (hp : StoreAt w b s lim) :
    Calls Tryz.prog 175 #[.pointer (some ⟨y, 0, none⟩), .int .i64 a] w fun e w' => e = .returned (.tuple #[.int .i64 (wAhead s a), .bool (decide (a < s.size))]) ∧ Ow.Own w [(y, walkO b (g))] w' := by
  have hsz := hp.size
  have hO0 := (Own.start hG).know on (by simp) h2
  refine enter Tryz.func175 rfl rfl rfl 0 ?_
  refine SC.sr ?_
  refine SO.as ?_
  refine SO.as ?_
  refine SO.nn ?_
  refine SC.seq ?_
  refine SC.drawO mixed hO0 (fun hO1 => ?_)
  refine SA.tm 0 rfl hO1 ?_
  refine SA.tk 1 rfl hO1 (fun v hv => .nilCheck rfl rfl) ?_
  refine SA.tk 2 rfl hO1 (fun v hv => .fieldAddr rfl rfl fa168_0) ?_
  refine SA.tk 3 rfl hO1 (fun v hv => .load rfl rfl ag56 (cell_of' (hv.at (i := 0) rfl) rfl)) ?_
  refine SA.tm 5 rfl hO1 ?_
  refine SA.tm 7 rfl hO1 ?_
  refine SA.tm 8 rfl hO1 ?_
  refine SA.tk 9 rfl hO1 (fun v hv => .nilCheck rfl rfl) ?_
  refine SA.tk 10 rfl hO1 (fun v hv => .fieldAddr rfl rfl fa168_0) ?_
  refine SA.tk 11 rfl hO1 (fun v hv => .load rfl rfl ag56 (cell_of' (hv.at (i := 0) rfl) rfl)) ?_
  refine SA.one 4 (by kernel_rfl) ?_
  refine SB.call rfl rfl rfl rfl (.callF rfl rfl en47) (store_text b s lim  _ (hO1.good hG) (store_walked hp on hO1)) ?_
  rintro _ w2 ⟨rfl, hb2⟩
  have hO2 := hO1.below hb2
  refine ⟨_, rfl, hO2, ?_⟩
  refine SA.one 6 (by kernel_rfl) ?_
  refine SB.call rfl rfl rfl rfl (.callF rfl rfl en203) (ahead_any s _ _ (hO2.good hG) (by omega)) ?_
  rintro _ w3 ⟨rfl, hb3⟩
  have hO3 := hO2.below hb3
  refine ⟨_, rfl, hO3, ?_⟩
  refine SA.one 12 (by kernel_rfl) ?_
  refine SB.call rfl rfl rfl rfl (.callF rfl rfl en91) (store_len b s lim  _ (hO3.good hG) (store_walked hp on hO3)) ?_
  rintro _ w4 ⟨rfl, hb4⟩
  have hO4 := hO3.below hb4
  refine ⟨_, rfl, hO4, ?_⟩
  refine SA.tk 13 rfl hO4 (fun v hv => .lss rfl rfl rfl) ?_
  refine SA.ta 14 rfl hO4 ?_
  refine SA.ta 15 rfl hO4 ?_
  refine SA.done (by kernel_rfl) ?_
  refine SQ.then_normal ?_
  refine SC.ret ?_
  refine SQ.out (.inl rfl) (res2 rfl rfl rfl) ?_
  exact ⟨rfl, hO4⟩

end Go.Proofs.YtclgplkkajfenaaGreatDoor
