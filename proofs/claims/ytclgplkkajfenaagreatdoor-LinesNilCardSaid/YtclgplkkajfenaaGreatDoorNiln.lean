/- Texts that are nil. -/
import Derived.Test.YtclgplkkajfenaaGreatDoorKeep
namespace Go.Proofs.YtclgplkkajfenaaGreatDoor
open Go Go.RowKit Ow
set_option maxRecDepth 20000 in
set_option maxHeartbeats 400000 in
theorem nil_glen (w : World) (hG : Good w) :
    Calls Tryz.prog 254 #[.pointer none] w fun e w' => e = .returned (.int .i64 0) ∧ Below w.heap.size w w' := by
  have hO0 := Own.start hG
  refine enter Tryz.func254 rfl rfl rfl 0 ?_
  refine SC.sr ?_
  refine SO.as ?_
  refine SO.nn ?_
  refine SC.seq ?_
  refine SC.sr ?_
  refine SO.mv ?_
  refine SO.v (.ptrEq (b := true) rfl rfl rfl Tryz.underlying57 rfl) ?_
  refine SO.nn ?_
  refine SC.yes rfl ?_
  refine SC.sr ?_
  refine SO.as ?_
  refine SO.nn ?_
  refine SC.ret ?_
  refine SQ.then_ret ?_
  refine SQ.out (.inl rfl) (res1 rfl rfl) ?_
  exact ⟨rfl, hO0.toBelow trivial⟩

set_option maxRecDepth 20000 in
set_option maxHeartbeats 400000 in
theorem nil_piece (a c : Int) (w : World) (hG : Good w) :
    Calls Tryz.prog 259 #[.pointer none, .int .i64 a, .int .i64 c] w fun e w' => e = .returned (.string ⟨#[]⟩) ∧ Below w.heap.size w w' := by
  have hO0 := Own.start hG
  refine enter Tryz.func259 rfl rfl rfl 0 ?_
  refine SC.sr ?_
  refine SO.as ?_
  refine SO.nn ?_
  refine SC.seq ?_
  refine SC.sr ?_
  refine SO.mv ?_
  refine SO.v (.ptrEq (b := true) rfl rfl rfl Tryz.underlying57 rfl) ?_
  refine SO.nn ?_
  refine SC.yes rfl ?_
  refine SC.sr ?_
  refine SO.as ?_
  refine SO.nn ?_
  refine SC.ret ?_
  refine SQ.then_ret ?_
  refine SQ.out (.inl rfl) (res1 rfl rfl) ?_
  exact ⟨rfl, hO0.toBelow trivial⟩

set_option maxRecDepth 20000 in
set_option maxHeartbeats 400000 in
theorem nil_gslice (a c : Int) (w : World) (hG : Good w) :
    Calls Tryz.prog 257 #[.pointer none, .int .i64 a, .int .i64 c] w fun e w' => e = .returned (.tuple #[.string ⟨#[]⟩, .int .i64 (slE ⟨#[]⟩ a c)]) ∧ Below w.heap.size w w' := by
  have hO0 := Own.start hG
  refine enter Tryz.func257 rfl rfl rfl 0 ?_
  refine SC.sr ?_
  refine SO.as ?_
  refine SO.as ?_
  refine SO.nn ?_
  refine SC.seq ?_
  refine SC.sr ?_
  refine SO.mv ?_
  refine SO.v (.lss rfl rfl rfl) ?_
  refine SO.mv ?_
  refine SO.dec 10 rfl (fun g1 => ?_) (fun g1 => ?_)
  ·
   refine SO.ps ?_
   refine SO.ps ?_
   refine SO.ps ?_
   refine SO.v (.pickT rfl rfl rfl) ?_
   refine SO.mv ?_
   refine SO.ps ?_
   refine SO.ps ?_
   refine SO.ps ?_
   refine SO.ps ?_
   refine SO.v (.pickT rfl rfl rfl) ?_
   refine SO.nn ?_
   refine SC.yes rfl ?_
   refine SC.sr ?_
   refine SO.as ?_
   refine SO.as ?_
   refine SO.nn ?_
   refine SC.ret ?_
   refine SQ.then_ret ?_
   refine SQ.out (.inl rfl) (res2 rfl rfl rfl) ?_
   refine ⟨?_, hO0.toBelow trivial⟩
   have hz0 : ((⟨#[]⟩ : ByteArray).size : Int) = 0 := rfl
   unfold slE
   (rw [if_pos (show bad ⟨#[]⟩ a c by unfold bad; omega)])
  ·
   refine SO.mv ?_
   refine SO.mv ?_
   refine SO.v (.lss rfl rfl rfl) ?_
   refine SO.v (.pickF rfl rfl rfl) ?_
   refine SO.mv ?_
   refine SO.dec 15 rfl (fun g3 => ?_) (fun g3 => ?_)
   ·
    refine SO.ps ?_
    refine SO.ps ?_
    refine SO.ps ?_
    refine SO.ps ?_
    refine SO.v (.pickT rfl rfl rfl) ?_
    refine SO.nn ?_
    refine SC.yes rfl ?_
    refine SC.sr ?_
    refine SO.as ?_
    refine SO.as ?_
    refine SO.nn ?_
    refine SC.ret ?_
    refine SQ.then_ret ?_
    refine SQ.out (.inl rfl) (res2 rfl rfl rfl) ?_
    refine ⟨?_, hO0.toBelow trivial⟩
    have hz0 : ((⟨#[]⟩ : ByteArray).size : Int) = 0 := rfl
    unfold slE
    (rw [if_pos (show bad ⟨#[]⟩ a c by unfold bad; omega)])
   ·
    refine SO.mv ?_
    refine SO.mv ?_
    refine SO.call rfl rfl rfl rfl (.callF rfl rfl en254) (nil_glen _ (hO0.good hG)) ?_
    rintro _ w5 ⟨rfl, hb5⟩
    have hO5 := hO0.below hb5
    refine ⟨_, rfl, ?_⟩
    refine SO.v (.gtr rfl rfl rfl) ?_
    refine SO.v (.pickF rfl rfl rfl) ?_
    refine SO.nn ?_
    refine SC.dec rfl (fun c6 => ?_) (fun c6 => ?_)
    ·
     refine SC.sr ?_
     refine SO.as ?_
     refine SO.as ?_
     refine SO.nn ?_
     refine SC.ret ?_
     refine SQ.then_ret ?_
     refine SQ.out (.inl rfl) (res2 rfl rfl rfl) ?_
     refine ⟨?_, hO5.toBelow trivial⟩
     have hz0 : ((⟨#[]⟩ : ByteArray).size : Int) = 0 := rfl
     unfold slE
     (rw [if_pos (show bad ⟨#[]⟩ a c by unfold bad; omega)])
    ·
     refine SC.skip ?_
     refine SQ.then_normal ?_
     refine SC.sr ?_
     refine SO.mv ?_
     refine SO.mv ?_
     refine SO.mv ?_
     refine SO.call rfl rfl rfl rfl (.callF rfl rfl en259) (nil_piece _ _ _ (hO5.good hG)) ?_
     rintro _ w8 ⟨rfl, hb8⟩
     have hO8 := hO5.below hb8
     refine ⟨_, rfl, ?_⟩
     refine SO.as ?_
     refine SO.as ?_
     refine SO.nn ?_
     refine SC.ret ?_
     refine SQ.out (.inl rfl) (res2 rfl rfl rfl) ?_
     refine ⟨?_, hO8.toBelow trivial⟩
     have hz0 : ((⟨#[]⟩ : ByteArray).size : Int) = 0 := rfl
     unfold slE
     (rw [if_neg (show ¬ bad ⟨#[]⟩ a c by unfold bad; omega)])

theorem bd91_z_Niln  : ∀ w, (Instr.build 91 [].toArray).run Tryz.prog w = .ok (.agg [.int .i64 0, .int .i64 0, .int .i64 0, .int .i64 0, .int .i64 0, .string ⟨#[]⟩, .string ⟨#[]⟩].toArray) w := fun _ => by kernel_rfl
set_option maxRecDepth 20000 in
set_option maxHeartbeats 400000 in
theorem nil_gmeasure (a c : Int) (w : World) (hG : Good w) :
    Calls Tryz.prog 255 #[.pointer none, .int .i64 a, .int .i64 c] w fun e w' => ∃ m : Smy, e = .returned (.tuple #[smV m, .int .i64 (slE ⟨#[]⟩ a c)]) ∧ m.nl = 0 ∧ Below w.heap.size w w' := by
  have hO0 := Own.start hG
  refine enter Tryz.func255 rfl rfl rfl 0 ?_
  refine SC.sr ?_
  refine SO.alloc hO0 rfl rfl rfl rfl zv91 [_, _, _, _, _, _, _] rfl ?_
  intro b1 w1 hb1 hO1
  refine SO.as ?_
  refine SO.nn ?_
  refine SC.sr ?_
  refine SO.mv ?_
  refine SO.mv ?_
  refine SO.mv ?_
  refine SO.call rfl rfl rfl rfl (.callF rfl rfl en257) (nil_gslice _ _ _ (hO1.good hG)) ?_
  rintro _ w2 ⟨rfl, hb2⟩
  have hO2 := hO1.below hb2
  refine ⟨_, rfl, ?_⟩
  refine SO.mv ?_
  refine SO.v (.extract rfl rfl rfl) ?_
  refine SO.v (.extract rfl rfl rfl) ?_
  refine SO.as ?_
  refine SO.as ?_
  refine SO.nn ?_
  refine SC.seq ?_
  refine SC.sr ?_
  refine SO.mv ?_
  refine SO.v (.neq rfl rfl rfl) ?_
  refine SO.nn ?_
  refine SC.dec rfl (fun c3 => ?_) (fun c3 => ?_)
  ·
   refine SC.sr ?_
   refine SO.v (.build rfl rfl (bd91_z_Niln)) ?_
   refine SO.mv ?_
   refine SO.store hO2 (i := 0) rfl rfl rfl rfl rfl rfl sz91 rfl rfl [(_, .cells [_, _, _, _, _, _, _].toArray _ _)] rfl ?_
   intro w4 hO4
   refine SO.as ?_
   refine SO.nn ?_
   refine SC.ret ?_
   refine SQ.then_ret ?_
   refine SQ.out (.inl rfl) (resCT [_, _, _, _, _, _, _] rfl rfl rfl ag91 sz91 (hO4.at (i := 0) rfl) rfl rfl) ?_
   exact ⟨zS, rfl, rfl, hO4.toBelow ⟨hb1, trivial⟩⟩
  ·
   have hc : slE ⟨#[]⟩ a c = 0 := by omega
   refine SC.skip ?_
   refine SQ.then_normal ?_
   refine SC.sr ?_
   refine SO.mv ?_
   refine SO.call rfl rfl rfl rfl (.callF rfl rfl en211) (measure_any _ _ (hO2.good hG) (by decide)) ?_
   rintro _ w6 ⟨rfl, hb6⟩
   have hO6 := hO2.below hb6
   refine ⟨_, rfl, ?_⟩
   refine SO.store hO6 (i := 0) rfl rfl rfl rfl rfl rfl sz91 rfl rfl [(_, .cells [_, _, _, _, _, _, _].toArray _ _)] rfl ?_
   intro w7 hO7
   refine SO.as ?_
   refine SO.nn ?_
   refine SC.ret ?_
   refine SQ.out (.inl rfl) (resCT [_, _, _, _, _, _, _] rfl rfl rfl ag91 sz91 (hO7.at (i := 0) rfl) rfl rfl) ?_
   exact ⟨measS ⟨#[]⟩, by rw [hc], by kernel_rfl, hO7.toBelow ⟨hb1, trivial⟩⟩

theorem mi57_Niln : ∀ v w, (Instr.makeInterface 57 v).run Tryz.prog w = .ok (.iface 57 v) w := fun _ _ => by kernel_rfl
set_option maxRecDepth 20000 in
set_option maxHeartbeats 400000 in
theorem nil_under (w : World) (hG : Good w) :
    Calls Tryz.prog 93 #[.pointer none] w fun e w' => e = .returned (.iface 57 (.pointer none)) ∧ Below w.heap.size w w' := by
  have hO0 := Own.start hG
  refine enter Tryz.func93 rfl rfl rfl 0 ?_
  refine SC.sr ?_
  refine SO.as ?_
  refine SO.nn ?_
  refine SC.seq ?_
  refine SC.sr ?_
  refine SO.mv ?_
  refine SO.v (.ptrEq (b := true) rfl rfl rfl Tryz.underlying56 rfl) ?_
  refine SO.nn ?_
  refine SC.yes rfl ?_
  refine SC.sr ?_
  refine SO.v (.iface rfl rfl mi57_Niln) ?_
  refine SO.as ?_
  refine SO.nn ?_
  refine SC.ret ?_
  refine SQ.then_ret ?_
  refine SQ.out (.inl rfl) (res1 rfl rfl) ?_
  exact ⟨rfl, hO0.toBelow trivial⟩

set_option maxRecDepth 20000 in
set_option maxHeartbeats 400000 in
theorem nil_slen (w : World) (hG : Good w) :
    Calls Tryz.prog 91 #[.pointer none] w fun e w' => e = .returned (.int .i64 0) ∧ Below w.heap.size w w' := by
  have hO0 := Own.start hG
  refine enter Tryz.func91 rfl rfl rfl 0 ?_
  refine SC.sr ?_
  refine SO.as ?_
  refine SO.nn ?_
  refine SC.sr ?_
  refine SO.mv ?_
  refine SO.call rfl rfl rfl rfl (.callF rfl rfl en93) (nil_under _ (hO0.good hG)) ?_
  rintro _ w1 ⟨rfl, hb1⟩
  have hO1 := hO0.below hb1
  refine ⟨_, rfl, ?_⟩
  refine SO.call rfl rfl rfl rfl (.callI rfl rfl rfl (mt57_Len _) en254) (nil_glen _ (hO1.good hG)) ?_
  rintro _ w2 ⟨rfl, hb2⟩
  have hO2 := hO1.below hb2
  refine ⟨_, rfl, ?_⟩
  refine SO.as ?_
  refine SO.nn ?_
  refine SC.ret ?_
  refine SQ.out (.inl rfl) (res1 rfl rfl) ?_
  exact ⟨rfl, hO2.toBelow trivial⟩

set_option maxRecDepth 20000 in
set_option maxHeartbeats 400000 in
theorem nil_sslice (a c : Int) (w : World) (hG : Good w) :
    Calls Tryz.prog 95 #[.pointer none, .int .i64 a, .int .i64 c] w fun e w' => e = .returned (.tuple #[.string ⟨#[]⟩, .int .i64 (slE ⟨#[]⟩ a c)]) ∧ Below w.heap.size w w' := by
  have hO0 := Own.start hG
  refine enter Tryz.func95 rfl rfl rfl 0 ?_
  refine SC.sr ?_
  refine SO.as ?_
  refine SO.as ?_
  refine SO.nn ?_
  refine SC.sr ?_
  refine SO.mv ?_
  refine SO.call rfl rfl rfl rfl (.callF rfl rfl en93) (nil_under _ (hO0.good hG)) ?_
  rintro _ w1 ⟨rfl, hb1⟩
  have hO1 := hO0.below hb1
  refine ⟨_, rfl, ?_⟩
  refine SO.mv ?_
  refine SO.mv ?_
  refine SO.call rfl rfl rfl rfl (.callI rfl rfl rfl (mt57_Slice _) en257) (nil_gslice _ _ _ (hO1.good hG)) ?_
  rintro _ w2 ⟨rfl, hb2⟩
  have hO2 := hO1.below hb2
  refine ⟨_, rfl, ?_⟩
  refine SO.v (.extract rfl rfl rfl) ?_
  refine SO.v (.extract rfl rfl rfl) ?_
  refine SO.as ?_
  refine SO.as ?_
  refine SO.nn ?_
  refine SC.ret ?_
  refine SQ.out (.inl rfl) (res2 rfl rfl rfl) ?_
  exact ⟨rfl, hO2.toBelow trivial⟩

set_option maxRecDepth 20000 in
set_option maxHeartbeats 400000 in
theorem nil_smeasure (a c : Int) (w : World) (hG : Good w) :
    Calls Tryz.prog 105 #[.pointer none, .int .i64 a, .int .i64 c] w fun e w' => ∃ m : Smy, e = .returned (.tuple #[smV m, .int .i64 (slE ⟨#[]⟩ a c)]) ∧ m.nl = 0 ∧ Below w.heap.size w w' := by
  have hO0 := Own.start hG
  refine enter Tryz.func105 rfl rfl rfl 0 ?_
  refine SC.sr ?_
  refine SO.alloc hO0 rfl rfl rfl rfl zv91 [_, _, _, _, _, _, _] rfl ?_
  intro b1 w1 hb1 hO1
  refine SO.as ?_
  refine SO.nn ?_
  refine SC.sr ?_
  refine SO.mv ?_
  refine SO.call rfl rfl rfl rfl (.callF rfl rfl en93) (nil_under _ (hO1.good hG)) ?_
  rintro _ w2 ⟨rfl, hb2⟩
  have hO2 := hO1.below hb2
  refine ⟨_, rfl, ?_⟩
  refine SO.mv ?_
  refine SO.mv ?_
  refine SO.call rfl rfl rfl rfl (.callI rfl rfl rfl (mt57_Measure _) en255) (nil_gmeasure _ _ _ (hO2.good hG)) ?_
  rintro _ w3 ⟨m, rfl, hm, hb3⟩
  have hO3 := hO2.below hb3
  refine ⟨_, rfl, ?_⟩
  refine SO.v (.extract rfl rfl rfl) ?_
  refine SO.v (.extract rfl rfl rfl) ?_
  refine SO.store hO3 (i := 0) rfl rfl rfl rfl rfl rfl sz91 rfl rfl [(_, .cells [_, _, _, _, _, _, _].toArray _ _)] rfl ?_
  intro w4 hO4
  refine SO.as ?_
  refine SO.nn ?_
  refine SC.ret ?_
  refine SQ.out (.inl rfl) (resCT [_, _, _, _, _, _, _] rfl rfl rfl ag91 sz91 (hO4.at (i := 0) rfl) rfl rfl) ?_
  exact ⟨m, rfl, hm, hO4.toBelow ⟨hb1, trivial⟩⟩

/-- A text of which only the type is there. -/
def TextT (_ : World) (v : Value) (s : ByteArray) : Prop := s = ⟨#[]⟩ ∧ (v = .iface 57 (.pointer none) ∨ v = .iface 56 (.pointer none))
theorem TextT.below {w w' : World} {v : Value} {s : ByteArray} (h : TextT w v s) (_ : Below w.heap.size w w') : TextT w' v s := h
theorem TextT.iface {w : World} {v : Value} {s : ByteArray} (h : TextT w v s) : ∃ (T : Nat) (x : Value), v = .iface T x := by
  rcases h with ⟨_, e | e⟩
  · exact ⟨_, _, e⟩
  · exact ⟨_, _, e⟩
theorem TextT.size {w : World} {v : Value} {s : ByteArray} (h : TextT w v s) : s.size ≤ 1073741824 := by rw [h.1]; decide
theorem slT_nil (a c : Int) : slT ⟨#[]⟩ a c = ⟨#[]⟩ := bl_inj (List.length_eq_zero_iff.1 (by have := slT_size ⟨#[]⟩ a c; rw [bl_length]; exact Nat.le_zero.1 this))
theorem textT_len {v : Value} {s : ByteArray} {w : World} (hG : Good w) (h : TextT w v s) : MC "Len" v [] w fun e w' => e = .returned (.int .i64 (s.size : Int)) ∧ Below w.heap.size w w' := by
  rcases h with ⟨rfl, e | e⟩
  · exact ⟨_, _, _, _, e, mt57_Len _, en254, nil_glen w hG⟩
  · exact ⟨_, _, _, _, e, mt56_Len _, en91, nil_slen w hG⟩
theorem textT_slice {v : Value} {s : ByteArray} {w : World} (hG : Good w) (h : TextT w v s) (a c : Int) : MC "Slice" v [.int .i64 a, .int .i64 c] w fun e w' => e = .returned (.tuple #[.string (slT s a c), .int .i64 (slE s a c)]) ∧ Below w.heap.size w w' := by
  rcases h with ⟨rfl, e | e⟩
  · rw [slT_nil]; exact ⟨_, _, _, _, e, mt57_Slice _, en257, nil_gslice a c w hG⟩
  · rw [slT_nil]; exact ⟨_, _, _, _, e, mt56_Slice _, en95, nil_sslice a c w hG⟩
theorem nlC_pcN (a c : Int) : nlC (pc (bl ⟨#[]⟩) a c) = 0 := by
  have e : pc (bl ⟨#[]⟩) a c = [] := by unfold pc; simp [bl]
  rw [e]; rfl
theorem textT_measure {v : Value} {s : ByteArray} {w : World} (hG : Good w) (h : TextT w v s) (a c : Int) : MC "Measure" v [.int .i64 a, .int .i64 c] w fun e w' => ∃ m : Smy, e = .returned (.tuple #[smV m, .int .i64 (slE s a c)]) ∧ (¬ bad s a c → m.nl = nlC (pc (bl s) a c)) ∧ Below w.heap.size w w' := by
  rcases h with ⟨rfl, e | e⟩
  · refine ⟨_, _, _, _, e, mt57_Measure _, en255, (nil_gmeasure a c w hG).mono ?_⟩
    rintro e w' ⟨m, rfl, hm, hb⟩
    exact ⟨m, rfl, fun _ => by rw [hm, nlC_pcN]; rfl, hb⟩
  · refine ⟨_, _, _, _, e, mt56_Measure _, en105, (nil_smeasure a c w hG).mono ?_⟩
    rintro e w' ⟨m, rfl, hm, hb⟩
    exact ⟨m, rfl, fun _ => by rw [hm, nlC_pcN]; rfl, hb⟩
/-- No text at all. -/
def TextN (_ : World) (v : Value) (s : ByteArray) : Prop := s = ⟨#[]⟩ ∧ v = .nilIface
theorem TextN.below {w w' : World} {v : Value} {s : ByteArray} (h : TextN w v s) (_ : Below w.heap.size w w') : TextN w' v s := h
theorem TextN.size {w : World} {v : Value} {s : ByteArray} (h : TextN w v s) : s.size ≤ 1073741824 := by rw [h.1]; decide
theorem nlT_nil (i : Nat) : nlT (bl ⟨#[]⟩) i = 0 := by unfold nlT; simp [bl, nlC, Lib.countByte]

end Go.Proofs.YtclgplkkajfenaaGreatDoor
