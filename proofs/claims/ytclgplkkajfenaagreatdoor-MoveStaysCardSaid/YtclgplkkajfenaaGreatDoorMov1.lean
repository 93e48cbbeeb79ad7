/- move: the steps. -/
import Derived.Test.YtclgplkkajfenaaGreatDoorStob
namespace Go.Proofs.YtclgplkkajfenaaGreatDoor
open Go Go.RowKit Ow
/-- The walker of a motion. -/
def walkO (b : Nat) (g : Int) : Obj := .cells [.pointer (some ⟨b, 0, none⟩), .int .i64 g].toArray 168 (0, 0)
theorem StoreAt.keep {w w' : World} {T b : Nat} {s : ByteArray} {lim : Nat} (h : StoreAt w b s lim) (hk : KeepT T w w') (h1 : 103 ≠ T) (hT : 146 ≠ T ∧ 5 ≠ T ∧ 228 ≠ T ∧ 211 ≠ T ∧ 196 ≠ T) : StoreAt w' b s lim := by
  obtain ⟨u, k, lo, tp, mv, fo, ed, h2, h3⟩ := h
  exact ⟨u, k, lo, tp, mv, fo, ed, hk _ _ _ h2 h1, h3.keep hk hT⟩
theorem store_walked {w w' : World} {y b : Nat} {g : Int} {s : ByteArray} {lim : Nat} {o : Obj} (hp : StoreAt w b s lim) (on : w.heap[y]? = some (walkO b g)) (h : Ow.Own w [(y, o)] w') : StoreAt w' b s lim :=
  hp.keep (KeepT.of_own h on) (by decide) (by decide)
theorem StoreAt.text {w : World} {b : Nat} {s : ByteArray} {lim : Nat} (h : StoreAt w b s lim) : TextAt w (.iface 56 (.pointer (some ⟨b, 0, none⟩))) s := .inr ⟨b, lim, rfl, h⟩
theorem StoreAt.size {w : World} {b : Nat} {s : ByteArray} {lim : Nat} (hp : StoreAt w b s lim) : s.size ≤ 1073741824 := by
  obtain ⟨u, k, lo, tp, mv, fo, ed, h1, h2⟩ := hp
  exact Nat.le_trans h2.sizes.2 h2.sizes.1
theorem ofN_range (l : Bs) (a : Int) : 0 ≤ ofN l a ∧ ofN l a ≤ nlC l := by
  unfold ofN; split
  · omega
  · have := nlT_le_nlC l a.toNat; omega
/-- Is there a line by so many lines away? -/
def ovOk (l : Bs) (a d : Int) : Prop := 0 ≤ ofN l a + d ∧ ofN l a + d < (nlC l + 1 : Nat)
instance (l : Bs) (a d : Int) : Decidable (ovOk l a d) := by unfold ovOk; infer_instance
def ovG (s : ByteArray) (g a : Int) : Int := if g < 0 then colR s a else g
def ovTo (s : ByteArray) (d g a : Int) : Int := if ovOk (bl s) a d then atR s (ofN (bl s) a + d) (ovG s g a) else a
def ovGo (s : ByteArray) (d g a : Int) : Int := if ovOk (bl s) a d then ovG s g a else g

/-- A call that has turned one of the call's own blocks. -/
theorem Ow.Own.thenAt {w0 w w' : World} {L : List (Nat × Obj)} {i b : Nat} {o o' : Obj} (h : Ow.Own w0 L w) (hi : L[i]? = some (b, o)) (k : Ow.Own w [(b, o')] w') : Ow.Own w0 (L.set i (b, o')) w' := by
  have hmem : (b, o) ∈ L := List.mem_of_getElem? hi
  have hlen : i < L.length := by
    rcases Nat.lt_or_ge i L.length with h' | h'
    · exact h'
    · rw [List.getElem?_eq_none h'] at hi; cases hi
  have hnm : (L.set i (b, o')).map (·.1) = L.map (·.1) := by
    rw [List.map_set]
    refine List.ext_getElem? fun j => ?_
    rw [List.getElem?_set]
    split
    · rename_i e; subst e
      rw [List.getElem?_map, hi]; simp [hlen]
    · rfl
  have hne : ∀ j p, L[j]? = some p → j ≠ i → p.1 ≠ b := fun j p hj hji e => by
    obtain ⟨hj1, ej⟩ := List.getElem?_eq_some_iff.1 hj
    obtain ⟨_, ei⟩ := List.getElem?_eq_some_iff.1 hi
    have hnd := List.pairwise_iff_getElem.1 h.nd
    rcases Nat.lt_or_gt_of_ne hji with hl | hl
    · refine hnd j i (by simpa using hj1) (by simpa using hlen) hl ?_
      rw [List.getElem_map, List.getElem_map, ej, ei]; exact e
    · refine hnd i j (by simpa using hlen) (by simpa using hj1) hl ?_
      rw [List.getElem_map, List.getElem_map, ej, ei]; exact e.symm
  refine ⟨k.os.trans h.os, k.tape.trans h.tape, k.output.trans h.output, Nat.le_trans h.size k.size, fun j hj hn => ?_, fun p hp => ?_, by rw [hnm]; exact h.nd, fun p hp => ?_, h.base⟩
  · have hjb : b ≠ j := fun e => hn (b, o') (List.mem_iff_getElem?.2 ⟨i, by rw [List.getElem?_set]; simp [hlen]⟩) e
    refine (k.old j (Nat.lt_of_lt_of_le hj h.size) fun q hq => ?_).trans (h.old j hj fun p hp e => ?_)
    · simp only [List.mem_singleton] at hq; subst hq; exact hjb
    · have : p.1 ∈ (L.set i (b, o')).map (·.1) := by rw [hnm]; exact List.mem_map_of_mem hp
      obtain ⟨q, hq, e'⟩ := List.mem_map.1 this
      exact hn q hq (e'.trans e)
  · obtain ⟨j, hj⟩ := List.mem_iff_getElem?.1 hp
    rw [List.getElem?_set] at hj
    split at hj
    · rename_i e
      subst e
      simp at hj
      subst hj
      exact k.own _ (by simp)
    · rename_i e
      have hmj : p ∈ L := List.mem_of_getElem? hj
      refine (k.old p.1 (lt_of_heap (h.own p hmj)) fun q hq => ?_).trans (h.own p hmj)
      simp only [List.mem_singleton] at hq; subst hq
      exact fun e2 => hne j p hj (Ne.symm e) e2.symm
  · obtain ⟨q, hq, e'⟩ := List.mem_map.1 (show p.1 ∈ L.map (·.1) by rw [← hnm]; exact List.mem_map_of_mem hp)
    have := h.two q hq
    rw [e'] at this
    exact this

set_option maxRecDepth 20000 in
set_option maxHeartbeats 400000 in
theorem mv_left (y b : Nat) (g : Int) (s : ByteArray) (lim : Nat) (a : Int) (w : World) (hG : Good w) (h2 : 2 ≤ y) (on : w.heap[y]? = some (walkO b g)) (hp : StoreAt w b s lim) :
    Calls Tryz.prog 172 #[.pointer (some ⟨y, 0, none⟩), .int .i64 a] w fun e w' => e = .returned (.tuple #[.int .i64 (cPrevI (bl s) a), .bool (decide (a > 0))]) ∧ Ow.Own w [(y, walkO b (g))] w' := by
  have hsz := hp.size
  have hO0 := (Own.start hG).know on (by simp) h2
  refine enter Tryz.func172 rfl rfl rfl 0 ?_
  refine SC.sr ?_
  refine SO.as ?_
  refine SO.as ?_
  refine SO.nn ?_
  refine SC.sr ?_
  refine SO.mv ?_
  refine SO.v (.nilCheck rfl rfl) ?_
  refine SO.v (.fieldAddr rfl rfl fa168_0) ?_
  refine SO.v (.load rfl rfl ag56 (cell_of' (hO0.at (i := 0) rfl) rfl)) ?_
  refine SO.mv ?_
  refine SO.call rfl rfl rfl rfl (.callF rfl rfl en107) (store_prev b s lim _ _ (hO0.good hG) (store_walked hp on hO0)) ?_
  rintro _ w1 ⟨rfl, hb1⟩
  have hO1 := hO0.below hb1
  refine ⟨_, rfl, ?_⟩
  refine SO.mv ?_
  refine SO.v (.gtr rfl rfl rfl) ?_
  refine SO.as ?_
  refine SO.as ?_
  refine SO.nn ?_
  refine SC.ret ?_
  refine SQ.out (.inl rfl) (res2 rfl rfl rfl) ?_
  exact ⟨rfl, hO1⟩

set_option maxRecDepth 20000 in
set_option maxHeartbeats 400000 in
theorem mv_right (y b : Nat) (g : Int) (s : ByteArray) (lim : Nat) (a : Int) (w : World) (hG : Good w) (h2 : 2 ≤ y) (on : w.heap[y]? = some (walkO b g)) (hp : StoreAt w b s lim) :
    Calls Tryz.prog 173 #[.pointer (some ⟨y, 0, none⟩), .int .i64 a] w fun e w' => e = .returned (.tuple #[.int .i64 (cNextI (bl s) a), .bool (decide (a < s.size))]) ∧ Ow.Own w [(y, walkO b (g))] w' := by
  have hsz := hp.size
  have hO0 := (Own.start hG).know on (by simp) h2
  refine enter Tryz.func173 rfl rfl rfl 0 ?_
  refine SC.sr ?_
  refine SO.as ?_
  refine SO.as ?_
  refine SO.nn ?_
  refine SC.seq ?_
  refine SC.drawO mixed hO0 (fun hO1 => ?_)
  refine SA.tm 0 rfl hO1 ?_
  refine SA.tk 1 rfl hO1 (fun v hv => .nilCheck rfl rfl) ?_
  refine SA.tk 2 rfl hO1 (fun v hv => .fieldAddr rfl rfl fa168_0) ?_
  refine SA.tk 3 rfl hO1 (fun v hv => .load rfl rfl ag56 (cell_of' (hv.at (i := 0) rfl) rfl)) ?_
  refine SA.tm 4 rfl hO1 ?_
  refine SA.tm 6 rfl hO1 ?_
  refine SA.tm 7 rfl hO1 ?_
  refine SA.tk 8 rfl hO1 (fun v hv => .nilCheck rfl rfl) ?_
  refine SA.tk 9 rfl hO1 (fun v hv => .fieldAddr rfl rfl fa168_0) ?_
  refine SA.tk 10 rfl hO1 (fun v hv => .load rfl rfl ag56 (cell_of' (hv.at (i := 0) rfl) rfl)) ?_
  refine SA.one 5 (by kernel_rfl) ?_
  refine SB.call rfl rfl rfl rfl (.callF rfl rfl en106) (store_next b s lim _ _ (hO1.good hG) (store_walked hp on hO1)) ?_
  rintro _ w2 ⟨rfl, hb2⟩
  have hO2 := hO1.below hb2
  refine ⟨_, rfl, hO2, ?_⟩
  refine SA.one 11 (by kernel_rfl) ?_
  refine SB.call rfl rfl rfl rfl (.callF rfl rfl en91) (store_len b s lim  _ (hO2.good hG) (store_walked hp on hO2)) ?_
  rintro _ w3 ⟨rfl, hb3⟩
  have hO3 := hO2.below hb3
  refine ⟨_, rfl, hO3, ?_⟩
  refine SA.tk 12 rfl hO3 (fun v hv => .lss rfl rfl rfl) ?_
  refine SA.ta 13 rfl hO3 ?_
  refine SA.ta 14 rfl hO3 ?_
  refine SA.done (by kernel_rfl) ?_
  refine SQ.then_normal ?_
  refine SC.ret ?_
  refine SQ.out (.inl rfl) (res2 rfl rfl rfl) ?_
  exact ⟨rfl, hO3⟩

theorem mi56_Mov1 : ∀ v w, (Instr.makeInterface 56 v).run Tryz.prog w = .ok (.iface 56 v) w := fun _ _ => by kernel_rfl
set_option maxRecDepth 20000 in
set_option maxHeartbeats 400000 in
theorem mv_line (y b : Nat) (g : Int) (s : ByteArray) (lim : Nat) (a : Int) (w : World) (hG : Good w) (_h2 : 2 ≤ y) (on : w.heap[y]? = some (walkO b g)) (hp : StoreAt w b s lim) :
    Calls Tryz.prog 204 #[.pointer (some ⟨y, 0, none⟩), .int .i64 a] w fun e w' => e = .returned (.agg #[.int .i64 (spF (bl s) (ofN (bl s) a) : Nat), .int .i64 (spT (bl s) (ofN (bl s) a) : Nat)]) ∧ Below w.heap.size w w' := by
  have hsz := hp.size
  have hO0 := Own.start hG
  refine enter Tryz.func204 rfl rfl rfl 0 ?_
  refine SC.sr ?_
  refine SO.alloc hO0 rfl rfl rfl rfl zv41 [_, _] rfl ?_
  intro b1 w1 hb1 hO1
  refine SO.nn ?_
  refine SC.sr ?_
  refine SO.mv ?_
  refine SO.v (.nilCheck rfl rfl) ?_
  refine SO.v (.fieldAddr rfl rfl fa168_0) ?_
  refine SO.v (.load rfl rfl ag56 (cell_of' (hO1.heapO ⟨hb1, trivial⟩ on) rfl)) ?_
  refine SO.v (.iface rfl rfl mi56_Mov1) ?_
  refine SO.mv ?_
  refine SO.call rfl rfl rfl rfl (.callF rfl rfl en27) (lines_of (.iface 56 (.pointer (some ⟨b, 0, none⟩))) s _ _ (hO1.good hG) (hp.below (hO1.toBelow ⟨hb1, trivial⟩)).text) ?_
  rintro _ w2 ⟨rfl, hb2⟩
  have hO2 := hO1.below hb2
  refine ⟨_, rfl, ?_⟩
  refine SO.mv ?_
  refine SO.v (.extract rfl rfl rfl) ?_
  refine SO.v (.extract rfl rfl rfl) ?_
  refine SO.as ?_
  refine SO.as ?_
  refine SO.nn ?_
  refine SC.sr ?_
  refine SO.mv ?_
  refine SO.v (.nilCheck rfl rfl) ?_
  refine SO.v (.fieldAddr rfl rfl fa168_0) ?_
  refine SO.v (.load rfl rfl ag56 (cell_of' (hO2.heapO ⟨hb1, trivial⟩ on) rfl)) ?_
  refine SO.v (.iface rfl rfl mi56_Mov1) ?_
  refine SO.mv ?_
  refine SO.call rfl rfl rfl rfl (.callF rfl rfl en28) (lines_span (.iface 56 (.pointer (some ⟨b, 0, none⟩))) s _ _ (hO2.good hG) (hp.below (hO2.toBelow ⟨hb1, trivial⟩)).text) ?_
  rintro _ w3 ⟨rfl, hb3⟩
  have hO3 := hO2.below hb3
  refine ⟨_, rfl, ?_⟩
  refine SO.mv ?_
  refine SO.v (.extract rfl rfl rfl) ?_
  refine SO.v (.extract rfl rfl rfl) ?_
  refine SO.alloc hO3 rfl rfl rfl rfl zv41 [_, _] rfl ?_
  intro b4 w4 hb4 hO4
  refine SO.store hO4 (i := 0) rfl rfl rfl rfl rfl rfl sz41 rfl rfl [(_, .cells [_, _].toArray _ _), _] rfl ?_
  intro w5 hO5
  refine SO.as ?_
  refine SO.nn ?_
  refine SC.sr ?_
  refine SO.v (.loadB [_, _] rfl rfl ag41 sz41 (hO5.at (i := 0) rfl) rfl rfl) ?_
  refine SO.store hO5 (i := 1) rfl rfl rfl rfl rfl rfl sz41 rfl rfl [_, (_, .cells [_, _].toArray _ _)] rfl ?_
  intro w6 hO6
  refine SO.nn ?_
  refine SC.ret ?_
  refine SQ.out (.inl rfl) (resC [_, _] rfl rfl ag41 sz41 (hO6.at (i := 1) rfl) rfl rfl) ?_
  exact ⟨rfl, hO6.toBelow ⟨hb4, hb1, trivial⟩⟩

theorem fi41_0_Mov1 (x0 : Int) (x1 : Int) : ∀ w, (Instr.field 41 (.agg [.int .i64 x0, .int .i64 x1].toArray) 0).run Tryz.prog w = .ok (.int .i64 x0) w := fun _ => by kernel_rfl
set_option maxRecDepth 20000 in
set_option maxHeartbeats 400000 in
theorem mv_lineStart (y b : Nat) (g : Int) (s : ByteArray) (lim : Nat) (a : Int) (w : World) (hG : Good w) (h2 : 2 ≤ y) (on : w.heap[y]? = some (walkO b g)) (hp : StoreAt w b s lim) :
    Calls Tryz.prog 176 #[.pointer (some ⟨y, 0, none⟩), .int .i64 a] w fun e w' => e = .returned (.tuple #[.int .i64 (spF (bl s) (ofN (bl s) a) : Nat), .bool (true)]) ∧ Ow.Own w [(y, walkO b (g))] w' := by
  have hsz := hp.size
  have hO0 := (Own.start hG).know on (by simp) h2
  refine enter Tryz.func176 rfl rfl rfl 0 ?_
  refine SC.sr ?_
  refine SO.as ?_
  refine SO.as ?_
  refine SO.nn ?_
  refine SC.sr ?_
  refine SO.mv ?_
  refine SO.mv ?_
  refine SO.call rfl rfl rfl rfl (.callF rfl rfl en204) (mv_line y b g s lim _ _ (hO0.good hG) h2 (hO0.at (i := 0) rfl) (store_walked hp on hO0)) ?_
  rintro _ w1 ⟨rfl, hb1⟩
  have hO1 := hO0.below hb1
  refine ⟨_, rfl, ?_⟩
  refine SO.v (.field rfl rfl (fi41_0_Mov1 _ _)) ?_
  refine SO.as ?_
  refine SO.as ?_
  refine SO.nn ?_
  refine SC.ret ?_
  refine SQ.out (.inl rfl) (res2 rfl rfl rfl) ?_
  exact ⟨rfl, hO1⟩

theorem fi41_1_Mov1 (x0 : Int) (x1 : Int) : ∀ w, (Instr.field 41 (.agg [.int .i64 x0, .int .i64 x1].toArray) 1).run Tryz.prog w = .ok (.int .i64 x1) w := fun _ => by kernel_rfl
set_option maxRecDepth 20000 in
set_option maxHeartbeats 400000 in
theorem mv_lineEnd (y b : Nat) (g : Int) (s : ByteArray) (lim : Nat) (a : Int) (w : World) (hG : Good w) (h2 : 2 ≤ y) (on : w.heap[y]? = some (walkO b g)) (hp : StoreAt w b s lim) :
    Calls Tryz.prog 177 #[.pointer (some ⟨y, 0, none⟩), .int .i64 a] w fun e w' => e = .returned (.tuple #[.int .i64 (spT (bl s) (ofN (bl s) a) : Nat), .bool (true)]) ∧ Ow.Own w [(y, walkO b (g))] w' := by
  have hsz := hp.size
  have hO0 := (Own.start hG).know on (by simp) h2
  refine enter Tryz.func177 rfl rfl rfl 0 ?_
  refine SC.sr ?_
  refine SO.as ?_
  refine SO.as ?_
  refine SO.nn ?_
  refine SC.sr ?_
  refine SO.mv ?_
  refine SO.mv ?_
  refine SO.call rfl rfl rfl rfl (.callF rfl rfl en204) (mv_line y b g s lim _ _ (hO0.good hG) h2 (hO0.at (i := 0) rfl) (store_walked hp on hO0)) ?_
  rintro _ w1 ⟨rfl, hb1⟩
  have hO1 := hO0.below hb1
  refine ⟨_, rfl, ?_⟩
  refine SO.v (.field rfl rfl (fi41_1_Mov1 _ _)) ?_
  refine SO.as ?_
  refine SO.as ?_
  refine SO.nn ?_
  refine SC.ret ?_
  refine SQ.out (.inl rfl) (res2 rfl rfl rfl) ?_
  exact ⟨rfl, hO1⟩

set_option maxRecDepth 20000 in
set_option maxHeartbeats 400000 in
theorem mv_textStart (y b : Nat) (g : Int) (s : ByteArray) (lim : Nat) (a : Int) (w : World) (hG : Good w) (h2 : 2 ≤ y) (on : w.heap[y]? = some (walkO b g)) (hp : StoreAt w b s lim) :
    Calls Tryz.prog 180 #[.pointer (some ⟨y, 0, none⟩), .int .i64 a] w fun e w' => e = .returned (.tuple #[.int .i64 (0), .bool (true)]) ∧ Ow.Own w [(y, walkO b (g))] w' := by
  have hsz := hp.size
  have hO0 := (Own.start hG).know on (by simp) h2
  refine enter Tryz.func180 rfl rfl rfl 0 ?_
  refine SC.sr ?_
  refine SO.as ?_
  refine SO.as ?_
  refine SO.nn ?_
  refine SC.sr ?_
  refine SO.as ?_
  refine SO.as ?_
  refine SO.nn ?_
  refine SC.ret ?_
  refine SQ.out (.inl rfl) (res2 rfl rfl rfl) ?_
  exact ⟨rfl, hO0⟩

set_option maxRecDepth 20000 in
set_option maxHeartbeats 400000 in
theorem mv_textEnd (y b : Nat) (g : Int) (s : ByteArray) (lim : Nat) (a : Int) (w : World) (hG : Good w) (h2 : 2 ≤ y) (on : w.heap[y]? = some (walkO b g)) (hp : StoreAt w b s lim) :
    Calls Tryz.prog 181 #[.pointer (some ⟨y, 0, none⟩), .int .i64 a] w fun e w' => e = .returned (.tuple #[.int .i64 (s.size), .bool (true)]) ∧ Ow.Own w [(y, walkO b (g))] w' := by
  have hsz := hp.size
  have hO0 := (Own.start hG).know on (by simp) h2
  refine enter Tryz.func181 rfl rfl rfl 0 ?_
  refine SC.sr ?_
  refine SO.as ?_
  refine SO.as ?_
  refine SO.nn ?_
  refine SC.sr ?_
  refine SO.mv ?_
  refine SO.v (.nilCheck rfl rfl) ?_
  refine SO.v (.fieldAddr rfl rfl fa168_0) ?_
  refine SO.v (.load rfl rfl ag56 (cell_of' (hO0.at (i := 0) rfl) rfl)) ?_
  refine SO.call rfl rfl rfl rfl (.callF rfl rfl en91) (store_len b s lim  _ (hO0.good hG) (store_walked hp on hO0)) ?_
  rintro _ w1 ⟨rfl, hb1⟩
  have hO1 := hO0.below hb1
  refine ⟨_, rfl, ?_⟩
  refine SO.as ?_
  refine SO.as ?_
  refine SO.nn ?_
  refine SC.ret ?_
  refine SQ.out (.inl rfl) (res2 rfl rfl rfl) ?_
  exact ⟨rfl, hO1⟩

set_option maxRecDepth 20000 in
set_option maxHeartbeats 400000 in
theorem mv_over (y b : Nat) (g : Int) (s : ByteArray) (lim : Nat) (a : Int) (d : Int) (w : World) (hG : Good w) (h2 : 2 ≤ y) (on : w.heap[y]? = some (walkO b g)) (hp : StoreAt w b s lim) (hd : d = 1 ∨ d = -1) :
    Calls Tryz.prog 205 #[.pointer (some ⟨y, 0, none⟩), .int .i64 a, .int .i64 d] w fun e w' => e = .returned (.tuple #[.int .i64 (ovTo s d g a), .bool (decide (ovOk (bl s) a d))]) ∧ Ow.Own w [(y, walkO b (ovGo s d g a))] w' := by
  have hsz := hp.size
  have hO0 := (Own.start hG).know on (by simp) h2
  have hn := ofN_range (bl s) a
  have hnl := nlC_le (bl s)
  rw [bl_length] at hnl
  refine enter Tryz.func205 rfl rfl rfl 0 ?_
  refine SC.sr ?_
  refine SO.as ?_
  refine SO.as ?_
  refine SO.nn ?_
  refine SC.sr ?_
  refine SO.mv ?_
  refine SO.v (.nilCheck rfl rfl) ?_
  refine SO.v (.fieldAddr rfl rfl fa168_0) ?_
  refine SO.v (.load rfl rfl ag56 (cell_of' (hO0.at (i := 0) rfl) rfl)) ?_
  refine SO.v (.iface rfl rfl mi56_Mov1) ?_
  refine SO.mv ?_
  refine SO.call rfl rfl rfl rfl (.callF rfl rfl en27) (lines_of (.iface 56 (.pointer (some ⟨b, 0, none⟩))) s _ _ (hO0.good hG) (store_walked hp on hO0).text) ?_
  rintro _ w1 ⟨rfl, hb1⟩
  have hO1 := hO0.below hb1
  refine ⟨_, rfl, ?_⟩
  refine SO.mv ?_
  refine SO.v (.extract rfl rfl rfl) ?_
  refine SO.v (.extract rfl rfl rfl) ?_
  refine SO.as ?_
  refine SO.as ?_
  refine SO.nn ?_
  refine SC.seq ?_
  refine SC.sr ?_
  refine SO.mv ?_
  refine SO.mv ?_
  refine SO.v (.add rfl rfl rfl (by omega)) ?_
  refine SO.v (.lss rfl rfl rfl) ?_
  refine SO.mv ?_
  refine SO.dec 26 rfl (fun g2 => ?_) (fun g2 => ?_)
  ·
   refine SO.ps ?_
   refine SO.ps ?_
   refine SO.ps ?_
   refine SO.ps ?_
   refine SO.ps ?_
   refine SO.ps ?_
   refine SO.ps ?_
   refine SO.ps ?_
   refine SO.ps ?_
   refine SO.ps ?_
   refine SO.v (.pickT rfl rfl rfl) ?_
   refine SO.nn ?_
   refine SC.yes rfl ?_
   refine SC.sr ?_
   refine SO.mv ?_
   refine SO.as ?_
   refine SO.as ?_
   refine SO.nn ?_
   refine SC.ret ?_
   refine SQ.then_ret ?_
   refine SQ.out (.inl rfl) (res2 rfl rfl rfl) ?_
   unfold ovTo ovGo
   (have h : ¬ ovOk (bl s) a d := (by unfold ovOk; omega); rw [if_neg h, decide_eq_false h, if_neg h]; exact ⟨rfl, hO1⟩)
  ·
   refine SO.mv ?_
   refine SO.mv ?_
   refine SO.v (.add rfl rfl rfl (by omega)) ?_
   refine SO.mv ?_
   refine SO.v (.nilCheck rfl rfl) ?_
   refine SO.v (.fieldAddr rfl rfl fa168_0) ?_
   refine SO.v (.load rfl rfl ag56 (cell_of' (hO1.at (i := 0) rfl) rfl)) ?_
   refine SO.v (.iface rfl rfl mi56_Mov1) ?_
   refine SO.call rfl rfl rfl rfl (.callF rfl rfl en29) (lines_count (.iface 56 (.pointer (some ⟨b, 0, none⟩))) s  _ (hO1.good hG) (store_walked hp on hO1).text) ?_
   rintro _ w4 ⟨rfl, hb4⟩
   have hO4 := hO1.below hb4
   refine ⟨_, rfl, ?_⟩
   refine SO.v (.geq rfl rfl rfl) ?_
   refine SO.v (.pickF rfl rfl rfl) ?_
   refine SO.nn ?_
   refine SC.dec rfl (fun c5 => ?_) (fun c5 => ?_)
   ·
    refine SC.sr ?_
    refine SO.mv ?_
    refine SO.as ?_
    refine SO.as ?_
    refine SO.nn ?_
    refine SC.ret ?_
    refine SQ.then_ret ?_
    refine SQ.out (.inl rfl) (res2 rfl rfl rfl) ?_
    unfold ovTo ovGo
    (have h : ¬ ovOk (bl s) a d := (by unfold ovOk; omega); rw [if_neg h, decide_eq_false h, if_neg h]; exact ⟨rfl, hO4⟩)
   ·
    refine SC.skip ?_
    refine SQ.then_normal ?_
    refine SC.seq ?_
    refine SC.sr ?_
    refine SO.mv ?_
    refine SO.v (.nilCheck rfl rfl) ?_
    refine SO.v (.fieldAddr rfl rfl fa168_1) ?_
    refine SO.v (.load rfl rfl ag3 (cell_of' (hO4.at (i := 0) rfl) rfl)) ?_
    refine SO.v (.lss rfl rfl rfl) ?_
    refine SO.nn ?_
    refine SC.dec rfl (fun c7 => ?_) (fun c7 => ?_)
    ·
     have hcg := c7
     refine SC.region ?_
     refine SO.mv ?_
     refine SO.mv ?_
     refine SO.v (.nilCheck rfl rfl) ?_
     refine SO.v (.fieldAddr rfl rfl fa168_0) ?_
     refine SO.v (.load rfl rfl ag56 (cell_of' (hO4.at (i := 0) rfl) rfl)) ?_
     refine SO.v (.iface rfl rfl mi56_Mov1) ?_
     refine SO.mv ?_
     refine SO.call rfl rfl rfl rfl (.callF rfl rfl en23) (lines_column (.iface 56 (.pointer (some ⟨b, 0, none⟩))) s _ _ (hO4.good hG) (store_walked hp on hO4).text) ?_
     rintro _ w8 ⟨rfl, hb8⟩
     have hO8 := hO4.below hb8
     refine ⟨_, rfl, ?_⟩
     refine SO.mv ?_
     refine SO.v (.extract rfl rfl rfl) ?_
     refine SO.v (.extract rfl rfl rfl) ?_
     refine SO.v (.nilCheck rfl rfl) ?_
     refine SO.v (.fieldAddr rfl rfl fa168_1) ?_
     refine SO.store hO8 (i := 0) rfl rfl rfl rfl rfl rfl sz3 rfl rfl [(_, .cells [_, _].toArray _ _)] rfl ?_
     intro w9 hO9
     refine SO.nn ?_
     refine SC.seq ?_
     refine SC.drawO mixed hO9 (fun hO10 => ?_)
     refine SA.tm 0 rfl hO10 ?_
     refine SA.tk 1 rfl hO10 (fun v hv => .nilCheck rfl rfl) ?_
     refine SA.tk 2 rfl hO10 (fun v hv => .fieldAddr rfl rfl fa168_0) ?_
     refine SA.tk 3 rfl hO10 (fun v hv => .load rfl rfl ag56 (cell_of' (hv.at (i := 0) rfl) rfl)) ?_
     refine SA.tk 4 rfl hO10 (fun v hv => .iface rfl rfl mi56_Mov1) ?_
     refine SA.tm 5 rfl hO10 ?_
     refine SA.tm 6 rfl hO10 ?_
     refine SA.tk 7 rfl hO10 (fun v hv => .add rfl rfl rfl (by omega)) ?_
     refine SA.tm 8 rfl hO10 ?_
     refine SA.tk 9 rfl hO10 (fun v hv => .nilCheck rfl rfl) ?_
     refine SA.tk 10 rfl hO10 (fun v hv => .fieldAddr rfl rfl fa168_1) ?_
     refine SA.tk 11 rfl hO10 (fun v hv => .load rfl rfl ag3 (cell_of' (hv.at (i := 0) rfl) rfl)) ?_
     refine SA.one 12 (by kernel_rfl) ?_
     refine SB.call rfl rfl rfl rfl (.callF rfl rfl en25) (lines_at (.iface 56 (.pointer (some ⟨b, 0, none⟩))) s _ _ _ (hO10.good hG) (store_walked hp on hO10).text) ?_
     rintro _ w11 ⟨rfl, hb11⟩
     have hO11 := hO10.below hb11
     refine ⟨_, rfl, hO11, ?_⟩
     refine SA.tm 13 rfl hO11 ?_
     refine SA.tk 14 rfl hO11 (fun v hv => .extract rfl rfl rfl) ?_
     refine SA.tk 15 rfl hO11 (fun v hv => .extract rfl rfl rfl) ?_
     refine SA.ta 16 rfl hO11 ?_
     refine SA.ta 17 rfl hO11 ?_
     refine SA.done (by kernel_rfl) ?_
     refine SQ.then_normal ?_
     refine SC.sr ?_
     refine SO.mv ?_
     refine SO.as ?_
     refine SO.as ?_
     refine SO.nn ?_
     refine SC.ret ?_
     refine SQ.out (.inl rfl) (res2 rfl rfl rfl) ?_
     unfold ovTo ovGo
     (have h : ovOk (bl s) a d := (by unfold ovOk; omega); have hg : ovG s g a = _ := if_pos hcg; rw [if_pos h, decide_eq_true h, if_pos h, hg]; exact ⟨rfl, hO11⟩)
    ·
     have hcg := c7
     refine SC.skip ?_
     refine SQ.then_normal ?_
     refine SC.seq ?_
     refine SC.drawO mixed hO4 (fun hO13 => ?_)
     refine SA.tm 0 rfl hO13 ?_
     refine SA.tk 1 rfl hO13 (fun v hv => .nilCheck rfl rfl) ?_
     refine SA.tk 2 rfl hO13 (fun v hv => .fieldAddr rfl rfl fa168_0) ?_
     refine SA.tk 3 rfl hO13 (fun v hv => .load rfl rfl ag56 (cell_of' (hv.at (i := 0) rfl) rfl)) ?_
     refine SA.tk 4 rfl hO13 (fun v hv => .iface rfl rfl mi56_Mov1) ?_
     refine SA.tm 5 rfl hO13 ?_
     refine SA.tm 6 rfl hO13 ?_
     refine SA.tk 7 rfl hO13 (fun v hv => .add rfl rfl rfl (by omega)) ?_
     refine SA.tm 8 rfl hO13 ?_
     refine SA.tk 9 rfl hO13 (fun v hv => .nilCheck rfl rfl) ?_
     refine SA.tk 10 rfl hO13 (fun v hv => .fieldAddr rfl rfl fa168_1) ?_
     refine SA.tk 11 rfl hO13 (fun v hv => .load rfl rfl ag3 (cell_of' (hv.at (i := 0) rfl) rfl)) ?_
     refine SA.one 12 (by kernel_rfl) ?_
     refine SB.call rfl rfl rfl rfl (.callF rfl rfl en25) (lines_at (.iface 56 (.pointer (some ⟨b, 0, none⟩))) s _ _ _ (hO13.good hG) (store_walked hp on hO13).text) ?_
     rintro _ w14 ⟨rfl, hb14⟩
     have hO14 := hO13.below hb14
     refine ⟨_, rfl, hO14, ?_⟩
     refine SA.tm 13 rfl hO14 ?_
     refine SA.tk 14 rfl hO14 (fun v hv => .extract rfl rfl rfl) ?_
     refine SA.tk 15 rfl hO14 (fun v hv => .extract rfl rfl rfl) ?_
     refine SA.ta 16 rfl hO14 ?_
     refine SA.ta 17 rfl hO14 ?_
     refine SA.done (by kernel_rfl) ?_
     refine SQ.then_normal ?_
     refine SC.sr ?_
     refine SO.mv ?_
     refine SO.as ?_
     refine SO.as ?_
     refine SO.nn ?_
     refine SC.ret ?_
     refine SQ.out (.inl rfl) (res2 rfl rfl rfl) ?_
     unfold ovTo ovGo
     (have h : ovOk (bl s) a d := (by unfold ovOk; omega); have hg : ovG s g a = _ := if_neg hcg; rw [if_pos h, decide_eq_true h, if_pos h, hg]; exact ⟨rfl, hO14⟩)

set_option maxRecDepth 20000 in
set_option maxHeartbeats 400000 in
theorem mv_up (y b : Nat) (g : Int) (s : ByteArray) (lim : Nat) (a : Int) (w : World) (hG : Good w) (h2 : 2 ≤ y) (on : w.heap[y]? = some (walkO b g)) (hp : StoreAt w b s lim) :
    Calls Tryz.prog 178 #[.pointer (some ⟨y, 0, none⟩), .int .i64 a] w fun e w' => e = .returned (.tuple #[.int .i64 (ovTo s (-1) g a), .bool (decide (ovOk (bl s) a (-1)))]) ∧ Ow.Own w [(y, walkO b (ovGo s (-1) g a))] w' := by
  have hsz := hp.size
  have hO0 := (Own.start hG).know on (by simp) h2
  refine enter Tryz.func178 rfl rfl rfl 0 ?_
  refine SC.sr ?_
  refine SO.as ?_
  refine SO.as ?_
  refine SO.nn ?_
  refine SC.sr ?_
  refine SO.mv ?_
  refine SO.mv ?_
  refine SO.call rfl rfl rfl rfl (.callF rfl rfl en205) (mv_over y b g s lim _ (-1) _ (hO0.good hG) h2 (hO0.at (i := 0) rfl) (store_walked hp on hO0) (by decide)) ?_
  rintro _ w1 ⟨rfl, hb1⟩
  have hO1 := hO0.thenAt (i := 0) rfl hb1
  refine ⟨_, rfl, ?_⟩
  refine SO.v (.extract rfl rfl rfl) ?_
  refine SO.v (.extract rfl rfl rfl) ?_
  refine SO.as ?_
  refine SO.as ?_
  refine SO.nn ?_
  refine SC.ret ?_
  refine SQ.out (.inl rfl) (res2 rfl rfl rfl) ?_
  exact ⟨rfl, hO1⟩

set_option maxRecDepth 20000 in
set_option maxHeartbeats 400000 in
theorem mv_down (y b : Nat) (g : Int) (s : ByteArray) (lim : Nat) (a : Int) (w : World) (hG : Good w) (h2 : 2 ≤ y) (on : w.heap[y]? = some (walkO b g)) (hp : StoreAt w b s lim) :
    Calls Tryz.prog 179 #[.pointer (some ⟨y, 0, none⟩), .int .i64 a] w fun e w' => e = .returned (.tuple #[.int .i64 (ovTo s (1) g a), .bool (decide (ovOk (bl s) a (1)))]) ∧ Ow.Own w [(y, walkO b (ovGo s (1) g a))] w' := by
  have hsz := hp.size
  have hO0 := (Own.start hG).know on (by simp) h2
  refine enter Tryz.func179 rfl rfl rfl 0 ?_
  refine SC.sr ?_
  refine SO.as ?_
  refine SO.as ?_
  refine SO.nn ?_
  refine SC.sr ?_
  refine SO.mv ?_
  refine SO.mv ?_
  refine SO.call rfl rfl rfl rfl (.callF rfl rfl en205) (mv_over y b g s lim _ (1) _ (hO0.good hG) h2 (hO0.at (i := 0) rfl) (store_walked hp on hO0) (by decide)) ?_
  rintro _ w1 ⟨rfl, hb1⟩
  have hO1 := hO0.thenAt (i := 0) rfl hb1
  refine ⟨_, rfl, ?_⟩
  refine SO.v (.extract rfl rfl rfl) ?_
  refine SO.v (.extract rfl rfl rfl) ?_
  refine SO.as ?_
  refine SO.as ?_
  refine SO.nn ?_
  refine SC.ret ?_
  refine SQ.out (.inl rfl) (res2 rfl rfl rfl) ?_
  exact ⟨rfl, hO1⟩

end Go.Proofs.YtclgplkkajfenaaGreatDoor
