/- lines: length, newlines, begin, Count, Of. -/
import Derived.Test.YtclgplkkajfenaaGreatDoorStorn
namespace Go.Proofs.YtclgplkkajfenaaGreatDoor
open Go Go.RowKit Ow
/-- A text that somebody keeps. -/
def TextAt (w : World) (v : Value) (s : ByteArray) : Prop :=
  (∃ (b lim : Nat), v = .iface 57 (.pointer (some ⟨b, 0, none⟩)) ∧ GapAt w b s lim) ∨ (∃ (b lim : Nat), v = .iface 56 (.pointer (some ⟨b, 0, none⟩)) ∧ StoreAt w b s lim)
theorem TextAt.below {w w' : World} {v : Value} {s : ByteArray} (h : TextAt w v s) (hb : Below w.heap.size w w') : TextAt w' v s := by
  rcases h with ⟨b, lim, e, h⟩ | ⟨b, lim, e, h⟩
  · exact .inl ⟨b, lim, e, h.below hb⟩
  · exact .inr ⟨b, lim, e, h.below hb⟩
theorem TextAt.iface {w : World} {v : Value} {s : ByteArray} (h : TextAt w v s) : ∃ (T : Nat) (x : Value), v = .iface T x := by
  rcases h with ⟨b, _, e, _⟩ | ⟨b, _, e, _⟩
  · exact ⟨_, _, e⟩
  · exact ⟨_, _, e⟩
theorem TextAt.size {w : World} {v : Value} {s : ByteArray} (h : TextAt w v s) : s.size ≤ 1073741824 := by
  rcases h with ⟨b, lim, _, rb, l, fr, tu, _, _, h⟩ | ⟨b, lim, _, u, k, lo, tp, mv, fo, ed, _, h⟩
  · exact Nat.le_trans h.fits h.lm
  · exact Nat.le_trans h.sizes.2 h.sizes.1
theorem text_len {v : Value} {s : ByteArray} {w : World} (hG : Good w) (h : TextAt w v s) : MC "Len" v [] w fun e w' => e = .returned (.int .i64 (s.size : Int)) ∧ Below w.heap.size w w' := by
  rcases h with ⟨b, lim, e, h⟩ | ⟨b, lim, e, h⟩
  · exact ⟨_, _, _, _, e, mt57_Len _, en254, gap_len b s lim w hG h⟩
  · exact ⟨_, _, _, _, e, mt56_Len _, en91, store_len b s lim w hG h⟩
theorem text_slice {v : Value} {s : ByteArray} {w : World} (hG : Good w) (h : TextAt w v s) (a c : Int) : MC "Slice" v [.int .i64 a, .int .i64 c] w fun e w' => e = .returned (.tuple #[.string (slT s a c), .int .i64 (slE s a c)]) ∧ Below w.heap.size w w' := by
  rcases h with ⟨b, lim, e, h⟩ | ⟨b, lim, e, h⟩
  · exact ⟨_, _, _, _, e, mt57_Slice _, en257, gap_slice b s lim a c w hG h⟩
  · exact ⟨_, _, _, _, e, mt56_Slice _, en95, store_slice b s lim a c w hG h⟩
theorem text_measure {v : Value} {s : ByteArray} {w : World} (hG : Good w) (h : TextAt w v s) (a c : Int) : MC "Measure" v [.int .i64 a, .int .i64 c] w fun e w' => ∃ m : Smy, e = .returned (.tuple #[smV m, .int .i64 (slE s a c)]) ∧ (¬ bad s a c → m.nl = nlC (pc (bl s) a c)) ∧ Below w.heap.size w w' := by
  rcases h with ⟨b, lim, e, h⟩ | ⟨b, lim, e, h⟩
  · obtain ⟨T, u, f, r, e1, h1, h2, h3⟩ := under_measure hG (.inl ⟨b, e, h⟩) a c
    exact ⟨T, u, f, r, e1, h1, h2, h3⟩
  · exact ⟨_, _, _, _, e, mt56_Measure _, en105, store_measure b s lim a c w hG h⟩
/-- How many newlines stand ahead of i. -/
def nlT (l : Bs) (i : Nat) : Nat := nlC (l.take i)
theorem nlT_mono (l : Bs) {i j : Nat} (h : i ≤ j) : nlT l i ≤ nlT l j := by
  have e : l.take i = (l.take j).take i := by rw [List.take_take, Nat.min_eq_left h]
  unfold nlT; rw [e]
  have := nlC_append ((l.take j).take i) ((l.take j).drop i)
  rw [List.take_append_drop] at this
  omega
theorem pc_zero (l : Bs) (i : Nat) (h : i ≤ l.length) : pc l 0 (i : Int) = l.take i := by
  unfold pc
  rw [show (max (0 : Int) 0).toNat = 0 by omega, List.drop_zero]
  congr 1; omega
theorem nlT_len (l : Bs) : nlT l l.length = nlC l := by unfold nlT; rw [List.take_of_length_le (Nat.le_refl _)]
theorem nlT_le (l : Bs) (i : Nat) : nlT l i ≤ i := by
  have := nlC_le (l.take i)
  simp only [List.length_take] at this
  unfold nlT; omega
/-- Where a line begins. -/
def bgn : Bs → Int → Nat
  | [], _ => 0
  | x :: r, k => if k ≤ 0 then 0 else 1 + bgn r (if x = 10 then k - 1 else k)
theorem nlT_cons (x : UInt8) (r : Bs) (i : Nat) : nlT (x :: r) (i + 1) = (if x = 10 then 1 else 0) + nlT r i := by
  unfold nlT nlC Lib.countByte
  rw [List.take_succ_cons, List.count_cons]
  by_cases h : x = 10
  · subst h; simp; omega
  · rw [if_neg h]; simp [h]
theorem nlT_zero (l : Bs) : nlT l 0 = 0 := by simp [nlT, nlC, Lib.countByte]
theorem bgn_le (l : Bs) : ∀ k, bgn l k ≤ l.length := by
  induction l with
  | nil => intro k; exact Nat.le_refl _
  | cons x r ih =>
    intro k
    rw [bgn]; split
    · exact Nat.zero_le _
    · have := ih (if x = 10 then k - 1 else k); simp only [List.length_cons]; omega
theorem bgn_eq (l : Bs) : ∀ (k : Int) (n : Nat), n ≤ l.length → (∀ t, t < n → ¬ k ≤ nlT l t) → (n < l.length → k ≤ nlT l n) → bgn l k = n := by
  induction l with
  | nil => intro k n h _ _; simp at h; rw [h]; rfl
  | cons x r ih =>
    intro k n h h1 h2
    rw [bgn]
    cases n with
    | zero =>
      have := h2 (by simp)
      rw [nlT_zero] at this
      rw [if_pos (by simpa using this)]
    | succ n =>
      have h0 := h1 0 (by omega)
      rw [nlT_zero] at h0
      rw [if_neg (by simpa using h0), ih (if x = 10 then k - 1 else k) n (by simpa using h)]
      · omega
      · intro t ht hk
        refine h1 (t + 1) (by omega) ?_
        rw [nlT_cons]
        split at hk <;> rename_i e <;> simp only [e, if_true, if_false] <;> omega
      · intro hn
        have := h2 (by simpa using hn)
        rw [nlT_cons] at this
        split <;> rename_i e <;> simp only [e, if_true, if_false] at this <;> omega

set_option maxRecDepth 20000 in
set_option maxHeartbeats 400000 in
theorem lines_length (v : Value) (s : ByteArray) (w : World) (hG : Good w) (ht : TextAt w v s) :
    Calls Tryz.prog 80 #[v] w fun e w' => e = .returned (.int .i64 (s.size : Int)) ∧ Below w.heap.size w w' := by
  have hsz := ht.size
  obtain ⟨tT, tx, rfl⟩ := ht.iface
  have hO0 := Own.start hG
  refine enter Tryz.func80 rfl rfl rfl 0 ?_
  refine SC.seq ?_
  refine SC.region ?_
  refine SO.val rfl rfl rfl rfl (.assign rfl rfl) ?_
  refine SO.nil ?_
  refine SQ.then_normal ?_
  refine SC.seq ?_
  refine SC.seq ?_
  refine SC.region ?_
  refine SO.val rfl rfl rfl rfl (.move rfl rfl) ?_
  refine SO.val rfl rfl rfl rfl (.ifaceNilF rfl rfl Tryz.underlying28) ?_
  refine SO.nil ?_
  refine SQ.then_normal ?_
  refine SC.no rfl ?_
  refine SC.skip ?_
  refine SQ.then_normal ?_
  refine SC.seq ?_
  refine SC.region ?_
  refine SO.val rfl rfl rfl rfl (.move rfl rfl) ?_
  obtain ⟨T1, u1, f1, r1, e1, hm1, he1, hc1⟩ := text_len (hO0.good hG) (ht.below (hO0.toBelow trivial))
  cases e1
  refine SO.call rfl rfl rfl rfl (.callI rfl rfl rfl hm1 he1) (hc1) ?_
  rintro _ w1 ⟨rfl, hb1⟩
  have hO1 := hO0.below hb1
  refine ⟨_, rfl, ?_⟩
  refine SO.val rfl rfl rfl rfl (.assign rfl rfl) ?_
  refine SO.nil ?_
  refine SQ.then_normal ?_
  refine SC.ret ?_
  refine SQ.out (.inl rfl) (res1 rfl rfl) ?_
  exact ⟨rfl, hO1.toBelow trivial⟩

set_option maxRecDepth 20000 in
set_option maxHeartbeats 400000 in
theorem lines_slice (v : Value) (s : ByteArray) (a c : Int) (w : World) (hG : Good w) (ht : TextAt w v s) :
    Calls Tryz.prog 77 #[v, .int .i64 a, .int .i64 c] w fun e w' => e = .returned (.string (slT s a c)) ∧ Below w.heap.size w w' := by
  have hsz := ht.size
  obtain ⟨tT, tx, rfl⟩ := ht.iface
  have hO0 := Own.start hG
  refine enter Tryz.func77 rfl rfl rfl 0 ?_
  refine SC.seq ?_
  refine SC.region ?_
  refine SO.val rfl rfl rfl rfl (.assign rfl rfl) ?_
  refine SO.nil ?_
  refine SQ.then_normal ?_
  refine SC.seq ?_
  refine SC.seq ?_
  refine SC.region ?_
  refine SO.val rfl rfl rfl rfl (.move rfl rfl) ?_
  refine SO.val rfl rfl rfl rfl (.ifaceNilF rfl rfl Tryz.underlying28) ?_
  refine SO.nil ?_
  refine SQ.then_normal ?_
  refine SC.no rfl ?_
  refine SC.skip ?_
  refine SQ.then_normal ?_
  refine SC.seq ?_
  refine SC.region ?_
  refine SO.val rfl rfl rfl rfl (.move rfl rfl) ?_
  refine SO.val rfl rfl rfl rfl (.move rfl rfl) ?_
  refine SO.val rfl rfl rfl rfl (.move rfl rfl) ?_
  obtain ⟨T1, u1, f1, r1, e1, hm1, he1, hc1⟩ := text_slice (hO0.good hG) (ht.below (hO0.toBelow trivial)) a c
  cases e1
  refine SO.call rfl rfl rfl rfl (.callI rfl rfl rfl hm1 he1) (hc1) ?_
  rintro _ w1 ⟨rfl, hb1⟩
  have hO1 := hO0.below hb1
  refine ⟨_, rfl, ?_⟩
  refine SO.val rfl rfl rfl rfl (.move rfl rfl) ?_
  refine SO.val rfl rfl rfl rfl (.extract rfl rfl rfl) ?_
  refine SO.val rfl rfl rfl rfl (.extract rfl rfl rfl) ?_
  refine SO.val rfl rfl rfl rfl (.assign rfl rfl) ?_
  refine SO.val rfl rfl rfl rfl (.assign rfl rfl) ?_
  refine SO.nil ?_
  refine SQ.then_normal ?_
  refine SC.seq ?_
  refine SC.region ?_
  refine SO.val rfl rfl rfl rfl (.move rfl rfl) ?_
  refine SO.val rfl rfl rfl rfl (.assign rfl rfl) ?_
  refine SO.nil ?_
  refine SQ.then_normal ?_
  refine SC.ret ?_
  refine SQ.out (.inl rfl) (res1 rfl rfl) ?_
  exact ⟨rfl, hO1.toBelow trivial⟩

set_option maxRecDepth 20000 in
set_option maxHeartbeats 400000 in
theorem lines_newlines (v : Value) (s : ByteArray) (i : Nat) (w : World) (hG : Good w) (ht : TextAt w v s) (hi : i ≤ s.size) :
    Calls Tryz.prog 81 #[v, .int .i64 (i : Nat)] w fun e w' => e = .returned (.int .i64 (nlT (bl s) i)) ∧ Below w.heap.size w w' := by
  have hsz := ht.size
  obtain ⟨tT, tx, rfl⟩ := ht.iface
  have hO0 := Own.start hG
  refine enter Tryz.func81 rfl rfl rfl 0 ?_
  refine SC.seq ?_
  refine SC.region ?_
  refine SO.val rfl rfl rfl rfl (.assign rfl rfl) ?_
  refine SO.nil ?_
  refine SQ.then_normal ?_
  refine SC.seq ?_
  refine SC.seq ?_
  refine SC.region ?_
  refine SO.val rfl rfl rfl rfl (.move rfl rfl) ?_
  refine SO.val rfl rfl rfl rfl (.ifaceNilF rfl rfl Tryz.underlying28) ?_
  refine SO.nil ?_
  refine SQ.then_normal ?_
  refine SC.no rfl ?_
  refine SC.skip ?_
  refine SQ.then_normal ?_
  refine SC.seq ?_
  refine SC.region ?_
  refine SO.val rfl rfl rfl rfl (.move rfl rfl) ?_
  refine SO.val rfl rfl rfl rfl (.move rfl rfl) ?_
  obtain ⟨T1, u1, f1, r1, e1, hm1, he1, hc1⟩ := text_measure (hO0.good hG) (ht.below (hO0.toBelow trivial)) 0 i
  cases e1
  refine SO.call rfl rfl rfl rfl (.callI rfl rfl rfl hm1 he1) (hc1) ?_
  rintro _ w1 ⟨m, rfl, hm, hb1⟩
  have hO1 := hO0.below hb1
  refine ⟨_, rfl, ?_⟩
  refine SO.val rfl rfl rfl rfl (.move rfl rfl) ?_
  refine SO.val rfl rfl rfl rfl (.extract rfl rfl rfl) ?_
  refine SO.val rfl rfl rfl rfl (.extract rfl rfl rfl) ?_
  refine SO.alloc hO1 rfl rfl rfl rfl zv91 [_, _, _, _, _, _, _] rfl ?_
  intro b2 w2 hb2 hO2
  refine SO.store hO2 (i := 0) rfl rfl rfl rfl rfl rfl sz91 rfl rfl [(_, .cells [_, _, _, _, _, _, _].toArray _ _)] rfl ?_
  intro w3 hO3
  refine SO.val rfl rfl rfl rfl (.assign rfl rfl) ?_
  refine SO.nil ?_
  refine SQ.then_normal ?_
  refine SC.seq ?_
  refine SC.region ?_
  refine SO.val rfl rfl rfl rfl (.fieldAddr rfl rfl fa91_4) ?_
  refine SO.val rfl rfl rfl rfl (.load rfl rfl ag3 (cell_of' (hO3.at (i := 0) rfl) rfl)) ?_
  refine SO.val rfl rfl rfl rfl (.assign rfl rfl) ?_
  refine SO.nil ?_
  refine SQ.then_normal ?_
  refine SC.ret ?_
  refine SQ.out (.inl rfl) (res1 rfl rfl) ?_
  exact ⟨(show Ending.returned (.int .i64 m.nl) = _ by rw [hm (by unfold bad; omega), pc_zero _ _ (by rw [bl_length]; exact hi)]; rfl), hO3.toBelow ⟨hb2, trivial⟩⟩

set_option maxRecDepth 20000 in
set_option maxHeartbeats 400000 in
theorem begin1_any (v : Value) (s : ByteArray) (k : Int) (y1 y2 : Nat) (i : Nat) (w : World) (hG : Good w) (ht : TextAt w v s) (hi : i ≤ s.size) (h1 : w.heap[y1]? = some (.cells [v].toArray 28 (0, 0))) (h2 : w.heap[y2]? = some (.cells [.int .i64 k].toArray 3 (0, 0))) :
    Calls Tryz.prog 143 #[.int .i64 i, .pointer (some ⟨y1, 0, none⟩), .pointer (some ⟨y2, 0, none⟩)] w fun e w' => e = .returned (.bool (decide (k ≤ nlT (bl s) i))) ∧ Below w.heap.size w w' := by
  have hsz := ht.size
  obtain ⟨tT, tx, rfl⟩ := ht.iface
  have hO0 := Own.start hG
  refine enter Tryz.func143 rfl rfl rfl 0 ?_
  refine SC.seq ?_
  refine SC.region ?_
  refine SO.val rfl rfl rfl rfl (.assign rfl rfl) ?_
  refine SO.nil ?_
  refine SQ.then_normal ?_
  refine SC.seq ?_
  refine SC.drawO mixed hO0 (fun hO1 => ?_)
  first | refine SA.take (by kernel_rfl) 0 rfl (by kernel_rfl) (by kernel_rfl) rfl rfl (fun _ _ _ h => h) rfl hO1 (fun v hv => .load rfl rfl ag28 (cell_of' (hv.heapO trivial h1) rfl)) ?_ | refine SA.take (by kernel_rfl) 0 rfl (by kernel_rfl) (by kernel_rfl) rfl rfl (fun _ _ _ h => h) rfl hO1 (fun v hv => .load rfl rfl ag28 (cell_of' (hv.heapO trivial h2) rfl)) ?_
  refine SA.take (by kernel_rfl) 1 rfl (by kernel_rfl) (by kernel_rfl) rfl rfl (fun _ _ _ h => h) rfl hO1 (fun v hv => .move rfl rfl) ?_
  first | refine SA.take (by kernel_rfl) 3 rfl (by kernel_rfl) (by kernel_rfl) rfl rfl (fun _ _ _ h => h) rfl hO1 (fun v hv => .load rfl rfl ag3 (cell_of' (hv.heapO trivial h1) rfl)) ?_ | refine SA.take (by kernel_rfl) 3 rfl (by kernel_rfl) (by kernel_rfl) rfl rfl (fun _ _ _ h => h) rfl hO1 (fun v hv => .load rfl rfl ag3 (cell_of' (hv.heapO trivial h2) rfl)) ?_
  refine SA.one 2 (by kernel_rfl) ?_
  refine SB.call rfl rfl rfl rfl (.callF rfl rfl en81) (lines_newlines _ s i _ (hO1.good hG) (ht.below (hO1.toBelow trivial)) hi) ?_
  rintro _ w2 ⟨rfl, hb2⟩
  have hO2 := hO1.below hb2
  refine ⟨_, rfl, hO2, ?_⟩
  refine SA.take (by kernel_rfl) 4 rfl (by kernel_rfl) (by kernel_rfl) rfl rfl (fun _ _ _ h => h) rfl hO2 (fun v hv => .geq rfl rfl rfl) ?_
  refine SA.take (by kernel_rfl) 5 rfl (by kernel_rfl) (by kernel_rfl) rfl rfl (fun _ _ _ h => h) rfl hO2 (fun v hv => .assign rfl rfl) ?_
  refine SA.done (by kernel_rfl) ?_
  refine SQ.then_normal ?_
  refine SC.ret ?_
  refine SQ.out (.inl rfl) (res1 rfl rfl) ?_
  exact ⟨rfl, hO2.toBelow trivial⟩

set_option maxRecDepth 20000 in
set_option maxHeartbeats 400000 in
theorem lines_begin (v : Value) (s : ByteArray) (k : Int) (w : World) (hG : Good w) (ht : TextAt w v s) :
    Calls Tryz.prog 82 #[v, .int .i64 k] w fun e w' => e = .returned (.int .i64 (bgn (bl s) k)) ∧ Below w.heap.size w w' := by
  have hsz := ht.size
  obtain ⟨tT, tx, rfl⟩ := ht.iface
  have hO0 := Own.start hG
  refine enter Tryz.func82 rfl rfl rfl 0 ?_
  refine SC.seq ?_
  refine SC.region ?_
  refine SO.box hO0 rfl rfl rfl rfl rfl [_] rfl ?_
  intro b1 w1 hb1 hO1
  refine SO.box hO1 rfl rfl rfl rfl rfl [_] rfl ?_
  intro b2 w2 hb2 hO2
  refine SO.val rfl rfl rfl rfl (.assign rfl rfl) ?_
  refine SO.nil ?_
  refine SQ.then_normal ?_
  refine SC.seq ?_
  refine SC.region ?_
  refine SO.val rfl rfl rfl rfl (.load rfl rfl ag28 (cell_of' (hO2.at (i := 1) rfl) rfl)) ?_
  refine SO.call rfl rfl rfl rfl (.callF rfl rfl en80) (lines_length _ s _ (hO2.good hG) (ht.below (hO2.toBelow ⟨hb2, hb1, trivial⟩))) ?_
  rintro _ w3 ⟨rfl, hb3⟩
  have hO3 := hO2.below hb3
  refine ⟨_, rfl, ?_⟩
  refine SO.val rfl rfl rfl rfl (.makeFunc rfl rfl) ?_
  refine SO.call rfl rfl rfl rfl (.callF rfl rfl en142) (search_any s.size 143 #[] _ (fun t => k ≤ nlT (bl s) t) _ (hO3.good hG) (by omega) en143 (fun i j hij _ h => Int.le_trans h (Int.ofNat_le.2 (nlT_mono _ hij))) (fun i hi w' hb => begin1_any _ s k b1 b2 i w' ((hO3.below hb).good hG) (ht.below ((hO3.below hb).toBelow ⟨hb2, hb1, trivial⟩)) (Nat.le_of_lt hi) ((hO3.below hb).at (i := 1) rfl) ((hO3.below hb).at (i := 0) rfl))) ?_
  rintro _ w4 ⟨r, rfl, hr, hlo, hhi, hb4⟩
  have hO4 := hO3.below hb4
  refine ⟨_, rfl, ?_⟩
  refine SO.val rfl rfl rfl rfl (.assign rfl rfl) ?_
  refine SO.nil ?_
  refine SQ.then_normal ?_
  refine SC.ret ?_
  refine SQ.out (.inl rfl) (res1 rfl rfl) ?_
  exact ⟨by rw [bgn_eq (bl s) k r (by rw [bl_length]; exact hr) hlo (fun h => hhi r (Nat.le_refl _) (by rw [bl_length] at h; exact h))], hO4.toBelow ⟨hb2, hb1, trivial⟩⟩

set_option maxRecDepth 20000 in
set_option maxHeartbeats 400000 in
theorem lines_count (v : Value) (s : ByteArray) (w : World) (hG : Good w) (ht : TextAt w v s) :
    Calls Tryz.prog 29 #[v] w fun e w' => e = .returned (.int .i64 (nlC (bl s) + 1 : Nat)) ∧ Below w.heap.size w w' := by
  have hsz := ht.size
  obtain ⟨tT, tx, rfl⟩ := ht.iface
  have hnl := nlC_le (bl s)
  rw [bl_length] at hnl
  have hO0 := Own.start hG
  refine enter Tryz.func29 rfl rfl rfl 0 ?_
  refine SC.seq ?_
  refine SC.region ?_
  refine SO.val rfl rfl rfl rfl (.assign rfl rfl) ?_
  refine SO.nil ?_
  refine SQ.then_normal ?_
  refine SC.seq ?_
  refine SC.region ?_
  refine SO.val rfl rfl rfl rfl (.move rfl rfl) ?_
  refine SO.val rfl rfl rfl rfl (.move rfl rfl) ?_
  refine SO.call rfl rfl rfl rfl (.callF rfl rfl en80) (lines_length _ s _ (hO0.good hG) (ht.below (hO0.toBelow trivial))) ?_
  rintro _ w1 ⟨rfl, hb1⟩
  have hO1 := hO0.below hb1
  refine ⟨_, rfl, ?_⟩
  refine SO.call rfl rfl rfl rfl (.callF rfl rfl en81) (lines_newlines _ s s.size _ (hO1.good hG) (ht.below (hO1.toBelow trivial)) (Nat.le_refl _)) ?_
  rintro _ w2 ⟨rfl, hb2⟩
  have hO2 := hO1.below hb2
  refine ⟨_, rfl, ?_⟩
  refine SO.val rfl rfl rfl rfl (.add rfl rfl rfl (by have := nlT_le (bl s) s.size; omega)) ?_
  refine SO.val rfl rfl rfl rfl (.assign rfl rfl) ?_
  refine SO.nil ?_
  refine SQ.then_normal ?_
  refine SC.ret ?_
  refine SQ.out (.inl rfl) (res1 rfl rfl) ?_
  exact ⟨(show Ending.returned (.int .i64 ((nlT (bl s) s.size : Nat) + 1)) = _ by rw [show s.size = (bl s).length from rfl, nlT_len]; rfl), hO2.toBelow trivial⟩

def ofN (l : Bs) (a : Int) : Int := if a < 0 ∨ a > l.length then 0 else nlT l a.toNat
def ofE (l : Bs) (a : Int) : Int := if a < 0 ∨ a > l.length then 1 else 0
/-- Where a line ends. -/
def lend (l : Bs) (k : Int) : Nat :=
  if k + 1 < (nlC l + 1 : Nat) then if bgn l (k + 1) - 1 > bgn l k ∧ by' l (bgn l (k + 1) - 1 - 1) = 13 then bgn l (k + 1) - 1 - 1 else bgn l (k + 1) - 1 else l.length
def noLine (l : Bs) (k : Int) : Prop := k < 0 ∨ k ≥ (nlC l + 1 : Nat)
instance (l : Bs) (k : Int) : Decidable (noLine l k) := by unfold noLine; infer_instance
def spF (l : Bs) (k : Int) : Nat := if noLine l k then 0 else bgn l k
def spT (l : Bs) (k : Int) : Nat := if noLine l k then 0 else lend l k
def spE (l : Bs) (k : Int) : Int := if noLine l k then 1 else 0

set_option maxRecDepth 20000 in
set_option maxHeartbeats 400000 in
theorem lines_of (v : Value) (s : ByteArray) (a : Int) (w : World) (hG : Good w) (ht : TextAt w v s) :
    Calls Tryz.prog 27 #[v, .int .i64 a] w fun e w' => e = .returned (.tuple #[.int .i64 (ofN (bl s) a), .int .i64 (ofE (bl s) a)]) ∧ Below w.heap.size w w' := by
  have hsz := ht.size
  obtain ⟨tT, tx, rfl⟩ := ht.iface
  have hO0 := Own.start hG
  refine enter Tryz.func27 rfl rfl rfl 0 ?_
  refine SC.seq ?_
  refine SC.region ?_
  refine SO.val rfl rfl rfl rfl (.assign rfl rfl) ?_
  refine SO.val rfl rfl rfl rfl (.assign rfl rfl) ?_
  refine SO.nil ?_
  refine SQ.then_normal ?_
  refine SC.seq ?_
  refine SC.seq ?_
  refine SC.region ?_
  refine SO.val rfl rfl rfl rfl (.move rfl rfl) ?_
  refine SO.val rfl rfl rfl rfl (.lss rfl rfl rfl) ?_
  refine SO.val rfl rfl rfl rfl (.move rfl rfl) ?_
  refine SO.dec 8 rfl (fun g1 => ?_) (fun g1 => ?_)
  ·
    refine SO.pass rfl rfl rfl ?_
    refine SO.pass rfl rfl rfl ?_
    refine SO.pass rfl rfl rfl ?_
    refine SO.pass rfl rfl rfl ?_
    refine SO.val rfl rfl rfl rfl (.pickT rfl rfl rfl) ?_
    refine SO.nil ?_
    refine SQ.then_normal ?_
    refine SC.yes rfl ?_
    refine SC.seq ?_
    refine SC.region ?_
    refine SO.val rfl rfl rfl rfl (.assign rfl rfl) ?_
    refine SO.val rfl rfl rfl rfl (.assign rfl rfl) ?_
    refine SO.nil ?_
    refine SQ.then_normal ?_
    refine SC.ret ?_
    refine SQ.then_ret ?_
    refine SQ.out (.inl rfl) (res2 rfl rfl rfl) ?_
    refine ⟨?_, hO0.toBelow trivial⟩
    unfold ofN ofE
    rw [bl_length]
    first | (rw [if_pos (by omega), if_pos (by omega)]; done) | (rw [if_pos (by omega), if_pos (by omega)]; rfl) | (rw [if_neg (by omega), if_neg (by omega)]; rfl)
  ·
    refine SO.val rfl rfl rfl rfl (.move rfl rfl) ?_
    refine SO.val rfl rfl rfl rfl (.move rfl rfl) ?_
    refine SO.call rfl rfl rfl rfl (.callF rfl rfl en80) (lines_length _ s _ (hO0.good hG) (ht.below (hO0.toBelow trivial))) ?_
    rintro _ w3 ⟨rfl, hb3⟩
    have hO3 := hO0.below hb3
    refine ⟨_, rfl, ?_⟩
    refine SO.val rfl rfl rfl rfl (.gtr rfl rfl rfl) ?_
    refine SO.val rfl rfl rfl rfl (.pickF rfl rfl rfl) ?_
    refine SO.nil ?_
    refine SQ.then_normal ?_
    refine SC.dec rfl (fun c4 => ?_) (fun c4 => ?_)
    ·
      refine SC.seq ?_
      refine SC.region ?_
      refine SO.val rfl rfl rfl rfl (.assign rfl rfl) ?_
      refine SO.val rfl rfl rfl rfl (.assign rfl rfl) ?_
      refine SO.nil ?_
      refine SQ.then_normal ?_
      refine SC.ret ?_
      refine SQ.then_ret ?_
      refine SQ.out (.inl rfl) (res2 rfl rfl rfl) ?_
      refine ⟨?_, hO3.toBelow trivial⟩
      unfold ofN ofE
      rw [bl_length]
      first | (rw [if_pos (by omega), if_pos (by omega)]; done) | (rw [if_pos (by omega), if_pos (by omega)]; rfl) | (rw [if_neg (by omega), if_neg (by omega)]; rfl)
    ·
      refine SC.skip ?_
      refine SQ.then_normal ?_
      refine SC.seq ?_
      obtain ⟨i, rfl⟩ := Int.eq_ofNat_of_zero_le (show 0 ≤ a by omega)
      refine SC.region ?_
      refine SO.val rfl rfl rfl rfl (.move rfl rfl) ?_
      refine SO.val rfl rfl rfl rfl (.move rfl rfl) ?_
      refine SO.call rfl rfl rfl rfl (.callF rfl rfl en81) (lines_newlines _ s i _ (hO3.good hG) (ht.below (hO3.toBelow trivial)) (by omega)) ?_
      rintro _ w6 ⟨rfl, hb6⟩
      have hO6 := hO3.below hb6
      refine ⟨_, rfl, ?_⟩
      refine SO.val rfl rfl rfl rfl (.assign rfl rfl) ?_
      refine SO.val rfl rfl rfl rfl (.assign rfl rfl) ?_
      refine SO.nil ?_
      refine SQ.then_normal ?_
      refine SC.ret ?_
      refine SQ.out (.inl rfl) (res2 rfl rfl rfl) ?_
      refine ⟨?_, hO6.toBelow trivial⟩
      unfold ofN ofE
      rw [bl_length]
      first | (rw [if_pos (by omega), if_pos (by omega)]; done) | (rw [if_pos (by omega), if_pos (by omega)]; rfl) | (rw [if_neg (by omega), if_neg (by omega)]; rfl)

end Go.Proofs.YtclgplkkajfenaaGreatDoor
