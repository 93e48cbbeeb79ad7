/- gap.Buffer: what asks. -/
import Derived.Test.YtclgplkkajfenaaGreatDoorJoin
import Derived.Test.YtclgplkkajfenaaGreatDoorOw9
namespace Go.Proofs.YtclgplkkajfenaaGreatDoor
open Go Go.RowKit Ow
/-! What a text answers of a piece -/
def bad (s : ByteArray) (a c : Int) : Prop := a < 0 ∨ c < a ∨ c > s.size
instance (s : ByteArray) (a c : Int) : Decidable (bad s a c) := by unfold bad; infer_instance
def slT (s : ByteArray) (a c : Int) : ByteArray := if bad s a c then ⟨#[]⟩ else s.extract a.toNat c.toNat
def slE (s : ByteArray) (a c : Int) : Int := if bad s a c then 1 else 0
def msT (s : ByteArray) (a c : Int) : Smy := if bad s a c then zS else measS (s.extract a.toNat c.toNat)
theorem slT_size (s : ByteArray) (a c : Int) : (slT s a c).size ≤ s.size := by
  unfold slT; split
  · exact Nat.zero_le _
  · simp; omega
/-! Gap buffers -/
def gapO (rb cap fr tu lim : Nat) : Obj := .cells #[.slice (some ⟨rb, 0, none⟩) cap cap, .int .i64 (fr : Int), .int .i64 (tu : Int), .int .i64 (lim : Int)] 146 (0, 0)
/-- What a gap buffer's parts are tu each other. -/
structure GapS (l : Bs) (fr tu lim : Nat) (s : ByteArray) : Prop where
  ft : fr ≤ tu
  tl : tu ≤ l.length
  txt : bl s = l.take fr ++ l.drop tu
  cp : l.length ≤ 1099511627776
  lm : lim ≤ 1073741824
  fits : s.size ≤ lim
def GapAt (w : World) (b : Nat) (s : ByteArray) (lim : Nat) : Prop := ∃ rb l fr tu, w.heap[b]? = some (gapO rb (List.length l) fr tu lim) ∧ w.heap[rb]? = some (bytesO l) ∧ GapS l fr tu lim s
theorem GapAt.below {w w' : World} {b : Nat} {s : ByteArray} {lim : Nat} (h : GapAt w b s lim) (hb : Below w.heap.size w w') : GapAt w' b s lim := by
  obtain ⟨rb, l, fr, tu, h1, h2, h3⟩ := h
  exact ⟨rb, l, fr, tu, (hb.block b (lt_of_heap h1)).trans h1, (hb.block rb (lt_of_heap h2)).trans h2, h3⟩
theorem GapS.size {l : Bs} {fr tu lim : Nat} {s : ByteArray} (h : GapS l fr tu lim s) : s.size = l.length - (tu - fr) := by
  have := congrArg List.length h.txt
  rw [bl_length] at this
  simp only [List.length_append, List.length_take, List.length_drop] at this
  have := h.ft; have := h.tl; omega
theorem str_eq {x : Bs} {s : ByteArray} (h : x = bl s) : (⟨x.toArray⟩ : ByteArray) = s := bl_inj h
theorem bl_mk (x : Bs) : bl ⟨x.toArray⟩ = x := rfl
theorem sl_drop {l : Bs} {a k : Nat} (h : a + k ≤ l.length) : (l.drop (sl l.length a)).take k = (l.drop a).take k := by
  unfold sl; split
  · rename_i e; rw [show k = 0 by omega]; simp
  · rfl
theorem gap_left {l : Bs} {fr tu lim a c : Nat} {s : ByteArray} (h : GapS l fr tu lim s) (h1 : a ≤ c) (h2 : c ≤ fr) : (⟨((l.drop (sl l.length a)).take (c - a)).toArray⟩ : ByteArray) = s.extract a c := by
  have := h.ft; have := h.tl
  refine str_eq ?_
  rw [sl_drop (by omega), bl_extract, h.txt, List.take_append_of_le_length (by simp; omega), List.take_take, Nat.min_eq_left h2, List.drop_take]
theorem gap_right {l : Bs} {fr tu lim a c : Nat} {s : ByteArray} (h : GapS l fr tu lim s) (h1 : a ≤ c) (h2 : fr ≤ a) (h3 : c ≤ s.size) :
    (⟨((l.drop (sl l.length (a + (tu - fr)))).take (c + (tu - fr) - (a + (tu - fr)))).toArray⟩ : ByteArray) = s.extract a c := by
  have := h.ft; have := h.tl; have := h.size
  refine str_eq ?_
  have hl : (List.take fr l).length = fr := by simp; omega
  have e0 : List.drop a (List.take fr l) = [] := List.drop_of_length_le (by rw [hl]; exact h2)
  rw [sl_drop (by omega), bl_extract, h.txt, List.drop_take, List.drop_append, e0, List.nil_append, List.drop_drop, hl, show tu + (a - fr) = a + (tu - fr) by omega, show c + (tu - fr) - (a + (tu - fr)) = c - a by omega]
theorem gap_both {l : Bs} {fr tu lim a c : Nat} {s : ByteArray} (h : GapS l fr tu lim s) (h1 : a ≤ fr) (h2 : fr ≤ c) (h3 : c ≤ s.size) :
    (⟨((l.drop (sl l.length a)).take (fr - a)).toArray⟩ : ByteArray) ++ ⟨((l.drop (sl l.length tu)).take (c + (tu - fr) - tu)).toArray⟩ = s.extract a c := by
  have := h.ft; have := h.tl; have := h.size
  refine bl_inj ?_
  rw [bl_append, bl_mk, bl_mk, sl_drop (by omega), sl_drop (by omega), bl_extract, h.txt, List.take_append]
  have hl : (List.take fr l).length = fr := by simp; omega
  rw [hl, List.take_take, Nat.min_eq_right h2, List.drop_append, hl, show a - fr = 0 by omega, List.drop_zero, List.drop_take, show c + (tu - fr) - tu = c - fr by omega]

set_option maxRecDepth 20000 in
set_option maxHeartbeats 400000 in
theorem gap_len (b : Nat) (s : ByteArray) (lim : Nat) (w : World) (hG : Good w) (hg : GapAt w b s lim) :
    Calls Tryz.prog 254 #[.pointer (some ⟨b, 0, none⟩)] w fun e w' => e = .returned (.int .i64 (s.size : Int)) ∧ Below w.heap.size w w' := by
  obtain ⟨rb, l, fr, tu, hb, hr, hS⟩ := hg
  have hft := hS.ft; have htl := hS.tl; have hcap := hS.cp; have hlim := hS.lm; have hfits := hS.fits; have hsz := hS.size
  have hO0 := Own.start hG
  refine enter Tryz.func254 rfl rfl rfl 0 ?_
  refine SC.seq ?_
  refine SC.region ?_
  refine SO.val rfl rfl rfl rfl (.assign rfl rfl) ?_
  refine SO.nil ?_
  refine SQ.then_normal ?_
  refine SC.seq ?_
  refine SC.seq ?_
  refine SC.region ?_
  refine SO.val rfl rfl rfl rfl (.move rfl rfl) ?_
  refine SO.val rfl rfl rfl rfl (.ptrEq (b := false) rfl rfl rfl Tryz.underlying57 rfl) ?_
  refine SO.nil ?_
  refine SQ.then_normal ?_
  refine SC.no rfl ?_
  refine SC.skip ?_
  refine SQ.then_normal ?_
  refine SC.seq ?_
  refine SC.drawO mixed hO0 (fun hO1 => ?_)
  refine SA.take (by kernel_rfl) 0 rfl (by kernel_rfl) (by kernel_rfl) rfl rfl (fun _ _ _ h => h) rfl hO1 (fun v hv => .move rfl rfl) ?_
  refine SA.take (by kernel_rfl) 1 rfl (by kernel_rfl) (by kernel_rfl) rfl rfl (fun _ _ _ h => h) rfl hO1 (fun v hv => .nilCheck rfl rfl) ?_
  refine SA.take (by kernel_rfl) 2 rfl (by kernel_rfl) (by kernel_rfl) rfl rfl (fun _ _ _ h => h) rfl hO1 (fun v hv => .fieldAddr rfl rfl fa146_0) ?_
  first | refine SA.take (by kernel_rfl) 3 rfl (by kernel_rfl) (by kernel_rfl) rfl rfl (fun _ _ _ h => h) rfl hO1 (fun v hv => .load rfl rfl ag116 (cell_of' (hv.heapO trivial hb) rfl)) ?_ | refine SA.take (by kernel_rfl) 3 rfl (by kernel_rfl) (by kernel_rfl) rfl rfl (fun _ _ _ h => h) rfl hO1 (fun v hv => .load rfl rfl ag116 (cell_of' (hv.heapO trivial hr) rfl)) ?_
  refine SA.take (by kernel_rfl) 4 rfl (by kernel_rfl) (by kernel_rfl) rfl rfl (fun _ _ _ h => h) rfl hO1 (fun v hv => .lenA rfl rfl Tryz.underlying116) ?_
  refine SA.take (by kernel_rfl) 5 rfl (by kernel_rfl) (by kernel_rfl) rfl rfl (fun _ _ _ h => h) rfl hO1 (fun v hv => .move rfl rfl) ?_
  refine SA.take (by kernel_rfl) 6 rfl (by kernel_rfl) (by kernel_rfl) rfl rfl (fun _ _ _ h => h) rfl hO1 (fun v hv => .nilCheck rfl rfl) ?_
  refine SA.take (by kernel_rfl) 7 rfl (by kernel_rfl) (by kernel_rfl) rfl rfl (fun _ _ _ h => h) rfl hO1 (fun v hv => .fieldAddr rfl rfl fa146_2) ?_
  first | refine SA.take (by kernel_rfl) 8 rfl (by kernel_rfl) (by kernel_rfl) rfl rfl (fun _ _ _ h => h) rfl hO1 (fun v hv => .load rfl rfl ag3 (cell_of' (hv.heapO trivial hb) rfl)) ?_ | refine SA.take (by kernel_rfl) 8 rfl (by kernel_rfl) (by kernel_rfl) rfl rfl (fun _ _ _ h => h) rfl hO1 (fun v hv => .load rfl rfl ag3 (cell_of' (hv.heapO trivial hr) rfl)) ?_
  refine SA.take (by kernel_rfl) 9 rfl (by kernel_rfl) (by kernel_rfl) rfl rfl (fun _ _ _ h => h) rfl hO1 (fun v hv => .move rfl rfl) ?_
  refine SA.take (by kernel_rfl) 10 rfl (by kernel_rfl) (by kernel_rfl) rfl rfl (fun _ _ _ h => h) rfl hO1 (fun v hv => .nilCheck rfl rfl) ?_
  refine SA.take (by kernel_rfl) 11 rfl (by kernel_rfl) (by kernel_rfl) rfl rfl (fun _ _ _ h => h) rfl hO1 (fun v hv => .fieldAddr rfl rfl fa146_1) ?_
  first | refine SA.take (by kernel_rfl) 12 rfl (by kernel_rfl) (by kernel_rfl) rfl rfl (fun _ _ _ h => h) rfl hO1 (fun v hv => .load rfl rfl ag3 (cell_of' (hv.heapO trivial hb) rfl)) ?_ | refine SA.take (by kernel_rfl) 12 rfl (by kernel_rfl) (by kernel_rfl) rfl rfl (fun _ _ _ h => h) rfl hO1 (fun v hv => .load rfl rfl ag3 (cell_of' (hv.heapO trivial hr) rfl)) ?_
  refine SA.take (by kernel_rfl) 13 rfl (by kernel_rfl) (by kernel_rfl) rfl rfl (fun _ _ _ h => h) rfl hO1 (fun v hv => .sub rfl rfl rfl (by omega)) ?_
  refine SA.take (by kernel_rfl) 14 rfl (by kernel_rfl) (by kernel_rfl) rfl rfl (fun _ _ _ h => h) rfl hO1 (fun v hv => .sub rfl rfl rfl (by omega)) ?_
  refine SA.take (by kernel_rfl) 15 rfl (by kernel_rfl) (by kernel_rfl) rfl rfl (fun _ _ _ h => h) rfl hO1 (fun v hv => .assign rfl rfl) ?_
  refine SA.done (by kernel_rfl) ?_
  refine SQ.then_normal ?_
  refine SC.ret ?_
  refine SQ.out (.inl rfl) (res1 rfl rfl) ?_
  refine ⟨?_, hO1.toBelow trivial⟩
  congr 2; omega

set_option maxRecDepth 20000 in
set_option maxHeartbeats 400000 in
theorem gap_limit (b : Nat) (s : ByteArray) (lim : Nat) (w : World) (hG : Good w) (hg : GapAt w b s lim) :
    Calls Tryz.prog 258 #[.pointer (some ⟨b, 0, none⟩)] w fun e w' => e = .returned (.int .i64 (lim : Int)) ∧ Below w.heap.size w w' := by
  obtain ⟨rb, l, fr, tu, hb, hr, hS⟩ := hg
  have hft := hS.ft; have htl := hS.tl; have hcap := hS.cp; have hlim := hS.lm; have hfits := hS.fits; have hsz := hS.size
  have hO0 := Own.start hG
  refine enter Tryz.func258 rfl rfl rfl 0 ?_
  refine SC.seq ?_
  refine SC.region ?_
  refine SO.val rfl rfl rfl rfl (.assign rfl rfl) ?_
  refine SO.nil ?_
  refine SQ.then_normal ?_
  refine SC.seq ?_
  refine SC.seq ?_
  refine SC.region ?_
  refine SO.val rfl rfl rfl rfl (.move rfl rfl) ?_
  refine SO.val rfl rfl rfl rfl (.ptrEq (b := false) rfl rfl rfl Tryz.underlying57 rfl) ?_
  refine SO.nil ?_
  refine SQ.then_normal ?_
  refine SC.no rfl ?_
  refine SC.skip ?_
  refine SQ.then_normal ?_
  refine SC.seq ?_
  refine SC.region ?_
  refine SO.val rfl rfl rfl rfl (.move rfl rfl) ?_
  refine SO.val rfl rfl rfl rfl (.nilCheck rfl rfl) ?_
  refine SO.val rfl rfl rfl rfl (.fieldAddr rfl rfl fa146_3) ?_
  first | refine SO.val rfl rfl rfl rfl (.load rfl rfl ag3 (cell_of' (hO0.heapO trivial hb) rfl)) ?_ | refine SO.val rfl rfl rfl rfl (.load rfl rfl ag3 (cell_of' (hO0.heapO trivial hr) rfl)) ?_
  refine SO.val rfl rfl rfl rfl (.assign rfl rfl) ?_
  refine SO.nil ?_
  refine SQ.then_normal ?_
  refine SC.ret ?_
  refine SQ.out (.inl rfl) (res1 rfl rfl) ?_
  exact ⟨rfl, hO0.toBelow trivial⟩

set_option maxRecDepth 20000 in
set_option maxHeartbeats 400000 in
theorem gap_piece (b : Nat) (s : ByteArray) (lim : Nat) (a c : Int) (w : World) (hG : Good w) (hg : GapAt w b s lim) (h1 : 0 ≤ a) (h2 : a ≤ c) (h3 : c ≤ s.size) :
    Calls Tryz.prog 259 #[.pointer (some ⟨b, 0, none⟩), .int .i64 a, .int .i64 c] w fun e w' => e = .returned (.string (s.extract a.toNat c.toNat)) ∧ Below w.heap.size w w' := by
  obtain ⟨rb, l, fr, tu, hb, hr, hS⟩ := hg
  have hft := hS.ft; have htl := hS.tl; have hcap := hS.cp; have hlim := hS.lm; have hfits := hS.fits; have hsz := hS.size
  obtain ⟨i, rfl⟩ := Int.eq_ofNat_of_zero_le h1
  obtain ⟨j, rfl⟩ := Int.eq_ofNat_of_zero_le (show 0 ≤ c by omega)
  have hO0 := Own.start hG
  refine enter Tryz.func259 rfl rfl rfl 0 ?_
  refine SC.seq ?_
  refine SC.region ?_
  refine SO.val rfl rfl rfl rfl (.assign rfl rfl) ?_
  refine SO.nil ?_
  refine SQ.then_normal ?_
  refine SC.seq ?_
  refine SC.seq ?_
  refine SC.region ?_
  refine SO.val rfl rfl rfl rfl (.move rfl rfl) ?_
  refine SO.val rfl rfl rfl rfl (.ptrEq (b := false) rfl rfl rfl Tryz.underlying57 rfl) ?_
  refine SO.nil ?_
  refine SQ.then_normal ?_
  refine SC.no rfl ?_
  refine SC.skip ?_
  refine SQ.then_normal ?_
  refine SC.seq ?_
  refine SC.drawO mixed hO0 (fun hO1 => ?_)
  refine SA.take (by kernel_rfl) 0 rfl (by kernel_rfl) (by kernel_rfl) rfl rfl (fun _ _ _ h => h) rfl hO1 (fun v hv => .move rfl rfl) ?_
  refine SA.take (by kernel_rfl) 1 rfl (by kernel_rfl) (by kernel_rfl) rfl rfl (fun _ _ _ h => h) rfl hO1 (fun v hv => .nilCheck rfl rfl) ?_
  refine SA.take (by kernel_rfl) 2 rfl (by kernel_rfl) (by kernel_rfl) rfl rfl (fun _ _ _ h => h) rfl hO1 (fun v hv => .fieldAddr rfl rfl fa146_2) ?_
  first | refine SA.take (by kernel_rfl) 3 rfl (by kernel_rfl) (by kernel_rfl) rfl rfl (fun _ _ _ h => h) rfl hO1 (fun v hv => .load rfl rfl ag3 (cell_of' (hv.heapO trivial hb) rfl)) ?_ | refine SA.take (by kernel_rfl) 3 rfl (by kernel_rfl) (by kernel_rfl) rfl rfl (fun _ _ _ h => h) rfl hO1 (fun v hv => .load rfl rfl ag3 (cell_of' (hv.heapO trivial hr) rfl)) ?_
  refine SA.take (by kernel_rfl) 4 rfl (by kernel_rfl) (by kernel_rfl) rfl rfl (fun _ _ _ h => h) rfl hO1 (fun v hv => .move rfl rfl) ?_
  refine SA.take (by kernel_rfl) 5 rfl (by kernel_rfl) (by kernel_rfl) rfl rfl (fun _ _ _ h => h) rfl hO1 (fun v hv => .nilCheck rfl rfl) ?_
  refine SA.take (by kernel_rfl) 6 rfl (by kernel_rfl) (by kernel_rfl) rfl rfl (fun _ _ _ h => h) rfl hO1 (fun v hv => .fieldAddr rfl rfl fa146_1) ?_
  first | refine SA.take (by kernel_rfl) 7 rfl (by kernel_rfl) (by kernel_rfl) rfl rfl (fun _ _ _ h => h) rfl hO1 (fun v hv => .load rfl rfl ag3 (cell_of' (hv.heapO trivial hb) rfl)) ?_ | refine SA.take (by kernel_rfl) 7 rfl (by kernel_rfl) (by kernel_rfl) rfl rfl (fun _ _ _ h => h) rfl hO1 (fun v hv => .load rfl rfl ag3 (cell_of' (hv.heapO trivial hr) rfl)) ?_
  refine SA.take (by kernel_rfl) 8 rfl (by kernel_rfl) (by kernel_rfl) rfl rfl (fun _ _ _ h => h) rfl hO1 (fun v hv => .sub rfl rfl rfl (by omega)) ?_
  refine SA.take (by kernel_rfl) 9 rfl (by kernel_rfl) (by kernel_rfl) rfl rfl (fun _ _ _ h => h) rfl hO1 (fun v hv => .assign rfl rfl) ?_
  refine SA.done (by kernel_rfl) ?_
  refine SQ.then_normal ?_
  refine SC.seq ?_
  refine SC.block ?_
  refine SC.seq ?_
  refine SC.region ?_
  refine SO.val rfl rfl rfl rfl (.move rfl rfl) ?_
  refine SO.val rfl rfl rfl rfl (.move rfl rfl) ?_
  refine SO.val rfl rfl rfl rfl (.nilCheck rfl rfl) ?_
  refine SO.val rfl rfl rfl rfl (.fieldAddr rfl rfl fa146_1) ?_
  first | refine SO.val rfl rfl rfl rfl (.load rfl rfl ag3 (cell_of' (hO1.heapO trivial hb) rfl)) ?_ | refine SO.val rfl rfl rfl rfl (.load rfl rfl ag3 (cell_of' (hO1.heapO trivial hr) rfl)) ?_
  refine SO.val rfl rfl rfl rfl (.leq rfl rfl rfl) ?_
  refine SO.val rfl rfl rfl rfl (.assign rfl rfl) ?_
  refine SO.nil ?_
  refine SQ.then_normal ?_
  refine SC.dec rfl (fun c2 => ?_) (fun c2 => ?_)
  ·
    refine SC.seq ?_
    refine SC.region ?_
    refine SO.val rfl rfl rfl rfl (.move rfl rfl) ?_
    refine SO.val rfl rfl rfl rfl (.nilCheck rfl rfl) ?_
    refine SO.val rfl rfl rfl rfl (.fieldAddr rfl rfl fa146_0) ?_
    first | refine SO.val rfl rfl rfl rfl (.load rfl rfl ag116 (cell_of' (hO1.heapO trivial hb) rfl)) ?_ | refine SO.val rfl rfl rfl rfl (.load rfl rfl ag116 (cell_of' (hO1.heapO trivial hr) rfl)) ?_
    refine SO.val rfl rfl rfl rfl (.move rfl rfl) ?_
    refine SO.val rfl rfl rfl rfl (.move rfl rfl) ?_
    refine SO.val rfl rfl rfl rfl (.sliceALH rfl rfl rfl rfl Tryz.underlying116 sz5 (by omega)) ?_
    first | refine SO.val rfl rfl rfl rfl (.bytesStr rfl rfl Tryz.underlying116 Tryz.underlying5 Tryz.underlying9 (hO1.heapO trivial hb) (by first | omega | (unfold sl; split <;> omega))) ?_ | refine SO.val rfl rfl rfl rfl (.bytesStr rfl rfl Tryz.underlying116 Tryz.underlying5 Tryz.underlying9 (hO1.heapO trivial hr) (by first | omega | (unfold sl; split <;> omega))) ?_
    refine SO.val rfl rfl rfl rfl (.assign rfl rfl) ?_
    refine SO.nil ?_
    refine SQ.then_normal ?_
    refine SC.ret ?_
    refine SQ.block_ret ?_
    refine SQ.then_ret ?_
    refine SQ.out (.inl rfl) (res1 rfl rfl) ?_
    refine ⟨?_, hO1.toBelow trivial⟩
    first | (have e := gap_left (a := i) (c := j) hS (by omega) (by omega); simp only [Int.toNat_natCast]; rw [e]) | (have e := gap_right (a := i) (c := j) hS (by omega) (by omega) (by omega); rw [show ((i : Int) + ((tu : Int) - (fr : Int))).toNat = i + (tu - fr) by omega, show ((j : Int) + ((tu : Int) - (fr : Int))).toNat = j + (tu - fr) by omega, e]; rfl) | (have e := gap_both (a := i) (c := j) hS (by omega) (by omega) (by omega); rw [show ((j : Int) + ((tu : Int) - (fr : Int))).toNat = j + (tu - fr) by omega]; simp only [Int.toNat_natCast]; rw [e])
  ·
    refine SC.seq ?_
    refine SC.region ?_
    refine SO.val rfl rfl rfl rfl (.move rfl rfl) ?_
    refine SO.val rfl rfl rfl rfl (.move rfl rfl) ?_
    refine SO.val rfl rfl rfl rfl (.nilCheck rfl rfl) ?_
    refine SO.val rfl rfl rfl rfl (.fieldAddr rfl rfl fa146_1) ?_
    first | refine SO.val rfl rfl rfl rfl (.load rfl rfl ag3 (cell_of' (hO1.heapO trivial hb) rfl)) ?_ | refine SO.val rfl rfl rfl rfl (.load rfl rfl ag3 (cell_of' (hO1.heapO trivial hr) rfl)) ?_
    refine SO.val rfl rfl rfl rfl (.geq rfl rfl rfl) ?_
    refine SO.val rfl rfl rfl rfl (.assign rfl rfl) ?_
    refine SO.nil ?_
    refine SQ.then_normal ?_
    refine SC.dec rfl (fun c4 => ?_) (fun c4 => ?_)
    ·
      refine SC.seq ?_
      refine SC.region ?_
      refine SO.val rfl rfl rfl rfl (.move rfl rfl) ?_
      refine SO.val rfl rfl rfl rfl (.nilCheck rfl rfl) ?_
      refine SO.val rfl rfl rfl rfl (.fieldAddr rfl rfl fa146_0) ?_
      first | refine SO.val rfl rfl rfl rfl (.load rfl rfl ag116 (cell_of' (hO1.heapO trivial hb) rfl)) ?_ | refine SO.val rfl rfl rfl rfl (.load rfl rfl ag116 (cell_of' (hO1.heapO trivial hr) rfl)) ?_
      refine SO.val rfl rfl rfl rfl (.move rfl rfl) ?_
      refine SO.val rfl rfl rfl rfl (.move rfl rfl) ?_
      refine SO.val rfl rfl rfl rfl (.add rfl rfl rfl (by omega)) ?_
      refine SO.val rfl rfl rfl rfl (.move rfl rfl) ?_
      refine SO.val rfl rfl rfl rfl (.move rfl rfl) ?_
      refine SO.val rfl rfl rfl rfl (.add rfl rfl rfl (by omega)) ?_
      refine SO.val rfl rfl rfl rfl (.sliceALH rfl rfl rfl rfl Tryz.underlying116 sz5 (by omega)) ?_
      first | refine SO.val rfl rfl rfl rfl (.bytesStr rfl rfl Tryz.underlying116 Tryz.underlying5 Tryz.underlying9 (hO1.heapO trivial hb) (by first | omega | (unfold sl; split <;> omega))) ?_ | refine SO.val rfl rfl rfl rfl (.bytesStr rfl rfl Tryz.underlying116 Tryz.underlying5 Tryz.underlying9 (hO1.heapO trivial hr) (by first | omega | (unfold sl; split <;> omega))) ?_
      refine SO.val rfl rfl rfl rfl (.assign rfl rfl) ?_
      refine SO.nil ?_
      refine SQ.then_normal ?_
      refine SC.ret ?_
      refine SQ.block_ret ?_
      refine SQ.then_ret ?_
      refine SQ.out (.inl rfl) (res1 rfl rfl) ?_
      refine ⟨?_, hO1.toBelow trivial⟩
      first | (have e := gap_left (a := i) (c := j) hS (by omega) (by omega); simp only [Int.toNat_natCast]; rw [e]) | (have e := gap_right (a := i) (c := j) hS (by omega) (by omega) (by omega); rw [show ((i : Int) + ((tu : Int) - (fr : Int))).toNat = i + (tu - fr) by omega, show ((j : Int) + ((tu : Int) - (fr : Int))).toNat = j + (tu - fr) by omega, e]; rfl) | (have e := gap_both (a := i) (c := j) hS (by omega) (by omega) (by omega); rw [show ((j : Int) + ((tu : Int) - (fr : Int))).toNat = j + (tu - fr) by omega]; simp only [Int.toNat_natCast]; rw [e])
    ·
      refine SC.skip ?_
      refine SQ.block_normal ?_
      refine SQ.then_normal ?_
      refine SC.seq ?_
      refine SC.drawO mixed hO1 (fun hO6 => ?_)
      refine SA.take (by kernel_rfl) 0 rfl (by kernel_rfl) (by kernel_rfl) rfl rfl (fun _ _ _ h => h) rfl hO6 (fun v hv => .move rfl rfl) ?_
      refine SA.take (by kernel_rfl) 1 rfl (by kernel_rfl) (by kernel_rfl) rfl rfl (fun _ _ _ h => h) rfl hO6 (fun v hv => .nilCheck rfl rfl) ?_
      refine SA.take (by kernel_rfl) 2 rfl (by kernel_rfl) (by kernel_rfl) rfl rfl (fun _ _ _ h => h) rfl hO6 (fun v hv => .fieldAddr rfl rfl fa146_0) ?_
      first | refine SA.take (by kernel_rfl) 3 rfl (by kernel_rfl) (by kernel_rfl) rfl rfl (fun _ _ _ h => h) rfl hO6 (fun v hv => .load rfl rfl ag116 (cell_of' (hv.heapO trivial hb) rfl)) ?_ | refine SA.take (by kernel_rfl) 3 rfl (by kernel_rfl) (by kernel_rfl) rfl rfl (fun _ _ _ h => h) rfl hO6 (fun v hv => .load rfl rfl ag116 (cell_of' (hv.heapO trivial hr) rfl)) ?_
      refine SA.take (by kernel_rfl) 4 rfl (by kernel_rfl) (by kernel_rfl) rfl rfl (fun _ _ _ h => h) rfl hO6 (fun v hv => .move rfl rfl) ?_
      refine SA.take (by kernel_rfl) 5 rfl (by kernel_rfl) (by kernel_rfl) rfl rfl (fun _ _ _ h => h) rfl hO6 (fun v hv => .move rfl rfl) ?_
      refine SA.take (by kernel_rfl) 6 rfl (by kernel_rfl) (by kernel_rfl) rfl rfl (fun _ _ _ h => h) rfl hO6 (fun v hv => .nilCheck rfl rfl) ?_
      refine SA.take (by kernel_rfl) 7 rfl (by kernel_rfl) (by kernel_rfl) rfl rfl (fun _ _ _ h => h) rfl hO6 (fun v hv => .fieldAddr rfl rfl fa146_1) ?_
      first | refine SA.take (by kernel_rfl) 8 rfl (by kernel_rfl) (by kernel_rfl) rfl rfl (fun _ _ _ h => h) rfl hO6 (fun v hv => .load rfl rfl ag3 (cell_of' (hv.heapO trivial hb) rfl)) ?_ | refine SA.take (by kernel_rfl) 8 rfl (by kernel_rfl) (by kernel_rfl) rfl rfl (fun _ _ _ h => h) rfl hO6 (fun v hv => .load rfl rfl ag3 (cell_of' (hv.heapO trivial hr) rfl)) ?_
      refine SA.take (by kernel_rfl) 9 rfl (by kernel_rfl) (by kernel_rfl) rfl rfl (fun _ _ _ h => h) rfl hO6 (fun v hv => .sliceALH rfl rfl rfl rfl Tryz.underlying116 sz5 (by omega)) ?_
      first | refine SA.take (by kernel_rfl) 10 rfl (by kernel_rfl) (by kernel_rfl) rfl rfl (fun _ _ _ h => h) rfl hO6 (fun v hv => .bytesStr rfl rfl Tryz.underlying116 Tryz.underlying5 Tryz.underlying9 (hv.heapO trivial hb) (by first | omega | (unfold sl; split <;> omega))) ?_ | refine SA.take (by kernel_rfl) 10 rfl (by kernel_rfl) (by kernel_rfl) rfl rfl (fun _ _ _ h => h) rfl hO6 (fun v hv => .bytesStr rfl rfl Tryz.underlying116 Tryz.underlying5 Tryz.underlying9 (hv.heapO trivial hr) (by first | omega | (unfold sl; split <;> omega))) ?_
      refine SA.take (by kernel_rfl) 11 rfl (by kernel_rfl) (by kernel_rfl) rfl rfl (fun _ _ _ h => h) rfl hO6 (fun v hv => .move rfl rfl) ?_
      refine SA.take (by kernel_rfl) 12 rfl (by kernel_rfl) (by kernel_rfl) rfl rfl (fun _ _ _ h => h) rfl hO6 (fun v hv => .nilCheck rfl rfl) ?_
      refine SA.take (by kernel_rfl) 13 rfl (by kernel_rfl) (by kernel_rfl) rfl rfl (fun _ _ _ h => h) rfl hO6 (fun v hv => .fieldAddr rfl rfl fa146_0) ?_
      first | refine SA.take (by kernel_rfl) 14 rfl (by kernel_rfl) (by kernel_rfl) rfl rfl (fun _ _ _ h => h) rfl hO6 (fun v hv => .load rfl rfl ag116 (cell_of' (hv.heapO trivial hb) rfl)) ?_ | refine SA.take (by kernel_rfl) 14 rfl (by kernel_rfl) (by kernel_rfl) rfl rfl (fun _ _ _ h => h) rfl hO6 (fun v hv => .load rfl rfl ag116 (cell_of' (hv.heapO trivial hr) rfl)) ?_
      refine SA.take (by kernel_rfl) 15 rfl (by kernel_rfl) (by kernel_rfl) rfl rfl (fun _ _ _ h => h) rfl hO6 (fun v hv => .move rfl rfl) ?_
      refine SA.take (by kernel_rfl) 16 rfl (by kernel_rfl) (by kernel_rfl) rfl rfl (fun _ _ _ h => h) rfl hO6 (fun v hv => .nilCheck rfl rfl) ?_
      refine SA.take (by kernel_rfl) 17 rfl (by kernel_rfl) (by kernel_rfl) rfl rfl (fun _ _ _ h => h) rfl hO6 (fun v hv => .fieldAddr rfl rfl fa146_2) ?_
      first | refine SA.take (by kernel_rfl) 18 rfl (by kernel_rfl) (by kernel_rfl) rfl rfl (fun _ _ _ h => h) rfl hO6 (fun v hv => .load rfl rfl ag3 (cell_of' (hv.heapO trivial hb) rfl)) ?_ | refine SA.take (by kernel_rfl) 18 rfl (by kernel_rfl) (by kernel_rfl) rfl rfl (fun _ _ _ h => h) rfl hO6 (fun v hv => .load rfl rfl ag3 (cell_of' (hv.heapO trivial hr) rfl)) ?_
      refine SA.take (by kernel_rfl) 19 rfl (by kernel_rfl) (by kernel_rfl) rfl rfl (fun _ _ _ h => h) rfl hO6 (fun v hv => .move rfl rfl) ?_
      refine SA.take (by kernel_rfl) 20 rfl (by kernel_rfl) (by kernel_rfl) rfl rfl (fun _ _ _ h => h) rfl hO6 (fun v hv => .move rfl rfl) ?_
      refine SA.take (by kernel_rfl) 21 rfl (by kernel_rfl) (by kernel_rfl) rfl rfl (fun _ _ _ h => h) rfl hO6 (fun v hv => .add rfl rfl rfl (by omega)) ?_
      refine SA.take (by kernel_rfl) 22 rfl (by kernel_rfl) (by kernel_rfl) rfl rfl (fun _ _ _ h => h) rfl hO6 (fun v hv => .sliceALH rfl rfl rfl rfl Tryz.underlying116 sz5 (by omega)) ?_
      first | refine SA.take (by kernel_rfl) 23 rfl (by kernel_rfl) (by kernel_rfl) rfl rfl (fun _ _ _ h => h) rfl hO6 (fun v hv => .bytesStr rfl rfl Tryz.underlying116 Tryz.underlying5 Tryz.underlying9 (hv.heapO trivial hb) (by first | omega | (unfold sl; split <;> omega))) ?_ | refine SA.take (by kernel_rfl) 23 rfl (by kernel_rfl) (by kernel_rfl) rfl rfl (fun _ _ _ h => h) rfl hO6 (fun v hv => .bytesStr rfl rfl Tryz.underlying116 Tryz.underlying5 Tryz.underlying9 (hv.heapO trivial hr) (by first | omega | (unfold sl; split <;> omega))) ?_
      refine SA.take (by kernel_rfl) 24 rfl (by kernel_rfl) (by kernel_rfl) rfl rfl (fun _ _ _ h => h) rfl hO6 (fun v hv => .strAdd rfl rfl rfl (by simp [ByteArray.size]; omega)) ?_
      refine SA.take (by kernel_rfl) 25 rfl (by kernel_rfl) (by kernel_rfl) rfl rfl (fun _ _ _ h => h) rfl hO6 (fun v hv => .assign rfl rfl) ?_
      refine SA.done (by kernel_rfl) ?_
      refine SQ.then_normal ?_
      refine SC.ret ?_
      refine SQ.out (.inl rfl) (res1 rfl rfl) ?_
      refine ⟨?_, hO6.toBelow trivial⟩
      first | (have e := gap_left (a := i) (c := j) hS (by omega) (by omega); simp only [Int.toNat_natCast]; rw [e]) | (have e := gap_right (a := i) (c := j) hS (by omega) (by omega) (by omega); rw [show ((i : Int) + ((tu : Int) - (fr : Int))).toNat = i + (tu - fr) by omega, show ((j : Int) + ((tu : Int) - (fr : Int))).toNat = j + (tu - fr) by omega, e]; rfl) | (have e := gap_both (a := i) (c := j) hS (by omega) (by omega) (by omega); rw [show ((j : Int) + ((tu : Int) - (fr : Int))).toNat = j + (tu - fr) by omega]; simp only [Int.toNat_natCast]; rw [e])

set_option maxRecDepth 20000 in
set_option maxHeartbeats 400000 in
theorem gap_slice (b : Nat) (s : ByteArray) (lim : Nat) (a c : Int) (w : World) (hG : Good w) (hg : GapAt w b s lim) :
    Calls Tryz.prog 257 #[.pointer (some ⟨b, 0, none⟩), .int .i64 a, .int .i64 c] w fun e w' => e = .returned (.tuple #[.string (slT s a c), .int .i64 (slE s a c)]) ∧ Below w.heap.size w w' := by
  have hgap := hg
  have hO0 := Own.start hG
  refine enter Tryz.func257 rfl rfl rfl 0 ?_
  refine SC.seq ?_
  refine SC.region ?_
  refine SO.val rfl rfl rfl rfl (.assign rfl rfl) ?_
  refine SO.val rfl rfl rfl rfl (.assign rfl rfl) ?_
  refine SO.nil ?_
  refine SQ.then_normal ?_
  refine SC.seq ?_
  refine SC.seq ?_
  refine SC.region ?_
  refine SO.val rfl rfl rfl rfl (.move rfl rfl) ?_
  refine SO.val rfl rfl rfl rfl (.lss rfl rfl rfl) ?_
  refine SO.val rfl rfl rfl rfl (.move rfl rfl) ?_
  refine SO.dec 10 rfl (fun g1 => ?_) (fun g1 => ?_)
  ·
    refine SO.pass rfl rfl rfl ?_
    refine SO.pass rfl rfl rfl ?_
    refine SO.pass rfl rfl rfl ?_
    refine SO.val rfl rfl rfl rfl (.pickT rfl rfl rfl) ?_
    refine SO.val rfl rfl rfl rfl (.move rfl rfl) ?_
    refine SO.pass rfl rfl rfl ?_
    refine SO.pass rfl rfl rfl ?_
    refine SO.pass rfl rfl rfl ?_
    refine SO.pass rfl rfl rfl ?_
    refine SO.val rfl rfl rfl rfl (.pickT rfl rfl rfl) ?_
    refine SO.nil ?_
    refine SQ.then_normal ?_
    refine SC.yes rfl ?_
    refine SC.seq ?_
    refine SC.region ?_
    refine SO.val rfl rfl rfl rfl (.assign rfl rfl) ?_
    refine SO.val rfl rfl rfl rfl (.assign rfl rfl) ?_
    refine SO.nil ?_
    refine SQ.then_normal ?_
    refine SC.ret ?_
    refine SQ.then_ret ?_
    refine SQ.out (.inl rfl) (res2 rfl rfl rfl) ?_
    refine ⟨?_, hO0.toBelow trivial⟩
    unfold slT slE
    first | (have hc : bad s a c := (by unfold bad; omega); rw [if_pos hc, if_pos hc]; done) | (have hc : bad s a c := (by unfold bad; omega); rw [if_pos hc, if_pos hc]; rfl) | (have hc : ¬ bad s a c := (by unfold bad; omega); rw [if_neg hc, if_neg hc])
  ·
    refine SO.val rfl rfl rfl rfl (.move rfl rfl) ?_
    refine SO.val rfl rfl rfl rfl (.move rfl rfl) ?_
    refine SO.val rfl rfl rfl rfl (.lss rfl rfl rfl) ?_
    refine SO.val rfl rfl rfl rfl (.pickF rfl rfl rfl) ?_
    refine SO.val rfl rfl rfl rfl (.move rfl rfl) ?_
    refine SO.dec 15 rfl (fun g3 => ?_) (fun g3 => ?_)
    ·
      refine SO.pass rfl rfl rfl ?_
      refine SO.pass rfl rfl rfl ?_
      refine SO.pass rfl rfl rfl ?_
      refine SO.pass rfl rfl rfl ?_
      refine SO.val rfl rfl rfl rfl (.pickT rfl rfl rfl) ?_
      refine SO.nil ?_
      refine SQ.then_normal ?_
      refine SC.yes rfl ?_
      refine SC.seq ?_
      refine SC.region ?_
      refine SO.val rfl rfl rfl rfl (.assign rfl rfl) ?_
      refine SO.val rfl rfl rfl rfl (.assign rfl rfl) ?_
      refine SO.nil ?_
      refine SQ.then_normal ?_
      refine SC.ret ?_
      refine SQ.then_ret ?_
      refine SQ.out (.inl rfl) (res2 rfl rfl rfl) ?_
      refine ⟨?_, hO0.toBelow trivial⟩
      unfold slT slE
      first | (have hc : bad s a c := (by unfold bad; omega); rw [if_pos hc, if_pos hc]; done) | (have hc : bad s a c := (by unfold bad; omega); rw [if_pos hc, if_pos hc]; rfl) | (have hc : ¬ bad s a c := (by unfold bad; omega); rw [if_neg hc, if_neg hc])
    ·
      refine SO.val rfl rfl rfl rfl (.move rfl rfl) ?_
      refine SO.val rfl rfl rfl rfl (.move rfl rfl) ?_
      refine SO.call rfl rfl rfl rfl (.callF rfl rfl en254) (gap_len _ _ _ _ (hO0.good hG) (hgap.below (hO0.toBelow trivial))) ?_
      rintro _ w5 ⟨rfl, hb5⟩
      have hO5 := hO0.below hb5
      refine ⟨_, rfl, ?_⟩
      refine SO.val rfl rfl rfl rfl (.gtr rfl rfl rfl) ?_
      refine SO.val rfl rfl rfl rfl (.pickF rfl rfl rfl) ?_
      refine SO.nil ?_
      refine SQ.then_normal ?_
      refine SC.dec rfl (fun c6 => ?_) (fun c6 => ?_)
      ·
        refine SC.seq ?_
        refine SC.region ?_
        refine SO.val rfl rfl rfl rfl (.assign rfl rfl) ?_
        refine SO.val rfl rfl rfl rfl (.assign rfl rfl) ?_
        refine SO.nil ?_
        refine SQ.then_normal ?_
        refine SC.ret ?_
        refine SQ.then_ret ?_
        refine SQ.out (.inl rfl) (res2 rfl rfl rfl) ?_
        refine ⟨?_, hO5.toBelow trivial⟩
        unfold slT slE
        first | (have hc : bad s a c := (by unfold bad; omega); rw [if_pos hc, if_pos hc]; done) | (have hc : bad s a c := (by unfold bad; omega); rw [if_pos hc, if_pos hc]; rfl) | (have hc : ¬ bad s a c := (by unfold bad; omega); rw [if_neg hc, if_neg hc])
      ·
        refine SC.skip ?_
        refine SQ.then_normal ?_
        refine SC.seq ?_
        refine SC.region ?_
        refine SO.val rfl rfl rfl rfl (.move rfl rfl) ?_
        refine SO.val rfl rfl rfl rfl (.move rfl rfl) ?_
        refine SO.val rfl rfl rfl rfl (.move rfl rfl) ?_
        refine SO.call rfl rfl rfl rfl (.callF rfl rfl en259) (gap_piece _ _ _ _ _ _ (hO5.good hG) (hgap.below (hO5.toBelow trivial)) (by omega) (by omega) (by omega)) ?_
        rintro _ w8 ⟨rfl, hb8⟩
        have hO8 := hO5.below hb8
        refine ⟨_, rfl, ?_⟩
        refine SO.val rfl rfl rfl rfl (.assign rfl rfl) ?_
        refine SO.val rfl rfl rfl rfl (.assign rfl rfl) ?_
        refine SO.nil ?_
        refine SQ.then_normal ?_
        refine SC.ret ?_
        refine SQ.out (.inl rfl) (res2 rfl rfl rfl) ?_
        refine ⟨?_, hO8.toBelow trivial⟩
        unfold slT slE
        first | (have hc : bad s a c := (by unfold bad; omega); rw [if_pos hc, if_pos hc]; done) | (have hc : bad s a c := (by unfold bad; omega); rw [if_pos hc, if_pos hc]; rfl) | (have hc : ¬ bad s a c := (by unfold bad; omega); rw [if_neg hc, if_neg hc])

theorem bd91_z_Gap  : ∀ w, (Instr.build 91 [].toArray).run Tryz.prog w = .ok (.agg [.int .i64 0, .int .i64 0, .int .i64 0, .int .i64 0, .int .i64 0, .string ⟨#[]⟩, .string ⟨#[]⟩].toArray) w := fun _ => by kernel_rfl
set_option maxRecDepth 20000 in
set_option maxHeartbeats 400000 in
theorem gap_measure (b : Nat) (s : ByteArray) (lim : Nat) (a c : Int) (w : World) (hG : Good w) (hg : GapAt w b s lim) :
    Calls Tryz.prog 255 #[.pointer (some ⟨b, 0, none⟩), .int .i64 a, .int .i64 c] w fun e w' => e = .returned (.tuple #[smV (msT s a c), .int .i64 (slE s a c)]) ∧ Below w.heap.size w w' := by
  have hgap := hg
  have hfits : s.size ≤ 1073741824 := by
    obtain ⟨rb, l, fr, tu, hb, hr, hS⟩ := hg
    exact Nat.le_trans hS.fits hS.lm
  have hts := slT_size s a c
  have hO0 := Own.start hG
  refine enter Tryz.func255 rfl rfl rfl 0 ?_
  refine SC.seq ?_
  refine SC.region ?_
  refine SO.alloc hO0 rfl rfl rfl rfl zv91 [_, _, _, _, _, _, _] rfl ?_
  intro b1 w1 hb1 hO1
  refine SO.val rfl rfl rfl rfl (.assign rfl rfl) ?_
  refine SO.nil ?_
  refine SQ.then_normal ?_
  refine SC.seq ?_
  refine SC.region ?_
  refine SO.val rfl rfl rfl rfl (.move rfl rfl) ?_
  refine SO.val rfl rfl rfl rfl (.move rfl rfl) ?_
  refine SO.val rfl rfl rfl rfl (.move rfl rfl) ?_
  refine SO.call rfl rfl rfl rfl (.callF rfl rfl en257) (gap_slice _ _ _ _ _ _ (hO1.good hG) (hgap.below (hO1.toBelow ⟨hb1, trivial⟩))) ?_
  rintro _ w2 ⟨rfl, hb2⟩
  have hO2 := hO1.below hb2
  refine ⟨_, rfl, ?_⟩
  refine SO.val rfl rfl rfl rfl (.move rfl rfl) ?_
  refine SO.val rfl rfl rfl rfl (.extract rfl rfl rfl) ?_
  refine SO.val rfl rfl rfl rfl (.extract rfl rfl rfl) ?_
  refine SO.val rfl rfl rfl rfl (.assign rfl rfl) ?_
  refine SO.val rfl rfl rfl rfl (.assign rfl rfl) ?_
  refine SO.nil ?_
  refine SQ.then_normal ?_
  refine SC.seq ?_
  refine SC.seq ?_
  refine SC.region ?_
  refine SO.val rfl rfl rfl rfl (.move rfl rfl) ?_
  refine SO.val rfl rfl rfl rfl (.neq rfl rfl rfl) ?_
  refine SO.nil ?_
  refine SQ.then_normal ?_
  refine SC.dec rfl (fun c3 => ?_) (fun c3 => ?_)
  ·
    have hc : bad s a c := by
      by_cases h : bad s a c
      · exact h
      · exact absurd (by unfold slE; rw [if_neg h]) c3
    refine SC.seq ?_
    refine SC.region ?_
    refine SO.val rfl rfl rfl rfl (.build rfl rfl (bd91_z_Gap)) ?_
    refine SO.val rfl rfl rfl rfl (.move rfl rfl) ?_
    refine SO.store hO2 (i := 0) rfl rfl rfl rfl rfl rfl sz91 rfl rfl [(_, .cells [_, _, _, _, _, _, _].toArray _ _)] rfl ?_
    intro w4 hO4
    refine SO.val rfl rfl rfl rfl (.assign rfl rfl) ?_
    refine SO.nil ?_
    refine SQ.then_normal ?_
    refine SC.ret ?_
    refine SQ.then_ret ?_
    refine SQ.out (.inl rfl) (resCT [_, _, _, _, _, _, _] rfl rfl rfl ag91 sz91 (hO4.at (i := 0) rfl) rfl rfl) ?_
    refine ⟨?_, hO4.toBelow ⟨hb1, trivial⟩⟩
    first | (unfold msT; rw [if_pos hc]; done) | (unfold msT; rw [if_pos hc]; rfl) | (unfold msT slT slE; rw [if_neg hc, if_neg hc, if_neg hc])
  ·
    have hc : ¬ bad s a c := fun h => c3 (by unfold slE; rw [if_pos h]; decide)
    refine SC.skip ?_
    refine SQ.then_normal ?_
    refine SC.seq ?_
    refine SC.region ?_
    refine SO.val rfl rfl rfl rfl (.move rfl rfl) ?_
    refine SO.call rfl rfl rfl rfl (.callF rfl rfl en211) (measure_any _ _ (hO2.good hG) (by omega)) ?_
    rintro _ w6 ⟨rfl, hb6⟩
    have hO6 := hO2.below hb6
    refine ⟨_, rfl, ?_⟩
    refine SO.store hO6 (i := 0) rfl rfl rfl rfl rfl rfl sz91 rfl rfl [(_, .cells [_, _, _, _, _, _, _].toArray _ _)] rfl ?_
    intro w7 hO7
    refine SO.val rfl rfl rfl rfl (.assign rfl rfl) ?_
    refine SO.nil ?_
    refine SQ.then_normal ?_
    refine SC.ret ?_
    refine SQ.out (.inl rfl) (resCT [_, _, _, _, _, _, _] rfl rfl rfl ag91 sz91 (hO7.at (i := 0) rfl) rfl rfl) ?_
    refine ⟨?_, hO7.toBelow ⟨hb1, trivial⟩⟩
    first | (unfold msT; rw [if_pos hc]; done) | (unfold msT; rw [if_pos hc]; rfl) | (unfold msT slT slE; rw [if_neg hc, if_neg hc, if_neg hc])

set_option maxRecDepth 20000 in
set_option maxHeartbeats 400000 in
theorem gap_halves (b : Nat) (rb : Nat) (l : Bs) (fr tu lim : Nat) (s : ByteArray) (w : World) (hG : Good w) (hb : w.heap[b]? = some (gapO rb (List.length l) fr tu lim)) (hr : w.heap[rb]? = some (bytesO l)) (hS : GapS l fr tu lim s) :
    Calls Tryz.prog 135 #[.pointer (some ⟨b, 0, none⟩)] w fun e w' => e = .returned (.tuple #[.string ⟨(l.take fr).toArray⟩, .string ⟨(l.drop tu).toArray⟩]) ∧ Below w.heap.size w w' := by
  have hft := hS.ft; have htl := hS.tl; have hcap := hS.cp; have hlim := hS.lm; have hfits := hS.fits; have hsz := hS.size
  have hO0 := Own.start hG
  refine enter Tryz.func135 rfl rfl rfl 0 ?_
  refine SC.seq ?_
  refine SC.region ?_
  refine SO.val rfl rfl rfl rfl (.assign rfl rfl) ?_
  refine SO.val rfl rfl rfl rfl (.assign rfl rfl) ?_
  refine SO.nil ?_
  refine SQ.then_normal ?_
  refine SC.seq ?_
  refine SC.seq ?_
  refine SC.region ?_
  refine SO.val rfl rfl rfl rfl (.move rfl rfl) ?_
  refine SO.val rfl rfl rfl rfl (.ptrEq (b := false) rfl rfl rfl Tryz.underlying57 rfl) ?_
  refine SO.nil ?_
  refine SQ.then_normal ?_
  refine SC.no rfl ?_
  refine SC.skip ?_
  refine SQ.then_normal ?_
  refine SC.seq ?_
  refine SC.drawO mixed hO0 (fun hO1 => ?_)
  refine SA.take (by kernel_rfl) 0 rfl (by kernel_rfl) (by kernel_rfl) rfl rfl (fun _ _ _ h => h) rfl hO1 (fun v hv => .move rfl rfl) ?_
  refine SA.take (by kernel_rfl) 1 rfl (by kernel_rfl) (by kernel_rfl) rfl rfl (fun _ _ _ h => h) rfl hO1 (fun v hv => .nilCheck rfl rfl) ?_
  refine SA.take (by kernel_rfl) 2 rfl (by kernel_rfl) (by kernel_rfl) rfl rfl (fun _ _ _ h => h) rfl hO1 (fun v hv => .fieldAddr rfl rfl fa146_0) ?_
  first | refine SA.take (by kernel_rfl) 3 rfl (by kernel_rfl) (by kernel_rfl) rfl rfl (fun _ _ _ h => h) rfl hO1 (fun v hv => .load rfl rfl ag116 (cell_of' (hv.heapO trivial hb) rfl)) ?_ | refine SA.take (by kernel_rfl) 3 rfl (by kernel_rfl) (by kernel_rfl) rfl rfl (fun _ _ _ h => h) rfl hO1 (fun v hv => .load rfl rfl ag116 (cell_of' (hv.heapO trivial hr) rfl)) ?_
  refine SA.take (by kernel_rfl) 4 rfl (by kernel_rfl) (by kernel_rfl) rfl rfl (fun _ _ _ h => h) rfl hO1 (fun v hv => .move rfl rfl) ?_
  refine SA.take (by kernel_rfl) 5 rfl (by kernel_rfl) (by kernel_rfl) rfl rfl (fun _ _ _ h => h) rfl hO1 (fun v hv => .nilCheck rfl rfl) ?_
  refine SA.take (by kernel_rfl) 6 rfl (by kernel_rfl) (by kernel_rfl) rfl rfl (fun _ _ _ h => h) rfl hO1 (fun v hv => .fieldAddr rfl rfl fa146_1) ?_
  first | refine SA.take (by kernel_rfl) 7 rfl (by kernel_rfl) (by kernel_rfl) rfl rfl (fun _ _ _ h => h) rfl hO1 (fun v hv => .load rfl rfl ag3 (cell_of' (hv.heapO trivial hb) rfl)) ?_ | refine SA.take (by kernel_rfl) 7 rfl (by kernel_rfl) (by kernel_rfl) rfl rfl (fun _ _ _ h => h) rfl hO1 (fun v hv => .load rfl rfl ag3 (cell_of' (hv.heapO trivial hr) rfl)) ?_
  refine SA.take (by kernel_rfl) 8 rfl (by kernel_rfl) (by kernel_rfl) rfl rfl (fun _ _ _ h => h) rfl hO1 (fun v hv => .sliceAH rfl rfl rfl Tryz.underlying116 sz5 (by omega)) ?_
  first | refine SA.take (by kernel_rfl) 9 rfl (by kernel_rfl) (by kernel_rfl) rfl rfl (fun _ _ _ h => h) rfl hO1 (fun v hv => .bytesStr rfl rfl Tryz.underlying116 Tryz.underlying5 Tryz.underlying9 (hv.heapO trivial hb) (by first | omega | (unfold sl; split <;> omega))) ?_ | refine SA.take (by kernel_rfl) 9 rfl (by kernel_rfl) (by kernel_rfl) rfl rfl (fun _ _ _ h => h) rfl hO1 (fun v hv => .bytesStr rfl rfl Tryz.underlying116 Tryz.underlying5 Tryz.underlying9 (hv.heapO trivial hr) (by first | omega | (unfold sl; split <;> omega))) ?_
  refine SA.take (by kernel_rfl) 10 rfl (by kernel_rfl) (by kernel_rfl) rfl rfl (fun _ _ _ h => h) rfl hO1 (fun v hv => .move rfl rfl) ?_
  refine SA.take (by kernel_rfl) 11 rfl (by kernel_rfl) (by kernel_rfl) rfl rfl (fun _ _ _ h => h) rfl hO1 (fun v hv => .nilCheck rfl rfl) ?_
  refine SA.take (by kernel_rfl) 12 rfl (by kernel_rfl) (by kernel_rfl) rfl rfl (fun _ _ _ h => h) rfl hO1 (fun v hv => .fieldAddr rfl rfl fa146_0) ?_
  first | refine SA.take (by kernel_rfl) 13 rfl (by kernel_rfl) (by kernel_rfl) rfl rfl (fun _ _ _ h => h) rfl hO1 (fun v hv => .load rfl rfl ag116 (cell_of' (hv.heapO trivial hb) rfl)) ?_ | refine SA.take (by kernel_rfl) 13 rfl (by kernel_rfl) (by kernel_rfl) rfl rfl (fun _ _ _ h => h) rfl hO1 (fun v hv => .load rfl rfl ag116 (cell_of' (hv.heapO trivial hr) rfl)) ?_
  refine SA.take (by kernel_rfl) 14 rfl (by kernel_rfl) (by kernel_rfl) rfl rfl (fun _ _ _ h => h) rfl hO1 (fun v hv => .move rfl rfl) ?_
  refine SA.take (by kernel_rfl) 15 rfl (by kernel_rfl) (by kernel_rfl) rfl rfl (fun _ _ _ h => h) rfl hO1 (fun v hv => .nilCheck rfl rfl) ?_
  refine SA.take (by kernel_rfl) 16 rfl (by kernel_rfl) (by kernel_rfl) rfl rfl (fun _ _ _ h => h) rfl hO1 (fun v hv => .fieldAddr rfl rfl fa146_2) ?_
  first | refine SA.take (by kernel_rfl) 17 rfl (by kernel_rfl) (by kernel_rfl) rfl rfl (fun _ _ _ h => h) rfl hO1 (fun v hv => .load rfl rfl ag3 (cell_of' (hv.heapO trivial hb) rfl)) ?_ | refine SA.take (by kernel_rfl) 17 rfl (by kernel_rfl) (by kernel_rfl) rfl rfl (fun _ _ _ h => h) rfl hO1 (fun v hv => .load rfl rfl ag3 (cell_of' (hv.heapO trivial hr) rfl)) ?_
  refine SA.take (by kernel_rfl) 18 rfl (by kernel_rfl) (by kernel_rfl) rfl rfl (fun _ _ _ h => h) rfl hO1 (fun v hv => .sliceAL rfl rfl rfl Tryz.underlying116 sz5 (by omega)) ?_
  first | refine SA.take (by kernel_rfl) 19 rfl (by kernel_rfl) (by kernel_rfl) rfl rfl (fun _ _ _ h => h) rfl hO1 (fun v hv => .bytesStr rfl rfl Tryz.underlying116 Tryz.underlying5 Tryz.underlying9 (hv.heapO trivial hb) (by first | omega | (unfold sl; split <;> omega))) ?_ | refine SA.take (by kernel_rfl) 19 rfl (by kernel_rfl) (by kernel_rfl) rfl rfl (fun _ _ _ h => h) rfl hO1 (fun v hv => .bytesStr rfl rfl Tryz.underlying116 Tryz.underlying5 Tryz.underlying9 (hv.heapO trivial hr) (by first | omega | (unfold sl; split <;> omega))) ?_
  refine SA.take (by kernel_rfl) 20 rfl (by kernel_rfl) (by kernel_rfl) rfl rfl (fun _ _ _ h => h) rfl hO1 (fun v hv => .assign rfl rfl) ?_
  refine SA.take (by kernel_rfl) 21 rfl (by kernel_rfl) (by kernel_rfl) rfl rfl (fun _ _ _ h => h) rfl hO1 (fun v hv => .assign rfl rfl) ?_
  refine SA.done (by kernel_rfl) ?_
  refine SQ.then_normal ?_
  refine SC.ret ?_
  refine SQ.out (.inl rfl) (res2 rfl rfl rfl) ?_
  refine ⟨?_, hO1.toBelow trivial⟩
  simp only [Int.toNat_natCast]
  rw [sl_drop (by omega), List.take_of_length_le (l := l.drop tu) (by simp), List.drop_zero]

set_option maxRecDepth 20000 in
set_option maxHeartbeats 400000 in
theorem gap_text (b : Nat) (s : ByteArray) (lim : Nat) (w : World) (hG : Good w) (hg : GapAt w b s lim) :
    Calls Tryz.prog 75 #[.pointer (some ⟨b, 0, none⟩)] w fun e w' => e = .returned (.string s) ∧ Below w.heap.size w w' := by
  obtain ⟨rb, l, fr, tu, hb, hr, hS⟩ := hg
  have hft := hS.ft; have htl := hS.tl; have hcap := hS.cp; have hlim := hS.lm; have hfits := hS.fits; have hsz := hS.size
  have hO0 := Own.start hG
  refine enter Tryz.func75 rfl rfl rfl 0 ?_
  refine SC.seq ?_
  refine SC.region ?_
  refine SO.val rfl rfl rfl rfl (.assign rfl rfl) ?_
  refine SO.nil ?_
  refine SQ.then_normal ?_
  refine SC.seq ?_
  refine SC.region ?_
  refine SO.val rfl rfl rfl rfl (.move rfl rfl) ?_
  refine SO.call rfl rfl rfl rfl (.callF rfl rfl en135) (gap_halves b rb l fr tu lim s _ (hO0.good hG) (hO0.heapO trivial hb) (hO0.heapO trivial hr) hS) ?_
  rintro _ w1 ⟨rfl, hb1⟩
  have hO1 := hO0.below hb1
  refine ⟨_, rfl, ?_⟩
  refine SO.val rfl rfl rfl rfl (.move rfl rfl) ?_
  refine SO.val rfl rfl rfl rfl (.extract rfl rfl rfl) ?_
  refine SO.val rfl rfl rfl rfl (.extract rfl rfl rfl) ?_
  refine SO.val rfl rfl rfl rfl (.assign rfl rfl) ?_
  refine SO.val rfl rfl rfl rfl (.assign rfl rfl) ?_
  refine SO.nil ?_
  refine SQ.then_normal ?_
  refine SC.seq ?_
  refine SC.region ?_
  refine SO.val rfl rfl rfl rfl (.move rfl rfl) ?_
  refine SO.val rfl rfl rfl rfl (.move rfl rfl) ?_
  refine SO.val rfl rfl rfl rfl (.strAdd rfl rfl rfl (by simp [ByteArray.size]; omega)) ?_
  refine SO.val rfl rfl rfl rfl (.assign rfl rfl) ?_
  refine SO.nil ?_
  refine SQ.then_normal ?_
  refine SC.ret ?_
  refine SQ.out (.inl rfl) (res1 rfl rfl) ?_
  refine ⟨?_, hO1.toBelow trivial⟩
  congr 2
  refine bl_inj ?_
  rw [bl_append, bl_mk, bl_mk, hS.txt]

end Go.Proofs.YtclgplkkajfenaaGreatDoor
