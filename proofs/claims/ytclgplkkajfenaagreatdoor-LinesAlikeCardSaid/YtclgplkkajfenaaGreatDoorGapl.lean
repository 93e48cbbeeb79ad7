/- gap.New. -/
import Derived.Test.YtclgplkkajfenaaGreatDoorGap
namespace Go.Proofs.YtclgplkkajfenaaGreatDoor
open Go Go.RowKit Ow
noncomputable def inf5 : TypeInfo := (Tryz.prog.info? 5).getD default
theorem inf5_ok : Tryz.prog.info? 5 = some inf5 := by kernel_rfl
theorem inf5_z : inf5.zero = some (.int .u8 0) := by kernel_rfl
theorem inf5_s : inf5.size = 1 := by kernel_rfl
theorem inf5_b : inf5.bytes = 1 := by kernel_rfl
theorem is5 : (Tryz.prog.info? 5).map (·.size) = some 1 := by kernel_rfl
/-- What a new array holds. -/
def laid (a c : Bs) (cap : Nat) : Bs := a ++ List.replicate (cap - a.length - c.length) 0 ++ c
theorem laid_length {a c : Bs} {cap : Nat} (h : a.length + c.length ≤ cap) : (laid a c cap).length = cap := by simp [laid]; omega
theorem laid_one {a : Bs} {cap : Nat} (_h : a.length ≤ cap) : (List.replicate cap (0 : UInt8)).take 0 ++ a ++ (List.replicate cap (0 : UInt8)).drop (0 + a.length) = a ++ List.replicate (cap - a.length) 0 := by simp
theorem laid_two {a c : Bs} {cap : Nat} (h : a.length + c.length ≤ cap) (x : Bs) (hx : x = a ++ List.replicate (cap - a.length) 0) :
    x.take (sl cap (cap - c.length)) ++ c ++ x.drop (sl cap (cap - c.length) + c.length) = laid a c cap := by
  subst hx
  unfold sl laid
  by_cases e : cap = cap - c.length
  · rw [if_pos e]
    have hc : c = [] := by
      by_cases h0 : cap = 0
      · exact List.eq_nil_of_length_eq_zero (by omega)
      · exact List.eq_nil_of_length_eq_zero (by omega)
    subst hc; simp
  · rw [if_neg e, List.take_append, List.take_of_length_le (by omega), List.take_replicate, List.drop_of_length_le (by simp; omega), List.append_nil, show min (cap - c.length - a.length) (cap - a.length) = cap - a.length - c.length by omega]
theorem gapS_laid {a c : ByteArray} {cap lim : Nat} {s : ByteArray} (h : a.size + c.size ≤ cap) (hcap : cap ≤ 1099511627776) (hl : lim ≤ 1073741824) (hs : bl s = bl a ++ bl c) (hf : s.size ≤ lim) : GapS (laid (bl a) (bl c) cap) a.size (cap - c.size) lim s := by
  have h2 : (bl a).length + (bl c).length ≤ cap := h
  refine ⟨by omega, by rw [laid_length h2]; omega, ?_, by rw [laid_length h2]; exact hcap, hl, hf⟩
  unfold laid
  rw [hs, List.append_assoc, List.take_append_of_le_length (by rw [bl_length]; exact Nat.le_refl _), List.take_of_length_le (by rw [bl_length]; exact Nat.le_refl _), ← List.append_assoc, List.drop_append, List.drop_of_length_le (by simp; omega), List.nil_append]
  have hz : (bl a ++ List.replicate (cap - (bl a).length - (bl c).length) (0 : UInt8)).length = cap - c.size := by simp only [List.length_append, List.length_replicate, bl_length]; omega
  rw [hz, Nat.sub_self, List.drop_zero]

set_option maxRecDepth 20000 in
set_option maxHeartbeats 400000 in
theorem gap_lay (b : Nat) (a c : ByteArray) (cap lim : Nat) (ci : Int) (v0 v1 v2 : Value) (w : World) (hG : Good w) (hci : ci = (cap : Nat)) (h2b : 2 ≤ b) (hb : w.heap[b]? = some (.cells [v0, v1, v2, .int .i64 (lim : Int)].toArray 146 (0, 0))) (hc : a.size + c.size ≤ cap) (hcap : cap ≤ 1099511627776) :
    Calls Tryz.prog 88 #[.pointer (some ⟨b, 0, none⟩), .string a, .string c, .int .i64 ci] w fun e w' => ∃ rb : Nat, e = .returned (.tuple #[]) ∧ w.heap.size ≤ rb ∧
      Ow.Own w [(rb, bytesO (laid (bl a) (bl c) cap)), (b, gapO rb cap a.size (cap - c.size) lim)] w' := by
  subst hci
  have hO0 := (Own.start hG).know hb (by simp) h2b
  refine enter Tryz.func88 rfl rfl rfl 0 ?_
  refine SC.seq ?_
  refine SC.region ?_
  refine SO.val rfl rfl rfl rfl (.move rfl rfl) ?_
  refine SO.makeB hO0 Tryz.underlying116 inf5_ok inf5_z inf5_s inf5_b rfl rfl rfl rfl rfl rfl (by omega) ?_
  intro b1 w1 hb1 hO1
  simp only [Int.toNat_natCast] at hO1 ⊢
  refine SO.val rfl rfl rfl rfl (.assign rfl rfl) ?_
  refine SO.nil ?_
  refine SQ.then_normal ?_
  refine SC.seq ?_
  refine SC.region ?_
  refine SO.val rfl rfl rfl rfl (.move rfl rfl) ?_
  refine SO.val rfl rfl rfl rfl (.move rfl rfl) ?_
  refine SO.copyS hO1 Tryz.underlying116 is5 rfl rfl rfl rfl rfl rfl (j := 0) rfl (by omega) (by simp; omega) ?_
  intro w2 hO2
  simp only [List.set_cons_zero] at hO2
  have e1 := laid_one (a := bl a) (cap := cap) (by rw [bl_length]; omega)
  rw [show a.data.toList = bl a from rfl, show a.size = (bl a).length from rfl, e1] at hO2
  refine SO.nil ?_
  refine SQ.then_normal ?_
  refine SC.seq ?_
  refine SC.region ?_
  refine SO.val rfl rfl rfl rfl (.move rfl rfl) ?_
  refine SO.val rfl rfl rfl rfl (.move rfl rfl) ?_
  refine SO.val rfl rfl rfl rfl (.move rfl rfl) ?_
  refine SO.val rfl rfl rfl rfl (.lenS rfl rfl Tryz.underlying9) ?_
  refine SO.val rfl rfl rfl rfl (.sub rfl rfl rfl (by omega)) ?_
  refine SO.val rfl rfl rfl rfl (.sliceAL rfl rfl rfl Tryz.underlying116 sz5 (by omega)) ?_
  refine SO.val rfl rfl rfl rfl (.move rfl rfl) ?_
  refine SO.copyS hO2 Tryz.underlying116 is5 rfl rfl rfl rfl rfl rfl (j := 0) rfl (by omega) (by simp; unfold sl; split <;> omega) ?_
  intro w3 hO3
  simp only [List.set_cons_zero] at hO3
  have e2 : ((cap : Int) - (c.size : Int)).toNat = cap - (bl c).length := by rw [bl_length]; omega
  rw [e2, show c.data.toList = bl c from rfl, show c.size = (bl c).length from rfl, laid_two (by rw [bl_length, bl_length]; omega) _ rfl] at hO3
  refine SO.nil ?_
  refine SQ.then_normal ?_
  refine SC.region ?_
  refine SO.val rfl rfl rfl rfl (.move rfl rfl) ?_
  refine SO.val rfl rfl rfl rfl (.move rfl rfl) ?_
  refine SO.val rfl rfl rfl rfl (.move rfl rfl) ?_
  refine SO.val rfl rfl rfl rfl (.move rfl rfl) ?_
  refine SO.val rfl rfl rfl rfl (.move rfl rfl) ?_
  refine SO.val rfl rfl rfl rfl (.lenS rfl rfl Tryz.underlying9) ?_
  refine SO.val rfl rfl rfl rfl (.move rfl rfl) ?_
  refine SO.val rfl rfl rfl rfl (.move rfl rfl) ?_
  refine SO.val rfl rfl rfl rfl (.lenS rfl rfl Tryz.underlying9) ?_
  refine SO.val rfl rfl rfl rfl (.sub rfl rfl rfl (by omega)) ?_
  refine SO.val rfl rfl rfl rfl (.nilCheck rfl rfl) ?_
  refine SO.val rfl rfl rfl rfl (.fieldAddr rfl rfl fa146_0) ?_
  refine SO.store hO3 (i := 1) rfl rfl rfl rfl rfl rfl sz116 rfl rfl [_, (_, .cells [_, _, _, _].toArray _ _)] rfl ?_
  intro w4 hO4
  refine SO.val rfl rfl rfl rfl (.nilCheck rfl rfl) ?_
  refine SO.val rfl rfl rfl rfl (.fieldAddr rfl rfl fa146_1) ?_
  refine SO.store hO4 (i := 1) rfl rfl rfl rfl rfl rfl sz3 rfl rfl [_, (_, .cells [_, _, _, _].toArray _ _)] rfl ?_
  intro w5 hO5
  refine SO.val rfl rfl rfl rfl (.nilCheck rfl rfl) ?_
  refine SO.val rfl rfl rfl rfl (.fieldAddr rfl rfl fa146_2) ?_
  refine SO.store hO5 (i := 1) rfl rfl rfl rfl rfl rfl sz3 rfl rfl [_, (_, .cells [_, _, _, _].toArray _ _)] rfl ?_
  intro w6 hO6
  refine SO.nil ?_
  refine SQ.out (.inr rfl) (res0 rfl) ?_
  refine ⟨b1, rfl, hb1, ?_⟩
  rw [show (cap - c.size : Nat) = cap - c.size from rfl]
  have e3 : ((cap : Int) - (c.size : Int)) = ((cap - c.size : Nat) : Int) := by omega
  rw [e3] at hO6
  exact hO6

/-- A call that has turned the first of the call's own blocks, and laid another. -/
theorem Ow.Own.then2 {w0 w w' : World} {L : List (Nat × Obj)} {b rb : Nat} {o o1 o2 : Obj} (h : Ow.Own w0 ((b, o) :: L) w) (k : Ow.Own w [(rb, o1), (b, o2)] w') (hr : w.heap.size ≤ rb) : Ow.Own w0 ((rb, o1) :: (b, o2) :: L) w' := by
  have hnd := List.nodup_cons.1 h.nd
  have hL : ∀ p ∈ L, p.1 ≠ b ∧ p.1 ≠ rb := fun p hp => ⟨fun e => hnd.1 (List.mem_map.2 ⟨p, hp, e⟩), fun e => by have := h.lt p (List.mem_cons_of_mem _ hp); omega⟩
  have hb := h.lt (b, o) (by simp)
  refine ⟨k.os.trans h.os, k.tape.trans h.tape, k.output.trans h.output, Nat.le_trans h.size k.size, fun j hj hn => ?_, fun p hp => ?_, ?_, fun p hp => ?_, h.base⟩
  · refine (k.old j (Nat.lt_of_lt_of_le hj h.size) fun p hp => hn p ?_).trans (h.old j hj fun p hp => ?_)
    · simp only [List.mem_cons, List.not_mem_nil, or_false] at hp ⊢; rcases hp with h1 | h1; exact .inl h1; exact .inr (.inl h1)
    · rcases List.mem_cons.1 hp with rfl | hp
      · exact hn (b, o2) (by simp)
      · exact hn p (by simp [hp])
  · simp only [List.mem_cons] at hp
    rcases hp with rfl | rfl | hp
    · exact k.own _ (by simp)
    · exact k.own _ (by simp)
    · have hp2 := List.mem_cons_of_mem (b, o) hp
      refine (k.old p.1 (h.lt p hp2) fun q hq => ?_).trans (h.own p hp2)
      simp only [List.mem_cons, List.not_mem_nil, or_false] at hq
      rcases hq with rfl | rfl
      · exact fun e => (hL p hp).2 e.symm
      · exact fun e => (hL p hp).1 e.symm
  · simp only [List.map_cons, List.nodup_cons, List.mem_cons, not_or]
    refine ⟨⟨fun e => by simp only at hb; omega, fun e => ?_⟩, hnd⟩
    obtain ⟨p, hp, e'⟩ := List.mem_map.1 e
    exact (hL p hp).2 e'
  · simp only [List.mem_cons] at hp
    rcases hp with rfl | rfl | hp
    · exact k.two _ (by simp)
    · exact k.two _ (by simp)
    · exact h.two p (List.mem_cons_of_mem _ hp)
/-- A limit as it counts. -/
def held (i : Int) : Nat := (min (max i 0) 1073741824).toNat
theorem held_le (i : Int) : held i ≤ 1073741824 := by unfold held; omega

set_option maxRecDepth 20000 in
set_option maxHeartbeats 400000 in
theorem held_any (i : Int) (w : World) (hG : Good w) :
    Calls Tryz.prog 87 #[.int .i64 i] w fun e w' => e = .returned (.int .i64 (held i : Nat)) ∧ Below w.heap.size w w' := by
  have hO0 := Own.start hG
  refine enter Tryz.func87 rfl rfl rfl 0 ?_
  refine SC.seq ?_
  refine SC.region ?_
  refine SO.val rfl rfl rfl rfl (.assign rfl rfl) ?_
  refine SO.nil ?_
  refine SQ.then_normal ?_
  refine SC.seq ?_
  refine SC.region ?_
  refine SO.val rfl rfl rfl rfl (.move rfl rfl) ?_
  refine SO.val rfl rfl rfl rfl (.maxI rfl rfl rfl) ?_
  refine SO.val rfl rfl rfl rfl (.minI rfl rfl rfl) ?_
  refine SO.val rfl rfl rfl rfl (.assign rfl rfl) ?_
  refine SO.nil ?_
  refine SQ.then_normal ?_
  refine SC.ret ?_
  refine SQ.out (.inl rfl) (res1 rfl rfl) ?_
  refine ⟨?_, hO0.toBelow trivial⟩
  unfold held; congr 2; omega

theorem bd146_3_Gapl (x0 : Int) : ∀ w, (Instr.build 146 [(3, .int .i64 x0)].toArray).run Tryz.prog w = .ok (.agg [.slice none 0 0, .int .i64 0, .int .i64 0, .int .i64 x0].toArray) w := fun _ => by kernel_rfl
set_option maxRecDepth 20000 in
set_option maxHeartbeats 400000 in
theorem gap_new (s : ByteArray) (i : Int) (w : World) (hG : Good w) :
    Calls Tryz.prog 40 #[.string s, .int .i64 i] w fun e w' => (e = .returned (.tuple #[.pointer none, .int .i64 2]) ∧ held i < s.size ∧ Below w.heap.size w w') ∨
      ∃ b : Nat, e = .returned (.tuple #[.pointer (some ⟨b, 0, none⟩), .int .i64 0]) ∧ w.heap.size ≤ b ∧ GapAt w' b s (held i) ∧ s.size ≤ held i ∧ Below w.heap.size w w' := by
  have hh := held_le i
  have hO0 := Own.start hG
  refine enter Tryz.func40 rfl rfl rfl 0 ?_
  refine SC.seq ?_
  refine SC.region ?_
  refine SO.val rfl rfl rfl rfl (.assign rfl rfl) ?_
  refine SO.val rfl rfl rfl rfl (.assign rfl rfl) ?_
  refine SO.nil ?_
  refine SQ.then_normal ?_
  refine SC.seq ?_
  refine SC.seq ?_
  refine SC.region ?_
  refine SO.val rfl rfl rfl rfl (.move rfl rfl) ?_
  refine SO.val rfl rfl rfl rfl (.lenS rfl rfl Tryz.underlying9) ?_
  refine SO.val rfl rfl rfl rfl (.move rfl rfl) ?_
  refine SO.call rfl rfl rfl rfl (.callF rfl rfl en87) (held_any _ _ (hO0.good hG)) ?_
  rintro _ w1 ⟨rfl, hb1⟩
  have hO1 := hO0.below hb1
  refine ⟨_, rfl, ?_⟩
  refine SO.val rfl rfl rfl rfl (.gtr rfl rfl rfl) ?_
  refine SO.nil ?_
  refine SQ.then_normal ?_
  refine SC.dec rfl (fun c2 => ?_) (fun c2 => ?_)
  ·
    refine SC.seq ?_
    refine SC.region ?_
    refine SO.val rfl rfl rfl rfl (.assign rfl rfl) ?_
    refine SO.val rfl rfl rfl rfl (.assign rfl rfl) ?_
    refine SO.nil ?_
    refine SQ.then_normal ?_
    refine SC.ret ?_
    refine SQ.then_ret ?_
    refine SQ.out (.inl rfl) (res2 rfl rfl rfl) ?_
    first | exact .inl ⟨rfl, by omega, hO1.toBelow trivial⟩ | exact .inr ⟨_, rfl, by assumption, ⟨rb, _, s.size, _, (by have := hO1.at (i := 1) rfl; rw [laid_length (by show s.size + 0 ≤ max s.size 64; omega)]; exact this), hO1.at (i := 0) rfl, gapS_laid (by show s.size + 0 ≤ max s.size 64; omega) (by omega) hh (by simp [bl]) (by omega)⟩, by omega, hO1.toBelow trivial⟩
  ·
    refine SC.skip ?_
    refine SQ.then_normal ?_
    refine SC.seq ?_
    refine SC.region ?_
    refine SO.val rfl rfl rfl rfl (.move rfl rfl) ?_
    refine SO.call rfl rfl rfl rfl (.callF rfl rfl en87) (held_any _ _ (hO1.good hG)) ?_
    rintro _ w4 ⟨rfl, hb4⟩
    have hO4 := hO1.below hb4
    refine ⟨_, rfl, ?_⟩
    refine SO.val rfl rfl rfl rfl (.build rfl rfl (bd146_3_Gapl _)) ?_
    refine SO.box hO4 rfl rfl rfl rfl rfl [_, _, _, _] rfl ?_
    intro b5 w5 hb5 hO5
    refine SO.val rfl rfl rfl rfl (.assign rfl rfl) ?_
    refine SO.nil ?_
    refine SQ.then_normal ?_
    refine SC.seq ?_
    refine SC.region ?_
    refine SO.val rfl rfl rfl rfl (.move rfl rfl) ?_
    refine SO.val rfl rfl rfl rfl (.move rfl rfl) ?_
    refine SO.val rfl rfl rfl rfl (.move rfl rfl) ?_
    refine SO.val rfl rfl rfl rfl (.lenS rfl rfl Tryz.underlying9) ?_
    refine SO.val rfl rfl rfl rfl (.maxI rfl rfl rfl) ?_
    refine SO.call rfl rfl rfl rfl (.callF rfl rfl en88) (gap_lay _ s ⟨#[]⟩ (max s.size 64) (held i) _ _ _ _ _ (hO5.good hG) (by omega) (hO5.two _ List.mem_cons_self) (hO5.at (i := 0) rfl) (by show s.size + 0 ≤ max s.size 64; omega) (by omega)) ?_
    rintro _ w6 ⟨rb, rfl, hrb, hk⟩
    have hO6 := hO5.then2 hk hrb
    replace hrb := Nat.le_trans hO5.size hrb
    refine ⟨_, rfl, ?_⟩
    refine SO.nil ?_
    refine SQ.then_normal ?_
    refine SC.seq ?_
    refine SC.region ?_
    refine SO.val rfl rfl rfl rfl (.move rfl rfl) ?_
    refine SO.val rfl rfl rfl rfl (.assign rfl rfl) ?_
    refine SO.val rfl rfl rfl rfl (.assign rfl rfl) ?_
    refine SO.nil ?_
    refine SQ.then_normal ?_
    refine SC.ret ?_
    refine SQ.out (.inl rfl) (res2 rfl rfl rfl) ?_
    first | exact .inl ⟨rfl, by omega, hO6.toBelow ⟨hrb, hb5, trivial⟩⟩ | exact .inr ⟨_, rfl, by assumption, ⟨rb, _, s.size, _, (by have := hO6.at (i := 1) rfl; rw [laid_length (by show s.size + 0 ≤ max s.size 64; omega)]; exact this), hO6.at (i := 0) rfl, gapS_laid (by show s.size + 0 ≤ max s.size 64; omega) (by omega) hh (by simp [bl]) (by omega)⟩, by omega, hO6.toBelow ⟨hrb, hb5, trivial⟩⟩

end Go.Proofs.YtclgplkkajfenaaGreatDoor
