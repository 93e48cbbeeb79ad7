/- store.Boundary, Next, Prev, Snap. -/
import Derived.Test.YtclgplkkajfenaaGreatDoorWind
import Derived.Test.YtclgplkkajfenaaGreatDoorKeep
namespace Go.Proofs.YtclgplkkajfenaaGreatDoor
open Go Go.RowKit Ow
theorem bl_slT {s : ByteArray} {a c : Int} (h1 : 0 ≤ a) (h2 : a ≤ c) (h3 : c ≤ s.size) : bl (slT s a c) = sub (bl s) a.toNat c.toNat := by
  unfold slT; rw [if_neg (by unfold bad; omega), bl_extract]; rfl
theorem near_CB {s : ByteArray} {i : Int} (h0 : 0 < i) (h1 : i < s.size) : cBd (bl (slT s (max (i - 4) 0) (min (i + 4) s.size))) (i - max (i - 4) 0) ↔ cBd (bl s) i := by
  have hw := CB_win (l := bl s) (a := (max (i - 4) 0).toNat) (c := (min (i + 4) (s.size : Int)).toNat) (p := i.toNat) (by omega) (by rw [bl_length]; omega) (by omega) (by omega) (by rw [bl_length]; omega) (by omega) (by rw [bl_length]; omega)
  rw [bl_slT (by omega) (by omega) (by omega)]
  unfold cBd
  rw [show (i - max (i - 4) 0).toNat = i.toNat - (max (i - 4) 0).toNat by omega, hw]
  exact ⟨fun h => ⟨by omega, h.2⟩, fun h => ⟨by omega, h.2⟩⟩

set_option maxRecDepth 20000 in
set_option maxHeartbeats 400000 in
theorem store_boundary (b : Nat) (s : ByteArray) (lim : Nat) (i : Int) (w : World) (hG : Good w) (hp : StoreAt w b s lim) :
    Calls Tryz.prog 109 #[.pointer (some ⟨b, 0, none⟩), .int .i64 i] w fun e w' => e = .returned (.bool (decide (cBd (bl s) i))) ∧ Below w.heap.size w w' := by
  have hsz : s.size ≤ 1073741824 := by
    obtain ⟨u, k, lo, tp, mv, fo, ed, h1, h2⟩ := hp
    exact Nat.le_trans h2.sizes.2 h2.sizes.1
  have hO0 := Own.start hG
  refine enter Tryz.func109 rfl rfl rfl 0 ?_
  refine SC.sr ?_
  refine SO.as ?_
  refine SO.nn ?_
  refine SC.sr ?_
  refine SO.mv ?_
  refine SO.call rfl rfl rfl rfl (.callF rfl rfl en91) (store_len b s lim _ (hO0.good hG) (hp.below (hO0.toBelow trivial))) ?_
  rintro _ w1 ⟨rfl, hb1⟩
  have hO1 := hO0.below hb1
  refine ⟨_, rfl, ?_⟩
  refine SO.as ?_
  refine SO.nn ?_
  refine SC.seq ?_
  refine SC.sr ?_
  refine SO.mv ?_
  refine SO.v (.leq rfl rfl rfl) ?_
  refine SO.mv ?_
  refine SO.dec 13 rfl (fun g2 => ?_) (fun g2 => ?_)
  ·
   refine SO.ps ?_
   refine SO.ps ?_
   refine SO.ps ?_
   refine SO.v (.pickT rfl rfl rfl) ?_
   refine SO.nn ?_
   refine SC.yes rfl ?_
   refine SC.sr ?_
   refine SO.mv ?_
   refine SO.v (.eql rfl rfl rfl) ?_
   refine SO.mv ?_
   refine SO.dec 20 rfl (fun g3 => ?_) (fun g3 => ?_)
   ·
    refine SO.ps ?_
    refine SO.ps ?_
    refine SO.ps ?_
    refine SO.v (.pickT rfl rfl rfl) ?_
    refine SO.as ?_
    refine SO.nn ?_
    refine SC.ret ?_
    refine SQ.then_ret ?_
    refine SQ.out (.inl rfl) (res1 rfl rfl) ?_
    refine ⟨?_, hO1.toBelow trivial⟩
    (rw [cBd_edge (by rw [bl_length]; omega), decide_eq_true (by rw [bl_length]; omega)])
   ·
    refine SO.mv ?_
    refine SO.mv ?_
    refine SO.v (.eql rfl rfl rfl) ?_
    refine SO.v (.pickF rfl rfl rfl) ?_
    refine SO.as ?_
    refine SO.nn ?_
    refine SC.ret ?_
    refine SQ.then_ret ?_
    refine SQ.out (.inl rfl) (res1 rfl rfl) ?_
    refine ⟨?_, hO1.toBelow trivial⟩
    (rw [cBd_edge (by rw [bl_length]; omega)]; congr 2; exact decide_eq_decide.2 (by rw [bl_length]; omega))
  ·
   refine SO.mv ?_
   refine SO.mv ?_
   refine SO.v (.geq rfl rfl rfl) ?_
   refine SO.v (.pickF rfl rfl rfl) ?_
   refine SO.nn ?_
   refine SC.dec rfl (fun c6 => ?_) (fun c6 => ?_)
   ·
    refine SC.sr ?_
    refine SO.mv ?_
    refine SO.v (.eql rfl rfl rfl) ?_
    refine SO.mv ?_
    refine SO.dec 20 rfl (fun g7 => ?_) (fun g7 => ?_)
    ·
     refine SO.ps ?_
     refine SO.ps ?_
     refine SO.ps ?_
     refine SO.v (.pickT rfl rfl rfl) ?_
     refine SO.as ?_
     refine SO.nn ?_
     refine SC.ret ?_
     refine SQ.then_ret ?_
     refine SQ.out (.inl rfl) (res1 rfl rfl) ?_
     refine ⟨?_, hO1.toBelow trivial⟩
     (rw [cBd_edge (by rw [bl_length]; omega), decide_eq_true (by rw [bl_length]; omega)])
    ·
     refine SO.mv ?_
     refine SO.mv ?_
     refine SO.v (.eql rfl rfl rfl) ?_
     refine SO.v (.pickF rfl rfl rfl) ?_
     refine SO.as ?_
     refine SO.nn ?_
     refine SC.ret ?_
     refine SQ.then_ret ?_
     refine SQ.out (.inl rfl) (res1 rfl rfl) ?_
     refine ⟨?_, hO1.toBelow trivial⟩
     (rw [cBd_edge (by rw [bl_length]; omega)]; congr 2; exact decide_eq_decide.2 (by rw [bl_length]; omega))
   ·
    refine SC.skip ?_
    refine SQ.then_normal ?_
    refine SC.sr ?_
    refine SO.mv ?_
    refine SO.v (.sub rfl rfl rfl (by omega)) ?_
    refine SO.v (.maxI rfl rfl rfl) ?_
    refine SO.as ?_
    refine SO.nn ?_
    refine SC.sr ?_
    refine SO.mv ?_
    refine SO.mv ?_
    refine SO.mv ?_
    refine SO.v (.add rfl rfl rfl (by omega)) ?_
    refine SO.mv ?_
    refine SO.v (.minI rfl rfl rfl) ?_
    refine SO.call rfl rfl rfl rfl (.callF rfl rfl en95) (store_slice b s lim _ _ _ (hO1.good hG) (hp.below (hO1.toBelow trivial))) ?_
    rintro _ w10 ⟨rfl, hb10⟩
    have hO10 := hO1.below hb10
    refine ⟨_, rfl, ?_⟩
    refine SO.mv ?_
    refine SO.v (.extract rfl rfl rfl) ?_
    refine SO.v (.extract rfl rfl rfl) ?_
    refine SO.as ?_
    refine SO.as ?_
    refine SO.nn ?_
    refine SC.sr ?_
    refine SO.mv ?_
    refine SO.mv ?_
    refine SO.mv ?_
    refine SO.v (.sub rfl rfl rfl (by omega)) ?_
    refine SO.call rfl rfl rfl rfl (.callF rfl rfl en66) (cboundary_any _ _ _ (hO10.good hG) (by have := slT_size s (max (i - 4) 0) (min (i + 4) s.size); omega)) ?_
    rintro _ w11 ⟨rfl, hb11⟩
    have hO11 := hO10.below hb11
    refine ⟨_, rfl, ?_⟩
    refine SO.as ?_
    refine SO.nn ?_
    refine SC.ret ?_
    refine SQ.out (.inl rfl) (res1 rfl rfl) ?_
    refine ⟨?_, hO11.toBelow trivial⟩
    (congr 2; exact decide_eq_decide.2 (near_CB (by omega) (by omega)))

set_option maxRecDepth 20000 in
set_option maxHeartbeats 400000 in
theorem store_next (b : Nat) (s : ByteArray) (lim : Nat) (i : Int) (w : World) (hG : Good w) (hp : StoreAt w b s lim) :
    Calls Tryz.prog 106 #[.pointer (some ⟨b, 0, none⟩), .int .i64 i] w fun e w' => e = .returned (.int .i64 (cNextI (bl s) i : Nat)) ∧ Below w.heap.size w w' := by
  have hsz : s.size ≤ 1073741824 := by
    obtain ⟨u, k, lo, tp, mv, fo, ed, h1, h2⟩ := hp
    exact Nat.le_trans h2.sizes.2 h2.sizes.1
  have hO0 := Own.start hG
  refine enter Tryz.func106 rfl rfl rfl 0 ?_
  refine SC.sr ?_
  refine SO.as ?_
  refine SO.nn ?_
  refine SC.seq ?_
  refine SC.sr ?_
  refine SO.mv ?_
  refine SO.v (.lss rfl rfl rfl) ?_
  refine SO.nn ?_
  refine SC.dec rfl (fun c1 => ?_) (fun c1 => ?_)
  ·
   have hneg : i < 0 := c1
   refine SC.sr ?_
   refine SO.as ?_
   refine SO.nn ?_
   refine SC.ret ?_
   refine SQ.then_ret ?_
   refine SQ.out (.inl rfl) (res1 rfl rfl) ?_
   refine ⟨?_, hO0.toBelow trivial⟩
   unfold cNextI
   (rw [if_pos hneg]; rfl)
  ·
   obtain ⟨k, rfl⟩ := Int.eq_ofNat_of_zero_le (show 0 ≤ i by omega)
   refine SC.skip ?_
   refine SQ.then_normal ?_
   refine SC.sr ?_
   refine SO.mv ?_
   refine SO.call rfl rfl rfl rfl (.callF rfl rfl en91) (store_len b s lim _ (hO0.good hG) (hp.below (hO0.toBelow trivial))) ?_
   rintro _ w3 ⟨rfl, hb3⟩
   have hO3 := hO0.below hb3
   refine ⟨_, rfl, ?_⟩
   refine SO.as ?_
   refine SO.nn ?_
   refine SC.seq ?_
   refine SC.sr ?_
   refine SO.mv ?_
   refine SO.as ?_
   refine SO.nn ?_
   refine SC.block ?_
   refine SC.loop (α := Nat) (fun j => [(0, .pointer (some ⟨b, 0, none⟩)), (5, .int .i64 (s.size : Int)), (6, .int .i64 (j : Int))]) (fun j v => k ≤ j ∧ (∀ t, k < t → t ≤ j → ¬ CB (bl s) t) ∧ Ow.Own w [] v) (fun j => (bl s).length - j) k ?_ ?_ ?_
   · exact ⟨rfl, rfl, rfl, trivial⟩
   · exact ⟨by omega, fun t h1 h2 => by omega, hO3⟩
   rintro j w4 ⟨hkj, hno, hO4⟩
   refine SC.seq ?_
   refine SC.sr ?_
   refine SO.mv ?_
   refine SO.mv ?_
   refine SO.v (.lss rfl rfl rfl) ?_
   refine SO.nn ?_
   refine SC.dec rfl (fun c5 => ?_) (fun c5 => ?_)
   ·
    refine SC.skip ?_
    refine SQ.then_normal ?_
    refine SC.block ?_
    refine SC.sr ?_
    refine SO.mv ?_
    refine SO.v (.add rfl rfl rfl (by omega)) ?_
    refine SO.as ?_
    refine SO.nn ?_
    refine SC.sr ?_
    refine SO.mv ?_
    refine SO.mv ?_
    refine SO.call rfl rfl rfl rfl (.callF rfl rfl en109) (store_boundary b s lim _ _ (hO4.good hG) (hp.below (hO4.toBelow trivial))) ?_
    rintro _ w6 ⟨rfl, hb6⟩
    have hO6 := hO4.below hb6
    refine ⟨_, rfl, ?_⟩
    refine SO.nn ?_
    refine SC.dec rfl (fun c7 => ?_) (fun c7 => ?_)
    ·
     have hb := cBd_nat.1 (show cBd (bl s) ((j + 1 : Nat) : Int) from c7)
     have hres : cNext (bl s) k = j + 1 := cNext_eq (by omega) hb (fun t h1 h2 h3 => hno t h1 (by omega) h3)
     refine SC.sr ?_
     refine SO.mv ?_
     refine SO.as ?_
     refine SO.nn ?_
     refine SC.ret ?_
     refine SQ.block_ret ?_
     refine SQ.then_ret ?_
     refine SQ.block_ret ?_
     refine SQ.then_ret ?_
     refine SQ.out (.inl rfl) (res1 rfl rfl) ?_
     refine ⟨?_, hO6.toBelow trivial⟩
     unfold cNextI
     (rw [if_neg (by omega), Int.toNat_natCast, hres]; rfl)
    ·
     have hb : ¬ CB (bl s) (j + 1) := fun h => c7 (cBd_nat.2 h : cBd (bl s) ((j + 1 : Nat) : Int))
     have hno2 : ∀ t, k < t → t ≤ j + 1 → ¬ CB (bl s) t := fun t h1 h2 h3 => by
         by_cases e : t ≤ j
         · exact hno t h1 e h3
         · obtain rfl : t = j + 1 := by omega
           exact hb h3
     refine SC.skip ?_
     refine SQ.block_normal ?_
     refine SQ.round (j + 1) (by rw [bl_length]; omega) ⟨rfl, rfl, rfl, trivial⟩ ⟨by omega, hno2, hO6⟩
   ·
    have hge : cNext (bl s) k = (bl s).length := by
      by_cases e : k < (bl s).length
      · refine absurd (CB.len (bl s)) (hno _ e (by rw [bl_length]; omega))
      · exact cNext_out (by omega)
    rw [bl_length] at hge
    refine SC.exit ?_
    refine SQ.then_exit ?_
    refine SQ.then_exit ?_
    refine SQ.block_exit ?_
    refine SQ.then_normal ?_
    refine SC.sr ?_
    refine SO.mv ?_
    refine SO.as ?_
    refine SO.nn ?_
    refine SC.ret ?_
    refine SQ.out (.inl rfl) (res1 rfl rfl) ?_
    refine ⟨?_, hO4.toBelow trivial⟩
    unfold cNextI
    rw [if_neg (by omega), Int.toNat_natCast, hge]

set_option maxRecDepth 20000 in
set_option maxHeartbeats 400000 in
theorem store_prev (b : Nat) (s : ByteArray) (lim : Nat) (i : Int) (w : World) (hG : Good w) (hp : StoreAt w b s lim) :
    Calls Tryz.prog 107 #[.pointer (some ⟨b, 0, none⟩), .int .i64 i] w fun e w' => e = .returned (.int .i64 (cPrevI (bl s) i : Nat)) ∧ Below w.heap.size w w' := by
  have hsz : s.size ≤ 1073741824 := by
    obtain ⟨u, k, lo, tp, mv, fo, ed, h1, h2⟩ := hp
    exact Nat.le_trans h2.sizes.2 h2.sizes.1
  have hO0 := Own.start hG
  refine enter Tryz.func107 rfl rfl rfl 0 ?_
  refine SC.sr ?_
  refine SO.as ?_
  refine SO.nn ?_
  refine SC.seq ?_
  refine SC.sr ?_
  refine SO.mv ?_
  refine SO.v (.leq rfl rfl rfl) ?_
  refine SO.nn ?_
  refine SC.dec rfl (fun c1 => ?_) (fun c1 => ?_)
  ·
   refine SC.sr ?_
   refine SO.as ?_
   refine SO.nn ?_
   refine SC.ret ?_
   refine SQ.then_ret ?_
   refine SQ.out (.inl rfl) (res1 rfl rfl) ?_
   refine ⟨?_, hO0.toBelow trivial⟩
   unfold cPrevI
   (rw [if_neg (by rw [bl_length]; omega), show i.toNat = 0 by omega]; rfl)
  ·
   refine SC.skip ?_
   refine SQ.then_normal ?_
   refine SC.seq ?_
   refine SC.sr ?_
   refine SO.mv ?_
   refine SO.call rfl rfl rfl rfl (.callF rfl rfl en91) (store_len b s lim _ (hO0.good hG) (hp.below (hO0.toBelow trivial))) ?_
   rintro _ w3 ⟨rfl, hb3⟩
   have hO3 := hO0.below hb3
   refine ⟨_, rfl, ?_⟩
   refine SO.as ?_
   refine SO.nn ?_
   refine SC.sr ?_
   refine SO.mv ?_
   refine SO.mv ?_
   refine SO.v (.gtr rfl rfl rfl) ?_
   refine SO.nn ?_
   refine SC.dec rfl (fun c4 => ?_) (fun c4 => ?_)
   ·
    have hbig : i > ((bl s).length : Int) := by rw [bl_length]; omega
    refine SC.sr ?_
    refine SO.mv ?_
    refine SO.as ?_
    refine SO.nn ?_
    refine SC.ret ?_
    refine SQ.then_ret ?_
    refine SQ.out (.inl rfl) (res1 rfl rfl) ?_
    refine ⟨?_, hO3.toBelow trivial⟩
    unfold cPrevI
    (rw [if_pos hbig]; rfl)
   ·
    have hsm : ¬ i > ((bl s).length : Int) := by rw [bl_length]; omega
    refine SC.skip ?_
    refine SQ.then_normal ?_
    refine SC.seq ?_
    refine SC.sr ?_
    refine SO.mv ?_
    refine SO.v (.sub rfl rfl rfl (by omega)) ?_
    refine SO.as ?_
    refine SO.nn ?_
    refine SC.block ?_
    refine SC.loop (α := Int) (fun j => [(0, .pointer (some ⟨b, 0, none⟩)), (6, .int .i64 j)]) (fun j v => j < i ∧ (∀ t : Nat, j < t → (t : Int) < i → ¬ CB (bl s) t) ∧ Ow.Own w [] v) (fun j => j.toNat) (i - 1) ?_ ?_ ?_
    · exact ⟨rfl, rfl, trivial⟩
    · exact ⟨by omega, fun t h1 h2 => by omega, hO3⟩
    rintro j w6 ⟨hkj, hno, hO6⟩
    refine SC.seq ?_
    refine SC.sr ?_
    refine SO.mv ?_
    refine SO.v (.gtr rfl rfl rfl) ?_
    refine SO.nn ?_
    refine SC.dec rfl (fun c7 => ?_) (fun c7 => ?_)
    ·
     obtain ⟨m, rfl⟩ := Int.eq_ofNat_of_zero_le (show 0 ≤ j by omega)
     refine SC.skip ?_
     refine SQ.then_normal ?_
     refine SC.seq ?_
     refine SC.block ?_
     refine SC.sr ?_
     refine SO.mv ?_
     refine SO.mv ?_
     refine SO.call rfl rfl rfl rfl (.callF rfl rfl en109) (store_boundary b s lim _ _ (hO6.good hG) (hp.below (hO6.toBelow trivial))) ?_
     rintro _ w8 ⟨rfl, hb8⟩
     have hO8 := hO6.below hb8
     refine ⟨_, rfl, ?_⟩
     refine SO.nn ?_
     refine SC.dec rfl (fun c9 => ?_) (fun c9 => ?_)
     ·
      have hb := cBd_nat.1 c9
      have hres : cPrev (bl s) i.toNat = m := cPrev_eq hb _ (by omega) (fun t h1 h2 h3 => hno t (by omega) (by omega) h3)
      refine SC.sr ?_
      refine SO.mv ?_
      refine SO.as ?_
      refine SO.nn ?_
      refine SC.ret ?_
      refine SQ.block_ret ?_
      refine SQ.then_ret ?_
      refine SQ.then_ret ?_
      refine SQ.block_ret ?_
      refine SQ.then_ret ?_
      refine SQ.out (.inl rfl) (res1 rfl rfl) ?_
      refine ⟨?_, hO8.toBelow trivial⟩
      unfold cPrevI
      rw [if_neg hsm, hres]
     ·
      have hb := fun h => c9 (cBd_nat.2 h)
      have hno2 : ∀ t : Nat, (m : Int) - 1 < t → (t : Int) < i → ¬ CB (bl s) t := fun t h1 h2 h3 => by
          by_cases e : m = t
          · subst e; exact hb h3
          · exact hno t (by omega) h2 h3
      refine SC.skip ?_
      refine SQ.block_normal ?_
      refine SQ.then_normal ?_
      refine SC.region ?_
      refine SO.mv ?_
      refine SO.v (.sub rfl rfl rfl (by omega)) ?_
      refine SO.as ?_
      refine SO.nil ?_
      refine SQ.round ((m : Int) - 1) (by omega) ⟨rfl, rfl, trivial⟩ ⟨by omega, hno2, hO8⟩
    ·
     have hge : cPrev (bl s) i.toNat = 0 := cPrev_eq (.zero _) _ (by omega) (fun t h1 h2 => hno t (by omega) (by omega))
     refine SC.exit ?_
     refine SQ.then_exit ?_
     refine SQ.then_exit ?_
     refine SQ.block_exit ?_
     refine SQ.then_normal ?_
     refine SC.sr ?_
     refine SO.as ?_
     refine SO.nn ?_
     refine SC.ret ?_
     refine SQ.out (.inl rfl) (res1 rfl rfl) ?_
     refine ⟨?_, hO6.toBelow trivial⟩
     unfold cPrevI
     (rw [if_neg hsm, hge]; rfl)

set_option maxRecDepth 20000 in
set_option maxHeartbeats 400000 in
theorem store_snap (b : Nat) (s : ByteArray) (lim : Nat) (i : Int) (w : World) (hG : Good w) (hp : StoreAt w b s lim) :
    Calls Tryz.prog 108 #[.pointer (some ⟨b, 0, none⟩), .int .i64 i] w fun e w' => e = .returned (.int .i64 (cSnapI (bl s) i : Nat)) ∧ Below w.heap.size w w' := by
  have hsz : s.size ≤ 1073741824 := by
    obtain ⟨u, k, lo, tp, mv, fo, ed, h1, h2⟩ := hp
    exact Nat.le_trans h2.sizes.2 h2.sizes.1
  have hO0 := Own.start hG
  refine enter Tryz.func108 rfl rfl rfl 0 ?_
  refine SC.sr ?_
  refine SO.as ?_
  refine SO.nn ?_
  refine SC.seq ?_
  refine SC.sr ?_
  refine SO.mv ?_
  refine SO.mv ?_
  refine SO.call rfl rfl rfl rfl (.callF rfl rfl en109) (store_boundary b s lim _ _ (hO0.good hG) (hp.below (hO0.toBelow trivial))) ?_
  rintro _ w1 ⟨rfl, hb1⟩
  have hO1 := hO0.below hb1
  refine ⟨_, rfl, ?_⟩
  refine SO.nn ?_
  refine SC.dec rfl (fun c2 => ?_) (fun c2 => ?_)
  ·
   have hb := c2
   refine SC.sr ?_
   refine SO.mv ?_
   refine SO.as ?_
   refine SO.nn ?_
   refine SC.ret ?_
   refine SQ.then_ret ?_
   refine SQ.out (.inl rfl) (res1 rfl rfl) ?_
   refine ⟨?_, hO1.toBelow trivial⟩
   unfold cSnapI
   (rw [if_neg (by have := hb.1; omega), if_pos hb.2]; congr 2; have := hb.1; omega)
  ·
   have hb := c2
   refine SC.skip ?_
   refine SQ.then_normal ?_
   refine SC.sr ?_
   refine SO.mv ?_
   refine SO.mv ?_
   refine SO.call rfl rfl rfl rfl (.callF rfl rfl en106) (store_next b s lim _ _ (hO1.good hG) (hp.below (hO1.toBelow trivial))) ?_
   rintro _ w4 ⟨rfl, hb4⟩
   have hO4 := hO1.below hb4
   refine ⟨_, rfl, ?_⟩
   refine SO.as ?_
   refine SO.nn ?_
   refine SC.ret ?_
   refine SQ.out (.inl rfl) (res1 rfl rfl) ?_
   refine ⟨?_, hO4.toBelow trivial⟩
   unfold cSnapI
   (by_cases e : i < 0; (· rw [if_pos e]; unfold cNextI; rw [if_pos e]); (· rw [if_neg e, if_neg (fun h => hb ⟨by omega, h⟩)]; unfold cNextI; rw [if_neg e]))

end Go.Proofs.YtclgplkkajfenaaGreatDoor
