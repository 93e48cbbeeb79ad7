/- MoveGoal, the walk. -/
import Derived.Test.YtclgplkkajfenaaGreatDoorMgs
namespace Go.Proofs.YtclgplkkajfenaaGreatDoor
open Go Go.RowKit Ow
theorem go_step (s : ByteArray) (hz : s.size ≤ 1073741824) (i : Nat) (d : Int) (hi : i = 6 ∧ d = -1 ∨ i = 7 ∧ d = 1) {c0 m m' : Int} (g0 : 0 ≤ c0) (hm0 : 0 ≤ m) (hm1 : m ≤ nlC (bl s)) (hm' : m + d = m') (b lim : Nat) (w : World) (hG : Good w) (hp : StoreAt w b s lim) :
    Calls Tryz.prog 63 #[.pointer (some ⟨b, 0, none⟩), .int .i64 ((i : Int) + 4), .int .i64 (atR s m c0), .int .i64 c0, .int .i64 1] w fun e w' => ∃ x z : Int, e = .returned (.tuple #[.int .i64 x, .int .i64 c0, .int .i64 z]) ∧
      ((0 ≤ m' ∧ m' ≤ nlC (bl s)) ∧ x = atR s m' c0 ∧ z = 0 ∨ ¬ (0 ≤ m' ∧ m' ≤ nlC (bl s)) ∧ x = atR s m c0 ∧ z = 8) ∧ Below w.heap.size w w' := by
  have h := go_over s hz i d hi b lim (atR s m c0) c0 1 w hG hp
  rw [over_one hz (by omega) g0 hm0 hm1, hm'] at h
  refine h.mono ?_
  rintro e w' ⟨rfl, hb⟩
  by_cases hC : 0 ≤ m' ∧ m' ≤ nlC (bl s)
  · exact ⟨_, _, by rw [if_pos hC], .inl ⟨hC, rfl, rfl⟩, hb⟩
  · exact ⟨_, _, by rw [if_neg hC], .inr ⟨hC, rfl, rfl⟩, hb⟩
theorem go_many (s : ByteArray) (hz : s.size ≤ 1073741824) (i : Nat) (d : Int) (hi : i = 6 ∧ d = -1 ∨ i = 7 ∧ d = 1) {c0 m m' g : Int} (g0 : 0 ≤ c0) (n : Nat) (hn : 0 < n ∧ n ≤ 1000) (hm0 : 0 ≤ m) (hm1 : m ≤ nlC (bl s)) (hm' : m + d * n = m') (h0' : 0 ≤ m') (h1' : m' ≤ nlC (bl s))
    (hg : g = c0 ∨ g < 0 ∧ colR s (atR s m c0) = c0) (b lim : Nat) (w : World) (hG : Good w) (hp : StoreAt w b s lim) :
    Calls Tryz.prog 63 #[.pointer (some ⟨b, 0, none⟩), .int .i64 ((i : Int) + 4), .int .i64 (atR s m c0), .int .i64 g, .int .i64 (n : Int)] w fun e w' => e = .returned (.tuple #[.int .i64 (atR s m' c0), .int .i64 c0, .int .i64 0]) ∧ Below w.heap.size w w' := by
  have h := go_over s hz i d hi b lim (atR s m c0) g n w hG hp
  rw [over_run hz hm0 hm1, show (min (max (n : Int) 1) 1000).toNat = n by omega, over_iter hz (by omega) g0 n m (max g (-1)) 8 hn.1 hm0 hm1 (by omega) (by omega) (hg.imp (fun h => by omega) (fun h => ⟨by omega, h.2⟩)), hm'] at h
  exact h
theorem go_ls (s : ByteArray) (hz : s.size ≤ 1073741824) {m q : Int} (hm0 : 0 ≤ m) (hm1 : m ≤ nlC (bl s)) (b lim : Nat) (w : World) (hG : Good w) (hp : StoreAt w b s lim) :
    Calls Tryz.prog 63 #[.pointer (some ⟨b, 0, none⟩), .int .i64 8, .int .i64 (atR s m q), .int .i64 (-1), .int .i64 1] w fun e w' => ∃ y z : Int, e = .returned (.tuple #[.int .i64 (bgn (bl s) m : Nat), .int .i64 y, .int .i64 z]) ∧ Below w.heap.size w w' := by
  obtain ⟨t, et, ht, b1, b2⟩ := place_spec hz hm0 hm1 q
  have h := go_any s (stLineStart s) 4 (by decide) (lineStart_c s) (lineStart_in s) b lim (t : Int) (-1) 1 w hG hp
  rw [lineStart_one ht, ofN_line hm0 hm1 b1 b2, ← et] at h
  refine h.mono ?_
  rintro e w' ⟨rfl, hb⟩
  exact ⟨_, _, rfl, hb⟩

set_option maxRecDepth 20000 in
set_option maxHeartbeats 400000 in
theorem goal_any (kd : Int) (s : ByteArray) (a c : Int) (w : World) (hG : Good w) (hkd : 0 ≤ kd ∧ kd ≤ 255) (hc : 0 ≤ c ∧ c ≤ 255) :
    Calls Tryz.prog 18 #[.int .u8 kd, .string s, .int .i64 a, .int .u8 c] w fun e w' => e = .returned (.bool true) ∧ Below w.heap.size w w' := by
  obtain ⟨p0, hp0⟩ : ∃ p0 : Nat, p0 = cSnapI (bl s) a := ⟨_, rfl⟩
  have hcb : CB (bl s) p0 := by rw [hp0]; exact cSnapI_CB _ _
  have hO0 := Own.start hG
  refine enter Tryz.func18 rfl rfl rfl 0 ?_
  refine SC.sr ?_
  refine SO.as ?_
  refine SO.nn ?_
  refine SC.seq ?_
  refine SC.sr ?_
  refine SO.call rfl rfl rfl rfl (.callF rfl rfl en61) (goes_any _ (hO0.good hG)) ?_
  rintro _ w1 ⟨rfl, hb1⟩
  have hO1 := hO0.below hb1
  refine ⟨_, rfl, ?_⟩
  refine SO.v (.not rfl rfl) ?_
  refine SO.nn ?_
  refine SC.no rfl ?_
  refine SC.skip ?_
  refine SQ.then_normal ?_
  refine SC.seq ?_
  refine SC.sr ?_
  refine SO.mv ?_
  refine SO.v (.lenS rfl rfl Tryz.underlying9) ?_
  refine SO.v (.gtr rfl rfl rfl) ?_
  refine SO.nn ?_
  refine SC.dec rfl (fun c2 => ?_) (fun c2 => ?_)
  ·
   refine SC.sr ?_
   refine SO.as ?_
   refine SO.nn ?_
   refine SC.ret ?_
   refine SQ.then_ret ?_
   refine SQ.out (.inl rfl) (res1 rfl rfl) ?_
   have hEE := hO1.toBelow trivial
   exact ⟨rfl, hEE⟩
  ·
   have hz : s.size ≤ 1073741824 := by omega
   obtain ⟨k0, k1, L1, L2⟩ := CB_line hcb
   obtain ⟨_, g0, hA⟩ := colR_CB hz hcb
   obtain ⟨n0, hn0⟩ : ∃ n, n = ofN (bl s) ((p0 : Nat) : Int) := ⟨_, rfl⟩
   obtain ⟨c0, hc0⟩ : ∃ c, c = colR s ((p0 : Nat) : Int) := ⟨_, rfl⟩
   rw [← hn0] at k0 k1 hA
   rw [← hc0] at g0 hA
   have hA2 : (atR s (n0 + ((0 : Nat) : Int)) c0) = (p0 : Nat) := by rw [show n0 + ((0 : Nat) : Int) = n0 by omega]; exact hA
   have hcP : colR s (atR s (n0 + ((0 : Nat) : Int)) c0) = c0 := by rw [hA2, ← hc0]
   refine SC.skip ?_
   refine SQ.then_normal ?_
   refine SC.sr ?_
   refine SO.mv ?_
   refine SO.mv ?_
   refine SO.call rfl rfl rfl rfl (.callF rfl rfl en62) (laid_any _ _ _ (hO1.good hG) (by omega) (by omega)) ?_
   rintro _ w4 ⟨bs, rfl, hbs, hsa, hb4⟩
   have hOb := hO1.below hb4
   have hGb := hOb.good hG
   have hBb := hOb.toBelow trivial
   have hO4 := Own.start hGb
   refine ⟨_, rfl, ?_⟩
   refine SO.as ?_
   refine SO.nn ?_
   refine SC.sr ?_
   refine SO.mv ?_
   refine SO.mv ?_
   refine SO.call rfl rfl rfl rfl (.callF rfl rfl en65) ((by have h := csnap_any s a _ (hO4.good hGb) (by omega); rw [← hp0, ← hA2] at h; exact h)) ?_
   rintro _ w5 ⟨rfl, hb5⟩
   have hO5 := hO4.below hb5
   refine ⟨_, rfl, ?_⟩
   refine SO.as ?_
   refine SO.nn ?_
   refine SC.sr ?_
   refine SO.mv ?_
   refine SO.mv ?_
   refine SO.call rfl rfl rfl rfl (.callF rfl rfl en67) ((by have h := mv_column bs s _ ((p0 : Nat) : Int) _ (hO5.good hGb) (hsa.below (hO5.toBelow trivial)); rw [show max ((p0 : Nat) : Int) 0 = (p0 : Nat) by omega, cSnapI_self hcb, ← hc0, ← hA2] at h; exact h)) ?_
   rintro _ w6 ⟨rfl, hb6⟩
   have hO6 := hO5.below hb6
   refine ⟨_, rfl, ?_⟩
   refine SO.as ?_
   refine SO.nn ?_
   refine SC.sr ?_
   refine SO.mv ?_
   refine SO.as ?_
   refine SO.as ?_
   refine SO.nn ?_
   refine SC.seq ?_
   refine SC.sr ?_
   refine SO.mv ?_
   refine SO.v (.conv5_3 rfl rfl hc) ?_
   refine SO.mv ?_
   refine SO.nn ?_
   refine SC.block ?_
   refine SC.loop (α := Nat) (fun x => [(9, .pointer (some ⟨bs, 0, none⟩)), (10, .int .i64 (atR s (n0 + ((0 : Nat) : Int)) c0)), (11, .int .i64 c0), (12, .int .i64 (atR s (n0 + (x : Int)) c0)), (13, .int .i64 (x : Int)), (40, .int .i64 c), (41, .int .i64 (x : Int))]) (fun x v => (x : Int) ≤ c ∧ n0 + (x : Int) ≤ nlC (bl s) ∧ Ow.Own w4 [] v) (fun x => c.toNat - x) 0 ?_ ?_ ?_
   · exact ⟨rfl, rfl, rfl, rfl, rfl, rfl, rfl, trivial⟩
   · exact ⟨by omega, by omega, hO6⟩
   rintro j w7 ⟨hj, hm1, hO7⟩
   have hm0 : 0 ≤ n0 + (j : Int) := by omega
   refine SC.sr ?_
   refine SO.v (.lss rfl rfl rfl) ?_
   refine SO.nn ?_
   refine SC.seq ?_
   refine SC.dec rfl (fun c8 => ?_) (fun c8 => ?_)
   ·
    refine SC.skip ?_
    refine SQ.then_normal ?_
    refine SC.seq ?_
    refine SC.block ?_
    refine SC.sr ?_
    refine SO.mv ?_
    refine SO.mv ?_
    refine SO.mv ?_
    refine SO.call rfl rfl rfl rfl (.callF rfl rfl en63) (go_step s hz 7 1 (.inr ⟨rfl, rfl⟩) (m' := n0 + ((j + 1 : Nat) : Int)) g0 hm0 hm1 (by omega) bs _ _ (hO7.good hGb) (hsa.below (hO7.toBelow trivial))) ?_
    rintro _ w9 ⟨x, z, rfl, hxz, hb9⟩
    have hO9 := hO7.below hb9
    refine ⟨_, rfl, ?_⟩
    refine SO.mv ?_
    refine SO.v (.extract rfl rfl rfl) ?_
    refine SO.v (.extract rfl rfl rfl) ?_
    refine SO.v (.extract rfl rfl rfl) ?_
    refine SO.as ?_
    refine SO.as ?_
    refine SO.as ?_
    refine SO.nn ?_
    refine SC.seq ?_
    refine SC.sr ?_
    refine SO.mv ?_
    refine SO.v (.neq rfl rfl rfl) ?_
    refine SO.nn ?_
    refine SC.dec rfl (fun c10 => ?_) (fun c10 => ?_)
    ·
     refine SC.exit ?_
     refine SQ.then_exit ?_
     refine SQ.block_pass rfl ?_
     refine SQ.then_exit ?_
     refine SQ.then_exit ?_
     refine SQ.block_exit ?_
     refine SQ.then_normal ?_
     refine SC.seq ?_
     refine SC.sr ?_
     refine SO.mv ?_
     refine SO.v (.eql rfl rfl rfl) ?_
     refine SO.nn ?_
     refine SC.dec rfl (fun c11 => ?_) (fun c11 => ?_)
     ·
      obtain rfl : j = 0 := by omega
      refine SC.sr ?_
      refine SO.mv ?_
      refine SO.mv ?_
      refine SO.v (decT (.eql rfl rfl rfl) (by omega)) ?_
      refine SO.as ?_
      refine SO.nn ?_
      refine SC.ret ?_
      refine SQ.then_ret ?_
      refine SQ.out (.inl rfl) (res1 rfl rfl) ?_
      have hEE := hO9.toBelow trivial
      exact ⟨rfl, hBb.trans (hEE.mono hBb.size)⟩
     ·
      have hjp : 0 < j := by omega
      refine SC.skip ?_
      refine SQ.then_normal ?_
      refine SC.sr ?_
      refine SO.mv ?_
      refine SO.mv ?_
      refine SO.mv ?_
      refine SO.call rfl rfl rfl rfl (.callF rfl rfl en63) (go_many s hz 7 1 (.inr ⟨rfl, rfl⟩) g0 j ⟨hjp, by omega⟩ (by omega) (by omega) (show n0 + ((0 : Nat) : Int) + 1 * (j : Int) = n0 + (j : Int) by omega) (by omega) (by omega) (.inr ⟨by decide, hcP⟩) bs _ _ (hO9.good hGb) (hsa.below (hO9.toBelow trivial))) ?_
      rintro _ w13 ⟨rfl, hb13⟩
      have hO13 := hO9.below hb13
      refine ⟨_, rfl, ?_⟩
      refine SO.mv ?_
      refine SO.v (.extract rfl rfl rfl) ?_
      refine SO.v (.extract rfl rfl rfl) ?_
      refine SO.v (.extract rfl rfl rfl) ?_
      refine SO.as ?_
      refine SO.as ?_
      refine SO.as ?_
      refine SO.nn ?_
      refine SC.seq ?_
      refine SC.sr ?_
      refine SO.mv ?_
      refine SO.mv ?_
      refine SO.v (decF (.neq rfl rfl rfl) (by omega)) ?_
      refine SO.mv ?_
      refine SO.mv ?_
      refine SO.mv ?_
      refine SO.v (decF (.neq rfl rfl rfl) (by omega)) ?_
      refine SO.v (.pickF rfl rfl rfl) ?_
      refine SO.mv ?_
      refine SO.mv ?_
      refine SO.v (decF (.neq rfl rfl rfl) (by omega)) ?_
      refine SO.v (.pickF rfl rfl rfl) ?_
      refine SO.nn ?_
      refine SC.no rfl ?_
      refine SC.skip ?_
      refine SQ.then_normal ?_
      refine SC.sr ?_
      refine SO.mv ?_
      refine SO.mv ?_
      refine SO.mv ?_
      refine SO.mv ?_
      refine SO.call rfl rfl rfl rfl (.callF rfl rfl en63) (go_many s hz 6 (-1) (.inl ⟨rfl, rfl⟩) g0 j ⟨hjp, by omega⟩ (by omega) (by omega) (show n0 + (j : Int) + -1 * (j : Int) = n0 + ((0 : Nat) : Int) by omega) (by omega) (by omega) (.inl rfl) bs _ _ (hO13.good hGb) (hsa.below (hO13.toBelow trivial))) ?_
      rintro _ w14 ⟨rfl, hb14⟩
      have hO14 := hO13.below hb14
      refine ⟨_, rfl, ?_⟩
      refine SO.mv ?_
      refine SO.v (.extract rfl rfl rfl) ?_
      refine SO.v (.extract rfl rfl rfl) ?_
      refine SO.v (.extract rfl rfl rfl) ?_
      refine SO.as ?_
      refine SO.as ?_
      refine SO.as ?_
      refine SO.nn ?_
      refine SC.sr ?_
      refine SO.mv ?_
      refine SO.mv ?_
      refine SO.v (decT (.eql rfl rfl rfl) (by omega)) ?_
      refine SO.mv ?_
      refine SO.mv ?_
      refine SO.mv ?_
      refine SO.v (decT (.eql rfl rfl rfl) (by omega)) ?_
      refine SO.v (.pickT rfl rfl rfl) ?_
      refine SO.mv ?_
      refine SO.mv ?_
      refine SO.v (decT (.eql rfl rfl rfl) (by omega)) ?_
      refine SO.v (.pickT rfl rfl rfl) ?_
      refine SO.as ?_
      refine SO.nn ?_
      refine SC.ret ?_
      refine SQ.out (.inl rfl) (res1 rfl rfl) ?_
      have hEE := hO14.toBelow trivial
      exact ⟨rfl, hBb.trans (hEE.mono hBb.size)⟩
    ·
     obtain ⟨hC, rfl, rfl⟩ : (0 ≤ n0 + ((j + 1 : Nat) : Int) ∧ n0 + ((j + 1 : Nat) : Int) ≤ nlC (bl s)) ∧ x = atR s (n0 + ((j + 1 : Nat) : Int)) c0 ∧ z = 0 := hxz.resolve_right (fun h => by omega)
     obtain ⟨tj, etj, htj, bj1, bj2⟩ := place_spec hz (m := n0 + (j : Int)) (by omega) (by omega) c0
     obtain ⟨t, et, ht, b1, b2⟩ := place_spec hz (m := n0 + ((j + 1 : Nat) : Int)) (by omega) (by omega) c0
     have hll := lend_lt (l := bl s) (k := n0 + (j : Int)) (by omega) (by omega)
     rw [show n0 + (j : Int) + 1 = n0 + ((j + 1 : Nat) : Int) by omega] at hll
     refine SC.skip ?_
     refine SQ.then_normal ?_
     refine SC.sr ?_
     refine SO.mv ?_
     refine SO.mv ?_
     refine SO.call rfl rfl rfl rfl (.callF rfl rfl en63) (go_ls s hz hC.1 hC.2 bs _ _ (hO9.good hGb) (hsa.below (hO9.toBelow trivial))) ?_
     rintro _ w16 ⟨y, z2, rfl, hb16⟩
     have hO16 := hO9.below hb16
     refine ⟨_, rfl, ?_⟩
     refine SO.mv ?_
     refine SO.v (.extract rfl rfl rfl) ?_
     refine SO.v (.extract rfl rfl rfl) ?_
     refine SO.v (.extract rfl rfl rfl) ?_
     refine SO.as ?_
     refine SO.as ?_
     refine SO.as ?_
     refine SO.nn ?_
     refine SC.seq ?_
     refine SC.sr ?_
     refine SO.mv ?_
     refine SO.mv ?_
     refine SO.v (decF (.neq rfl rfl rfl) (by omega)) ?_
     refine SO.mv ?_
     refine SO.mv ?_
     refine SO.mv ?_
     refine SO.v (decF (.leq rfl rfl rfl) (by omega)) ?_
     refine SO.v (.pickF rfl rfl rfl) ?_
     refine SO.mv ?_
     refine SO.mv ?_
     refine SO.mv ?_
     refine SO.v (decF (.leq rfl rfl rfl) (by omega)) ?_
     refine SO.v (.pickF rfl rfl rfl) ?_
     refine SO.nn ?_
     refine SC.no rfl ?_
     refine SC.skip ?_
     refine SQ.then_normal ?_
     refine SC.region ?_
     refine SO.mv ?_
     refine SO.mv ?_
     refine SO.v (.add rfl rfl rfl (by omega)) ?_
     refine SO.as ?_
     refine SO.as ?_
     refine SO.nil ?_
     refine SQ.block_normal ?_
     refine SQ.then_normal ?_
     refine SC.region ?_
     refine SO.v (.add rfl rfl rfl (by omega)) ?_
     refine SO.mv ?_
     refine SO.nil ?_
     refine SQ.round (j + 1) (by omega) ⟨rfl, rfl, rfl, rfl, rfl, rfl, rfl, trivial⟩ ⟨by omega, by omega, hO16⟩
   ·
    refine SC.exit ?_
    refine SQ.then_exit ?_
    refine SQ.then_exit ?_
    refine SQ.block_exit ?_
    refine SQ.then_normal ?_
    refine SC.seq ?_
    refine SC.sr ?_
    refine SO.mv ?_
    refine SO.v (.eql rfl rfl rfl) ?_
    refine SO.nn ?_
    refine SC.dec rfl (fun c17 => ?_) (fun c17 => ?_)
    ·
     obtain rfl : j = 0 := by omega
     refine SC.sr ?_
     refine SO.mv ?_
     refine SO.mv ?_
     refine SO.v (decT (.eql rfl rfl rfl) (by omega)) ?_
     refine SO.as ?_
     refine SO.nn ?_
     refine SC.ret ?_
     refine SQ.then_ret ?_
     refine SQ.out (.inl rfl) (res1 rfl rfl) ?_
     have hEE := hO7.toBelow trivial
     exact ⟨rfl, hBb.trans (hEE.mono hBb.size)⟩
    ·
     have hjp : 0 < j := by omega
     refine SC.skip ?_
     refine SQ.then_normal ?_
     refine SC.sr ?_
     refine SO.mv ?_
     refine SO.mv ?_
     refine SO.mv ?_
     refine SO.call rfl rfl rfl rfl (.callF rfl rfl en63) (go_many s hz 7 1 (.inr ⟨rfl, rfl⟩) g0 j ⟨hjp, by omega⟩ (by omega) (by omega) (show n0 + ((0 : Nat) : Int) + 1 * (j : Int) = n0 + (j : Int) by omega) (by omega) (by omega) (.inr ⟨by decide, hcP⟩) bs _ _ (hO7.good hGb) (hsa.below (hO7.toBelow trivial))) ?_
     rintro _ w19 ⟨rfl, hb19⟩
     have hO19 := hO7.below hb19
     refine ⟨_, rfl, ?_⟩
     refine SO.mv ?_
     refine SO.v (.extract rfl rfl rfl) ?_
     refine SO.v (.extract rfl rfl rfl) ?_
     refine SO.v (.extract rfl rfl rfl) ?_
     refine SO.as ?_
     refine SO.as ?_
     refine SO.as ?_
     refine SO.nn ?_
     refine SC.seq ?_
     refine SC.sr ?_
     refine SO.mv ?_
     refine SO.mv ?_
     refine SO.v (decF (.neq rfl rfl rfl) (by omega)) ?_
     refine SO.mv ?_
     refine SO.mv ?_
     refine SO.mv ?_
     refine SO.v (decF (.neq rfl rfl rfl) (by omega)) ?_
     refine SO.v (.pickF rfl rfl rfl) ?_
     refine SO.mv ?_
     refine SO.mv ?_
     refine SO.v (decF (.neq rfl rfl rfl) (by omega)) ?_
     refine SO.v (.pickF rfl rfl rfl) ?_
     refine SO.nn ?_
     refine SC.no rfl ?_
     refine SC.skip ?_
     refine SQ.then_normal ?_
     refine SC.sr ?_
     refine SO.mv ?_
     refine SO.mv ?_
     refine SO.mv ?_
     refine SO.mv ?_
     refine SO.call rfl rfl rfl rfl (.callF rfl rfl en63) (go_many s hz 6 (-1) (.inl ⟨rfl, rfl⟩) g0 j ⟨hjp, by omega⟩ (by omega) (by omega) (show n0 + (j : Int) + -1 * (j : Int) = n0 + ((0 : Nat) : Int) by omega) (by omega) (by omega) (.inl rfl) bs _ _ (hO19.good hGb) (hsa.below (hO19.toBelow trivial))) ?_
     rintro _ w20 ⟨rfl, hb20⟩
     have hO20 := hO19.below hb20
     refine ⟨_, rfl, ?_⟩
     refine SO.mv ?_
     refine SO.v (.extract rfl rfl rfl) ?_
     refine SO.v (.extract rfl rfl rfl) ?_
     refine SO.v (.extract rfl rfl rfl) ?_
     refine SO.as ?_
     refine SO.as ?_
     refine SO.as ?_
     refine SO.nn ?_
     refine SC.sr ?_
     refine SO.mv ?_
     refine SO.mv ?_
     refine SO.v (decT (.eql rfl rfl rfl) (by omega)) ?_
     refine SO.mv ?_
     refine SO.mv ?_
     refine SO.mv ?_
     refine SO.v (decT (.eql rfl rfl rfl) (by omega)) ?_
     refine SO.v (.pickT rfl rfl rfl) ?_
     refine SO.mv ?_
     refine SO.mv ?_
     refine SO.v (decT (.eql rfl rfl rfl) (by omega)) ?_
     refine SO.v (.pickT rfl rfl rfl) ?_
     refine SO.as ?_
     refine SO.nn ?_
     refine SC.ret ?_
     refine SQ.out (.inl rfl) (res1 rfl rfl) ?_
     have hEE := hO20.toBelow trivial
     exact ⟨rfl, hBb.trans (hEE.mono hBb.size)⟩

end Go.Proofs.YtclgplkkajfenaaGreatDoor
