/- MoveStays, the walk. -/
import Derived.Test.YtclgplkkajfenaaGreatDoorMstl
namespace Go.Proofs.YtclgplkkajfenaaGreatDoor
open Go Go.RowKit Ow
theorem cSnapI_max (l : Bs) (a : Int) : cSnapI l (max a 0) = cSnapI l a := by
  by_cases h : a < 0
  · rw [show max a 0 = 0 by omega]
    unfold cSnapI
    rw [if_neg (by omega), if_pos h]
    exact if_pos (CB.zero l)
  · rw [show max a 0 = a by omega]
theorem stays_go (s : ByteArray) (hz : s.size ≤ 1073741824) (i : Nat) (hi : i < 10) (b lim : Nat) (a c : Int) (hc : 0 ≤ c ∧ c ≤ 255) (p0 : Nat) (hp0 : p0 = cSnapI (bl s) a) (w : World) (hG : Good w) (hp : StoreAt w b s lim) :
    Calls Tryz.prog 63 #[.pointer (some ⟨b, 0, none⟩), .int .i64 ((i : Int) + 4), .int .i64 a, .int .i64 (-1), .int .i64 c] w fun e w' => ∃ (t : Nat) (y z : Int), e = .returned (.tuple #[.int .i64 (t : Int), .int .i64 y, .int .i64 z]) ∧ CB (bl s) t ∧
      ((i = 0 ∨ i = 2 ∨ i = 4 ∨ i = 6 ∨ i = 8) → t ≤ p0) ∧ ((i = 1 ∨ i = 3 ∨ i = 5 ∨ i = 7 ∨ i = 9) → p0 ≤ t) ∧ (z = 0 ∨ z = 8 ∧ t = p0) ∧ ((stOf s i).iter (max c 1).toNat p0 (-1) 8).1 = t ∧ (y = -1 ∨ ((stOf s i).iter (max c 1).toNat p0 (-1) 8).2.1 = y) ∧ Below w.heap.size w w' := by
  have hcb : CB (bl s) p0 := by rw [hp0]; exact cSnapI_CB _ _
  have h := go_any s (stOf s i) i hi (stOf_c s hi) (stOf_in hz hi) b lim a (-1) c w hG hp
  have hr : (stOf s i).run s a (-1) c = (stOf s i).iter (max c 1).toNat p0 (-1) 8 := by
    unfold Step.run
    rw [cSnapI_max, ← hp0, show (min (max c 1) 1000).toNat = (max c 1).toNat by omega]; rfl
  obtain ⟨t, e1, ht, d1, d2, he, _⟩ := stOf_iter hz hi (max c 1).toNat p0 (-1) 8 hcb
  refine h.mono ?_
  rintro e w' ⟨rfl, hb⟩
  refine ⟨t, _, _, by rw [hr, e1], ht, d1, d2, he, e1, ?_, hb⟩
  unfold Step.goal
  rw [hr]
  split
  · exact .inl rfl
  · exact .inr rfl
theorem colR_pos (s : ByteArray) (a : Int) : 0 ≤ colR s a := by
  unfold colR; split
  · exact Int.le_refl _
  · exact (colW_le s _ _).1
theorem stOf_goal (s : ByteArray) {i : Nat} (hi : i < 10) {g a : Int} (hg : -1 ≤ g) (hgi : i = 6 ∨ i = 7 ∨ g = -1) : -1 ≤ (stOf s i).go g a ∧ (i = 6 ∨ i = 7 ∨ (stOf s i).go g a = -1) := by
  have hov : ∀ d, -1 ≤ ovGo s d g a := fun d => by
    unfold ovGo ovG
    have := colR_pos s a
    split
    · split <;> omega
    · exact hg
  by_cases h6 : i = 6
  · subst h6; exact ⟨hov (-1), .inl rfl⟩
  · by_cases h7 : i = 7
    · subst h7; exact ⟨hov 1, .inr (.inl rfl)⟩
    · rw [stOf_go s hi h6 h7]; exact ⟨hg, by omega⟩
theorem stays_one (s : ByteArray) (hz : s.size ≤ 1073741824) (i : Nat) (hi : i < 10) (b lim : Nat) (p : Nat) (g : Int) (hcb : CB (bl s) p) (hg : -1 ≤ g) (hgi : i = 6 ∨ i = 7 ∨ g = -1) (w : World) (hG : Good w) (hp : StoreAt w b s lim) :
    Calls Tryz.prog 63 #[.pointer (some ⟨b, 0, none⟩), .int .i64 ((i : Int) + 4), .int .i64 (p : Int), .int .i64 g, .int .i64 1] w fun e w' => ∃ (x : Nat) (z : Int), e = .returned (.tuple #[.int .i64 (x : Int), .int .i64 ((stOf s i).go g p), .int .i64 z]) ∧
      (((stOf s i).ok g p = true ∧ (x : Int) = (stOf s i).to g p ∧ CB (bl s) x ∧ z = 0) ∨ (¬ (stOf s i).ok g p = true ∧ x = p ∧ z = 8)) ∧ Below w.heap.size w w' := by
  have h := go_any s (stOf s i) i hi (stOf_c s hi) (stOf_in hz hi) b lim (p : Int) g 1 w hG hp
  have hr : (stOf s i).run s (p : Int) g 1 = (stOf s i).iter (0 + 1) p g 8 := by
    unfold Step.run
    rw [show max (p : Int) 0 = p by omega, cSnapI_self hcb, show max g (-1) = g by omega]; rfl
  have hq := (stOf_goal s (a := (p : Int)) hi hg hgi).2
  refine h.mono ?_
  rintro e w' ⟨rfl, hb⟩
  unfold Step.goal
  rw [hr, Step.iter]
  by_cases hok : (stOf s i).ok g p = true
  · rw [if_pos hok]
    obtain ⟨t, et, ht, _⟩ := stOf_to hz hi g hcb hok
    refine ⟨t, 0, ?_, .inl ⟨hok, et.symm, ht, rfl⟩, hb⟩
    rw [et]
    by_cases hi7 : i ≠ 6 ∧ i ≠ 7
    · rw [if_pos ⟨rfl, hi7⟩, hq.resolve_left hi7.1 |>.resolve_left hi7.2]; rfl
    · rw [if_neg (fun x => hi7 x.2)]; rfl
  · rw [if_neg hok]
    exact ⟨p, 8, by rw [if_neg (fun x => absurd x.1 (show ¬ (8 : Int) = 0 by decide))], .inr ⟨hok, rfl, rfl⟩, hb⟩

set_option maxRecDepth 20000 in
set_option maxHeartbeats 400000 in
theorem stays_any (kd : Int) (s : ByteArray) (a c : Int) (w : World) (hG : Good w) (hkd : 0 ≤ kd ∧ kd ≤ 255) (hc : 0 ≤ c ∧ c ≤ 255) :
    Calls Tryz.prog 17 #[.int .u8 kd, .string s, .int .i64 a, .int .u8 c] w fun e w' => e = .returned (.bool true) ∧ Below w.heap.size w w' := by
  obtain ⟨p0, hp0⟩ : ∃ p0 : Nat, p0 = cSnapI (bl s) a := ⟨_, rfl⟩
  have hcb : CB (bl s) p0 := by rw [hp0]; exact cSnapI_CB _ _
  have hO0 := Own.start hG
  refine enter Tryz.func17 rfl rfl rfl 0 ?_
  refine SC.sr ?_
  refine SO.as ?_
  refine SO.nn ?_
  refine SC.seq ?_
  refine SC.sr ?_
  refine SO.call rfl rfl rfl rfl (.callF rfl rfl en61) (goes_any _ (hO0.good hG)) ?_
  rintro _ w1 ⟨rfl, hb1⟩
  have hO1 := hO0.below hb1
  refine ⟨_, rfl, ?_⟩
  refine SO.v (.not rfl rfl) ?_
  refine SO.nn ?_
  refine SC.no rfl ?_
  refine SC.skip ?_
  refine SQ.then_normal ?_
  refine SC.seq ?_
  refine SC.sr ?_
  refine SO.mv ?_
  refine SO.v (.lenS rfl rfl Tryz.underlying9) ?_
  refine SO.v (.gtr rfl rfl rfl) ?_
  refine SO.nn ?_
  refine SC.dec rfl (fun c2 => ?_) (fun c2 => ?_)
  ·
   refine SC.sr ?_
   refine SO.as ?_
   refine SO.nn ?_
   refine SC.ret ?_
   refine SQ.then_ret ?_
   refine SQ.out (.inl rfl) (res1 rfl rfl) ?_
   have hEE := hO1.toBelow trivial
   exact ⟨rfl, hEE⟩
  ·
   have hz : s.size ≤ 1073741824 := by omega
   refine SC.skip ?_
   refine SQ.then_normal ?_
   refine SC.sr ?_
   refine SO.mv ?_
   refine SO.mv ?_
   refine SO.call rfl rfl rfl rfl (.callF rfl rfl en62) (laid_any _ _ _ (hO1.good hG) (by omega) (by omega)) ?_
   rintro _ w4 ⟨bs, rfl, hbs, hsa, hb4⟩
   have hOb := hO1.below hb4
   have hGb := hOb.good hG
   have hBb := hOb.toBelow trivial
   have hO4 := Own.start hGb
   refine ⟨_, rfl, ?_⟩
   refine SO.as ?_
   refine SO.nn ?_
   refine SC.sr ?_
   refine SO.mv ?_
   refine SO.mv ?_
   refine SO.call rfl rfl rfl rfl (.callF rfl rfl en65) ((by have h := csnap_any s a _ (hO4.good hGb) (by omega); rw [← hp0] at h; exact h)) ?_
   rintro _ w5 ⟨rfl, hb5⟩
   have hO5 := hO4.below hb5
   refine ⟨_, rfl, ?_⟩
   refine SO.as ?_
   refine SO.nn ?_
   refine SC.seq ?_
   refine SC.sr ?_
   refine SO.as ?_
   refine SO.nn ?_
   refine SC.block ?_
   refine SC.loop (α := Nat) (fun x => [(1, .string s), (2, .int .i64 a), (3, .int .u8 c), (9, .pointer (some ⟨bs, 0, none⟩)), (10, .int .i64 (p0 : Int)), (11, .int .i64 ((x : Int) + 4))]) (fun x v => x ≤ 10 ∧ Ow.Own w4 [] v) (fun x => 10 - x) 0 ?_ ?_ ?_
   · exact ⟨rfl, rfl, rfl, rfl, rfl, rfl, trivial⟩
   · exact ⟨by omega, hO5⟩
   rintro i w6 ⟨hi0, hO6⟩
   refine SC.seq ?_
   refine SC.sr ?_
   refine SO.mv ?_
   refine SO.v (.leq rfl rfl rfl) ?_
   refine SO.nn ?_
   refine SC.dec rfl (fun c7 => ?_) (fun c7 => ?_)
   ·
    have hi : i < 10 := by omega
    refine SC.skip ?_
    refine SQ.then_normal ?_
    refine SC.seq ?_
    refine SC.block ?_
    refine SC.sr ?_
    refine SO.mv ?_
    refine SO.mv ?_
    refine SO.mv ?_
    refine SO.mv ?_
    refine SO.v (.conv5_3 rfl rfl hc) ?_
    refine SO.call rfl rfl rfl rfl (.callF rfl rfl en63) (stays_go s hz i hi bs _ a c hc p0 hp0 _ (hO6.good hGb) (hsa.below (hO6.toBelow trivial))) ?_
    rintro _ w8 ⟨t, y, z, rfl, ht, hback, hfwd, hzz, hit0, hy, hb8⟩
    have hO8 := hO6.below hb8
    refine ⟨_, rfl, ?_⟩
    refine SO.mv ?_
    refine SO.v (.extract rfl rfl rfl) ?_
    refine SO.v (.extract rfl rfl rfl) ?_
    refine SO.v (.extract rfl rfl rfl) ?_
    refine SO.as ?_
    refine SO.as ?_
    refine SO.as ?_
    refine SO.nn ?_
    refine SC.seq ?_
    refine SC.cut (α := Unit) (fun _x => [(1, .string s), (2, .int .i64 a), (3, .int .u8 c), (9, .pointer (some ⟨bs, 0, none⟩)), (10, .int .i64 (p0 : Int)), (11, .int .i64 ((i : Int) + 4)), (12, .int .i64 (t : Int)), (13, .int .i64 y), (60, .bool false)]) (fun _x v => Ow.Own w4 [] v) ?_ ?_
    ·
     refine SC.region ?_
     refine SO.mv ?_
     refine SO.mv ?_
     refine SO.call rfl rfl rfl rfl (.callF rfl rfl en66) ((by have h := cboundary_any s (t : Int) _ (hO8.good hGb) (by omega); rw [decide_eq_true (cBd_nat.2 ht)] at h; exact h)) ?_
     rintro _ w9 ⟨rfl, hb9⟩
     have hO9 := hO8.below hb9
     refine ⟨_, rfl, ?_⟩
     refine SO.v (.not rfl rfl) ?_
     refine SO.mv ?_
     refine SO.mv ?_
     refine SO.v (.neq rfl rfl rfl) ?_
     refine SO.mv ?_
     refine SO.dec 51 rfl (fun g10 => ?_) (fun g10 => ?_)
     ·
      refine SO.mv ?_
      refine SO.mv ?_
      refine SO.v (decF (.neq rfl rfl rfl) (by omega)) ?_
      refine SO.mv ?_
      refine SO.mv ?_
      refine SO.v (decF (.neq rfl rfl rfl) (by omega)) ?_
      refine SO.v (.pickF rfl rfl rfl) ?_
      refine SO.v (.pickT rfl rfl rfl) ?_
      refine SO.v (.pickF rfl rfl rfl) ?_
      refine SO.nil ?_
      first | exact SQ.cut () ⟨rfl, rfl, rfl, rfl, rfl, rfl, rfl, rfl, rfl, trivial⟩ hO9
     ·
      refine SO.ps ?_
      refine SO.ps ?_
      refine SO.ps ?_
      refine SO.ps ?_
      refine SO.ps ?_
      refine SO.ps ?_
      refine SO.ps ?_
      refine SO.v (.pickF rfl rfl rfl) ?_
      refine SO.v (.pickF rfl rfl rfl) ?_
      refine SO.nil ?_
      first | exact SQ.cut () ⟨rfl, rfl, rfl, rfl, rfl, rfl, rfl, rfl, rfl, trivial⟩ hO9
    ·
     rintro _ w11 hO11
     refine SC.no rfl ?_
     refine SC.skip ?_
     refine SQ.then_normal ?_
     refine SC.cut (α := Bool) (fun x => [(1, .string s), (2, .int .i64 a), (3, .int .u8 c), (9, .pointer (some ⟨bs, 0, none⟩)), (10, .int .i64 (p0 : Int)), (11, .int .i64 ((i : Int) + 4)), (12, .int .i64 (t : Int)), (13, .int .i64 y), (15, .bool x)]) (fun x v => (x = true → t ≤ p0) ∧ (x = false → p0 ≤ t) ∧ Ow.Own w4 [] v) ?_ ?_
     ·
      refine SC.region ?_
      refine SO.mv ?_
      refine SO.v (.eql rfl rfl rfl) ?_
      refine SO.mv ?_
      refine SO.dec 63 rfl (fun g12 => ?_) (fun g12 => ?_)
      ·
       refine SO.ps ?_
       refine SO.ps ?_
       refine SO.v (.pickT rfl rfl rfl) ?_
       refine SO.mv ?_
       refine SO.ps ?_
       refine SO.ps ?_
       refine SO.v (.pickT rfl rfl rfl) ?_
       refine SO.mv ?_
       refine SO.ps ?_
       refine SO.ps ?_
       refine SO.v (.pickT rfl rfl rfl) ?_
       refine SO.mv ?_
       refine SO.ps ?_
       refine SO.ps ?_
       refine SO.v (.pickT rfl rfl rfl) ?_
       refine SO.as ?_
       refine SO.nil ?_
       exact SQ.cut true ⟨rfl, rfl, rfl, rfl, rfl, rfl, rfl, rfl, rfl, trivial⟩ ⟨fun _ => hback (by omega), fun h => (by cases h), hO11⟩
      ·
       refine SO.mv ?_
       refine SO.v (.eql rfl rfl rfl) ?_
       refine SO.v (.pickF rfl rfl rfl) ?_
       refine SO.mv ?_
       refine SO.dec 67 rfl (fun g13 => ?_) (fun g13 => ?_)
       ·
        refine SO.ps ?_
        refine SO.ps ?_
        refine SO.v (.pickT rfl rfl rfl) ?_
        refine SO.mv ?_
        refine SO.ps ?_
        refine SO.ps ?_
        refine SO.v (.pickT rfl rfl rfl) ?_
        refine SO.mv ?_
        refine SO.ps ?_
        refine SO.ps ?_
        refine SO.v (.pickT rfl rfl rfl) ?_
        refine SO.as ?_
        refine SO.nil ?_
        exact SQ.cut true ⟨rfl, rfl, rfl, rfl, rfl, rfl, rfl, rfl, rfl, trivial⟩ ⟨fun _ => hback (by omega), fun h => (by cases h), hO11⟩
       ·
        refine SO.mv ?_
        refine SO.v (.eql rfl rfl rfl) ?_
        refine SO.v (.pickF rfl rfl rfl) ?_
        refine SO.mv ?_
        refine SO.dec 71 rfl (fun g14 => ?_) (fun g14 => ?_)
        ·
         refine SO.ps ?_
         refine SO.ps ?_
         refine SO.v (.pickT rfl rfl rfl) ?_
         refine SO.mv ?_
         refine SO.ps ?_
         refine SO.ps ?_
         refine SO.v (.pickT rfl rfl rfl) ?_
         refine SO.as ?_
         refine SO.nil ?_
         exact SQ.cut true ⟨rfl, rfl, rfl, rfl, rfl, rfl, rfl, rfl, rfl, trivial⟩ ⟨fun _ => hback (by omega), fun h => (by cases h), hO11⟩
        ·
         refine SO.mv ?_
         refine SO.v (.eql rfl rfl rfl) ?_
         refine SO.v (.pickF rfl rfl rfl) ?_
         refine SO.mv ?_
         refine SO.dec 75 rfl (fun g15 => ?_) (fun g15 => ?_)
         ·
          refine SO.ps ?_
          refine SO.ps ?_
          refine SO.v (.pickT rfl rfl rfl) ?_
          refine SO.as ?_
          refine SO.nil ?_
          exact SQ.cut true ⟨rfl, rfl, rfl, rfl, rfl, rfl, rfl, rfl, rfl, trivial⟩ ⟨fun _ => hback (by omega), fun h => (by cases h), hO11⟩
         ·
          refine SO.mv ?_
          refine SO.v (.eql rfl rfl rfl) ?_
          refine SO.v (.pickF rfl rfl rfl) ?_
          refine SO.as ?_
          refine SO.nil ?_
          exact SQ.cut _ ⟨rfl, rfl, rfl, rfl, rfl, rfl, rfl, rfl, rfl, trivial⟩ ⟨fun h => hback (by have := of_decide_eq_true h; omega), fun h => hfwd (by have := of_decide_eq_false h; omega), hO11⟩
     ·
      rintro x w16 ⟨hbt, hbf, hO16⟩
      refine SC.seq ?_
      refine SC.cut (α := Unit) (fun _x => [(1, .string s), (2, .int .i64 a), (3, .int .u8 c), (9, .pointer (some ⟨bs, 0, none⟩)), (10, .int .i64 (p0 : Int)), (11, .int .i64 ((i : Int) + 4)), (12, .int .i64 (t : Int)), (13, .int .i64 y), (93, .bool false)]) (fun _x v => Ow.Own w4 [] v) ?_ ?_
      ·
       refine SC.region ?_
       refine SO.mv ?_
       refine SO.mv ?_
       refine SO.bool 80 rfl (fun g17 => ?_) (fun g17 => ?_)
       ·
        have hbk := hbt g17
        refine SO.mv ?_
        refine SO.mv ?_
        refine SO.v (decF (.gtr rfl rfl rfl) (by omega)) ?_
        refine SO.v (.pickT rfl rfl rfl) ?_
        refine SO.mv ?_
        refine SO.mv ?_
        refine SO.v (.not rfl rfl) ?_
        refine SO.mv ?_
        refine SO.bool 88 rfl (fun g18 => ?_) (fun g18 => ?_)
        ·
         exact absurd g18 (by rw [show x = true by assumption]; decide)
        ·
         refine SO.ps ?_
         refine SO.ps ?_
         refine SO.ps ?_
         refine SO.v (.pickF rfl rfl rfl) ?_
         refine SO.v (.pickF rfl rfl rfl) ?_
         refine SO.nil ?_
         first | exact SQ.cut () ⟨rfl, rfl, rfl, rfl, rfl, rfl, rfl, rfl, rfl, trivial⟩ hO16
       ·
        have hbk := hbf g17
        refine SO.ps ?_
        refine SO.ps ?_
        refine SO.ps ?_
        refine SO.v (.pickF rfl rfl rfl) ?_
        refine SO.mv ?_
        refine SO.mv ?_
        refine SO.v (.not rfl rfl) ?_
        refine SO.mv ?_
        refine SO.bool 88 rfl (fun g19 => ?_) (fun g19 => ?_)
        ·
         refine SO.mv ?_
         refine SO.mv ?_
         refine SO.v (decF (.lss rfl rfl rfl) (by omega)) ?_
         refine SO.v (.pickT rfl rfl rfl) ?_
         refine SO.v (.pickF rfl rfl rfl) ?_
         refine SO.nil ?_
         first | exact SQ.cut () ⟨rfl, rfl, rfl, rfl, rfl, rfl, rfl, rfl, rfl, trivial⟩ hO16
        ·
         exact absurd g19 (by rw [show x = false by assumption]; decide)
      ·
       rintro _ w20 hO20
       refine SC.no rfl ?_
       refine SC.skip ?_
       refine SQ.then_normal ?_
       refine SC.sr ?_
       refine SO.mv ?_
       refine SO.as ?_
       refine SO.as ?_
       refine SO.nn ?_
       refine SC.seq ?_
       refine SC.sr ?_
       refine SO.mv ?_
       refine SO.v (.conv5_3 rfl rfl hc) ?_
       refine SO.v (.maxI rfl rfl rfl) ?_
       refine SO.mv ?_
       refine SO.nn ?_
       refine SC.block ?_
       refine SC.loop (α := Nat × Nat × Int) (fun x => [(1, .string s), (2, .int .i64 a), (3, .int .u8 c), (9, .pointer (some ⟨bs, 0, none⟩)), (10, .int .i64 (p0 : Int)), (11, .int .i64 ((i : Int) + 4)), (12, .int .i64 (t : Int)), (13, .int .i64 y), (16, .int .i64 (x.2.1 : Int)), (17, .int .i64 x.2.2), (97, .int .i64 (max c 1)), (98, .int .i64 (x.1 : Int))]) (fun x v => x.1 ≤ (max c 1).toNat ∧ ((stOf s i).iter ((max c 1).toNat - x.1) x.2.1 x.2.2 8).1 = t ∧ ((stOf s i).iter ((max c 1).toNat - x.1) x.2.1 x.2.2 8).2.1 = ((stOf s i).iter (max c 1).toNat p0 (-1) 8).2.1 ∧ CB (bl s) x.2.1 ∧ -1 ≤ x.2.2 ∧ (i = 6 ∨ i = 7 ∨ x.2.2 = -1) ∧ Ow.Own w4 [] v) (fun x => (max c 1).toNat - x.1) (0, p0, -1) ?_ ?_ ?_
       · exact ⟨rfl, rfl, rfl, rfl, rfl, rfl, rfl, rfl, rfl, rfl, rfl, rfl, trivial⟩
       · exact ⟨Nat.zero_le _, hit0, rfl, hcb, show (-1 : Int) ≤ -1 by decide, .inr (.inr rfl), hO20⟩
       rintro ⟨j, p, g⟩ w21 ⟨hj, hit, hgf, hpc, hg, hgi, hO21⟩
       simp only at hj hit hgf hpc hg hgi
       show SC _ _ _ _ _ _ _ [(1, .string s), (2, .int .i64 a), (3, .int .u8 c), (9, .pointer (some ⟨bs, 0, none⟩)), (10, .int .i64 (p0 : Int)), (11, .int .i64 ((i : Int) + 4)), (12, .int .i64 (t : Int)), (13, .int .i64 y), (16, .int .i64 (p : Int)), (17, .int .i64 g), (97, .int .i64 (max c 1)), (98, .int .i64 (j : Int))] _
       refine SC.sr ?_
       refine SO.v (.lss rfl rfl rfl) ?_
       refine SO.nn ?_
       refine SC.seq ?_
       refine SC.dec rfl (fun c22 => ?_) (fun c22 => ?_)
       ·
        refine SC.skip ?_
        refine SQ.then_normal ?_
        refine SC.seq ?_
        refine SC.block ?_
        refine SC.sr ?_
        refine SO.as ?_
        refine SO.nn ?_
        refine SC.sr ?_
        refine SO.mv ?_
        refine SO.mv ?_
        refine SO.mv ?_
        refine SO.mv ?_
        refine SO.call rfl rfl rfl rfl (.callF rfl rfl en63) (stays_one s hz i hi bs _ p g hpc hg hgi _ (hO21.good hGb) (hsa.below (hO21.toBelow trivial))) ?_
        rintro _ w23 ⟨x, z2, rfl, hxz, hb23⟩
        have hO23 := hO21.below hb23
        refine ⟨_, rfl, ?_⟩
        refine SO.mv ?_
        refine SO.v (.extract rfl rfl rfl) ?_
        refine SO.v (.extract rfl rfl rfl) ?_
        refine SO.v (.extract rfl rfl rfl) ?_
        refine SO.as ?_
        refine SO.as ?_
        refine SO.as ?_
        refine SO.nn ?_
        refine SC.sr ?_
        refine SO.mv ?_
        refine SO.v (.neq rfl rfl rfl) ?_
        refine SO.nn ?_
        refine SC.dec rfl (fun c24 => ?_) (fun c24 => ?_)
        ·
         obtain ⟨hnok, rfl, _⟩ := hxz.resolve_left (fun h => by omega)
         rw [show (max c 1).toNat - j = ((max c 1).toNat - j - 1) + 1 by omega, Step.iter, if_neg hnok] at hit hgf
         have hpt : (x : Int) = t := hit
         have hgF : (stOf s i).go g x = ((stOf s i).iter (max c 1).toNat p0 (-1) 8).2.1 := hgf
         refine SC.exit ?_
         refine SQ.block_pass rfl ?_
         refine SQ.then_exit ?_
         refine SQ.then_exit ?_
         refine SQ.block_exit ?_
         refine SQ.then_normal ?_
         refine SC.sr ?_
         refine SO.mv ?_
         refine SO.mv ?_
         refine SO.v (decF (.neq rfl rfl rfl) (by omega)) ?_
         refine SO.mv ?_
         refine SO.mv ?_
         refine SO.mv ?_
         refine SO.v (.neq rfl rfl rfl) ?_
         refine SO.mv ?_
         refine SO.dec 119 rfl (fun g25 => ?_) (fun g25 => ?_)
         ·
          refine SO.mv ?_
          refine SO.v (decF (.neq rfl rfl rfl) (by omega)) ?_
          refine SO.v (.pickT rfl rfl rfl) ?_
          refine SO.v (.pickF rfl rfl rfl) ?_
          refine SO.nn ?_
          refine SC.no rfl ?_
          refine SC.skip ?_
          refine SQ.block_normal ?_
          refine SQ.then_normal ?_
          refine SC.region ?_
          refine SO.mv ?_
          refine SO.v (.add rfl rfl rfl (by omega)) ?_
          refine SO.as ?_
          refine SO.nil ?_
          refine SQ.round (i + 1) (by omega) ⟨rfl, rfl, rfl, rfl, rfl, rfl, trivial⟩ ⟨by omega, hO23⟩
         ·
          refine SO.ps ?_
          refine SO.ps ?_
          refine SO.v (.pickF rfl rfl rfl) ?_
          refine SO.v (.pickF rfl rfl rfl) ?_
          refine SO.nn ?_
          refine SC.no rfl ?_
          refine SC.skip ?_
          refine SQ.block_normal ?_
          refine SQ.then_normal ?_
          refine SC.region ?_
          refine SO.mv ?_
          refine SO.v (.add rfl rfl rfl (by omega)) ?_
          refine SO.as ?_
          refine SO.nil ?_
          refine SQ.round (i + 1) (by omega) ⟨rfl, rfl, rfl, rfl, rfl, rfl, trivial⟩ ⟨by omega, hO23⟩
        ·
         obtain ⟨hok, hxt, hxc, _⟩ := hxz.resolve_right (fun h => by omega)
         rw [show (max c 1).toNat - j = ((max c 1).toNat - (j + 1)) + 1 by omega, Step.iter, if_pos hok, ← hxt] at hit hgf
         obtain ⟨e1, e2⟩ := iter_err (stOf s i) ((max c 1).toNat - (j + 1)) (x : Int) ((stOf s i).go g p) 0 8
         rw [e1] at hit
         rw [e2] at hgf
         obtain ⟨hg2, hgi2⟩ := stOf_goal s (a := (p : Int)) hi hg hgi
         refine SC.skip ?_
         refine SQ.block_normal ?_
         refine SQ.then_normal ?_
         refine SC.region ?_
         refine SO.v (.add rfl rfl rfl (by omega)) ?_
         refine SO.mv ?_
         refine SO.nil ?_
         refine SQ.round (j + 1, x, (stOf s i).go g p) (by simp only; omega) ⟨rfl, rfl, rfl, rfl, rfl, rfl, rfl, rfl, rfl, rfl, rfl, rfl, trivial⟩ ⟨by simp only; omega, hit, hgf, hxc, hg2, hgi2, hO23⟩
       ·
        have hjn : j = (max c 1).toNat := by omega
        rw [hjn, Nat.sub_self] at hit hgf
        have hpt : (p : Int) = t := hit
        have hgF : g = ((stOf s i).iter (max c 1).toNat p0 (-1) 8).2.1 := hgf
        refine SC.exit ?_
        refine SQ.then_exit ?_
        refine SQ.then_exit ?_
        refine SQ.block_exit ?_
        refine SQ.then_normal ?_
        refine SC.sr ?_
        refine SO.mv ?_
        refine SO.mv ?_
        refine SO.v (decF (.neq rfl rfl rfl) (by omega)) ?_
        refine SO.mv ?_
        refine SO.mv ?_
        refine SO.mv ?_
        refine SO.v (.neq rfl rfl rfl) ?_
        refine SO.mv ?_
        refine SO.dec 119 rfl (fun g26 => ?_) (fun g26 => ?_)
        ·
         refine SO.mv ?_
         refine SO.v (decF (.neq rfl rfl rfl) (by omega)) ?_
         refine SO.v (.pickT rfl rfl rfl) ?_
         refine SO.v (.pickF rfl rfl rfl) ?_
         refine SO.nn ?_
         refine SC.no rfl ?_
         refine SC.skip ?_
         refine SQ.block_normal ?_
         refine SQ.then_normal ?_
         refine SC.region ?_
         refine SO.mv ?_
         refine SO.v (.add rfl rfl rfl (by omega)) ?_
         refine SO.as ?_
         refine SO.nil ?_
         refine SQ.round (i + 1) (by omega) ⟨rfl, rfl, rfl, rfl, rfl, rfl, trivial⟩ ⟨by omega, hO21⟩
        ·
         refine SO.ps ?_
         refine SO.ps ?_
         refine SO.v (.pickF rfl rfl rfl) ?_
         refine SO.v (.pickF rfl rfl rfl) ?_
         refine SO.nn ?_
         refine SC.no rfl ?_
         refine SC.skip ?_
         refine SQ.block_normal ?_
         refine SQ.then_normal ?_
         refine SC.region ?_
         refine SO.mv ?_
         refine SO.v (.add rfl rfl rfl (by omega)) ?_
         refine SO.as ?_
         refine SO.nil ?_
         refine SQ.round (i + 1) (by omega) ⟨rfl, rfl, rfl, rfl, rfl, rfl, trivial⟩ ⟨by omega, hO21⟩
   ·
    refine SC.exit ?_
    refine SQ.then_exit ?_
    refine SQ.then_exit ?_
    refine SQ.block_exit ?_
    refine SQ.then_normal ?_
    refine SC.sr ?_
    refine SO.as ?_
    refine SO.nn ?_
    refine SC.ret ?_
    refine SQ.out (.inl rfl) (res1 rfl rfl) ?_
    have hEE := hO6.toBelow trivial
    exact ⟨rfl, hBb.trans (hEE.mono hBb.size)⟩

end Go.Proofs.YtclgplkkajfenaaGreatDoor
