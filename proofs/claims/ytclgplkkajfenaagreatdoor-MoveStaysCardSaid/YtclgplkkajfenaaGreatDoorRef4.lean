/- The reference: Class, Cells, joined. -/
import Derived.Test.YtclgplkkajfenaaGreatDoorRef3
namespace Go.Proofs.YtclgplkkajfenaaGreatDoor
open Go Go.RowKit Ow
/-- The chapter's tables, as bytes. -/
def marksT : ByteArray := ⟨#[51, 48, 48, 32, 51, 54, 70, 44, 32, 52, 56, 51, 32, 52, 56, 57, 44, 32, 53, 57, 49, 32, 53, 66, 68, 44, 32, 53, 66, 70, 32, 53, 66, 70, 44, 32, 53, 67, 49, 32, 53, 67, 50, 44, 32, 54, 49, 48, 32, 54, 49, 65, 44, 32, 54, 52, 66, 32, 54, 53, 70, 44, 32, 54, 55, 48, 32, 54, 55, 48, 44, 32, 54, 68, 54, 32, 54, 68, 67, 44, 32, 57, 48, 48, 32, 57, 48, 50, 44, 32, 57, 51, 67, 32, 57, 51, 67, 44, 32, 57, 52, 68, 32, 57, 52, 68, 44, 32, 69, 51, 49, 32, 69, 51, 49, 44, 32, 69, 51, 52, 32, 69, 51, 65, 44, 32, 69, 52, 55, 32, 69, 52, 69, 44, 32, 49, 51, 53, 68, 32, 49, 51, 53, 70, 44, 32, 49, 65, 66, 48, 32, 49, 65, 70, 70, 44, 32, 49, 68, 67, 48, 32, 49, 68, 70, 70, 44, 32, 50, 48, 48, 67, 32, 50, 48, 48, 68, 44, 32, 50, 48, 68, 48, 32, 50, 48, 70, 70, 44, 32, 51, 48, 50, 65, 32, 51, 48, 50, 70, 44, 32, 51, 48, 57, 57, 32, 51, 48, 57, 65, 44, 32, 70, 69, 48, 48, 32, 70, 69, 48, 70, 44, 32, 70, 69, 50, 48, 32, 70, 69, 50, 70, 44, 32, 49, 70, 51, 70, 66, 32, 49, 70, 51, 70, 70, 44, 32, 69, 48, 49, 48, 48, 32, 69, 48, 49, 69, 70]⟩
def widesT : ByteArray := ⟨#[49, 49, 48, 48, 32, 49, 49, 53, 70, 44, 32, 50, 51, 49, 65, 32, 50, 51, 49, 66, 44, 32, 50, 51, 50, 57, 32, 50, 51, 50, 65, 44, 32, 50, 51, 69, 57, 32, 50, 51, 69, 67, 44, 32, 50, 53, 70, 68, 32, 50, 53, 70, 69, 44, 32, 50, 54, 49, 52, 32, 50, 54, 49, 53, 44, 32, 50, 54, 52, 56, 32, 50, 54, 53, 51, 44, 32, 50, 54, 65, 65, 32, 50, 54, 65, 66, 44, 32, 50, 69, 56, 48, 32, 51, 48, 50, 57, 44, 32, 51, 48, 51, 48, 32, 51, 48, 51, 69, 44, 32, 51, 48, 52, 49, 32, 51, 48, 57, 56, 44, 32, 51, 48, 57, 66, 32, 52, 68, 66, 70, 44, 32, 52, 69, 48, 48, 32, 65, 52, 67, 70, 44, 32, 65, 57, 54, 48, 32, 65, 57, 55, 70, 44, 32, 65, 67, 48, 48, 32, 68, 55, 65, 51, 44, 32, 70, 57, 48, 48, 32, 70, 65, 70, 70, 44, 32, 70, 69, 51, 48, 32, 70, 69, 54, 70, 44, 32, 70, 70, 48, 49, 32, 70, 70, 54, 48, 44, 32, 70, 70, 69, 48, 32, 70, 70, 69, 54, 44, 32, 49, 54, 70, 69, 48, 32, 49, 56, 65, 70, 70, 44, 32, 49, 66, 48, 48, 48, 32, 49, 66, 50, 70, 70, 44, 32, 49, 70, 51, 48, 48, 32, 49, 70, 51, 70, 65, 44, 32, 49, 70, 52, 48, 48, 32, 49, 70, 54, 52, 70, 44, 32, 49, 70, 54, 56, 48, 32, 49, 70, 54, 70, 70, 44, 32, 49, 70, 57, 48, 48, 32, 49, 70, 57, 70, 70, 44, 32, 50, 48, 48, 48, 48, 32, 50, 70, 70, 70, 68, 44, 32, 51, 48, 48, 48, 48, 32, 51, 70, 70, 70, 68]⟩
theorem marksN : numsT (bl marksT) = marksL := by kernel_rfl
theorem widesN : numsT (bl widesT) = widesL := by kernel_rfl
theorem marks_low {c : Int} (h : c < 768) : inTab marksL c = false := inTab_low c _ (fun x hx => by
  have : ∀ x ∈ marksL, (768 : Int) ≤ x := by decide
  have := this x hx; omega)
theorem wides_low {c : Int} (h : c < 768) : inTab widesL c = false := inTab_low c _ (fun x hx => by
  have : ∀ x ∈ widesL, (768 : Int) ≤ x := by decide
  have := this x hx; omega)

set_option maxRecDepth 20000 in
set_option maxHeartbeats 400000 in
theorem refclass_any (c : Int) (w : World) (hG : Good w) :
    Calls Tryz.prog 140 #[.int .i32 c] w fun e w' => e = .returned (.int .i64 (cls c)) ∧ Below w.heap.size w w' := by
  have hO0 := Own.start hG
  refine enter Tryz.func140 rfl rfl rfl 0 ?_
  refine SC.sr ?_
  refine SO.as ?_
  refine SO.nn ?_
  refine SC.seq ?_
  refine SC.block ?_
  refine SC.sr ?_
  refine SO.mv ?_
  refine SO.v (.lss rfl rfl rfl) ?_
  refine SO.mv ?_
  refine SO.dec 6 rfl (fun g1 => ?_) (fun g1 => ?_)
  ·
   refine SO.ps ?_
   refine SO.ps ?_
   refine SO.v (.pickT rfl rfl rfl) ?_
   refine SO.mv ?_
   refine SO.ps ?_
   refine SO.ps ?_
   refine SO.ps ?_
   refine SO.ps ?_
   refine SO.ps ?_
   refine SO.ps ?_
   refine SO.v (.pickT rfl rfl rfl) ?_
   refine SO.as ?_
   refine SO.nn ?_
   refine SC.yes rfl ?_
   refine SC.sr ?_
   refine SO.as ?_
   refine SO.nn ?_
   refine SC.ret ?_
   refine SQ.block_ret ?_
   refine SQ.then_ret ?_
   refine SQ.out (.inl rfl) (res1 rfl rfl) ?_
   refine ⟨?_, hO0.toBelow trivial⟩
   unfold cls
   (repeat' split) <;> first | rfl | (exfalso; omega) | contradiction
  ·
   refine SO.mv ?_
   refine SO.v (.gtr rfl rfl rfl) ?_
   refine SO.v (.pickF rfl rfl rfl) ?_
   refine SO.mv ?_
   refine SO.dec 10 rfl (fun g3 => ?_) (fun g3 => ?_)
   ·
    refine SO.ps ?_
    refine SO.ps ?_
    refine SO.ps ?_
    refine SO.ps ?_
    refine SO.ps ?_
    refine SO.ps ?_
    refine SO.v (.pickT rfl rfl rfl) ?_
    refine SO.as ?_
    refine SO.nn ?_
    refine SC.yes rfl ?_
    refine SC.sr ?_
    refine SO.as ?_
    refine SO.nn ?_
    refine SC.ret ?_
    refine SQ.block_ret ?_
    refine SQ.then_ret ?_
    refine SQ.out (.inl rfl) (res1 rfl rfl) ?_
    refine ⟨?_, hO0.toBelow trivial⟩
    unfold cls
    (repeat' split) <;> first | rfl | (exfalso; omega) | contradiction
   ·
    refine SO.mv ?_
    refine SO.v (.geq rfl rfl rfl) ?_
    refine SO.mv ?_
    refine SO.dec 13 rfl (fun g5 => ?_) (fun g5 => ?_)
    ·
     refine SO.mv ?_
     refine SO.v (.leq rfl rfl rfl) ?_
     refine SO.v (.pickT rfl rfl rfl) ?_
     refine SO.v (.pickF rfl rfl rfl) ?_
     refine SO.as ?_
     refine SO.nn ?_
     refine SC.dec rfl (fun c6 => ?_) (fun c6 => ?_)
     ·
      refine SC.sr ?_
      refine SO.as ?_
      refine SO.nn ?_
      refine SC.ret ?_
      refine SQ.block_ret ?_
      refine SQ.then_ret ?_
      refine SQ.out (.inl rfl) (res1 rfl rfl) ?_
      refine ⟨?_, hO0.toBelow trivial⟩
      unfold cls
      (repeat' split) <;> first | rfl | (exfalso; omega) | contradiction
     ·
      refine SC.sr ?_
      refine SO.mv ?_
      refine SO.v (.eql rfl rfl rfl) ?_
      refine SO.as ?_
      refine SO.nn ?_
      refine SC.dec rfl (fun c8 => ?_) (fun c8 => ?_)
      ·
       refine SC.sr ?_
       refine SO.as ?_
       refine SO.nn ?_
       refine SC.ret ?_
       refine SQ.block_ret ?_
       refine SQ.then_ret ?_
       refine SQ.out (.inl rfl) (res1 rfl rfl) ?_
       refine ⟨?_, hO0.toBelow trivial⟩
       unfold cls
       (repeat' split) <;> first | rfl | (exfalso; omega) | contradiction
      ·
       refine SC.sr ?_
       refine SO.mv ?_
       refine SO.v (.leq rfl rfl rfl) ?_
       refine SO.mv ?_
       refine SO.dec 24 rfl (fun g10 => ?_) (fun g10 => ?_)
       ·
        refine SO.ps ?_
        refine SO.ps ?_
        refine SO.ps ?_
        refine SO.ps ?_
        refine SO.ps ?_
        refine SO.ps ?_
        refine SO.v (.pickT rfl rfl rfl) ?_
        refine SO.as ?_
        refine SO.nn ?_
        refine SC.yes rfl ?_
        refine SC.sr ?_
        refine SO.as ?_
        refine SO.nn ?_
        refine SC.ret ?_
        refine SQ.block_ret ?_
        refine SQ.then_ret ?_
        refine SQ.out (.inl rfl) (res1 rfl rfl) ?_
        refine ⟨?_, hO0.toBelow trivial⟩
        unfold cls
        (repeat' split) <;> first | rfl | (exfalso; omega) | contradiction
       ·
        refine SO.mv ?_
        refine SO.v (.geq rfl rfl rfl) ?_
        refine SO.mv ?_
        refine SO.dec 27 rfl (fun g12 => ?_) (fun g12 => ?_)
        ·
         refine SO.mv ?_
         refine SO.v (.leq rfl rfl rfl) ?_
         refine SO.v (.pickT rfl rfl rfl) ?_
         refine SO.v (.pickF rfl rfl rfl) ?_
         refine SO.as ?_
         refine SO.nn ?_
         refine SC.dec rfl (fun c13 => ?_) (fun c13 => ?_)
         ·
          refine SC.sr ?_
          refine SO.as ?_
          refine SO.nn ?_
          refine SC.ret ?_
          refine SQ.block_ret ?_
          refine SQ.then_ret ?_
          refine SQ.out (.inl rfl) (res1 rfl rfl) ?_
          refine ⟨?_, hO0.toBelow trivial⟩
          unfold cls
          (repeat' split) <;> first | rfl | (exfalso; omega) | contradiction
         ·
          refine SC.sr ?_
          refine SO.mv ?_
          refine SO.v (.lss rfl rfl rfl) ?_
          refine SO.as ?_
          refine SO.nn ?_
          refine SC.dec rfl (fun c15 => ?_) (fun c15 => ?_)
          ·
           have hm : ¬ inTab marksL c = true := by rw [marks_low (by omega)]; decide
           have hw : ¬ inTab widesL c = true := by rw [wides_low (by omega)]; decide
           refine SC.sr ?_
           refine SO.as ?_
           refine SO.nn ?_
           refine SC.ret ?_
           refine SQ.block_ret ?_
           refine SQ.then_ret ?_
           refine SQ.out (.inl rfl) (res1 rfl rfl) ?_
           refine ⟨?_, hO0.toBelow trivial⟩
           unfold cls
           (repeat' split) <;> first | rfl | (exfalso; omega) | contradiction
          ·
           refine SC.sr ?_
           refine SO.call rfl rfl rfl rfl (.callF rfl rfl en167) (reftable_any marksT _ (hO0.good hG) (by decide)) ?_
           rintro _ w17 ⟨vt, rfl, hrt, hb17⟩
           have hO17 := hO0.below hb17
           rw [marksN] at hrt
           have hxs := hrt.rows encR_len (by decide)
           refine ⟨_, rfl, ?_⟩
           refine SO.mv ?_
           refine SO.call rfl rfl rfl rfl (.callF rfl rfl en166) ((by have h := refwithin_any _ _ c _ (hO17.good hG) hxs; rw [inR_pairs] at h; exact h)) ?_
           rintro _ w18 ⟨rfl, hb18⟩
           have hO18 := hO17.below hb18
           refine ⟨_, rfl, ?_⟩
           refine SO.as ?_
           refine SO.nn ?_
           refine SC.bool rfl (fun c19 => ?_) (fun c19 => ?_)
           ·
            have hm : inTab marksL c = true := c19
            refine SC.sr ?_
            refine SO.as ?_
            refine SO.nn ?_
            refine SC.ret ?_
            refine SQ.block_ret ?_
            refine SQ.then_ret ?_
            refine SQ.out (.inl rfl) (res1 rfl rfl) ?_
            refine ⟨?_, hO18.toBelow trivial⟩
            unfold cls
            (repeat' split) <;> first | rfl | (exfalso; omega) | contradiction
           ·
            have hm : ¬ inTab marksL c = true := by rw [c19]; decide
            refine SC.sr ?_
            refine SO.call rfl rfl rfl rfl (.callF rfl rfl en167) (reftable_any widesT _ (hO18.good hG) (by decide)) ?_
            rintro _ w21 ⟨vt, rfl, hrt, hb21⟩
            have hO21 := hO18.below hb21
            rw [widesN] at hrt
            have hxs := hrt.rows encR_len (by decide)
            refine ⟨_, rfl, ?_⟩
            refine SO.mv ?_
            refine SO.call rfl rfl rfl rfl (.callF rfl rfl en166) ((by have h := refwithin_any _ _ c _ (hO21.good hG) hxs; rw [inR_pairs] at h; exact h)) ?_
            rintro _ w22 ⟨rfl, hb22⟩
            have hO22 := hO21.below hb22
            refine ⟨_, rfl, ?_⟩
            refine SO.as ?_
            refine SO.nn ?_
            refine SC.bool rfl (fun c23 => ?_) (fun c23 => ?_)
            ·
             have hw : inTab widesL c = true := c23
             refine SC.sr ?_
             refine SO.as ?_
             refine SO.nn ?_
             refine SC.ret ?_
             refine SQ.block_ret ?_
             refine SQ.then_ret ?_
             refine SQ.out (.inl rfl) (res1 rfl rfl) ?_
             refine ⟨?_, hO22.toBelow trivial⟩
             unfold cls
             (repeat' split) <;> first | rfl | (exfalso; omega) | contradiction
            ·
             have hw : ¬ inTab widesL c = true := by rw [c23]; decide
             refine SC.skip ?_
             refine SQ.block_normal ?_
             refine SQ.then_normal ?_
             refine SC.sr ?_
             refine SO.as ?_
             refine SO.nn ?_
             refine SC.ret ?_
             refine SQ.out (.inl rfl) (res1 rfl rfl) ?_
             refine ⟨?_, hO22.toBelow trivial⟩
             unfold cls
             (repeat' split) <;> first | rfl | (exfalso; omega) | contradiction
        ·
         refine SO.ps ?_
         refine SO.ps ?_
         refine SO.v (.pickF rfl rfl rfl) ?_
         refine SO.v (.pickF rfl rfl rfl) ?_
         refine SO.as ?_
         refine SO.nn ?_
         refine SC.no rfl ?_
         refine SC.sr ?_
         refine SO.mv ?_
         refine SO.v (.lss rfl rfl rfl) ?_
         refine SO.as ?_
         refine SO.nn ?_
         refine SC.dec rfl (fun c26 => ?_) (fun c26 => ?_)
         ·
          have hm : ¬ inTab marksL c = true := by rw [marks_low (by omega)]; decide
          have hw : ¬ inTab widesL c = true := by rw [wides_low (by omega)]; decide
          refine SC.sr ?_
          refine SO.as ?_
          refine SO.nn ?_
          refine SC.ret ?_
          refine SQ.block_ret ?_
          refine SQ.then_ret ?_
          refine SQ.out (.inl rfl) (res1 rfl rfl) ?_
          refine ⟨?_, hO0.toBelow trivial⟩
          unfold cls
          (repeat' split) <;> first | rfl | (exfalso; omega) | contradiction
         ·
          refine SC.sr ?_
          refine SO.call rfl rfl rfl rfl (.callF rfl rfl en167) (reftable_any marksT _ (hO0.good hG) (by decide)) ?_
          rintro _ w28 ⟨vt, rfl, hrt, hb28⟩
          have hO28 := hO0.below hb28
          rw [marksN] at hrt
          have hxs := hrt.rows encR_len (by decide)
          refine ⟨_, rfl, ?_⟩
          refine SO.mv ?_
          refine SO.call rfl rfl rfl rfl (.callF rfl rfl en166) ((by have h := refwithin_any _ _ c _ (hO28.good hG) hxs; rw [inR_pairs] at h; exact h)) ?_
          rintro _ w29 ⟨rfl, hb29⟩
          have hO29 := hO28.below hb29
          refine ⟨_, rfl, ?_⟩
          refine SO.as ?_
          refine SO.nn ?_
          refine SC.bool rfl (fun c30 => ?_) (fun c30 => ?_)
          ·
           have hm : inTab marksL c = true := c30
           refine SC.sr ?_
           refine SO.as ?_
           refine SO.nn ?_
           refine SC.ret ?_
           refine SQ.block_ret ?_
           refine SQ.then_ret ?_
           refine SQ.out (.inl rfl) (res1 rfl rfl) ?_
           refine ⟨?_, hO29.toBelow trivial⟩
           unfold cls
           (repeat' split) <;> first | rfl | (exfalso; omega) | contradiction
          ·
           have hm : ¬ inTab marksL c = true := by rw [c30]; decide
           refine SC.sr ?_
           refine SO.call rfl rfl rfl rfl (.callF rfl rfl en167) (reftable_any widesT _ (hO29.good hG) (by decide)) ?_
           rintro _ w32 ⟨vt, rfl, hrt, hb32⟩
           have hO32 := hO29.below hb32
           rw [widesN] at hrt
           have hxs := hrt.rows encR_len (by decide)
           refine ⟨_, rfl, ?_⟩
           refine SO.mv ?_
           refine SO.call rfl rfl rfl rfl (.callF rfl rfl en166) ((by have h := refwithin_any _ _ c _ (hO32.good hG) hxs; rw [inR_pairs] at h; exact h)) ?_
           rintro _ w33 ⟨rfl, hb33⟩
           have hO33 := hO32.below hb33
           refine ⟨_, rfl, ?_⟩
           refine SO.as ?_
           refine SO.nn ?_
           refine SC.bool rfl (fun c34 => ?_) (fun c34 => ?_)
           ·
            have hw : inTab widesL c = true := c34
            refine SC.sr ?_
            refine SO.as ?_
            refine SO.nn ?_
            refine SC.ret ?_
            refine SQ.block_ret ?_
            refine SQ.then_ret ?_
            refine SQ.out (.inl rfl) (res1 rfl rfl) ?_
            refine ⟨?_, hO33.toBelow trivial⟩
            unfold cls
            (repeat' split) <;> first | rfl | (exfalso; omega) | contradiction
           ·
            have hw : ¬ inTab widesL c = true := by rw [c34]; decide
            refine SC.skip ?_
            refine SQ.block_normal ?_
            refine SQ.then_normal ?_
            refine SC.sr ?_
            refine SO.as ?_
            refine SO.nn ?_
            refine SC.ret ?_
            refine SQ.out (.inl rfl) (res1 rfl rfl) ?_
            refine ⟨?_, hO33.toBelow trivial⟩
            unfold cls
            (repeat' split) <;> first | rfl | (exfalso; omega) | contradiction
    ·
     refine SO.ps ?_
     refine SO.ps ?_
     refine SO.v (.pickF rfl rfl rfl) ?_
     refine SO.v (.pickF rfl rfl rfl) ?_
     refine SO.as ?_
     refine SO.nn ?_
     refine SC.no rfl ?_
     refine SC.sr ?_
     refine SO.mv ?_
     refine SO.v (.eql rfl rfl rfl) ?_
     refine SO.as ?_
     refine SO.nn ?_
     refine SC.dec rfl (fun c37 => ?_) (fun c37 => ?_)
     ·
      refine SC.sr ?_
      refine SO.as ?_
      refine SO.nn ?_
      refine SC.ret ?_
      refine SQ.block_ret ?_
      refine SQ.then_ret ?_
      refine SQ.out (.inl rfl) (res1 rfl rfl) ?_
      refine ⟨?_, hO0.toBelow trivial⟩
      unfold cls
      (repeat' split) <;> first | rfl | (exfalso; omega) | contradiction
     ·
      refine SC.sr ?_
      refine SO.mv ?_
      refine SO.v (.leq rfl rfl rfl) ?_
      refine SO.mv ?_
      refine SO.dec 24 rfl (fun g39 => ?_) (fun g39 => ?_)
      ·
       refine SO.ps ?_
       refine SO.ps ?_
       refine SO.ps ?_
       refine SO.ps ?_
       refine SO.ps ?_
       refine SO.ps ?_
       refine SO.v (.pickT rfl rfl rfl) ?_
       refine SO.as ?_
       refine SO.nn ?_
       refine SC.yes rfl ?_
       refine SC.sr ?_
       refine SO.as ?_
       refine SO.nn ?_
       refine SC.ret ?_
       refine SQ.block_ret ?_
       refine SQ.then_ret ?_
       refine SQ.out (.inl rfl) (res1 rfl rfl) ?_
       refine ⟨?_, hO0.toBelow trivial⟩
       unfold cls
       (repeat' split) <;> first | rfl | (exfalso; omega) | contradiction
      ·
       refine SO.mv ?_
       refine SO.v (.geq rfl rfl rfl) ?_
       refine SO.mv ?_
       refine SO.dec 27 rfl (fun g41 => ?_) (fun g41 => ?_)
       ·
        refine SO.mv ?_
        refine SO.v (.leq rfl rfl rfl) ?_
        refine SO.v (.pickT rfl rfl rfl) ?_
        refine SO.v (.pickF rfl rfl rfl) ?_
        refine SO.as ?_
        refine SO.nn ?_
        refine SC.dec rfl (fun c42 => ?_) (fun c42 => ?_)
        ·
         refine SC.sr ?_
         refine SO.as ?_
         refine SO.nn ?_
         refine SC.ret ?_
         refine SQ.block_ret ?_
         refine SQ.then_ret ?_
         refine SQ.out (.inl rfl) (res1 rfl rfl) ?_
         refine ⟨?_, hO0.toBelow trivial⟩
         unfold cls
         (repeat' split) <;> first | rfl | (exfalso; omega) | contradiction
        ·
         refine SC.sr ?_
         refine SO.mv ?_
         refine SO.v (.lss rfl rfl rfl) ?_
         refine SO.as ?_
         refine SO.nn ?_
         refine SC.dec rfl (fun c44 => ?_) (fun c44 => ?_)
         ·
          have hm : ¬ inTab marksL c = true := by rw [marks_low (by omega)]; decide
          have hw : ¬ inTab widesL c = true := by rw [wides_low (by omega)]; decide
          refine SC.sr ?_
          refine SO.as ?_
          refine SO.nn ?_
          refine SC.ret ?_
          refine SQ.block_ret ?_
          refine SQ.then_ret ?_
          refine SQ.out (.inl rfl) (res1 rfl rfl) ?_
          refine ⟨?_, hO0.toBelow trivial⟩
          unfold cls
          (repeat' split) <;> first | rfl | (exfalso; omega) | contradiction
         ·
          refine SC.sr ?_
          refine SO.call rfl rfl rfl rfl (.callF rfl rfl en167) (reftable_any marksT _ (hO0.good hG) (by decide)) ?_
          rintro _ w46 ⟨vt, rfl, hrt, hb46⟩
          have hO46 := hO0.below hb46
          rw [marksN] at hrt
          have hxs := hrt.rows encR_len (by decide)
          refine ⟨_, rfl, ?_⟩
          refine SO.mv ?_
          refine SO.call rfl rfl rfl rfl (.callF rfl rfl en166) ((by have h := refwithin_any _ _ c _ (hO46.good hG) hxs; rw [inR_pairs] at h; exact h)) ?_
          rintro _ w47 ⟨rfl, hb47⟩
          have hO47 := hO46.below hb47
          refine ⟨_, rfl, ?_⟩
          refine SO.as ?_
          refine SO.nn ?_
          refine SC.bool rfl (fun c48 => ?_) (fun c48 => ?_)
          ·
           have hm : inTab marksL c = true := c48
           refine SC.sr ?_
           refine SO.as ?_
           refine SO.nn ?_
           refine SC.ret ?_
           refine SQ.block_ret ?_
           refine SQ.then_ret ?_
           refine SQ.out (.inl rfl) (res1 rfl rfl) ?_
           refine ⟨?_, hO47.toBelow trivial⟩
           unfold cls
           (repeat' split) <;> first | rfl | (exfalso; omega) | contradiction
          ·
           have hm : ¬ inTab marksL c = true := by rw [c48]; decide
           refine SC.sr ?_
           refine SO.call rfl rfl rfl rfl (.callF rfl rfl en167) (reftable_any widesT _ (hO47.good hG) (by decide)) ?_
           rintro _ w50 ⟨vt, rfl, hrt, hb50⟩
           have hO50 := hO47.below hb50
           rw [widesN] at hrt
           have hxs := hrt.rows encR_len (by decide)
           refine ⟨_, rfl, ?_⟩
           refine SO.mv ?_
           refine SO.call rfl rfl rfl rfl (.callF rfl rfl en166) ((by have h := refwithin_any _ _ c _ (hO50.good hG) hxs; rw [inR_pairs] at h; exact h)) ?_
           rintro _ w51 ⟨rfl, hb51⟩
           have hO51 := hO50.below hb51
           refine ⟨_, rfl, ?_⟩
           refine SO.as ?_
           refine SO.nn ?_
           refine SC.bool rfl (fun c52 => ?_) (fun c52 => ?_)
           ·
            have hw : inTab widesL c = true := c52
            refine SC.sr ?_
            refine SO.as ?_
            refine SO.nn ?_
            refine SC.ret ?_
            refine SQ.block_ret ?_
            refine SQ.then_ret ?_
            refine SQ.out (.inl rfl) (res1 rfl rfl) ?_
            refine ⟨?_, hO51.toBelow trivial⟩
            unfold cls
            (repeat' split) <;> first | rfl | (exfalso; omega) | contradiction
           ·
            have hw : ¬ inTab widesL c = true := by rw [c52]; decide
            refine SC.skip ?_
            refine SQ.block_normal ?_
            refine SQ.then_normal ?_
            refine SC.sr ?_
            refine SO.as ?_
            refine SO.nn ?_
            refine SC.ret ?_
            refine SQ.out (.inl rfl) (res1 rfl rfl) ?_
            refine ⟨?_, hO51.toBelow trivial⟩
            unfold cls
            (repeat' split) <;> first | rfl | (exfalso; omega) | contradiction
       ·
        refine SO.ps ?_
        refine SO.ps ?_
        refine SO.v (.pickF rfl rfl rfl) ?_
        refine SO.v (.pickF rfl rfl rfl) ?_
        refine SO.as ?_
        refine SO.nn ?_
        refine SC.no rfl ?_
        refine SC.sr ?_
        refine SO.mv ?_
        refine SO.v (.lss rfl rfl rfl) ?_
        refine SO.as ?_
        refine SO.nn ?_
        refine SC.dec rfl (fun c55 => ?_) (fun c55 => ?_)
        ·
         have hm : ¬ inTab marksL c = true := by rw [marks_low (by omega)]; decide
         have hw : ¬ inTab widesL c = true := by rw [wides_low (by omega)]; decide
         refine SC.sr ?_
         refine SO.as ?_
         refine SO.nn ?_
         refine SC.ret ?_
         refine SQ.block_ret ?_
         refine SQ.then_ret ?_
         refine SQ.out (.inl rfl) (res1 rfl rfl) ?_
         refine ⟨?_, hO0.toBelow trivial⟩
         unfold cls
         (repeat' split) <;> first | rfl | (exfalso; omega) | contradiction
        ·
         refine SC.sr ?_
         refine SO.call rfl rfl rfl rfl (.callF rfl rfl en167) (reftable_any marksT _ (hO0.good hG) (by decide)) ?_
         rintro _ w57 ⟨vt, rfl, hrt, hb57⟩
         have hO57 := hO0.below hb57
         rw [marksN] at hrt
         have hxs := hrt.rows encR_len (by decide)
         refine ⟨_, rfl, ?_⟩
         refine SO.mv ?_
         refine SO.call rfl rfl rfl rfl (.callF rfl rfl en166) ((by have h := refwithin_any _ _ c _ (hO57.good hG) hxs; rw [inR_pairs] at h; exact h)) ?_
         rintro _ w58 ⟨rfl, hb58⟩
         have hO58 := hO57.below hb58
         refine ⟨_, rfl, ?_⟩
         refine SO.as ?_
         refine SO.nn ?_
         refine SC.bool rfl (fun c59 => ?_) (fun c59 => ?_)
         ·
          have hm : inTab marksL c = true := c59
          refine SC.sr ?_
          refine SO.as ?_
          refine SO.nn ?_
          refine SC.ret ?_
          refine SQ.block_ret ?_
          refine SQ.then_ret ?_
          refine SQ.out (.inl rfl) (res1 rfl rfl) ?_
          refine ⟨?_, hO58.toBelow trivial⟩
          unfold cls
          (repeat' split) <;> first | rfl | (exfalso; omega) | contradiction
         ·
          have hm : ¬ inTab marksL c = true := by rw [c59]; decide
          refine SC.sr ?_
          refine SO.call rfl rfl rfl rfl (.callF rfl rfl en167) (reftable_any widesT _ (hO58.good hG) (by decide)) ?_
          rintro _ w61 ⟨vt, rfl, hrt, hb61⟩
          have hO61 := hO58.below hb61
          rw [widesN] at hrt
          have hxs := hrt.rows encR_len (by decide)
          refine ⟨_, rfl, ?_⟩
          refine SO.mv ?_
          refine SO.call rfl rfl rfl rfl (.callF rfl rfl en166) ((by have h := refwithin_any _ _ c _ (hO61.good hG) hxs; rw [inR_pairs] at h; exact h)) ?_
          rintro _ w62 ⟨rfl, hb62⟩
          have hO62 := hO61.below hb62
          refine ⟨_, rfl, ?_⟩
          refine SO.as ?_
          refine SO.nn ?_
          refine SC.bool rfl (fun c63 => ?_) (fun c63 => ?_)
          ·
           have hw : inTab widesL c = true := c63
           refine SC.sr ?_
           refine SO.as ?_
           refine SO.nn ?_
           refine SC.ret ?_
           refine SQ.block_ret ?_
           refine SQ.then_ret ?_
           refine SQ.out (.inl rfl) (res1 rfl rfl) ?_
           refine ⟨?_, hO62.toBelow trivial⟩
           unfold cls
           (repeat' split) <;> first | rfl | (exfalso; omega) | contradiction
          ·
           have hw : ¬ inTab widesL c = true := by rw [c63]; decide
           refine SC.skip ?_
           refine SQ.block_normal ?_
           refine SQ.then_normal ?_
           refine SC.sr ?_
           refine SO.as ?_
           refine SO.nn ?_
           refine SC.ret ?_
           refine SQ.out (.inl rfl) (res1 rfl rfl) ?_
           refine ⟨?_, hO62.toBelow trivial⟩
           unfold cls
           (repeat' split) <;> first | rfl | (exfalso; omega) | contradiction

set_option maxRecDepth 20000 in
set_option maxHeartbeats 400000 in
theorem refcells_any (c : Int) (w : World) (hG : Good w) :
    Calls Tryz.prog 141 #[.int .i32 c] w fun e w' => e = .returned (.int .i64 (cellsOf c)) ∧ Below w.heap.size w w' := by
  have hO0 := Own.start hG
  refine enter Tryz.func141 rfl rfl rfl 0 ?_
  refine SC.sr ?_
  refine SO.as ?_
  refine SO.nn ?_
  refine SC.sr ?_
  refine SO.mv ?_
  refine SO.call rfl rfl rfl rfl (.callF rfl rfl en140) (refclass_any _ _ (hO0.good hG)) ?_
  rintro _ w1 ⟨rfl, hb1⟩
  have hO1 := hO0.below hb1
  refine ⟨_, rfl, ?_⟩
  refine SO.as ?_
  refine SO.nn ?_
  refine SC.seq ?_
  refine SC.block ?_
  refine SC.sr ?_
  refine SO.mv ?_
  refine SO.v (.eql rfl rfl rfl) ?_
  refine SO.as ?_
  refine SO.nn ?_
  refine SC.dec rfl (fun c2 => ?_) (fun c2 => ?_)
  ·
   refine SC.sr ?_
   refine SO.as ?_
   refine SO.nn ?_
   refine SC.ret ?_
   refine SQ.block_ret ?_
   refine SQ.then_ret ?_
   refine SQ.out (.inl rfl) (res1 rfl rfl) ?_
   refine ⟨?_, hO1.toBelow trivial⟩
   unfold cellsOf
   (repeat' split) <;> first | rfl | (exfalso; omega)
  ·
   refine SC.sr ?_
   refine SO.mv ?_
   refine SO.v (.eql rfl rfl rfl) ?_
   refine SO.mv ?_
   refine SO.dec 12 rfl (fun g4 => ?_) (fun g4 => ?_)
   ·
    refine SO.ps ?_
    refine SO.ps ?_
    refine SO.ps ?_
    refine SO.ps ?_
    refine SO.ps ?_
    refine SO.ps ?_
    refine SO.v (.pickT rfl rfl rfl) ?_
    refine SO.as ?_
    refine SO.nn ?_
    refine SC.yes rfl ?_
    refine SC.sr ?_
    refine SO.as ?_
    refine SO.nn ?_
    refine SC.ret ?_
    refine SQ.block_ret ?_
    refine SQ.then_ret ?_
    refine SQ.out (.inl rfl) (res1 rfl rfl) ?_
    refine ⟨?_, hO1.toBelow trivial⟩
    unfold cellsOf
    (repeat' split) <;> first | rfl | (exfalso; omega)
   ·
    refine SO.mv ?_
    refine SO.v (.eql rfl rfl rfl) ?_
    refine SO.mv ?_
    refine SO.dec 15 rfl (fun g6 => ?_) (fun g6 => ?_)
    ·
     refine SO.mv ?_
     refine SO.v (.leq rfl rfl rfl) ?_
     refine SO.v (.pickT rfl rfl rfl) ?_
     refine SO.v (.pickF rfl rfl rfl) ?_
     refine SO.as ?_
     refine SO.nn ?_
     refine SC.dec rfl (fun c7 => ?_) (fun c7 => ?_)
     ·
      refine SC.sr ?_
      refine SO.as ?_
      refine SO.nn ?_
      refine SC.ret ?_
      refine SQ.block_ret ?_
      refine SQ.then_ret ?_
      refine SQ.out (.inl rfl) (res1 rfl rfl) ?_
      refine ⟨?_, hO1.toBelow trivial⟩
      unfold cellsOf
      (repeat' split) <;> first | rfl | (exfalso; omega)
     ·
      refine SC.skip ?_
      refine SQ.block_normal ?_
      refine SQ.then_normal ?_
      refine SC.sr ?_
      refine SO.as ?_
      refine SO.nn ?_
      refine SC.ret ?_
      refine SQ.out (.inl rfl) (res1 rfl rfl) ?_
      refine ⟨?_, hO1.toBelow trivial⟩
      unfold cellsOf
      (repeat' split) <;> first | rfl | (exfalso; omega)
    ·
     refine SO.ps ?_
     refine SO.ps ?_
     refine SO.v (.pickF rfl rfl rfl) ?_
     refine SO.v (.pickF rfl rfl rfl) ?_
     refine SO.as ?_
     refine SO.nn ?_
     refine SC.no rfl ?_
     refine SC.skip ?_
     refine SQ.block_normal ?_
     refine SQ.then_normal ?_
     refine SC.sr ?_
     refine SO.as ?_
     refine SO.nn ?_
     refine SC.ret ?_
     refine SQ.out (.inl rfl) (res1 rfl rfl) ?_
     refine ⟨?_, hO1.toBelow trivial⟩
     unfold cellsOf
     (repeat' split) <;> first | rfl | (exfalso; omega)

set_option maxRecDepth 20000 in
set_option maxHeartbeats 400000 in
theorem refjoined_any (u v su sv : Int) (w : World) (hG : Good w) :
    Calls Tryz.prog 139 #[.agg #[.int .i32 u, .int .i64 su], .agg #[.int .i32 v, .int .i64 sv]] w fun e w' => e = .returned (.bool (decide (glue u v))) ∧ Below w.heap.size w w' := by
  have hO0 := Own.start hG
  refine enter Tryz.func139 rfl rfl rfl 0 ?_
  refine SC.sr ?_
  refine SO.box hO0 rfl rfl rfl rfl rfl [_, _] rfl ?_
  intro b1 w1 hb1 hO1
  refine SO.box hO1 rfl rfl rfl rfl rfl [_, _] rfl ?_
  intro b2 w2 hb2 hO2
  refine SO.as ?_
  refine SO.nn ?_
  refine SC.seq ?_
  refine SC.sr ?_
  refine SO.v (.fieldAddr rfl rfl fa177_0) ?_
  refine SO.v (.load rfl rfl ag21 (cell_of' (hO2.at (i := 1) rfl) rfl)) ?_
  refine SO.v (.eql rfl rfl rfl) ?_
  refine SO.mv ?_
  refine SO.dec 9 rfl (fun g3 => ?_) (fun g3 => ?_)
  ·
   refine SO.v (.fieldAddr rfl rfl fa177_0) ?_
   refine SO.v (.load rfl rfl ag21 (cell_of' (hO2.at (i := 0) rfl) rfl)) ?_
   refine SO.v (.eql rfl rfl rfl) ?_
   refine SO.v (.pickT rfl rfl rfl) ?_
   refine SO.nn ?_
   refine SC.dec rfl (fun c4 => ?_) (fun c4 => ?_)
   ·
    refine SC.sr ?_
    refine SO.as ?_
    refine SO.nn ?_
    refine SC.ret ?_
    refine SQ.then_ret ?_
    refine SQ.out (.inl rfl) (res1 rfl rfl) ?_
    refine ⟨?_, hO2.toBelow ⟨hb2, hb1, trivial⟩⟩
    (rw [decide_eq_true (show glue u v by unfold glue; omega)])
   ·
    refine SC.skip ?_
    refine SQ.then_normal ?_
    refine SC.sr ?_
    refine SO.v (.fieldAddr rfl rfl fa177_0) ?_
    refine SO.v (.load rfl rfl ag21 (cell_of' (hO2.at (i := 1) rfl) rfl)) ?_
    refine SO.call rfl rfl rfl rfl (.callF rfl rfl en140) (refclass_any _ _ (hO2.good hG)) ?_
    rintro _ w6 ⟨rfl, hb6⟩
    have hO6 := hO2.below hb6
    refine ⟨_, rfl, ?_⟩
    refine SO.as ?_
    refine SO.nn ?_
    refine SC.sr ?_
    refine SO.v (.fieldAddr rfl rfl fa177_0) ?_
    refine SO.v (.load rfl rfl ag21 (cell_of' (hO6.at (i := 0) rfl) rfl)) ?_
    refine SO.call rfl rfl rfl rfl (.callF rfl rfl en140) (refclass_any _ _ (hO6.good hG)) ?_
    rintro _ w7 ⟨rfl, hb7⟩
    have hO7 := hO6.below hb7
    refine ⟨_, rfl, ?_⟩
    refine SO.v (.eql rfl rfl rfl) ?_
    refine SO.mv ?_
    refine SO.dec 21 rfl (fun g8 => ?_) (fun g8 => ?_)
    ·
     refine SO.mv ?_
     refine SO.v (.neq rfl rfl rfl) ?_
     refine SO.v (.pickT rfl rfl rfl) ?_
     refine SO.mv ?_
     refine SO.dec 25 rfl (fun g9 => ?_) (fun g9 => ?_)
     ·
      refine SO.mv ?_
      refine SO.v (.neq rfl rfl rfl) ?_
      refine SO.v (.pickT rfl rfl rfl) ?_
      refine SO.as ?_
      refine SO.nn ?_
      refine SC.ret ?_
      refine SQ.out (.inl rfl) (res1 rfl rfl) ?_
      refine ⟨?_, hO7.toBelow ⟨hb2, hb1, trivial⟩⟩
      (congr 2; exact decide_eq_decide.2 (by unfold glue; omega))
     ·
      refine SO.ps ?_
      refine SO.ps ?_
      refine SO.v (.pickF rfl rfl rfl) ?_
      refine SO.as ?_
      refine SO.nn ?_
      refine SC.ret ?_
      refine SQ.out (.inl rfl) (res1 rfl rfl) ?_
      refine ⟨?_, hO7.toBelow ⟨hb2, hb1, trivial⟩⟩
      (rw [decide_eq_false (show ¬ glue u v by unfold glue; omega)])
    ·
     refine SO.ps ?_
     refine SO.ps ?_
     refine SO.v (.pickF rfl rfl rfl) ?_
     refine SO.mv ?_
     refine SO.ps ?_
     refine SO.ps ?_
     refine SO.v (.pickF rfl rfl rfl) ?_
     refine SO.as ?_
     refine SO.nn ?_
     refine SC.ret ?_
     refine SQ.out (.inl rfl) (res1 rfl rfl) ?_
     refine ⟨?_, hO7.toBelow ⟨hb2, hb1, trivial⟩⟩
     (rw [decide_eq_false (show ¬ glue u v by unfold glue; omega)])
  ·
   refine SO.ps ?_
   refine SO.ps ?_
   refine SO.ps ?_
   refine SO.v (.pickF rfl rfl rfl) ?_
   refine SO.nn ?_
   refine SC.no rfl ?_
   refine SC.skip ?_
   refine SQ.then_normal ?_
   refine SC.sr ?_
   refine SO.v (.fieldAddr rfl rfl fa177_0) ?_
   refine SO.v (.load rfl rfl ag21 (cell_of' (hO2.at (i := 1) rfl) rfl)) ?_
   refine SO.call rfl rfl rfl rfl (.callF rfl rfl en140) (refclass_any _ _ (hO2.good hG)) ?_
   rintro _ w13 ⟨rfl, hb13⟩
   have hO13 := hO2.below hb13
   refine ⟨_, rfl, ?_⟩
   refine SO.as ?_
   refine SO.nn ?_
   refine SC.sr ?_
   refine SO.v (.fieldAddr rfl rfl fa177_0) ?_
   refine SO.v (.load rfl rfl ag21 (cell_of' (hO13.at (i := 0) rfl) rfl)) ?_
   refine SO.call rfl rfl rfl rfl (.callF rfl rfl en140) (refclass_any _ _ (hO13.good hG)) ?_
   rintro _ w14 ⟨rfl, hb14⟩
   have hO14 := hO13.below hb14
   refine ⟨_, rfl, ?_⟩
   refine SO.v (.eql rfl rfl rfl) ?_
   refine SO.mv ?_
   refine SO.dec 21 rfl (fun g15 => ?_) (fun g15 => ?_)
   ·
    refine SO.mv ?_
    refine SO.v (.neq rfl rfl rfl) ?_
    refine SO.v (.pickT rfl rfl rfl) ?_
    refine SO.mv ?_
    refine SO.dec 25 rfl (fun g16 => ?_) (fun g16 => ?_)
    ·
     refine SO.mv ?_
     refine SO.v (.neq rfl rfl rfl) ?_
     refine SO.v (.pickT rfl rfl rfl) ?_
     refine SO.as ?_
     refine SO.nn ?_
     refine SC.ret ?_
     refine SQ.out (.inl rfl) (res1 rfl rfl) ?_
     refine ⟨?_, hO14.toBelow ⟨hb2, hb1, trivial⟩⟩
     (congr 2; exact decide_eq_decide.2 (by unfold glue; omega))
    ·
     refine SO.ps ?_
     refine SO.ps ?_
     refine SO.v (.pickF rfl rfl rfl) ?_
     refine SO.as ?_
     refine SO.nn ?_
     refine SC.ret ?_
     refine SQ.out (.inl rfl) (res1 rfl rfl) ?_
     refine ⟨?_, hO14.toBelow ⟨hb2, hb1, trivial⟩⟩
     (rw [decide_eq_false (show ¬ glue u v by unfold glue; omega)])
   ·
    refine SO.ps ?_
    refine SO.ps ?_
    refine SO.v (.pickF rfl rfl rfl) ?_
    refine SO.mv ?_
    refine SO.ps ?_
    refine SO.ps ?_
    refine SO.v (.pickF rfl rfl rfl) ?_
    refine SO.as ?_
    refine SO.nn ?_
    refine SC.ret ?_
    refine SQ.out (.inl rfl) (res1 rfl rfl) ?_
    refine ⟨?_, hO14.toBelow ⟨hb2, hb1, trivial⟩⟩
    (rw [decide_eq_false (show ¬ glue u v by unfold glue; omega)])

end Go.Proofs.YtclgplkkajfenaaGreatDoor
