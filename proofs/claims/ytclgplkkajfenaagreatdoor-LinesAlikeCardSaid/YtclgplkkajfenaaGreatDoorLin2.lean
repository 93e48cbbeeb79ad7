/- lines: Span, Line, Column. -/
import Derived.Test.YtclgplkkajfenaaGreatDoorLin
import Derived.Test.YtclgplkkajfenaaGreatDoorOw10
namespace Go.Proofs.YtclgplkkajfenaaGreatDoor
open Go Go.RowKit Ow
theorem slT_one {s : ByteArray} {n : Nat} {a c : Int} (ha : a = (n : Nat)) (hc : c = (n : Nat) + 1) (h : n + 1 ≤ s.size) : slT s a c = ⟨#[13]⟩ ↔ by' (bl s) n = 13 := by
  subst ha; subst hc
  unfold slT
  rw [if_neg (by unfold bad; omega)]
  have e : bl (s.extract (n : Int).toNat ((n : Int) + 1).toNat) = [(bl s)[n]'(by rw [bl_length]; omega)] := by
    rw [bl_extract, show ((n : Int) + 1).toNat = n + 1 by omega, Int.toNat_natCast]
    have h1 : n < (bl s).length := by rw [bl_length]; omega
    rw [List.drop_take, List.drop_eq_getElem_cons h1, show n + 1 - n = 1 by omega]; rfl
  have h1 : n < (bl s).length := by rw [bl_length]; omega
  have e2 : by' (bl s) n = ((bl s)[n]).toNat := by unfold by'; rw [List.getD_eq_getElem?_getD, List.getElem?_eq_getElem h1]; rfl
  rw [e2]
  constructor
  · intro h2
    rw [h2] at e
    have e3 : [(13 : UInt8)] = [(bl s)[n]] := e
    rw [← (List.cons.inj e3).1]; rfl
  · intro h2
    refine bl_inj ?_
    rw [e]
    have : (bl s)[n] = 13 := UInt8.toNat_inj.1 h2
    rw [this]
theorem bgn_pos {l : Bs} {k : Int} (h : 0 < k) (hk : k ≤ nlC l) : 1 ≤ bgn l k := by
  cases l with
  | nil =>
    exfalso
    have h2 : nlC [] = 0 := rfl
    omega
  | cons x r =>
    rw [bgn, if_neg (by omega)]
    exact Nat.le_add_right _ _

theorem span_val {l : Bs} {k : Int} {a c : Int} (hn : ¬ noLine l k) (ha : a = (bgn l k : Nat)) (hc : c = (lend l k : Nat)) :
    Ending.returned (.tuple #[.agg #[.int .i64 a, .int .i64 c], .int .i64 0]) = .returned (.tuple #[.agg #[.int .i64 (spF l k : Nat), .int .i64 (spT l k : Nat)], .int .i64 (spE l k)]) := by
  unfold spF spT spE
  rw [if_neg hn, if_neg hn, if_neg hn, ha, hc]
theorem lend_le (l : Bs) (k : Int) : lend l k ≤ l.length := by
  unfold lend
  have := bgn_le l (k + 1)
  split
  · split <;> omega
  · exact Nat.le_refl _
theorem spT_le (l : Bs) (k : Int) : spT l k ≤ l.length := by
  unfold spT; split
  · exact Nat.zero_le _
  · exact lend_le l k
theorem spF_le (l : Bs) (k : Int) : spF l k ≤ l.length := by
  unfold spF; split
  · exact Nat.zero_le _
  · exact bgn_le l k

theorem bd41_0_1_Lin2 (x0 : Int) (x1 : Int) : ∀ w, (Instr.build 41 [(0, .int .i64 x0), (1, .int .i64 x1)].toArray).run Tryz.prog w = .ok (.agg [.int .i64 x0, .int .i64 x1].toArray) w := fun _ => by kernel_rfl
theorem bd41_z_Lin2  : ∀ w, (Instr.build 41 [].toArray).run Tryz.prog w = .ok (.agg [.int .i64 0, .int .i64 0].toArray) w := fun _ => by kernel_rfl
set_option maxRecDepth 20000 in
set_option maxHeartbeats 400000 in
theorem lines_span (v : Value) (s : ByteArray) (k : Int) (w : World) (hG : Good w) (ht : TextAt w v s) :
    Calls Tryz.prog 28 #[v, .int .i64 k] w fun e w' => e = .returned (.tuple #[.agg #[.int .i64 (spF (bl s) k : Nat), .int .i64 (spT (bl s) k : Nat)], .int .i64 (spE (bl s) k)]) ∧ Below w.heap.size w w' := by
  have hsz := ht.size
  obtain ⟨tT, tx, rfl⟩ := ht.iface
  have hnl := nlC_le (bl s)
  rw [bl_length] at hnl
  have hO0 := Own.start hG
  refine enter Tryz.func28 rfl rfl rfl 0 ?_
  refine SC.seq ?_
  refine SC.region ?_
  refine SO.alloc hO0 rfl rfl rfl rfl zv41 [_, _] rfl ?_
  intro b1 w1 hb1 hO1
  refine SO.val rfl rfl rfl rfl (.assign rfl rfl) ?_
  refine SO.nil ?_
  refine SQ.then_normal ?_
  refine SC.seq ?_
  refine SC.region ?_
  refine SO.val rfl rfl rfl rfl (.move rfl rfl) ?_
  refine SO.call rfl rfl rfl rfl (.callF rfl rfl en29) (lines_count _ s _ (hO1.good hG) (ht.below (hO1.toBelow ⟨hb1, trivial⟩))) ?_
  rintro _ w2 ⟨rfl, hb2⟩
  have hO2 := hO1.below hb2
  refine ⟨_, rfl, ?_⟩
  refine SO.val rfl rfl rfl rfl (.assign rfl rfl) ?_
  refine SO.nil ?_
  refine SQ.then_normal ?_
  refine SC.seq ?_
  refine SC.seq ?_
  refine SC.region ?_
  refine SO.val rfl rfl rfl rfl (.move rfl rfl) ?_
  refine SO.val rfl rfl rfl rfl (.lss rfl rfl rfl) ?_
  refine SO.val rfl rfl rfl rfl (.move rfl rfl) ?_
  refine SO.dec 12 rfl (fun g3 => ?_) (fun g3 => ?_)
  ·
    refine SO.pass rfl rfl rfl ?_
    refine SO.pass rfl rfl rfl ?_
    refine SO.pass rfl rfl rfl ?_
    refine SO.val rfl rfl rfl rfl (.pickT rfl rfl rfl) ?_
    refine SO.nil ?_
    refine SQ.then_normal ?_
    refine SC.yes rfl ?_
    refine SC.seq ?_
    refine SC.region ?_
    refine SO.val rfl rfl rfl rfl (.build rfl rfl (bd41_z_Lin2)) ?_
    refine SO.store hO2 (i := 0) rfl rfl rfl rfl rfl rfl sz41 rfl rfl [(_, .cells [_, _].toArray _ _)] rfl ?_
    intro w4 hO4
    refine SO.val rfl rfl rfl rfl (.assign rfl rfl) ?_
    refine SO.nil ?_
    refine SQ.then_normal ?_
    refine SC.ret ?_
    refine SQ.then_ret ?_
    refine SQ.out (.inl rfl) (resCT [_, _] rfl rfl rfl ag41 sz41 (hO4.at (i := 0) rfl) rfl rfl) ?_
    first | exact ⟨by rw [show spF (bl s) k = 0 by unfold spF; rw [if_pos (by unfold noLine; omega)], show spT (bl s) k = 0 by unfold spT; rw [if_pos (by unfold noLine; omega)], show spE (bl s) k = 1 by unfold spE; rw [if_pos (by unfold noLine; omega)]]; rfl, hO4.toBelow ⟨hb1, trivial⟩⟩ | (refine ⟨span_val hno rfl ?_, hO4.toBelow ⟨hb1, trivial⟩⟩; unfold lend; first | (rw [if_neg (by omega), bl_length]; done) | (rw [if_pos (by omega), if_neg (by omega)]; omega) | (rw [if_pos (by omega), if_neg (fun h => by have := h13.2 h.2; contradiction)]; omega) | (rw [if_pos (by omega), if_pos ⟨by omega, h13.1 (by assumption)⟩]; omega))
  ·
    refine SO.val rfl rfl rfl rfl (.move rfl rfl) ?_
    refine SO.val rfl rfl rfl rfl (.move rfl rfl) ?_
    refine SO.val rfl rfl rfl rfl (.geq rfl rfl rfl) ?_
    refine SO.val rfl rfl rfl rfl (.pickF rfl rfl rfl) ?_
    refine SO.nil ?_
    refine SQ.then_normal ?_
    refine SC.dec rfl (fun c6 => ?_) (fun c6 => ?_)
    ·
      refine SC.seq ?_
      refine SC.region ?_
      refine SO.val rfl rfl rfl rfl (.build rfl rfl (bd41_z_Lin2)) ?_
      refine SO.store hO2 (i := 0) rfl rfl rfl rfl rfl rfl sz41 rfl rfl [(_, .cells [_, _].toArray _ _)] rfl ?_
      intro w7 hO7
      refine SO.val rfl rfl rfl rfl (.assign rfl rfl) ?_
      refine SO.nil ?_
      refine SQ.then_normal ?_
      refine SC.ret ?_
      refine SQ.then_ret ?_
      refine SQ.out (.inl rfl) (resCT [_, _] rfl rfl rfl ag41 sz41 (hO7.at (i := 0) rfl) rfl rfl) ?_
      first | exact ⟨by rw [show spF (bl s) k = 0 by unfold spF; rw [if_pos (by unfold noLine; omega)], show spT (bl s) k = 0 by unfold spT; rw [if_pos (by unfold noLine; omega)], show spE (bl s) k = 1 by unfold spE; rw [if_pos (by unfold noLine; omega)]]; rfl, hO7.toBelow ⟨hb1, trivial⟩⟩ | (refine ⟨span_val hno rfl ?_, hO7.toBelow ⟨hb1, trivial⟩⟩; unfold lend; first | (rw [if_neg (by omega), bl_length]; done) | (rw [if_pos (by omega), if_neg (by omega)]; omega) | (rw [if_pos (by omega), if_neg (fun h => by have := h13.2 h.2; contradiction)]; omega) | (rw [if_pos (by omega), if_pos ⟨by omega, h13.1 (by assumption)⟩]; omega))
    ·
      refine SC.skip ?_
      refine SQ.then_normal ?_
      refine SC.seq ?_
      have hno : ¬ noLine (bl s) k := by unfold noLine; omega
      have hq0 := bgn_le (bl s) k
      rw [bl_length] at hq0
      refine SC.region ?_
      refine SO.val rfl rfl rfl rfl (.move rfl rfl) ?_
      refine SO.val rfl rfl rfl rfl (.move rfl rfl) ?_
      refine SO.call rfl rfl rfl rfl (.callF rfl rfl en82) (lines_begin _ s _ _ (hO2.good hG) (ht.below (hO2.toBelow ⟨hb1, trivial⟩))) ?_
      rintro _ w9 ⟨rfl, hb9⟩
      have hO9 := hO2.below hb9
      refine ⟨_, rfl, ?_⟩
      refine SO.val rfl rfl rfl rfl (.move rfl rfl) ?_
      refine SO.call rfl rfl rfl rfl (.callF rfl rfl en80) (lines_length _ s _ (hO9.good hG) (ht.below (hO9.toBelow ⟨hb1, trivial⟩))) ?_
      rintro _ w10 ⟨rfl, hb10⟩
      have hO10 := hO9.below hb10
      refine ⟨_, rfl, ?_⟩
      refine SO.val rfl rfl rfl rfl (.build rfl rfl (bd41_0_1_Lin2 _ _)) ?_
      refine SO.alloc hO10 rfl rfl rfl rfl zv41 [_, _] rfl ?_
      intro b11 w11 hb11 hO11
      refine SO.store hO11 (i := 0) rfl rfl rfl rfl rfl rfl sz41 rfl rfl [(_, .cells [_, _].toArray _ _), _] rfl ?_
      intro w12 hO12
      refine SO.nil ?_
      refine SQ.then_normal ?_
      refine SC.seq ?_
      refine SC.seq ?_
      refine SC.region ?_
      refine SO.val rfl rfl rfl rfl (.move rfl rfl) ?_
      refine SO.val rfl rfl rfl rfl (.add rfl rfl rfl (by omega)) ?_
      refine SO.val rfl rfl rfl rfl (.move rfl rfl) ?_
      refine SO.val rfl rfl rfl rfl (.lss rfl rfl rfl) ?_
      refine SO.nil ?_
      refine SQ.then_normal ?_
      refine SC.dec rfl (fun c13 => ?_) (fun c13 => ?_)
      ·
        refine SC.seq ?_
        have hq1 := bgn_le (bl s) (k + 1)
        rw [bl_length] at hq1
        have hq2 := bgn_pos (l := bl s) (k := k + 1) (by omega) (by omega)
        refine SC.region ?_
        refine SO.val rfl rfl rfl rfl (.move rfl rfl) ?_
        refine SO.val rfl rfl rfl rfl (.move rfl rfl) ?_
        refine SO.val rfl rfl rfl rfl (.add rfl rfl rfl (by omega)) ?_
        refine SO.call rfl rfl rfl rfl (.callF rfl rfl en82) (lines_begin _ s _ _ (hO12.good hG) (ht.below (hO12.toBelow ⟨hb11, hb1, trivial⟩))) ?_
        rintro _ w14 ⟨rfl, hb14⟩
        have hO14 := hO12.below hb14
        refine ⟨_, rfl, ?_⟩
        refine SO.val rfl rfl rfl rfl (.sub rfl rfl rfl (by omega)) ?_
        refine SO.val rfl rfl rfl rfl (.fieldAddr rfl rfl fa41_1) ?_
        refine SO.store hO14 (i := 0) rfl rfl rfl rfl rfl rfl sz3 rfl rfl [(_, .cells [_, _].toArray _ _), _] rfl ?_
        intro w15 hO15
        refine SO.nil ?_
        refine SQ.then_normal ?_
        refine SC.seq ?_
        refine SC.region ?_
        refine SO.val rfl rfl rfl rfl (.fieldAddr rfl rfl fa41_1) ?_
        refine SO.val rfl rfl rfl rfl (.load rfl rfl ag3 (cell_of' (hO15.at (i := 0) rfl) rfl)) ?_
        refine SO.val rfl rfl rfl rfl (.fieldAddr rfl rfl fa41_0) ?_
        refine SO.val rfl rfl rfl rfl (.load rfl rfl ag3 (cell_of' (hO15.at (i := 0) rfl) rfl)) ?_
        refine SO.val rfl rfl rfl rfl (.gtr rfl rfl rfl) ?_
        refine SO.val rfl rfl rfl rfl (.move rfl rfl) ?_
        refine SO.dec 39 rfl (fun g16 => ?_) (fun g16 => ?_)
        ·
          refine SO.val rfl rfl rfl rfl (.move rfl rfl) ?_
          refine SO.val rfl rfl rfl rfl (.fieldAddr rfl rfl fa41_1) ?_
          refine SO.val rfl rfl rfl rfl (.load rfl rfl ag3 (cell_of' (hO15.at (i := 0) rfl) rfl)) ?_
          refine SO.val rfl rfl rfl rfl (.sub rfl rfl rfl (by omega)) ?_
          refine SO.val rfl rfl rfl rfl (.fieldAddr rfl rfl fa41_1) ?_
          refine SO.val rfl rfl rfl rfl (.load rfl rfl ag3 (cell_of' (hO15.at (i := 0) rfl) rfl)) ?_
          refine SO.call rfl rfl rfl rfl (.callF rfl rfl en77) (lines_slice _ s _ _ _ (hO15.good hG) (ht.below (hO15.toBelow ⟨hb11, hb1, trivial⟩))) ?_
          rintro _ w17 ⟨rfl, hb17⟩
          have hO17 := hO15.below hb17
          refine ⟨_, rfl, ?_⟩
          have h13 := slT_one (s := s) (n := bgn (bl s) (k + 1) - 1 - 1) (a := ((bgn (bl s) (k + 1) : Nat) : Int) - 1 - 1) (c := ((bgn (bl s) (k + 1) : Nat) : Int) - 1) (by omega) (by omega) (by omega)
          refine SO.val rfl rfl rfl rfl (.strEq rfl rfl rfl) ?_
          refine SO.val rfl rfl rfl rfl (.pickT rfl rfl rfl) ?_
          refine SO.nil ?_
          refine SQ.then_normal ?_
          refine SC.dec rfl (fun c18 => ?_) (fun c18 => ?_)
          ·
            refine SC.region ?_
            refine SO.val rfl rfl rfl rfl (.fieldAddr rfl rfl fa41_1) ?_
            refine SO.val rfl rfl rfl rfl (.load rfl rfl ag3 (cell_of' (hO17.at (i := 0) rfl) rfl)) ?_
            refine SO.val rfl rfl rfl rfl (.sub rfl rfl rfl (by omega)) ?_
            refine SO.val rfl rfl rfl rfl (.fieldAddr rfl rfl fa41_1) ?_
            refine SO.store hO17 (i := 0) rfl rfl rfl rfl rfl rfl sz3 rfl rfl [(_, .cells [_, _].toArray _ _), _] rfl ?_
            intro w19 hO19
            refine SO.nil ?_
            refine SQ.then_normal ?_
            refine SC.seq ?_
            refine SC.region ?_
            refine SO.val rfl rfl rfl rfl (.loadB [_, _] rfl rfl ag41 sz41 (hO19.at (i := 0) rfl) rfl rfl) ?_
            refine SO.store hO19 (i := 1) rfl rfl rfl rfl rfl rfl sz41 rfl rfl [_, (_, .cells [_, _].toArray _ _)] rfl ?_
            intro w20 hO20
            refine SO.val rfl rfl rfl rfl (.assign rfl rfl) ?_
            refine SO.nil ?_
            refine SQ.then_normal ?_
            refine SC.ret ?_
            refine SQ.out (.inl rfl) (resCT [_, _] rfl rfl rfl ag41 sz41 (hO20.at (i := 1) rfl) rfl rfl) ?_
            first | exact ⟨by rw [show spF (bl s) k = 0 by unfold spF; rw [if_pos (by unfold noLine; omega)], show spT (bl s) k = 0 by unfold spT; rw [if_pos (by unfold noLine; omega)], show spE (bl s) k = 1 by unfold spE; rw [if_pos (by unfold noLine; omega)]]; rfl, hO20.toBelow ⟨hb11, hb1, trivial⟩⟩ | (refine ⟨span_val hno rfl ?_, hO20.toBelow ⟨hb11, hb1, trivial⟩⟩; unfold lend; first | (rw [if_neg (by omega), bl_length]; done) | (rw [if_pos (by omega), if_neg (by omega)]; omega) | (rw [if_pos (by omega), if_neg (fun h => by have := h13.2 h.2; contradiction)]; omega) | (rw [if_pos (by omega), if_pos ⟨by omega, h13.1 (by assumption)⟩]; omega))
          ·
            refine SC.skip ?_
            refine SQ.then_normal ?_
            refine SC.seq ?_
            refine SC.region ?_
            refine SO.val rfl rfl rfl rfl (.loadB [_, _] rfl rfl ag41 sz41 (hO17.at (i := 0) rfl) rfl rfl) ?_
            refine SO.store hO17 (i := 1) rfl rfl rfl rfl rfl rfl sz41 rfl rfl [_, (_, .cells [_, _].toArray _ _)] rfl ?_
            intro w22 hO22
            refine SO.val rfl rfl rfl rfl (.assign rfl rfl) ?_
            refine SO.nil ?_
            refine SQ.then_normal ?_
            refine SC.ret ?_
            refine SQ.out (.inl rfl) (resCT [_, _] rfl rfl rfl ag41 sz41 (hO22.at (i := 1) rfl) rfl rfl) ?_
            first | exact ⟨by rw [show spF (bl s) k = 0 by unfold spF; rw [if_pos (by unfold noLine; omega)], show spT (bl s) k = 0 by unfold spT; rw [if_pos (by unfold noLine; omega)], show spE (bl s) k = 1 by unfold spE; rw [if_pos (by unfold noLine; omega)]]; rfl, hO22.toBelow ⟨hb11, hb1, trivial⟩⟩ | (refine ⟨span_val hno rfl ?_, hO22.toBelow ⟨hb11, hb1, trivial⟩⟩; unfold lend; first | (rw [if_neg (by omega), bl_length]; done) | (rw [if_pos (by omega), if_neg (by omega)]; omega) | (rw [if_pos (by omega), if_neg (fun h => by have := h13.2 h.2; contradiction)]; omega) | (rw [if_pos (by omega), if_pos ⟨by omega, h13.1 (by assumption)⟩]; omega))
        ·
          refine SO.pass rfl rfl rfl ?_
          refine SO.pass rfl rfl rfl ?_
          refine SO.pass rfl rfl rfl ?_
          refine SO.pass rfl rfl rfl ?_
          refine SO.pass rfl rfl rfl ?_
          refine SO.pass rfl rfl rfl ?_
          refine SO.pass rfl rfl rfl ?_
          refine SO.pass rfl rfl rfl ?_
          refine SO.val rfl rfl rfl rfl (.pickF rfl rfl rfl) ?_
          refine SO.nil ?_
          refine SQ.then_normal ?_
          refine SC.no rfl ?_
          refine SC.skip ?_
          refine SQ.then_normal ?_
          refine SC.seq ?_
          refine SC.region ?_
          refine SO.val rfl rfl rfl rfl (.loadB [_, _] rfl rfl ag41 sz41 (hO15.at (i := 0) rfl) rfl rfl) ?_
          refine SO.store hO15 (i := 1) rfl rfl rfl rfl rfl rfl sz41 rfl rfl [_, (_, .cells [_, _].toArray _ _)] rfl ?_
          intro w24 hO24
          refine SO.val rfl rfl rfl rfl (.assign rfl rfl) ?_
          refine SO.nil ?_
          refine SQ.then_normal ?_
          refine SC.ret ?_
          refine SQ.out (.inl rfl) (resCT [_, _] rfl rfl rfl ag41 sz41 (hO24.at (i := 1) rfl) rfl rfl) ?_
          first | exact ⟨by rw [show spF (bl s) k = 0 by unfold spF; rw [if_pos (by unfold noLine; omega)], show spT (bl s) k = 0 by unfold spT; rw [if_pos (by unfold noLine; omega)], show spE (bl s) k = 1 by unfold spE; rw [if_pos (by unfold noLine; omega)]]; rfl, hO24.toBelow ⟨hb11, hb1, trivial⟩⟩ | (refine ⟨span_val hno rfl ?_, hO24.toBelow ⟨hb11, hb1, trivial⟩⟩; unfold lend; first | (rw [if_neg (by omega), bl_length]; done) | (rw [if_pos (by omega), if_neg (by omega)]; omega) | (rw [if_pos (by omega), if_neg (fun h => by have := h13.2 h.2; contradiction)]; omega) | (rw [if_pos (by omega), if_pos ⟨by omega, h13.1 (by assumption)⟩]; omega))
      ·
        refine SC.skip ?_
        refine SQ.then_normal ?_
        refine SC.seq ?_
        refine SC.region ?_
        refine SO.val rfl rfl rfl rfl (.loadB [_, _] rfl rfl ag41 sz41 (hO12.at (i := 0) rfl) rfl rfl) ?_
        refine SO.store hO12 (i := 1) rfl rfl rfl rfl rfl rfl sz41 rfl rfl [_, (_, .cells [_, _].toArray _ _)] rfl ?_
        intro w26 hO26
        refine SO.val rfl rfl rfl rfl (.assign rfl rfl) ?_
        refine SO.nil ?_
        refine SQ.then_normal ?_
        refine SC.ret ?_
        refine SQ.out (.inl rfl) (resCT [_, _] rfl rfl rfl ag41 sz41 (hO26.at (i := 1) rfl) rfl rfl) ?_
        first | exact ⟨by rw [show spF (bl s) k = 0 by unfold spF; rw [if_pos (by unfold noLine; omega)], show spT (bl s) k = 0 by unfold spT; rw [if_pos (by unfold noLine; omega)], show spE (bl s) k = 1 by unfold spE; rw [if_pos (by unfold noLine; omega)]]; rfl, hO26.toBelow ⟨hb11, hb1, trivial⟩⟩ | (refine ⟨span_val hno rfl ?_, hO26.toBelow ⟨hb11, hb1, trivial⟩⟩; unfold lend; first | (rw [if_neg (by omega), bl_length]; done) | (rw [if_pos (by omega), if_neg (by omega)]; omega) | (rw [if_pos (by omega), if_neg (fun h => by have := h13.2 h.2; contradiction)]; omega) | (rw [if_pos (by omega), if_pos ⟨by omega, h13.1 (by assumption)⟩]; omega))

def lnT (s : ByteArray) (k : Int) : ByteArray := if spE (bl s) k ≠ 0 then ⟨#[]⟩ else slT s (spF (bl s) k) (spT (bl s) k)
/-- A line's bytes. -/
def lineB (s : ByteArray) (k : Int) : ByteArray := slT s (spF (bl s) k : Nat) (spT (bl s) k : Nat)
/-- Does a cluster end behind a place? -/
def past (F : Int) (a : Int) (c : Nat × Nat) : Prop := aw F c.2 > a
instance (F a : Int) (c : Nat × Nat) : Decidable (past F a c) := by unfold past; infer_instance
def colW (s : ByteArray) (k a : Int) : Int := nCells (bl (lineB s k)) ((clusters (bl (lineB s k))).takeWhile fun c => decide (¬ past (spF (bl s) k : Nat) a c))
def colR (s : ByteArray) (a : Int) : Int := if ofE (bl s) a ≠ 0 then 0 else colW s (ofN (bl s) a) a
theorem tw_all {α : Type} {p : α → Prop} [DecidablePred p] : ∀ {xs : List α}, (∀ y ∈ xs, ¬ p y) → xs.takeWhile (fun c => decide (¬ p c)) = xs
  | [], _ => rfl
  | x :: xs, h => by
    rw [List.takeWhile_cons, decide_eq_true (h x (by simp)), if_pos rfl, tw_all fun y hy => h y (List.mem_cons_of_mem _ hy)]
theorem tw_stop {α : Type} {p : α → Prop} [DecidablePred p] : ∀ {xs : List α} {x : α} {r : List α}, (∀ y ∈ xs, ¬ p y) → p x → (xs ++ x :: r).takeWhile (fun c => decide (¬ p c)) = xs
  | [], x, r, _, hx => by rw [List.nil_append, List.takeWhile_cons, decide_eq_false (by simpa using hx)]; rfl
  | y :: xs, x, r, h, hx => by
    rw [List.cons_append, List.takeWhile_cons, decide_eq_true (h y (by simp)), if_pos rfl, tw_stop (fun z hz => h z (List.mem_cons_of_mem _ hz)) hx]

set_option maxRecDepth 20000 in
set_option maxHeartbeats 400000 in
theorem lines_line (v : Value) (s : ByteArray) (k : Int) (w : World) (hG : Good w) (ht : TextAt w v s) :
    Calls Tryz.prog 35 #[v, .int .i64 k] w fun e w' => e = .returned (.tuple #[.string (lnT s k), .int .i64 (spE (bl s) k)]) ∧ Below w.heap.size w w' := by
  have hsz := ht.size
  obtain ⟨tT, tx, rfl⟩ := ht.iface
  have hO0 := Own.start hG
  refine enter Tryz.func35 rfl rfl rfl 0 ?_
  refine SC.seq ?_
  refine SC.region ?_
  refine SO.val rfl rfl rfl rfl (.assign rfl rfl) ?_
  refine SO.val rfl rfl rfl rfl (.assign rfl rfl) ?_
  refine SO.nil ?_
  refine SQ.then_normal ?_
  refine SC.seq ?_
  refine SC.region ?_
  refine SO.val rfl rfl rfl rfl (.move rfl rfl) ?_
  refine SO.val rfl rfl rfl rfl (.move rfl rfl) ?_
  refine SO.call rfl rfl rfl rfl (.callF rfl rfl en28) (lines_span _ s _ _ (hO0.good hG) (ht.below (hO0.toBelow trivial))) ?_
  rintro _ w1 ⟨rfl, hb1⟩
  have hO1 := hO0.below hb1
  refine ⟨_, rfl, ?_⟩
  refine SO.val rfl rfl rfl rfl (.move rfl rfl) ?_
  refine SO.val rfl rfl rfl rfl (.extract rfl rfl rfl) ?_
  refine SO.val rfl rfl rfl rfl (.extract rfl rfl rfl) ?_
  refine SO.alloc hO1 rfl rfl rfl rfl zv41 [_, _] rfl ?_
  intro b2 w2 hb2 hO2
  refine SO.store hO2 (i := 0) rfl rfl rfl rfl rfl rfl sz41 rfl rfl [(_, .cells [_, _].toArray _ _)] rfl ?_
  intro w3 hO3
  refine SO.val rfl rfl rfl rfl (.assign rfl rfl) ?_
  refine SO.nil ?_
  refine SQ.then_normal ?_
  refine SC.seq ?_
  refine SC.seq ?_
  refine SC.region ?_
  refine SO.val rfl rfl rfl rfl (.move rfl rfl) ?_
  refine SO.val rfl rfl rfl rfl (.neq rfl rfl rfl) ?_
  refine SO.nil ?_
  refine SQ.then_normal ?_
  refine SC.dec rfl (fun c4 => ?_) (fun c4 => ?_)
  ·
    refine SC.seq ?_
    refine SC.region ?_
    refine SO.val rfl rfl rfl rfl (.move rfl rfl) ?_
    refine SO.val rfl rfl rfl rfl (.assign rfl rfl) ?_
    refine SO.val rfl rfl rfl rfl (.assign rfl rfl) ?_
    refine SO.nil ?_
    refine SQ.then_normal ?_
    refine SC.ret ?_
    refine SQ.then_ret ?_
    refine SQ.out (.inl rfl) (res2 rfl rfl rfl) ?_
    refine ⟨?_, hO3.toBelow ⟨hb2, trivial⟩⟩
    unfold lnT
    first | (rw [if_pos (by assumption)]; done) | (rw [if_pos (by assumption)]; rfl) | (rw [if_neg (by assumption), show spE (bl s) k = 0 by omega])
  ·
    refine SC.skip ?_
    refine SQ.then_normal ?_
    refine SC.seq ?_
    refine SC.region ?_
    refine SO.val rfl rfl rfl rfl (.move rfl rfl) ?_
    refine SO.val rfl rfl rfl rfl (.fieldAddr rfl rfl fa41_0) ?_
    refine SO.val rfl rfl rfl rfl (.load rfl rfl ag3 (cell_of' (hO3.at (i := 0) rfl) rfl)) ?_
    refine SO.val rfl rfl rfl rfl (.fieldAddr rfl rfl fa41_1) ?_
    refine SO.val rfl rfl rfl rfl (.load rfl rfl ag3 (cell_of' (hO3.at (i := 0) rfl) rfl)) ?_
    refine SO.call rfl rfl rfl rfl (.callF rfl rfl en77) (lines_slice _ s _ _ _ (hO3.good hG) (ht.below (hO3.toBelow ⟨hb2, trivial⟩))) ?_
    rintro _ w6 ⟨rfl, hb6⟩
    have hO6 := hO3.below hb6
    refine ⟨_, rfl, ?_⟩
    refine SO.val rfl rfl rfl rfl (.assign rfl rfl) ?_
    refine SO.val rfl rfl rfl rfl (.assign rfl rfl) ?_
    refine SO.nil ?_
    refine SQ.then_normal ?_
    refine SC.ret ?_
    refine SQ.out (.inl rfl) (res2 rfl rfl rfl) ?_
    refine ⟨?_, hO6.toBelow ⟨hb2, trivial⟩⟩
    unfold lnT
    first | (rw [if_pos (by assumption)]; done) | (rw [if_pos (by assumption)]; rfl) | (rw [if_neg (by assumption), show spE (bl s) k = 0 by omega])

set_option maxRecDepth 20000 in
set_option maxHeartbeats 400000 in
theorem lines_column (v : Value) (s : ByteArray) (a : Int) (w : World) (hG : Good w) (ht : TextAt w v s) :
    Calls Tryz.prog 23 #[v, .int .i64 a] w fun e w' => e = .returned (.tuple #[.int .i64 (colR s a), .int .i64 (ofE (bl s) a)]) ∧ Below w.heap.size w w' := by
  have hsz := ht.size
  obtain ⟨tT, tx, rfl⟩ := ht.iface
  have hsl := slT_size s (spF (bl s) (ofN (bl s) a) : Nat) (spT (bl s) (ofN (bl s) a) : Nat)
  have hcl := clusters_length (bl (lineB s (ofN (bl s) a)))
  rw [bl_length] at hcl
  have hsl2 : ((lineB s (ofN (bl s) a))).size ≤ s.size := hsl
  have hO0 := Own.start hG
  refine enterM Tryz.func23 rfl rfl rfl 5 ?_
  refine SC.seq ?_
  refine SC.region ?_
  refine SO.box hO0 rfl rfl rfl rfl rfl [_] rfl ?_
  intro b1 w1 hb1 hO1
  refine SO.val rfl rfl rfl rfl (.assign rfl rfl) ?_
  refine SO.val rfl rfl rfl rfl (.assign rfl rfl) ?_
  refine SO.nil ?_
  refine SQ.then_normal ?_
  refine SC.seq ?_
  refine SC.region ?_
  refine SO.val rfl rfl rfl rfl (.move rfl rfl) ?_
  refine SO.val rfl rfl rfl rfl (.load rfl rfl ag3 (cell_of' (hO1.at (i := 0) rfl) rfl)) ?_
  refine SO.call rfl rfl rfl rfl (.callF rfl rfl en27) (lines_of _ s _ _ (hO1.good hG) (ht.below (hO1.toBelow ⟨hb1, trivial⟩))) ?_
  rintro _ w2 ⟨rfl, hb2⟩
  have hO2 := hO1.below hb2
  refine ⟨_, rfl, ?_⟩
  refine SO.val rfl rfl rfl rfl (.move rfl rfl) ?_
  refine SO.val rfl rfl rfl rfl (.extract rfl rfl rfl) ?_
  refine SO.val rfl rfl rfl rfl (.extract rfl rfl rfl) ?_
  refine SO.val rfl rfl rfl rfl (.assign rfl rfl) ?_
  refine SO.val rfl rfl rfl rfl (.assign rfl rfl) ?_
  refine SO.nil ?_
  refine SQ.then_normal ?_
  refine SC.seq ?_
  refine SC.seq ?_
  refine SC.region ?_
  refine SO.val rfl rfl rfl rfl (.move rfl rfl) ?_
  refine SO.val rfl rfl rfl rfl (.neq rfl rfl rfl) ?_
  refine SO.nil ?_
  refine SQ.then_normal ?_
  refine SC.dec rfl (fun c3 => ?_) (fun c3 => ?_)
  ·
    have hse := c3
    refine SC.seq ?_
    refine SC.region ?_
    refine SO.val rfl rfl rfl rfl (.move rfl rfl) ?_
    refine SO.val rfl rfl rfl rfl (.assign rfl rfl) ?_
    refine SO.val rfl rfl rfl rfl (.assign rfl rfl) ?_
    refine SO.nil ?_
    refine SQ.then_normal ?_
    refine SC.ret ?_
    refine SQ.then_ret ?_
    refine SQ.outM [] hO2 (fun _ h => by cases h) (.inl rfl) (fun w4 hO4 => ⟨_, res2 (t := 4) (u := 5) rfl rfl rfl, ?_⟩)
    first | exact ⟨by unfold colR; rw [if_pos hse]; rfl, hO4.toBelow ⟨hb1, trivial⟩⟩ | exact ⟨by unfold colR; rw [if_neg (by omega), ← hcol, hse]; rfl, hO4.toBelow ⟨hb1, trivial⟩⟩
  ·
    have hse : ofE (bl s) a = 0 := by omega
    refine SC.skip ?_
    refine SQ.then_normal ?_
    refine SC.seq ?_
    refine SC.region ?_
    refine SO.val rfl rfl rfl rfl (.move rfl rfl) ?_
    refine SO.val rfl rfl rfl rfl (.move rfl rfl) ?_
    refine SO.call rfl rfl rfl rfl (.callF rfl rfl en28) (lines_span _ s _ _ (hO2.good hG) (ht.below (hO2.toBelow ⟨hb1, trivial⟩))) ?_
    rintro _ w5 ⟨rfl, hb5⟩
    have hO5 := hO2.below hb5
    refine ⟨_, rfl, ?_⟩
    refine SO.val rfl rfl rfl rfl (.move rfl rfl) ?_
    refine SO.val rfl rfl rfl rfl (.extract rfl rfl rfl) ?_
    refine SO.val rfl rfl rfl rfl (.extract rfl rfl rfl) ?_
    refine SO.alloc hO5 rfl rfl rfl rfl zv41 [_, _] rfl ?_
    intro b6 w6 hb6 hO6
    refine SO.store hO6 (i := 0) rfl rfl rfl rfl rfl rfl sz41 rfl rfl [(_, .cells [_, _].toArray _ _), _] rfl ?_
    intro w7 hO7
    refine SO.val rfl rfl rfl rfl (.assign rfl rfl) ?_
    refine SO.nil ?_
    refine SQ.then_normal ?_
    refine SC.seq ?_
    refine SC.region ?_
    refine SO.alloc hO7 rfl rfl rfl rfl zv3 [_] rfl ?_
    intro b8 w8 hb8 hO8
    refine SO.store hO8 (i := 0) rfl rfl rfl rfl rfl rfl sz3 rfl rfl [(_, .cells [_].toArray _ _), _, _] rfl ?_
    intro w9 hO9
    refine SO.nil ?_
    refine SQ.then_normal ?_
    refine SC.seq ?_
    refine SC.seq ?_
    refine SC.region ?_
    refine SO.val rfl rfl rfl rfl (.move rfl rfl) ?_
    refine SO.val rfl rfl rfl rfl (.fieldAddr rfl rfl fa41_0) ?_
    refine SO.val rfl rfl rfl rfl (.load rfl rfl ag3 (cell_of' (hO9.at (i := 1) rfl) rfl)) ?_
    refine SO.val rfl rfl rfl rfl (.fieldAddr rfl rfl fa41_1) ?_
    refine SO.val rfl rfl rfl rfl (.load rfl rfl ag3 (cell_of' (hO9.at (i := 1) rfl) rfl)) ?_
    refine SO.call rfl rfl rfl rfl (.callF rfl rfl en77) (lines_slice _ s _ _ _ (hO9.good hG) (ht.below (hO9.toBelow ⟨hb8, hb6, hb1, trivial⟩))) ?_
    rintro _ w10 ⟨rfl, hb10⟩
    have hO10 := hO9.below hb10
    refine ⟨_, rfl, ?_⟩
    refine SO.call rfl rfl rfl rfl (.callF rfl rfl en76) (walk_any (lineB s (ofN (bl s) a)) _ (hO10.good hG)) ?_
    rintro _ w11 ⟨bs, rfl, hbs, hbox, hb11⟩
    have hO11 := hO10.learnB hb11 hbs hbox
    replace hbs := Nat.le_trans hO10.size hbs
    refine ⟨_, rfl, ?_⟩
    refine SO.nil ?_
    refine SQ.then_normal ?_
    refine SC.block ?_
    have hlt12 : ∀ b ∈ [bs, b8, b6, b1], b < w11.heap.size := hO11.ltN
    have hsz12 := hO11.size
    refine SC.rangeP (α := Nat × Nat) (β := Nat) (fun pre => ∀ y ∈ pre, ¬ past (spF (bl s) (ofN (bl s) a) : Nat) a y) (by simp) hO11 rfl en136 (encs := fun c => [clV (bl (lineB s (ofN (bl s) a))) c]) (by omega) (walk_stops (lineB s (ofN (bl s) a)) bs _ _ (hO11.good hG) (by omega) (hO11.at (i := 0) rfl)) KpW.trans (fun W l o1 o2 hl hx _ _ => KpW.put (lt_of_heap (hO11.at (i := 0) rfl)) (Nat.le_trans hO11.base hO11.size) W l o1 o2 hl hx) (fun _ => rfl) (by decide) (fun pre => [(bs, boxS (lineB s (ofN (bl s) a))), (b8, .cells #[.int .i64 (nCells (bl (lineB s (ofN (bl s) a))) pre)] 3 (0, 0)), (b6, .cells #[.int .i64 (spF (bl s) (ofN (bl s) a) : Nat), .int .i64 (spT (bl s) (ofN (bl s) a) : Nat)] 41 (0, 0)), (b1, .cells #[.int .i64 a] 3 (0, 0))]) (fun c xs => c = .exit 0 ∧ ∃ p x, xs = p ++ [x] ∧ (∀ y ∈ p, ¬ past (spF (bl s) (ofN (bl s) a) : Nat) a y) ∧ past (spF (bl s) (ofN (bl s) a) : Nat) a x) (fun _ xs => [(bs, boxS (lineB s (ofN (bl s) a))), (b8, .cells #[.int .i64 (nCells (bl (lineB s (ofN (bl s) a))) xs.dropLast)] 3 (0, 0)), (b6, .cells #[.int .i64 (spF (bl s) (ofN (bl s) a) : Nat), .int .i64 (spT (bl s) (ofN (bl s) a) : Nat)] 41 (0, 0)), (b1, .cells #[.int .i64 a] 3 (0, 0))]) rfl (fun _ => rfl) (fun _ _ _ => rfl) (fun _ u => [(8, .pointer (some ⟨b6, 0, none⟩)), (3, .pointer (some ⟨b1, 0, none⟩)), (10, .pointer (some ⟨b8, 0, none⟩)), (11, .pointer (some ⟨u, 0, none⟩))]) (fun x u W => w11.heap.size ≤ u ∧ W.heap[u]? = some (.cells #[.int .i64 (x.1 : Int), .int .i64 (x.2 : Int), .int .i64 (clCls (bl (lineB s (ofN (bl s) a))) x.1), .int .i64 (clCells (bl (lineB s (ofN (bl s) a))) x.1)] 138 (0, 0))) (fun _ u => fun _ A B row h hg hr => ⟨h.1, (hg.block u (lt_of_heap h.2) (fun e => by obtain ⟨_, o, ho, hc⟩ := hr u e.symm; rw [h.2] at ho; cases ho; cases hc)).trans h.2⟩) ?_ ?_ ?_ ?_
    · intro l pre x W hI hW
      have hA12 := hI.adopt
      refine SC.region ?_
      refine SO.alloc hA12 rfl rfl rfl rfl zv138 [_, _, _, _] rfl ?_
      intro b13 w13 hb13 hO13
      refine SO.store hO13 (i := 0) rfl rfl rfl rfl rfl rfl sz138 rfl rfl [(_, .cells [_, _, _, _].toArray _ _), _, _, _, _] rfl ?_
      intro w14 hO14
      refine SO.nil ?_
      have hE := (hO14.tail hb13)
      exact SQ.assigned b13 ⟨rfl, rfl, rfl, rfl, trivial⟩ ⟨Nat.le_trans hW hb13, hO14.at (i := 0) rfl⟩ (hE.keeps (namesLt rfl hlt12)) ⟨fun _ => hE.at (i := 0) rfl, fun h => hE.good h⟩ (hI.comp hE rfl)
    · intro l pre x u W hP hI hW hM hlen
      have hB12 := hI.adopt.know hM.2 (namesNe rfl hlt12 hM.1) (by have := hM.1; have := hO0.base; omega)
      have hr1 := nCells_range (bl (lineB s (ofN (bl s) a))) pre
      have hr2 := clCells_range (bl (lineB s (ofN (bl s) a))) x.1
      refine SC.block ?_
      refine SC.seq ?_
      refine SC.seq ?_
      refine SC.region ?_
      refine SO.val rfl rfl rfl rfl (.fieldAddr rfl rfl fa41_0) ?_
      refine SO.val rfl rfl rfl rfl (.load rfl rfl ag3 (cell_of' (hB12.at (i := 3) rfl) rfl)) ?_
      refine SO.val rfl rfl rfl rfl (.fieldAddr rfl rfl fa138_1) ?_
      refine SO.val rfl rfl rfl rfl (.load rfl rfl ag3 (cell_of' (hB12.at (i := 0) rfl) rfl)) ?_
      refine SO.val rfl rfl rfl rfl (.addW rfl rfl rfl) ?_
      refine SO.val rfl rfl rfl rfl (.load rfl rfl ag3 (cell_of' (hB12.at (i := 4) rfl) rfl)) ?_
      refine SO.val rfl rfl rfl rfl (.gtr rfl rfl rfl) ?_
      refine SO.nil ?_
      refine SQ.then_normal ?_
      refine SC.dec rfl (fun c15 => ?_) (fun c15 => ?_)
      ·
        refine SC.exit ?_
        refine SQ.then_exit ?_
        refine SQ.block_pass rfl ?_
        have hE := (hB12.forget hM.2)
        rw [← List.dropLast_concat (l₁ := pre) (b := x)] at hE
        exact SQ.breaksP (hE.keeps (namesLt rfl hlt12)) ⟨rfl, pre, x, rfl, hP, by assumption⟩ (hI.comp hE rfl)
      ·
        refine SC.skip ?_
        refine SQ.then_normal ?_
        refine SC.region ?_
        refine SO.val rfl rfl rfl rfl (.load rfl rfl ag3 (cell_of' (hB12.at (i := 2) rfl) rfl)) ?_
        refine SO.val rfl rfl rfl rfl (.fieldAddr rfl rfl fa138_3) ?_
        refine SO.val rfl rfl rfl rfl (.load rfl rfl ag3 (cell_of' (hB12.at (i := 0) rfl) rfl)) ?_
        refine SO.val rfl rfl rfl rfl (.add rfl rfl rfl (by omega)) ?_
        refine SO.store hB12 (i := 2) rfl rfl rfl rfl rfl rfl sz3 rfl rfl [_, _, (_, .cells [_].toArray _ _), _, _] rfl ?_
        intro w16 hO16
        refine SO.nil ?_
        refine SQ.block_normal ?_
        have hE := (hO16.forget hM.2)
        rw [← nCells_snoc] at hE
        have hPn : ∀ y ∈ pre ++ [x], ¬ past (spF (bl s) (ofN (bl s) a) : Nat) a y := fun y hy => by
          rcases List.mem_append.1 hy with h | h
          · exact hP y h
          · simp only [List.mem_singleton] at h; subst h; assumption
        exact SQ.goesP (hE.keeps (namesLt rfl hlt12)) ⟨fun _ => hE.at (i := 0) rfl, fun h => hE.good h⟩ hPn (hI.comp hE rfl)
    · intro d17 xs W hd17 hS hP hO17
      subst hS
      have hcol : nCells (bl (lineB s (ofN (bl s) a))) (clusters (bl (lineB s (ofN (bl s) a)))) = colW s (ofN (bl s) a) a := by unfold colW; rw [tw_all hP]
      refine SQ.block_normal ?_
      refine SQ.then_normal ?_
      refine SC.seq ?_
      refine SC.region ?_
      refine SO.val rfl rfl rfl rfl (.load rfl rfl ag3 (cell_of' (hO17.at (i := 2) rfl) rfl)) ?_
      refine SO.val rfl rfl rfl rfl (.assign rfl rfl) ?_
      refine SO.val rfl rfl rfl rfl (.assign rfl rfl) ?_
      refine SO.nil ?_
      refine SQ.then_normal ?_
      refine SC.ret ?_
      refine SQ.outM [d17] hO17 (List.forall_mem_cons.2 ⟨hd17, fun _ h => by cases h⟩) (.inl rfl) (fun w18 hO18 => ⟨_, res2 (t := 4) (u := 5) rfl rfl rfl, ?_⟩)
      first | exact ⟨by unfold colR; rw [if_pos hse]; rfl, hO18.toBelow ⟨hbs, hb8, hb6, hb1, trivial⟩⟩ | exact ⟨by unfold colR; rw [if_neg (by omega), ← hcol, hse]; rfl, hO18.toBelow ⟨hbs, hb8, hb6, hb1, trivial⟩⟩
    · intro d19 c pre W hd19 hSp hX hO19
      obtain ⟨rfl, p, x, rfl, hp1, hp2⟩ := hX
      obtain ⟨r, hr⟩ := hSp
      rw [List.dropLast_concat] at hO19
      have hcol : nCells (bl (lineB s (ofN (bl s) a))) p = colW s (ofN (bl s) a) a := by unfold colW; rw [← hr, List.append_assoc, List.singleton_append, tw_stop hp1 hp2]
      refine SC.exit ?_
      refine SQ.block_exit ?_
      refine SQ.then_normal ?_
      refine SC.seq ?_
      refine SC.region ?_
      refine SO.val rfl rfl rfl rfl (.load rfl rfl ag3 (cell_of' (hO19.at (i := 2) rfl) rfl)) ?_
      refine SO.val rfl rfl rfl rfl (.assign rfl rfl) ?_
      refine SO.val rfl rfl rfl rfl (.assign rfl rfl) ?_
      refine SO.nil ?_
      refine SQ.then_normal ?_
      refine SC.ret ?_
      refine SQ.outM [d19] hO19 (List.forall_mem_cons.2 ⟨hd19, fun _ h => by cases h⟩) (.inl rfl) (fun w20 hO20 => ⟨_, res2 (t := 4) (u := 5) rfl rfl rfl, ?_⟩)
      first | exact ⟨by unfold colR; rw [if_pos hse]; rfl, hO20.toBelow ⟨hbs, hb8, hb6, hb1, trivial⟩⟩ | exact ⟨by unfold colR; rw [if_neg (by omega), ← hcol, hse]; rfl, hO20.toBelow ⟨hbs, hb8, hb6, hb1, trivial⟩⟩

end Go.Proofs.YtclgplkkajfenaaGreatDoor
