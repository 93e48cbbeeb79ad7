/- rope: measures. -/
import Derived.Test.YtclgplkkajfenaaGreatDoorRope2
namespace Go.Proofs.YtclgplkkajfenaaGreatDoor
open Go Go.RowKit Ow
def msN : RT → Int → Int → Smy
  | .leaf s, a, c => if max a 0 ≥ min c (s.size : Int) then zS else if max a 0 = 0 ∧ min c (s.size : Int) = s.size then measS s else measS (s.extract (max a 0).toNat (min c (s.size : Int)).toNat)
  | .knot l r, a, c => if max a 0 ≥ min c ((RT.knot l r).txt.length : Int) then zS else if max a 0 = 0 ∧ min c ((RT.knot l r).txt.length : Int) = (RT.knot l r).txt.length then (RT.knot l r).sm
      else joinL zS [msN l (max a 0) (min c ((RT.knot l r).txt.length : Int)), msN r (max a 0 - l.txt.length) (min c ((RT.knot l r).txt.length : Int) - l.txt.length)]
theorem msN_ok : ∀ (t : RT) (a c : Int), SOk (msN t a c)
  | .leaf s, a, c => by
    rw [msN]; split
    · exact SOk.zero
    · split
      · exact SOk.meas s
      · exact SOk.meas _
  | .knot l r, a, c => by
    rw [msN]; split
    · exact SOk.zero
    · split
      · exact RT.sm_ok _
      · refine joinL_ok _ _ SOk.zero (fun p hp => ?_)
        simp only [List.mem_cons, List.not_mem_nil, or_false] at hp
        rcases hp with rfl | rfl
        · exact msN_ok l _ _
        · exact msN_ok r _ _
theorem nlC_pc_le (l : Bs) (a c : Int) : nlC (pc l a c) ≤ l.length := Nat.le_trans (nlC_le _) (pc_length l a c)
theorem msN_nl : ∀ (t : RT) (a c : Int), t.txt.length ≤ 4611686018427387904 → (msN t a c).nl = nlC (pc t.txt a c)
  | .leaf s, a, c, h => by
    rw [msN, show (RT.leaf s).txt = bl s from rfl]
    split
    · rw [pc_nil (by rw [bl_length]; omega)]; rfl
    · split
      · rename_i h1 h2
        rw [show pc (bl s) a c = bl s by unfold pc; rw [bl_length, h2.1, h2.2]; simp only [Int.toNat_zero, List.drop_zero, Int.toNat_natCast]; exact List.take_of_length_le (by rw [bl_length]; exact Nat.le_refl _)]
        rfl
      · rename_i h1 h2
        rw [← pc_clamp, bl_length, ← pc_str s _ _ (by omega) (by omega)]; rfl
  | .knot l r, a, c, h => by
    have hlen : (RT.knot l r).txt.length = l.txt.length + r.txt.length := by simp [RT.txt]
    rw [msN]
    split
    · rw [pc_nil (by omega)]; rfl
    · split
      · rename_i h1 h2
        rw [RT.sm_nl _ h]
        congr 2
        unfold pc; rw [h2.1, h2.2]; simp
      · rename_i h1 h2
        have e1 := msN_nl l (max a 0) (min c ((RT.knot l r).txt.length : Int)) (by omega)
        have e2 := msN_nl r (max a 0 - l.txt.length) (min c ((RT.knot l r).txt.length : Int) - l.txt.length) (by omega)
        have b1 := nlC_pc_le l.txt (max a 0) (min c ((RT.knot l r).txt.length : Int))
        have b2 := nlC_pc_le r.txt (max a 0 - l.txt.length) (min c ((RT.knot l r).txt.length : Int) - l.txt.length)
        rw [join2_nl (by rw [e1, e2]; omega), e1, e2, ← pc_clamp (RT.knot l r).txt, show (RT.knot l r).txt = l.txt ++ r.txt from rfl, pc_append, nlC_append]
        simp

theorem bd91_z_Rope3  : ∀ w, (Instr.build 91 [].toArray).run Tryz.prog w = .ok (.agg [.int .i64 0, .int .i64 0, .int .i64 0, .int .i64 0, .int .i64 0, .string ⟨#[]⟩, .string ⟨#[]⟩].toArray) w := fun _ => by kernel_rfl
set_option maxRecDepth 20000 in
set_option maxHeartbeats 400000 in
theorem nmeas_leaf (s : ByteArray) (y : Nat) (a c : Int) (w : World) (hG : Good w) (h0 : (RT.leaf s).At w y) (hn : -1152921504606846976 ≤ a ∧ a ≤ 1152921504606846976 ∧ -1152921504606846976 ≤ c ∧ c ≤ 1152921504606846976) (hz : (RT.leaf s).txt.length ≤ 1099511627776)  :
    Calls Tryz.prog 272 #[.pointer (some ⟨y, 0, none⟩), .int .i64 a, .int .i64 c] w fun e w' => e = .returned (smV (msN (RT.leaf s) a c)) ∧ Below w.heap.size w w' := by
  have on : w.heap[y]? = some (.cells (ndC none none 0 (measS s) s).toArray 228 (0, 0)) := h0
  have hmb : (measS s).b = s.size := rfl
  have hz2 : s.size ≤ 1099511627776 := hz
  have hO0 := Own.start hG
  refine enter Tryz.func272 rfl rfl rfl 0 ?_
  refine SC.seq ?_
  refine SC.region ?_
  refine SO.alloc hO0 rfl rfl rfl rfl zv91 [_, _, _, _, _, _, _] rfl ?_
  intro b1 w1 hb1 hO1
  refine SO.nil ?_
  refine SQ.then_normal ?_
  refine SC.seq ?_
  refine SC.drawO mixed hO1 (fun hO2 => ?_)
  refine SA.take (by kernel_rfl) 0 rfl (by kernel_rfl) (by kernel_rfl) rfl rfl (fun _ _ _ h => h) rfl hO2 (fun v hv => .move rfl rfl) ?_
  refine SA.take (by kernel_rfl) 1 rfl (by kernel_rfl) (by kernel_rfl) rfl rfl (fun _ _ _ h => h) rfl hO2 (fun v hv => .maxI rfl rfl rfl) ?_
  refine SA.take (by kernel_rfl) 2 rfl (by kernel_rfl) (by kernel_rfl) rfl rfl (fun _ _ _ h => h) rfl hO2 (fun v hv => .move rfl rfl) ?_
  refine SA.take (by kernel_rfl) 3 rfl (by kernel_rfl) (by kernel_rfl) rfl rfl (fun _ _ _ h => h) rfl hO2 (fun v hv => .move rfl rfl) ?_
  refine SA.take (by kernel_rfl) 4 rfl (by kernel_rfl) (by kernel_rfl) rfl rfl (fun _ _ _ h => h) rfl hO2 (fun v hv => .nilCheck rfl rfl) ?_
  refine SA.take (by kernel_rfl) 5 rfl (by kernel_rfl) (by kernel_rfl) rfl rfl (fun _ _ _ h => h) rfl hO2 (fun v hv => .fieldAddr rfl rfl fa228_3) ?_
  refine SA.take (by kernel_rfl) 6 rfl (by kernel_rfl) (by kernel_rfl) rfl rfl (fun _ _ _ h => h) rfl hO2 (fun v hv => .fieldAddr rfl rfl fa91_0) ?_
  refine SA.take (by kernel_rfl) 7 rfl (by kernel_rfl) (by kernel_rfl) rfl rfl (fun _ _ _ h => h) rfl hO2 (fun v hv => .load rfl rfl ag3 (cell_of' (hv.heapO ⟨hb1, trivial⟩ on) rfl)) ?_
  refine SA.take (by kernel_rfl) 8 rfl (by kernel_rfl) (by kernel_rfl) rfl rfl (fun _ _ _ h => h) rfl hO2 (fun v hv => .minI rfl rfl rfl) ?_
  refine SA.take (by kernel_rfl) 9 rfl (by kernel_rfl) (by kernel_rfl) rfl rfl (fun _ _ _ h => h) rfl hO2 (fun v hv => .assign rfl rfl) ?_
  refine SA.take (by kernel_rfl) 10 rfl (by kernel_rfl) (by kernel_rfl) rfl rfl (fun _ _ _ h => h) rfl hO2 (fun v hv => .assign rfl rfl) ?_
  refine SA.done (by kernel_rfl) ?_
  refine SQ.then_normal ?_
  refine SC.seq ?_
  refine SC.block ?_
  refine SC.seq ?_
  refine SC.region ?_
  refine SO.val rfl rfl rfl rfl (.move rfl rfl) ?_
  refine SO.val rfl rfl rfl rfl (.move rfl rfl) ?_
  refine SO.val rfl rfl rfl rfl (.geq rfl rfl rfl) ?_
  refine SO.val rfl rfl rfl rfl (.assign rfl rfl) ?_
  refine SO.nil ?_
  refine SQ.then_normal ?_
  refine SC.dec rfl (fun c3 => ?_) (fun c3 => ?_)
  ·
    refine SC.seq ?_
    refine SC.region ?_
    refine SO.val rfl rfl rfl rfl (.build rfl rfl (bd91_z_Rope3)) ?_
    refine SO.store hO2 (i := 0) rfl rfl rfl rfl rfl rfl sz91 rfl rfl [(_, .cells [_, _, _, _, _, _, _].toArray _ _)] rfl ?_
    intro w4 hO4
    refine SO.nil ?_
    refine SQ.then_normal ?_
    refine SC.ret ?_
    refine SQ.block_ret ?_
    refine SQ.then_ret ?_
    refine SQ.out (.inl rfl) (resC [_, _, _, _, _, _, _] rfl rfl ag91 sz91 (hO4.at (i := 0) rfl) rfl rfl) ?_
    refine ⟨?_, hO4.toBelow ⟨hb1, trivial⟩⟩
    rw [msN]
    first | (rw [if_pos (by omega)]; done) | (rw [if_pos (by omega)]; rfl) | (rw [if_neg (by omega), if_pos (by omega)]; done) | (rw [if_neg (by omega), if_neg (by omega)]; rfl)
  ·
    refine SC.seq ?_
    refine SC.region ?_
    refine SO.val rfl rfl rfl rfl (.move rfl rfl) ?_
    refine SO.val rfl rfl rfl rfl (.eql rfl rfl rfl) ?_
    refine SO.val rfl rfl rfl rfl (.move rfl rfl) ?_
    refine SO.dec 25 rfl (fun g6 => ?_) (fun g6 => ?_)
    ·
      refine SO.val rfl rfl rfl rfl (.move rfl rfl) ?_
      refine SO.val rfl rfl rfl rfl (.move rfl rfl) ?_
      refine SO.val rfl rfl rfl rfl (.nilCheck rfl rfl) ?_
      refine SO.val rfl rfl rfl rfl (.fieldAddr rfl rfl fa228_3) ?_
      refine SO.val rfl rfl rfl rfl (.fieldAddr rfl rfl fa91_0) ?_
      refine SO.val rfl rfl rfl rfl (.load rfl rfl ag3 (cell_of' (hO2.heapO ⟨hb1, trivial⟩ on) rfl)) ?_
      refine SO.val rfl rfl rfl rfl (.eql rfl rfl rfl) ?_
      refine SO.val rfl rfl rfl rfl (.pickT rfl rfl rfl) ?_
      refine SO.val rfl rfl rfl rfl (.assign rfl rfl) ?_
      refine SO.nil ?_
      refine SQ.then_normal ?_
      refine SC.dec rfl (fun c7 => ?_) (fun c7 => ?_)
      ·
        refine SC.seq ?_
        refine SC.region ?_
        refine SO.val rfl rfl rfl rfl (.move rfl rfl) ?_
        refine SO.val rfl rfl rfl rfl (.nilCheck rfl rfl) ?_
        refine SO.val rfl rfl rfl rfl (.fieldAddr rfl rfl fa228_3) ?_
        refine SO.val rfl rfl rfl rfl (.loadB [_, _, _, _, _, _, _] rfl rfl ag91 sz91 (hO2.heapO ⟨hb1, trivial⟩ on) rfl rfl) ?_
        refine SO.store hO2 (i := 0) rfl rfl rfl rfl rfl rfl sz91 rfl rfl [(_, .cells [_, _, _, _, _, _, _].toArray _ _)] rfl ?_
        intro w8 hO8
        refine SO.nil ?_
        refine SQ.then_normal ?_
        refine SC.ret ?_
        refine SQ.block_ret ?_
        refine SQ.then_ret ?_
        refine SQ.out (.inl rfl) (resC [_, _, _, _, _, _, _] rfl rfl ag91 sz91 (hO8.at (i := 0) rfl) rfl rfl) ?_
        refine ⟨?_, hO8.toBelow ⟨hb1, trivial⟩⟩
        rw [msN]
        first | (rw [if_pos (by omega)]; done) | (rw [if_pos (by omega)]; rfl) | (rw [if_neg (by omega), if_pos (by omega)]; done) | (rw [if_neg (by omega), if_neg (by omega)]; rfl)
      ·
        refine SC.seq ?_
        refine SC.region ?_
        refine SO.val rfl rfl rfl rfl (.move rfl rfl) ?_
        refine SO.val rfl rfl rfl rfl (.nilCheck rfl rfl) ?_
        refine SO.val rfl rfl rfl rfl (.fieldAddr rfl rfl fa228_0) ?_
        refine SO.val rfl rfl rfl rfl (.load rfl rfl ag208 (cell_of' (hO2.heapO ⟨hb1, trivial⟩ on) rfl)) ?_
        refine SO.val rfl rfl rfl rfl (.ptrEq (b := true) rfl rfl rfl Tryz.underlying208 rfl) ?_
        refine SO.val rfl rfl rfl rfl (.assign rfl rfl) ?_
        refine SO.nil ?_
        refine SQ.then_normal ?_
        refine SC.yes rfl ?_
        refine SC.seq ?_
        refine SC.region ?_
        refine SO.val rfl rfl rfl rfl (.move rfl rfl) ?_
        refine SO.val rfl rfl rfl rfl (.nilCheck rfl rfl) ?_
        refine SO.val rfl rfl rfl rfl (.fieldAddr rfl rfl fa228_4) ?_
        refine SO.val rfl rfl rfl rfl (.load rfl rfl ag9 (cell_of' (hO2.heapO ⟨hb1, trivial⟩ on) rfl)) ?_
        refine SO.val rfl rfl rfl rfl (.move rfl rfl) ?_
        refine SO.val rfl rfl rfl rfl (.move rfl rfl) ?_
        refine SO.val rfl rfl rfl rfl (.sliceLH rfl rfl rfl rfl Tryz.underlying9 (by omega)) ?_
        refine SO.call rfl rfl rfl rfl (.callF rfl rfl en211) (measure_any _ _ (hO2.good hG) (by simp only [ByteArray.size_extract]; omega)) ?_
        rintro _ w10 ⟨rfl, hb10⟩
        have hO10 := hO2.below hb10
        refine ⟨_, rfl, ?_⟩
        refine SO.store hO10 (i := 0) rfl rfl rfl rfl rfl rfl sz91 rfl rfl [(_, .cells [_, _, _, _, _, _, _].toArray _ _)] rfl ?_
        intro w11 hO11
        refine SO.nil ?_
        refine SQ.then_normal ?_
        refine SC.ret ?_
        refine SQ.block_ret ?_
        refine SQ.then_ret ?_
        refine SQ.out (.inl rfl) (resC [_, _, _, _, _, _, _] rfl rfl ag91 sz91 (hO11.at (i := 0) rfl) rfl rfl) ?_
        refine ⟨?_, hO11.toBelow ⟨hb1, trivial⟩⟩
        rw [msN]
        first | (rw [if_pos (by omega)]; done) | (rw [if_pos (by omega)]; rfl) | (rw [if_neg (by omega), if_pos (by omega)]; done) | (rw [if_neg (by omega), if_neg (by omega)]; rfl)
    ·
      refine SO.pass rfl rfl rfl ?_
      refine SO.pass rfl rfl rfl ?_
      refine SO.pass rfl rfl rfl ?_
      refine SO.pass rfl rfl rfl ?_
      refine SO.pass rfl rfl rfl ?_
      refine SO.pass rfl rfl rfl ?_
      refine SO.pass rfl rfl rfl ?_
      refine SO.val rfl rfl rfl rfl (.pickF rfl rfl rfl) ?_
      refine SO.val rfl rfl rfl rfl (.assign rfl rfl) ?_
      refine SO.nil ?_
      refine SQ.then_normal ?_
      refine SC.no rfl ?_
      refine SC.seq ?_
      refine SC.region ?_
      refine SO.val rfl rfl rfl rfl (.move rfl rfl) ?_
      refine SO.val rfl rfl rfl rfl (.nilCheck rfl rfl) ?_
      refine SO.val rfl rfl rfl rfl (.fieldAddr rfl rfl fa228_0) ?_
      refine SO.val rfl rfl rfl rfl (.load rfl rfl ag208 (cell_of' (hO2.heapO ⟨hb1, trivial⟩ on) rfl)) ?_
      refine SO.val rfl rfl rfl rfl (.ptrEq (b := true) rfl rfl rfl Tryz.underlying208 rfl) ?_
      refine SO.val rfl rfl rfl rfl (.assign rfl rfl) ?_
      refine SO.nil ?_
      refine SQ.then_normal ?_
      refine SC.yes rfl ?_
      refine SC.seq ?_
      refine SC.region ?_
      refine SO.val rfl rfl rfl rfl (.move rfl rfl) ?_
      refine SO.val rfl rfl rfl rfl (.nilCheck rfl rfl) ?_
      refine SO.val rfl rfl rfl rfl (.fieldAddr rfl rfl fa228_4) ?_
      refine SO.val rfl rfl rfl rfl (.load rfl rfl ag9 (cell_of' (hO2.heapO ⟨hb1, trivial⟩ on) rfl)) ?_
      refine SO.val rfl rfl rfl rfl (.move rfl rfl) ?_
      refine SO.val rfl rfl rfl rfl (.move rfl rfl) ?_
      refine SO.val rfl rfl rfl rfl (.sliceLH rfl rfl rfl rfl Tryz.underlying9 (by omega)) ?_
      refine SO.call rfl rfl rfl rfl (.callF rfl rfl en211) (measure_any _ _ (hO2.good hG) (by simp only [ByteArray.size_extract]; omega)) ?_
      rintro _ w13 ⟨rfl, hb13⟩
      have hO13 := hO2.below hb13
      refine ⟨_, rfl, ?_⟩
      refine SO.store hO13 (i := 0) rfl rfl rfl rfl rfl rfl sz91 rfl rfl [(_, .cells [_, _, _, _, _, _, _].toArray _ _)] rfl ?_
      intro w14 hO14
      refine SO.nil ?_
      refine SQ.then_normal ?_
      refine SC.ret ?_
      refine SQ.block_ret ?_
      refine SQ.then_ret ?_
      refine SQ.out (.inl rfl) (resC [_, _, _, _, _, _, _] rfl rfl ag91 sz91 (hO14.at (i := 0) rfl) rfl rfl) ?_
      refine ⟨?_, hO14.toBelow ⟨hb1, trivial⟩⟩
      rw [msN]
      first | (rw [if_pos (by omega)]; done) | (rw [if_pos (by omega)]; rfl) | (rw [if_neg (by omega), if_pos (by omega)]; done) | (rw [if_neg (by omega), if_neg (by omega)]; rfl)

theorem bs246_2_0_1_Rope3 (x0 : Int) (x1 : Int) (x2 : Int) (x3 : Int) (x4 : Int) (x5 : ByteArray) (x6 : ByteArray) (x7 : Int) (x8 : Int) (x9 : Int) (x10 : Int) (x11 : Int) (x12 : ByteArray) (x13 : ByteArray) : ∀ w, (Instr.buildSlice 246 2 [(0, .agg [.int .i64 x0, .int .i64 x1, .int .i64 x2, .int .i64 x3, .int .i64 x4, .string x5, .string x6].toArray), (1, .agg [.int .i64 x7, .int .i64 x8, .int .i64 x9, .int .i64 x10, .int .i64 x11, .string x12, .string x13].toArray)].toArray).run Tryz.prog w = .ok (.slice (some ⟨w.heap.size, 0, none⟩) 2 2) (w.alloc (.cells [.int .i64 x0, .int .i64 x1, .int .i64 x2, .int .i64 x3, .int .i64 x4, .string x5, .string x6, .int .i64 x7, .int .i64 x8, .int .i64 x9, .int .i64 x10, .int .i64 x11, .string x12, .string x13].toArray 91)) := fun _ => by kernel_rfl
set_option maxRecDepth 20000 in
set_option maxHeartbeats 400000 in
theorem nmeas_knot (l r : RT) (y : Nat) (a c : Int) (w : World) (hG : Good w) (h0 : (RT.knot l r).At w y) (hn : -1152921504606846976 ≤ a ∧ a ≤ 1152921504606846976 ∧ -1152921504606846976 ≤ c ∧ c ≤ 1152921504606846976) (hz : (RT.knot l r).txt.length ≤ 1099511627776) (ihl : ∀ (y : Nat) (a c : Int) (w : World), Good w → l.At w y → (-1152921504606846976 ≤ a ∧ a ≤ 1152921504606846976 ∧ -1152921504606846976 ≤ c ∧ c ≤ 1152921504606846976) → Calls Tryz.prog 272 #[.pointer (some ⟨y, 0, none⟩), .int .i64 a, .int .i64 c] w fun e w' => e = .returned (smV (msN l a c)) ∧ Below w.heap.size w w') (ihr : ∀ (y : Nat) (a c : Int) (w : World), Good w → r.At w y → (-1152921504606846976 ≤ a ∧ a ≤ 1152921504606846976 ∧ -1152921504606846976 ≤ c ∧ c ≤ 1152921504606846976) → Calls Tryz.prog 272 #[.pointer (some ⟨y, 0, none⟩), .int .i64 a, .int .i64 c] w fun e w' => e = .returned (smV (msN r a c)) ∧ Below w.heap.size w w') :
    Calls Tryz.prog 272 #[.pointer (some ⟨y, 0, none⟩), .int .i64 a, .int .i64 c] w fun e w' => e = .returned (smV (msN (RT.knot l r) a c)) ∧ Below w.heap.size w w' := by
  obtain ⟨xl, xr, on, hl, hr⟩ := h0
  obtain ⟨pl, ql, sl1, onl⟩ := hl.obj
  have hsb := (RT.knot l r).sm_b (by omega)
  have htt : (RT.knot l r).txt.length = l.txt.length + r.txt.length := by simp [RT.txt]
  have hsl := l.sm_b (by omega)
  have hjr : ∀ p q : Smy, rows [p, q] = smC p ++ smC q := fun p q => by simp [rows]
  have hO0 := Own.start hG
  refine enter Tryz.func272 rfl rfl rfl 0 ?_
  refine SC.seq ?_
  refine SC.region ?_
  refine SO.alloc hO0 rfl rfl rfl rfl zv91 [_, _, _, _, _, _, _] rfl ?_
  intro b1 w1 hb1 hO1
  refine SO.nil ?_
  refine SQ.then_normal ?_
  refine SC.seq ?_
  refine SC.drawO mixed hO1 (fun hO2 => ?_)
  refine SA.take (by kernel_rfl) 0 rfl (by kernel_rfl) (by kernel_rfl) rfl rfl (fun _ _ _ h => h) rfl hO2 (fun v hv => .move rfl rfl) ?_
  refine SA.take (by kernel_rfl) 1 rfl (by kernel_rfl) (by kernel_rfl) rfl rfl (fun _ _ _ h => h) rfl hO2 (fun v hv => .maxI rfl rfl rfl) ?_
  refine SA.take (by kernel_rfl) 2 rfl (by kernel_rfl) (by kernel_rfl) rfl rfl (fun _ _ _ h => h) rfl hO2 (fun v hv => .move rfl rfl) ?_
  refine SA.take (by kernel_rfl) 3 rfl (by kernel_rfl) (by kernel_rfl) rfl rfl (fun _ _ _ h => h) rfl hO2 (fun v hv => .move rfl rfl) ?_
  refine SA.take (by kernel_rfl) 4 rfl (by kernel_rfl) (by kernel_rfl) rfl rfl (fun _ _ _ h => h) rfl hO2 (fun v hv => .nilCheck rfl rfl) ?_
  refine SA.take (by kernel_rfl) 5 rfl (by kernel_rfl) (by kernel_rfl) rfl rfl (fun _ _ _ h => h) rfl hO2 (fun v hv => .fieldAddr rfl rfl fa228_3) ?_
  refine SA.take (by kernel_rfl) 6 rfl (by kernel_rfl) (by kernel_rfl) rfl rfl (fun _ _ _ h => h) rfl hO2 (fun v hv => .fieldAddr rfl rfl fa91_0) ?_
  first | refine SA.take (by kernel_rfl) 7 rfl (by kernel_rfl) (by kernel_rfl) rfl rfl (fun _ _ _ h => h) rfl hO2 (fun v hv => .load rfl rfl ag3 (cell_of' (hv.heapO ⟨hb1, trivial⟩ on) rfl)) ?_ | refine SA.take (by kernel_rfl) 7 rfl (by kernel_rfl) (by kernel_rfl) rfl rfl (fun _ _ _ h => h) rfl hO2 (fun v hv => .load rfl rfl ag3 (cell_of' (hv.heapO ⟨hb1, trivial⟩ onl) rfl)) ?_
  refine SA.take (by kernel_rfl) 8 rfl (by kernel_rfl) (by kernel_rfl) rfl rfl (fun _ _ _ h => h) rfl hO2 (fun v hv => .minI rfl rfl rfl) ?_
  refine SA.take (by kernel_rfl) 9 rfl (by kernel_rfl) (by kernel_rfl) rfl rfl (fun _ _ _ h => h) rfl hO2 (fun v hv => .assign rfl rfl) ?_
  refine SA.take (by kernel_rfl) 10 rfl (by kernel_rfl) (by kernel_rfl) rfl rfl (fun _ _ _ h => h) rfl hO2 (fun v hv => .assign rfl rfl) ?_
  refine SA.done (by kernel_rfl) ?_
  refine SQ.then_normal ?_
  refine SC.seq ?_
  refine SC.block ?_
  refine SC.seq ?_
  refine SC.region ?_
  refine SO.val rfl rfl rfl rfl (.move rfl rfl) ?_
  refine SO.val rfl rfl rfl rfl (.move rfl rfl) ?_
  refine SO.val rfl rfl rfl rfl (.geq rfl rfl rfl) ?_
  refine SO.val rfl rfl rfl rfl (.assign rfl rfl) ?_
  refine SO.nil ?_
  refine SQ.then_normal ?_
  refine SC.dec rfl (fun c3 => ?_) (fun c3 => ?_)
  ·
    refine SC.seq ?_
    refine SC.region ?_
    refine SO.val rfl rfl rfl rfl (.build rfl rfl (bd91_z_Rope3)) ?_
    refine SO.store hO2 (i := 0) rfl rfl rfl rfl rfl rfl sz91 rfl rfl [(_, .cells [_, _, _, _, _, _, _].toArray _ _)] rfl ?_
    intro w4 hO4
    refine SO.nil ?_
    refine SQ.then_normal ?_
    refine SC.ret ?_
    refine SQ.block_ret ?_
    refine SQ.then_ret ?_
    refine SQ.out (.inl rfl) (resC [_, _, _, _, _, _, _] rfl rfl ag91 sz91 (hO4.at (i := 0) rfl) rfl rfl) ?_
    refine ⟨?_, hO4.toBelow ⟨hb1, trivial⟩⟩
    rw [msN]
    first | (rw [if_pos (by omega)]; done) | (rw [if_pos (by omega)]; rfl) | (rw [if_neg (by omega), if_pos (by omega)]; done) | (rw [if_neg (by omega), if_neg (by omega), hsb, hsl]; done)
  ·
    refine SC.seq ?_
    refine SC.region ?_
    refine SO.val rfl rfl rfl rfl (.move rfl rfl) ?_
    refine SO.val rfl rfl rfl rfl (.eql rfl rfl rfl) ?_
    refine SO.val rfl rfl rfl rfl (.move rfl rfl) ?_
    refine SO.dec 25 rfl (fun g6 => ?_) (fun g6 => ?_)
    ·
      refine SO.val rfl rfl rfl rfl (.move rfl rfl) ?_
      refine SO.val rfl rfl rfl rfl (.move rfl rfl) ?_
      refine SO.val rfl rfl rfl rfl (.nilCheck rfl rfl) ?_
      refine SO.val rfl rfl rfl rfl (.fieldAddr rfl rfl fa228_3) ?_
      refine SO.val rfl rfl rfl rfl (.fieldAddr rfl rfl fa91_0) ?_
      first | refine SO.val rfl rfl rfl rfl (.load rfl rfl ag3 (cell_of' (hO2.heapO ⟨hb1, trivial⟩ on) rfl)) ?_ | refine SO.val rfl rfl rfl rfl (.load rfl rfl ag3 (cell_of' (hO2.heapO ⟨hb1, trivial⟩ onl) rfl)) ?_
      refine SO.val rfl rfl rfl rfl (.eql rfl rfl rfl) ?_
      refine SO.val rfl rfl rfl rfl (.pickT rfl rfl rfl) ?_
      refine SO.val rfl rfl rfl rfl (.assign rfl rfl) ?_
      refine SO.nil ?_
      refine SQ.then_normal ?_
      refine SC.dec rfl (fun c7 => ?_) (fun c7 => ?_)
      ·
        refine SC.seq ?_
        refine SC.region ?_
        refine SO.val rfl rfl rfl rfl (.move rfl rfl) ?_
        refine SO.val rfl rfl rfl rfl (.nilCheck rfl rfl) ?_
        refine SO.val rfl rfl rfl rfl (.fieldAddr rfl rfl fa228_3) ?_
        first | refine SO.val rfl rfl rfl rfl (.loadB [_, _, _, _, _, _, _] rfl rfl ag91 sz91 (hO2.heapO ⟨hb1, trivial⟩ on) rfl rfl) ?_ | refine SO.val rfl rfl rfl rfl (.loadB [_, _, _, _, _, _, _] rfl rfl ag91 sz91 (hO2.heapO ⟨hb1, trivial⟩ onl) rfl rfl) ?_
        refine SO.store hO2 (i := 0) rfl rfl rfl rfl rfl rfl sz91 rfl rfl [(_, .cells [_, _, _, _, _, _, _].toArray _ _)] rfl ?_
        intro w8 hO8
        refine SO.nil ?_
        refine SQ.then_normal ?_
        refine SC.ret ?_
        refine SQ.block_ret ?_
        refine SQ.then_ret ?_
        refine SQ.out (.inl rfl) (resC [_, _, _, _, _, _, _] rfl rfl ag91 sz91 (hO8.at (i := 0) rfl) rfl rfl) ?_
        refine ⟨?_, hO8.toBelow ⟨hb1, trivial⟩⟩
        rw [msN]
        first | (rw [if_pos (by omega)]; done) | (rw [if_pos (by omega)]; rfl) | (rw [if_neg (by omega), if_pos (by omega)]; done) | (rw [if_neg (by omega), if_neg (by omega), hsb, hsl]; done)
      ·
        refine SC.seq ?_
        refine SC.region ?_
        refine SO.val rfl rfl rfl rfl (.move rfl rfl) ?_
        refine SO.val rfl rfl rfl rfl (.nilCheck rfl rfl) ?_
        refine SO.val rfl rfl rfl rfl (.fieldAddr rfl rfl fa228_0) ?_
        first | refine SO.val rfl rfl rfl rfl (.load rfl rfl ag208 (cell_of' (hO2.heapO ⟨hb1, trivial⟩ on) rfl)) ?_ | refine SO.val rfl rfl rfl rfl (.load rfl rfl ag208 (cell_of' (hO2.heapO ⟨hb1, trivial⟩ onl) rfl)) ?_
        refine SO.val rfl rfl rfl rfl (.ptrEq (b := false) rfl rfl rfl Tryz.underlying208 rfl) ?_
        refine SO.val rfl rfl rfl rfl (.assign rfl rfl) ?_
        refine SO.nil ?_
        refine SQ.then_normal ?_
        refine SC.no rfl ?_
        refine SC.skip ?_
        refine SQ.block_normal ?_
        refine SQ.then_normal ?_
        refine SC.seq ?_
        refine SC.region ?_
        refine SO.val rfl rfl rfl rfl (.move rfl rfl) ?_
        refine SO.val rfl rfl rfl rfl (.nilCheck rfl rfl) ?_
        refine SO.val rfl rfl rfl rfl (.fieldAddr rfl rfl fa228_0) ?_
        first | refine SO.val rfl rfl rfl rfl (.load rfl rfl ag208 (cell_of' (hO2.heapO ⟨hb1, trivial⟩ on) rfl)) ?_ | refine SO.val rfl rfl rfl rfl (.load rfl rfl ag208 (cell_of' (hO2.heapO ⟨hb1, trivial⟩ onl) rfl)) ?_
        refine SO.val rfl rfl rfl rfl (.nilCheck rfl rfl) ?_
        refine SO.val rfl rfl rfl rfl (.fieldAddr rfl rfl fa228_3) ?_
        refine SO.val rfl rfl rfl rfl (.fieldAddr rfl rfl fa91_0) ?_
        first | refine SO.val rfl rfl rfl rfl (.load rfl rfl ag3 (cell_of' (hO2.heapO ⟨hb1, trivial⟩ on) rfl)) ?_ | refine SO.val rfl rfl rfl rfl (.load rfl rfl ag3 (cell_of' (hO2.heapO ⟨hb1, trivial⟩ onl) rfl)) ?_
        refine SO.val rfl rfl rfl rfl (.assign rfl rfl) ?_
        refine SO.nil ?_
        refine SQ.then_normal ?_
        refine SC.seq ?_
        refine SC.draw mixed (fun v => Below w.heap.size w v) ?_
        have hO10 := Own.drew hO2
        refine SA.take (by kernel_rfl) 0 rfl (by kernel_rfl) (by kernel_rfl) rfl rfl (fun _ _ _ h => h) rfl (hO10.toBelow ⟨hb1, trivial⟩) (fun v hv => .move rfl rfl) ?_
        refine SA.take (by kernel_rfl) 1 rfl (by kernel_rfl) (by kernel_rfl) rfl rfl (fun _ _ _ h => h) rfl (hO10.toBelow ⟨hb1, trivial⟩) (fun v hv => .nilCheck rfl rfl) ?_
        refine SA.take (by kernel_rfl) 2 rfl (by kernel_rfl) (by kernel_rfl) rfl rfl (fun _ _ _ h => h) rfl (hO10.toBelow ⟨hb1, trivial⟩) (fun v hv => .fieldAddr rfl rfl fa228_0) ?_
        first | refine SA.take (by kernel_rfl) 3 rfl (by kernel_rfl) (by kernel_rfl) rfl rfl (fun _ _ _ h => h) rfl (hO10.toBelow ⟨hb1, trivial⟩) (fun v hv => .load rfl rfl ag208 (cell_of' ((hv.block y (lt_of_heap on)).trans on) rfl)) ?_ | refine SA.take (by kernel_rfl) 3 rfl (by kernel_rfl) (by kernel_rfl) rfl rfl (fun _ _ _ h => h) rfl (hO10.toBelow ⟨hb1, trivial⟩) (fun v hv => .load rfl rfl ag208 (cell_of' ((hv.block xl (lt_of_heap onl)).trans onl) rfl)) ?_
        refine SA.take (by kernel_rfl) 4 rfl (by kernel_rfl) (by kernel_rfl) rfl rfl (fun _ _ _ h => h) rfl (hO10.toBelow ⟨hb1, trivial⟩) (fun v hv => .move rfl rfl) ?_
        refine SA.take (by kernel_rfl) 5 rfl (by kernel_rfl) (by kernel_rfl) rfl rfl (fun _ _ _ h => h) rfl (hO10.toBelow ⟨hb1, trivial⟩) (fun v hv => .move rfl rfl) ?_
        refine SA.take (by kernel_rfl) 7 rfl (by kernel_rfl) (by kernel_rfl) rfl rfl (fun _ _ _ h => h) rfl (hO10.toBelow ⟨hb1, trivial⟩) (fun v hv => .move rfl rfl) ?_
        refine SA.take (by kernel_rfl) 8 rfl (by kernel_rfl) (by kernel_rfl) rfl rfl (fun _ _ _ h => h) rfl (hO10.toBelow ⟨hb1, trivial⟩) (fun v hv => .nilCheck rfl rfl) ?_
        refine SA.take (by kernel_rfl) 9 rfl (by kernel_rfl) (by kernel_rfl) rfl rfl (fun _ _ _ h => h) rfl (hO10.toBelow ⟨hb1, trivial⟩) (fun v hv => .fieldAddr rfl rfl fa228_1) ?_
        first | refine SA.take (by kernel_rfl) 10 rfl (by kernel_rfl) (by kernel_rfl) rfl rfl (fun _ _ _ h => h) rfl (hO10.toBelow ⟨hb1, trivial⟩) (fun v hv => .load rfl rfl ag208 (cell_of' ((hv.block y (lt_of_heap on)).trans on) rfl)) ?_ | refine SA.take (by kernel_rfl) 10 rfl (by kernel_rfl) (by kernel_rfl) rfl rfl (fun _ _ _ h => h) rfl (hO10.toBelow ⟨hb1, trivial⟩) (fun v hv => .load rfl rfl ag208 (cell_of' ((hv.block xl (lt_of_heap onl)).trans onl) rfl)) ?_
        refine SA.take (by kernel_rfl) 11 rfl (by kernel_rfl) (by kernel_rfl) rfl rfl (fun _ _ _ h => h) rfl (hO10.toBelow ⟨hb1, trivial⟩) (fun v hv => .move rfl rfl) ?_
        refine SA.take (by kernel_rfl) 12 rfl (by kernel_rfl) (by kernel_rfl) rfl rfl (fun _ _ _ h => h) rfl (hO10.toBelow ⟨hb1, trivial⟩) (fun v hv => .move rfl rfl) ?_
        refine SA.take (by kernel_rfl) 13 rfl (by kernel_rfl) (by kernel_rfl) rfl rfl (fun _ _ _ h => h) rfl (hO10.toBelow ⟨hb1, trivial⟩) (fun v hv => .sub rfl rfl rfl (by omega)) ?_
        refine SA.take (by kernel_rfl) 14 rfl (by kernel_rfl) (by kernel_rfl) rfl rfl (fun _ _ _ h => h) rfl (hO10.toBelow ⟨hb1, trivial⟩) (fun v hv => .move rfl rfl) ?_
        refine SA.take (by kernel_rfl) 15 rfl (by kernel_rfl) (by kernel_rfl) rfl rfl (fun _ _ _ h => h) rfl (hO10.toBelow ⟨hb1, trivial⟩) (fun v hv => .move rfl rfl) ?_
        refine SA.take (by kernel_rfl) 16 rfl (by kernel_rfl) (by kernel_rfl) rfl rfl (fun _ _ _ h => h) rfl (hO10.toBelow ⟨hb1, trivial⟩) (fun v hv => .sub rfl rfl rfl (by omega)) ?_
        refine SA.one 6 (by kernel_rfl) ?_
        refine SB.call rfl rfl rfl rfl (.callF rfl rfl en272) (ihl _ _ _ _ (hO10.good hG) (hl.below (hO10.toBelow ⟨hb1, trivial⟩)) (by omega)) ?_
        rintro _ w11 ⟨rfl, hb11⟩
        have hO11 := hO10.below hb11
        refine ⟨_, rfl, (hO11.toBelow ⟨hb1, trivial⟩), ?_⟩
        refine SA.one 17 (by kernel_rfl) ?_
        refine SB.call rfl rfl rfl rfl (.callF rfl rfl en272) (ihr _ _ _ _ (hO11.good hG) (hr.below (hO11.toBelow ⟨hb1, trivial⟩)) (by omega)) ?_
        rintro _ w12 ⟨rfl, hb12⟩
        have hO12 := hO11.below hb12
        refine ⟨_, rfl, (hO12.toBelow ⟨hb1, trivial⟩), ?_⟩
        refine SA.one 18 (by kernel_rfl) ?_
        refine SB.buildSlice hO12 rfl rfl rfl rfl rfl rfl (bs246_2_0_1_Rope3 _ _ _ _ _ _ _ _ _ _ _ _ _ _) ?_
        intro b13 w13 hb13 hO13
        refine ⟨(hO13.toBelow ⟨hb13, hb1, trivial⟩), ?_⟩
        refine SA.one 19 (by kernel_rfl) ?_
        refine SB.call rfl rfl rfl rfl (.callF rfl rfl en216) (join_any [msN l (max a 0) (min c (RT.knot l r).sm.b), msN r (max a 0 - l.sm.b) (min c (RT.knot l r).sm.b - l.sm.b)] _ _ (hO13.good hG) (by simp) (fun p hp => by simp only [List.mem_cons, List.not_mem_nil, or_false] at hp; rcases hp with rfl | rfl; exact msN_ok l _ _; exact msN_ok r _ _) (by rw [hjr]; exact hO13.at (i := 0) rfl)) ?_
        rintro _ w14 ⟨rfl, hb14⟩
        have hO14 := hO13.below hb14
        refine ⟨_, rfl, (hO14.toBelow ⟨hb13, hb1, trivial⟩), ?_⟩
        refine SA.one 20 (by kernel_rfl) ?_
        refine SB.store hO14 (j := 1) rfl rfl rfl rfl rfl rfl rfl sz91 rfl rfl [_, (_, .cells [_, _, _, _, _, _, _].toArray _ _)] rfl ?_
        intro w15 hO15
        refine ⟨(hO15.toBelow ⟨hb13, hb1, trivial⟩), ?_⟩
        refine SA.done (by kernel_rfl) ?_
        refine SQ.then_normal ?_
        refine SC.ret ?_
        refine SQ.out (.inl rfl) (resC [_, _, _, _, _, _, _] rfl rfl ag91 sz91 (hO15.at (i := 1) rfl) rfl rfl) ?_
        refine ⟨?_, hO15.toBelow ⟨hb13, hb1, trivial⟩⟩
        rw [msN]
        first | (rw [if_pos (by omega)]; done) | (rw [if_pos (by omega)]; rfl) | (rw [if_neg (by omega), if_pos (by omega)]; done) | (rw [if_neg (by omega), if_neg (by omega), hsb, hsl]; done)
    ·
      refine SO.pass rfl rfl rfl ?_
      refine SO.pass rfl rfl rfl ?_
      refine SO.pass rfl rfl rfl ?_
      refine SO.pass rfl rfl rfl ?_
      refine SO.pass rfl rfl rfl ?_
      refine SO.pass rfl rfl rfl ?_
      refine SO.pass rfl rfl rfl ?_
      refine SO.val rfl rfl rfl rfl (.pickF rfl rfl rfl) ?_
      refine SO.val rfl rfl rfl rfl (.assign rfl rfl) ?_
      refine SO.nil ?_
      refine SQ.then_normal ?_
      refine SC.no rfl ?_
      refine SC.seq ?_
      refine SC.region ?_
      refine SO.val rfl rfl rfl rfl (.move rfl rfl) ?_
      refine SO.val rfl rfl rfl rfl (.nilCheck rfl rfl) ?_
      refine SO.val rfl rfl rfl rfl (.fieldAddr rfl rfl fa228_0) ?_
      first | refine SO.val rfl rfl rfl rfl (.load rfl rfl ag208 (cell_of' (hO2.heapO ⟨hb1, trivial⟩ on) rfl)) ?_ | refine SO.val rfl rfl rfl rfl (.load rfl rfl ag208 (cell_of' (hO2.heapO ⟨hb1, trivial⟩ onl) rfl)) ?_
      refine SO.val rfl rfl rfl rfl (.ptrEq (b := false) rfl rfl rfl Tryz.underlying208 rfl) ?_
      refine SO.val rfl rfl rfl rfl (.assign rfl rfl) ?_
      refine SO.nil ?_
      refine SQ.then_normal ?_
      refine SC.no rfl ?_
      refine SC.skip ?_
      refine SQ.block_normal ?_
      refine SQ.then_normal ?_
      refine SC.seq ?_
      refine SC.region ?_
      refine SO.val rfl rfl rfl rfl (.move rfl rfl) ?_
      refine SO.val rfl rfl rfl rfl (.nilCheck rfl rfl) ?_
      refine SO.val rfl rfl rfl rfl (.fieldAddr rfl rfl fa228_0) ?_
      first | refine SO.val rfl rfl rfl rfl (.load rfl rfl ag208 (cell_of' (hO2.heapO ⟨hb1, trivial⟩ on) rfl)) ?_ | refine SO.val rfl rfl rfl rfl (.load rfl rfl ag208 (cell_of' (hO2.heapO ⟨hb1, trivial⟩ onl) rfl)) ?_
      refine SO.val rfl rfl rfl rfl (.nilCheck rfl rfl) ?_
      refine SO.val rfl rfl rfl rfl (.fieldAddr rfl rfl fa228_3) ?_
      refine SO.val rfl rfl rfl rfl (.fieldAddr rfl rfl fa91_0) ?_
      first | refine SO.val rfl rfl rfl rfl (.load rfl rfl ag3 (cell_of' (hO2.heapO ⟨hb1, trivial⟩ on) rfl)) ?_ | refine SO.val rfl rfl rfl rfl (.load rfl rfl ag3 (cell_of' (hO2.heapO ⟨hb1, trivial⟩ onl) rfl)) ?_
      refine SO.val rfl rfl rfl rfl (.assign rfl rfl) ?_
      refine SO.nil ?_
      refine SQ.then_normal ?_
      refine SC.seq ?_
      refine SC.draw mixed (fun v => Below w.heap.size w v) ?_
      have hO17 := Own.drew hO2
      refine SA.take (by kernel_rfl) 0 rfl (by kernel_rfl) (by kernel_rfl) rfl rfl (fun _ _ _ h => h) rfl (hO17.toBelow ⟨hb1, trivial⟩) (fun v hv => .move rfl rfl) ?_
      refine SA.take (by kernel_rfl) 1 rfl (by kernel_rfl) (by kernel_rfl) rfl rfl (fun _ _ _ h => h) rfl (hO17.toBelow ⟨hb1, trivial⟩) (fun v hv => .nilCheck rfl rfl) ?_
      refine SA.take (by kernel_rfl) 2 rfl (by kernel_rfl) (by kernel_rfl) rfl rfl (fun _ _ _ h => h) rfl (hO17.toBelow ⟨hb1, trivial⟩) (fun v hv => .fieldAddr rfl rfl fa228_0) ?_
      first | refine SA.take (by kernel_rfl) 3 rfl (by kernel_rfl) (by kernel_rfl) rfl rfl (fun _ _ _ h => h) rfl (hO17.toBelow ⟨hb1, trivial⟩) (fun v hv => .load rfl rfl ag208 (cell_of' ((hv.block y (lt_of_heap on)).trans on) rfl)) ?_ | refine SA.take (by kernel_rfl) 3 rfl (by kernel_rfl) (by kernel_rfl) rfl rfl (fun _ _ _ h => h) rfl (hO17.toBelow ⟨hb1, trivial⟩) (fun v hv => .load rfl rfl ag208 (cell_of' ((hv.block xl (lt_of_heap onl)).trans onl) rfl)) ?_
      refine SA.take (by kernel_rfl) 4 rfl (by kernel_rfl) (by kernel_rfl) rfl rfl (fun _ _ _ h => h) rfl (hO17.toBelow ⟨hb1, trivial⟩) (fun v hv => .move rfl rfl) ?_
      refine SA.take (by kernel_rfl) 5 rfl (by kernel_rfl) (by kernel_rfl) rfl rfl (fun _ _ _ h => h) rfl (hO17.toBelow ⟨hb1, trivial⟩) (fun v hv => .move rfl rfl) ?_
      refine SA.take (by kernel_rfl) 7 rfl (by kernel_rfl) (by kernel_rfl) rfl rfl (fun _ _ _ h => h) rfl (hO17.toBelow ⟨hb1, trivial⟩) (fun v hv => .move rfl rfl) ?_
      refine SA.take (by kernel_rfl) 8 rfl (by kernel_rfl) (by kernel_rfl) rfl rfl (fun _ _ _ h => h) rfl (hO17.toBelow ⟨hb1, trivial⟩) (fun v hv => .nilCheck rfl rfl) ?_
      refine SA.take (by kernel_rfl) 9 rfl (by kernel_rfl) (by kernel_rfl) rfl rfl (fun _ _ _ h => h) rfl (hO17.toBelow ⟨hb1, trivial⟩) (fun v hv => .fieldAddr rfl rfl fa228_1) ?_
      first | refine SA.take (by kernel_rfl) 10 rfl (by kernel_rfl) (by kernel_rfl) rfl rfl (fun _ _ _ h => h) rfl (hO17.toBelow ⟨hb1, trivial⟩) (fun v hv => .load rfl rfl ag208 (cell_of' ((hv.block y (lt_of_heap on)).trans on) rfl)) ?_ | refine SA.take (by kernel_rfl) 10 rfl (by kernel_rfl) (by kernel_rfl) rfl rfl (fun _ _ _ h => h) rfl (hO17.toBelow ⟨hb1, trivial⟩) (fun v hv => .load rfl rfl ag208 (cell_of' ((hv.block xl (lt_of_heap onl)).trans onl) rfl)) ?_
      refine SA.take (by kernel_rfl) 11 rfl (by kernel_rfl) (by kernel_rfl) rfl rfl (fun _ _ _ h => h) rfl (hO17.toBelow ⟨hb1, trivial⟩) (fun v hv => .move rfl rfl) ?_
      refine SA.take (by kernel_rfl) 12 rfl (by kernel_rfl) (by kernel_rfl) rfl rfl (fun _ _ _ h => h) rfl (hO17.toBelow ⟨hb1, trivial⟩) (fun v hv => .move rfl rfl) ?_
      refine SA.take (by kernel_rfl) 13 rfl (by kernel_rfl) (by kernel_rfl) rfl rfl (fun _ _ _ h => h) rfl (hO17.toBelow ⟨hb1, trivial⟩) (fun v hv => .sub rfl rfl rfl (by omega)) ?_
      refine SA.take (by kernel_rfl) 14 rfl (by kernel_rfl) (by kernel_rfl) rfl rfl (fun _ _ _ h => h) rfl (hO17.toBelow ⟨hb1, trivial⟩) (fun v hv => .move rfl rfl) ?_
      refine SA.take (by kernel_rfl) 15 rfl (by kernel_rfl) (by kernel_rfl) rfl rfl (fun _ _ _ h => h) rfl (hO17.toBelow ⟨hb1, trivial⟩) (fun v hv => .move rfl rfl) ?_
      refine SA.take (by kernel_rfl) 16 rfl (by kernel_rfl) (by kernel_rfl) rfl rfl (fun _ _ _ h => h) rfl (hO17.toBelow ⟨hb1, trivial⟩) (fun v hv => .sub rfl rfl rfl (by omega)) ?_
      refine SA.one 6 (by kernel_rfl) ?_
      refine SB.call rfl rfl rfl rfl (.callF rfl rfl en272) (ihl _ _ _ _ (hO17.good hG) (hl.below (hO17.toBelow ⟨hb1, trivial⟩)) (by omega)) ?_
      rintro _ w18 ⟨rfl, hb18⟩
      have hO18 := hO17.below hb18
      refine ⟨_, rfl, (hO18.toBelow ⟨hb1, trivial⟩), ?_⟩
      refine SA.one 17 (by kernel_rfl) ?_
      refine SB.call rfl rfl rfl rfl (.callF rfl rfl en272) (ihr _ _ _ _ (hO18.good hG) (hr.below (hO18.toBelow ⟨hb1, trivial⟩)) (by omega)) ?_
      rintro _ w19 ⟨rfl, hb19⟩
      have hO19 := hO18.below hb19
      refine ⟨_, rfl, (hO19.toBelow ⟨hb1, trivial⟩), ?_⟩
      refine SA.one 18 (by kernel_rfl) ?_
      refine SB.buildSlice hO19 rfl rfl rfl rfl rfl rfl (bs246_2_0_1_Rope3 _ _ _ _ _ _ _ _ _ _ _ _ _ _) ?_
      intro b20 w20 hb20 hO20
      refine ⟨(hO20.toBelow ⟨hb20, hb1, trivial⟩), ?_⟩
      refine SA.one 19 (by kernel_rfl) ?_
      refine SB.call rfl rfl rfl rfl (.callF rfl rfl en216) (join_any [msN l (max a 0) (min c (RT.knot l r).sm.b), msN r (max a 0 - l.sm.b) (min c (RT.knot l r).sm.b - l.sm.b)] _ _ (hO20.good hG) (by simp) (fun p hp => by simp only [List.mem_cons, List.not_mem_nil, or_false] at hp; rcases hp with rfl | rfl; exact msN_ok l _ _; exact msN_ok r _ _) (by rw [hjr]; exact hO20.at (i := 0) rfl)) ?_
      rintro _ w21 ⟨rfl, hb21⟩
      have hO21 := hO20.below hb21
      refine ⟨_, rfl, (hO21.toBelow ⟨hb20, hb1, trivial⟩), ?_⟩
      refine SA.one 20 (by kernel_rfl) ?_
      refine SB.store hO21 (j := 1) rfl rfl rfl rfl rfl rfl rfl sz91 rfl rfl [_, (_, .cells [_, _, _, _, _, _, _].toArray _ _)] rfl ?_
      intro w22 hO22
      refine ⟨(hO22.toBelow ⟨hb20, hb1, trivial⟩), ?_⟩
      refine SA.done (by kernel_rfl) ?_
      refine SQ.then_normal ?_
      refine SC.ret ?_
      refine SQ.out (.inl rfl) (resC [_, _, _, _, _, _, _] rfl rfl ag91 sz91 (hO22.at (i := 1) rfl) rfl rfl) ?_
      refine ⟨?_, hO22.toBelow ⟨hb20, hb1, trivial⟩⟩
      rw [msN]
      first | (rw [if_pos (by omega)]; done) | (rw [if_pos (by omega)]; rfl) | (rw [if_neg (by omega), if_pos (by omega)]; done) | (rw [if_neg (by omega), if_neg (by omega), hsb, hsl]; done)

theorem nmeas_all : ∀ (t : RT) (y : Nat) (a c : Int) (w : World), t.txt.length ≤ 1099511627776 → Good w → t.At w y → (-1152921504606846976 ≤ a ∧ a ≤ 1152921504606846976 ∧ -1152921504606846976 ≤ c ∧ c ≤ 1152921504606846976) →
      Calls Tryz.prog 272 #[.pointer (some ⟨y, 0, none⟩), .int .i64 a, .int .i64 c] w fun e w' => e = .returned (smV (msN t a c)) ∧ Below w.heap.size w w'
  | .leaf s, y, a, c, w, hz, hG, h0, hn => nmeas_leaf s y a c w hG h0 hn hz
  | .knot l r, y, a, c, w, hz, hG, h0, hn => by
    have htt : (RT.knot l r).txt.length = l.txt.length + r.txt.length := by simp [RT.txt]
    exact nmeas_knot l r y a c w hG h0 hn hz (fun y a c w => nmeas_all l y a c w (by omega)) (fun y a c w => nmeas_all r y a c w (by omega))

set_option maxRecDepth 20000 in
set_option maxHeartbeats 400000 in
theorem rope_slice (b : Nat) (s : ByteArray) (a c : Int) (w : World) (hG : Good w) (hr : RopeAt w b s) (hz : s.size ≤ 1099511627776) :
    Calls Tryz.prog 269 #[.pointer (some ⟨b, 0, none⟩), .int .i64 a, .int .i64 c] w fun e w' => e = .returned (.tuple #[.string (slT s a c), .int .i64 (slE s a c)]) ∧ Below w.heap.size w w' := by
  have hr0 := hr
  obtain ⟨y, t, hrb, htr, htx, hwf⟩ := hr
  have hr := hr0
  have htl : t.txt.length = s.size := by rw [htx, bl_length]
  have h2w := hG.two
  have hO0 := Own.start hG
  refine enter Tryz.func269 rfl rfl rfl 0 ?_
  refine SC.seq ?_
  refine SC.region ?_
  refine SO.val rfl rfl rfl rfl (.assign rfl rfl) ?_
  refine SO.val rfl rfl rfl rfl (.assign rfl rfl) ?_
  refine SO.nil ?_
  refine SQ.then_normal ?_
  refine SC.seq ?_
  refine SC.seq ?_
  refine SC.region ?_
  refine SO.val rfl rfl rfl rfl (.move rfl rfl) ?_
  refine SO.val rfl rfl rfl rfl (.move rfl rfl) ?_
  refine SO.val rfl rfl rfl rfl (.move rfl rfl) ?_
  refine SO.call rfl rfl rfl rfl (.callF rfl rfl en271) (rope_within b s _ _ _ (hO0.good hG) (hr.below (hO0.toBelow trivial)) hz) ?_
  rintro _ w1 ⟨rfl, hb1⟩
  have hO1 := hO0.below hb1
  refine ⟨_, rfl, ?_⟩
  first | refine SO.val rfl rfl rfl rfl (.notD rfl rfl) ?_ | refine SO.val rfl rfl rfl rfl (.not rfl rfl) ?_
  refine SO.nil ?_
  refine SQ.then_normal ?_
  refine SC.dec rfl (fun c2 => ?_) (fun c2 => ?_)
  ·
    have hbd : bad s a c := Decidable.not_not.1 c2
    refine SC.seq ?_
    refine SC.region ?_
    refine SO.val rfl rfl rfl rfl (.assign rfl rfl) ?_
    refine SO.val rfl rfl rfl rfl (.assign rfl rfl) ?_
    refine SO.nil ?_
    refine SQ.then_normal ?_
    refine SC.ret ?_
    refine SQ.then_ret ?_
    refine SQ.out (.inl rfl) (res2 rfl rfl rfl) ?_
    first | exact ⟨by unfold slT slE; rw [if_pos hbd, if_pos hbd], hO1.toBelow trivial⟩ | exact ⟨by unfold slT slE; rw [if_neg hnb, if_neg hnb, List.nil_append, str_eq (s := s.extract a.toNat c.toNat) (by rw [pc_str s a c (by omega) (by omega), htx])], hbl5⟩
  ·
    have hnb : ¬ bad s a c := Decidable.not_not.1 c2
    have hnb2 := hnb
    unfold bad at hnb2
    refine SC.skip ?_
    refine SQ.then_normal ?_
    refine SC.seq ?_
    refine SC.region ?_
    refine SO.alloc hO1 rfl rfl rfl rfl zv274 [_, _] rfl ?_
    intro b4 w4 hb4 hO4
    refine SO.nil ?_
    refine SQ.then_normal ?_
    refine SC.seq ?_
    refine SC.region ?_
    refine SO.val rfl rfl rfl rfl (.move rfl rfl) ?_
    refine SO.call rfl rfl rfl rfl (.callF rfl rfl en270) (tree_any b y _ (hO4.good hG) (hO4.heapO ⟨hb4, trivial⟩ hrb)) ?_
    rintro _ w5 ⟨rfl, hb5⟩
    have hO5 := hO4.below hb5
    refine ⟨_, rfl, ?_⟩
    refine SO.val rfl rfl rfl rfl (.move rfl rfl) ?_
    refine SO.val rfl rfl rfl rfl (.move rfl rfl) ?_
    refine SO.call rfl rfl rfl rfl (.callF rfl rfl en273) (nslice_all w h2w t y _ [] a c _ htr (hO5.good hG) (hO5.toBelow ⟨hb4, trivial⟩) (.inl ⟨hb4, _, hO5.at (i := 0) rfl, World.ownsRow_nil _ _ _ _, by simp [Value.ownBlock]⟩) (by omega) (by simp; omega)) ?_
    rintro _ w6 ⟨rfl, hb2, hbl2⟩
    have hG2 := (hO5.good hG).mono hbl2 h2w
    have hbl3 := (hO5.toBelow ⟨hb4, trivial⟩).trans hbl2
    have hO6 := Own.start hG2
    refine ⟨_, rfl, ?_⟩
    refine SO.nil ?_
    refine SQ.then_normal ?_
    refine SC.seq ?_
    refine SC.region ?_
    refine SO.call rfl rfl rfl rfl (.callF rfl rfl en274) (Tryz.Builder_String_any _ _ _ _ hb2 hbl3.size) ?_
    rintro _ w7 ⟨rfl, hbl4⟩
    have hbl5 := hbl3.trans hbl4
    have hO7 := Own.start (hG2.mono hbl4 h2w)
    refine ⟨_, rfl, ?_⟩
    refine SO.val rfl rfl rfl rfl (.assign rfl rfl) ?_
    refine SO.val rfl rfl rfl rfl (.assign rfl rfl) ?_
    refine SO.nil ?_
    refine SQ.then_normal ?_
    refine SC.ret ?_
    refine SQ.out (.inl rfl) (res2 rfl rfl rfl) ?_
    first | exact ⟨by unfold slT slE; rw [if_pos hbd, if_pos hbd], hO7.toBelow trivial⟩ | exact ⟨by unfold slT slE; rw [if_neg hnb, if_neg hnb, List.nil_append, str_eq (s := s.extract a.toNat c.toNat) (by rw [pc_str s a c (by omega) (by omega), htx])], hbl5⟩

set_option maxRecDepth 20000 in
set_option maxHeartbeats 400000 in
theorem rope_measure (b : Nat) (s : ByteArray) (a c : Int) (w : World) (hG : Good w) (hr : RopeAt w b s) (hz : s.size ≤ 1099511627776) :
    Calls Tryz.prog 267 #[.pointer (some ⟨b, 0, none⟩), .int .i64 a, .int .i64 c] w fun e w' => ∃ m : Smy, e = .returned (.tuple #[smV m, .int .i64 (slE s a c)]) ∧ (¬ bad s a c → m.nl = nlC (pc (bl s) a c)) ∧ Below w.heap.size w w' := by
  have hr0 := hr
  obtain ⟨y, t, hrb, htr, htx, hwf⟩ := hr
  have hr := hr0
  have htl : t.txt.length = s.size := by rw [htx, bl_length]
  have hO0 := Own.start hG
  refine enter Tryz.func267 rfl rfl rfl 0 ?_
  refine SC.seq ?_
  refine SC.region ?_
  refine SO.alloc hO0 rfl rfl rfl rfl zv91 [_, _, _, _, _, _, _] rfl ?_
  intro b1 w1 hb1 hO1
  refine SO.val rfl rfl rfl rfl (.assign rfl rfl) ?_
  refine SO.nil ?_
  refine SQ.then_normal ?_
  refine SC.seq ?_
  refine SC.seq ?_
  refine SC.region ?_
  refine SO.val rfl rfl rfl rfl (.move rfl rfl) ?_
  refine SO.val rfl rfl rfl rfl (.move rfl rfl) ?_
  refine SO.val rfl rfl rfl rfl (.move rfl rfl) ?_
  refine SO.call rfl rfl rfl rfl (.callF rfl rfl en271) (rope_within b s _ _ _ (hO1.good hG) (hr.below (hO1.toBelow ⟨hb1, trivial⟩)) hz) ?_
  rintro _ w2 ⟨rfl, hb2⟩
  have hO2 := hO1.below hb2
  refine ⟨_, rfl, ?_⟩
  first | refine SO.val rfl rfl rfl rfl (.notD rfl rfl) ?_ | refine SO.val rfl rfl rfl rfl (.not rfl rfl) ?_
  refine SO.nil ?_
  refine SQ.then_normal ?_
  refine SC.dec rfl (fun c3 => ?_) (fun c3 => ?_)
  ·
    have hbd : bad s a c := Decidable.not_not.1 c3
    refine SC.seq ?_
    refine SC.region ?_
    refine SO.val rfl rfl rfl rfl (.build rfl rfl (bd91_z_Rope3)) ?_
    refine SO.store hO2 (i := 0) rfl rfl rfl rfl rfl rfl sz91 rfl rfl [(_, .cells [_, _, _, _, _, _, _].toArray _ _)] rfl ?_
    intro w4 hO4
    refine SO.val rfl rfl rfl rfl (.assign rfl rfl) ?_
    refine SO.nil ?_
    refine SQ.then_normal ?_
    refine SC.ret ?_
    refine SQ.then_ret ?_
    refine SQ.out (.inl rfl) (resCT [_, _, _, _, _, _, _] rfl rfl rfl ag91 sz91 (hO4.at (i := 0) rfl) rfl rfl) ?_
    first | exact ⟨zS, by unfold slE; rw [if_pos hbd]; rfl, fun h => absurd hbd h, hO4.toBelow ⟨hb1, trivial⟩⟩ | exact ⟨msN t a c, by unfold slE; rw [if_neg hnb], fun _ => by rw [msN_nl t a c (by omega), htx], hO4.toBelow ⟨hb1, trivial⟩⟩
  ·
    have hnb : ¬ bad s a c := Decidable.not_not.1 c3
    have hnb2 := hnb
    unfold bad at hnb2
    refine SC.skip ?_
    refine SQ.then_normal ?_
    refine SC.seq ?_
    refine SC.region ?_
    refine SO.val rfl rfl rfl rfl (.move rfl rfl) ?_
    refine SO.call rfl rfl rfl rfl (.callF rfl rfl en270) (tree_any b y _ (hO2.good hG) (hO2.heapO ⟨hb1, trivial⟩ hrb)) ?_
    rintro _ w6 ⟨rfl, hb6⟩
    have hO6 := hO2.below hb6
    refine ⟨_, rfl, ?_⟩
    refine SO.val rfl rfl rfl rfl (.move rfl rfl) ?_
    refine SO.val rfl rfl rfl rfl (.move rfl rfl) ?_
    refine SO.call rfl rfl rfl rfl (.callF rfl rfl en272) (nmeas_all t y _ _ _ (by omega) (hO6.good hG) (htr.below (hO6.toBelow ⟨hb1, trivial⟩)) (by omega)) ?_
    rintro _ w7 ⟨rfl, hb7⟩
    have hO7 := hO6.below hb7
    refine ⟨_, rfl, ?_⟩
    refine SO.store hO7 (i := 0) rfl rfl rfl rfl rfl rfl sz91 rfl rfl [(_, .cells [_, _, _, _, _, _, _].toArray _ _)] rfl ?_
    intro w8 hO8
    refine SO.val rfl rfl rfl rfl (.assign rfl rfl) ?_
    refine SO.nil ?_
    refine SQ.then_normal ?_
    refine SC.ret ?_
    refine SQ.out (.inl rfl) (resCT [_, _, _, _, _, _, _] rfl rfl rfl ag91 sz91 (hO8.at (i := 0) rfl) rfl rfl) ?_
    first | exact ⟨zS, by unfold slE; rw [if_pos hbd]; rfl, fun h => absurd hbd h, hO8.toBelow ⟨hb1, trivial⟩⟩ | exact ⟨msN t a c, by unfold slE; rw [if_neg hnb], fun _ => by rw [msN_nl t a c (by omega), htx], hO8.toBelow ⟨hb1, trivial⟩⟩

end Go.Proofs.YtclgplkkajfenaaGreatDoor
