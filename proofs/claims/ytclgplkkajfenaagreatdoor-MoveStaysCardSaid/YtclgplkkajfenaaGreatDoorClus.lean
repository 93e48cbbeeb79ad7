/- Classes and widths; clusters, plainly and as the program finds them. -/
import Derived.Test.YtclgplkkajfenaaGreatDoorUnits
/- width.Class, Cells, cluster.glued. -/
namespace Go.Proofs.YtclgplkkajfenaaGreatDoor
open Go Go.RowKit Ow
/-- The ranges of width's tables. -/
def marksL : List Int := [768, 879, 1155, 1161, 1425, 1469, 1471, 1471, 1473, 1474, 1552, 1562, 1611, 1631, 1648, 1648, 1750, 1756, 2304, 2306, 2364, 2364, 2381, 2381, 3633, 3633, 3636, 3642, 3655, 3662, 4957, 4959, 6832, 6911, 7616, 7679, 8204, 8205, 8400, 8447, 12330, 12335, 12441, 12442, 65024, 65039, 65056, 65071, 127995, 127999, 917760, 917999]
def widesL : List Int := [4352, 4447, 8986, 8987, 9001, 9002, 9193, 9196, 9725, 9726, 9748, 9749, 9800, 9811, 9898, 9899, 11904, 12329, 12336, 12350, 12353, 12440, 12443, 19903, 19968, 42191, 43360, 43391, 44032, 55203, 63744, 64255, 65072, 65135, 65281, 65376, 65504, 65510, 94176, 101119, 110592, 111359, 127744, 127994, 128000, 128591, 128640, 128767, 129280, 129535, 131072, 196605, 196608, 262141]
def tg (l : List Int) (i : Nat) : Int := l.getD i 0
def inTab : List Int → Int → Bool
  | a :: b :: r, c => (decide (a ≤ c) && decide (c ≤ b)) || inTab r c
  | _, _ => false
theorem inTab_low (c : Int) : ∀ (l : List Int), (∀ x ∈ l, c < x) → inTab l c = false
  | [], _ => rfl
  | [_], _ => rfl
  | a :: b :: r, h => by
    have h1 := h a (by simp)
    rw [inTab, inTab_low c r (fun x hx => h x (by simp [hx]))]
    simp; omega
theorem inTab_search (c : Int) : ∀ (l : List Int) (n r : Nat), l.Pairwise (· < ·) ∨ True → l.Pairwise (· ≤ ·) → l.length = 2 * n → r ≤ n → (∀ t < r, ¬ c ≤ tg l (2 * t + 1)) → (∀ t, r ≤ t → t < n → c ≤ tg l (2 * t + 1)) →
    inTab l c = (decide (r < n) && decide (tg l (2 * r) ≤ c))
  | [], n, r, _, _, hn, hr, _, _ => by
    have h0 : ¬ r < n := by simp at hn; omega
    rw [decide_eq_false h0]; rfl
  | [_], n, r, _, _, hn, _, _, _ => by simp at hn; omega
  | a :: b :: l, n, 0, _, hs, hn, _, _, hhi => by
    have h1 : 0 < n := by simp at hn; omega
    have h2 := hhi 0 (by omega) h1
    simp [tg] at h2
    rw [inTab]
    by_cases h : a ≤ c
    · simp [h, h1, h2, tg]
    · rw [inTab_low c l (fun x hx => by
        have := List.rel_of_pairwise_cons hs (a' := x) (by simp [hx]); omega)]
      simp [h, tg]
  | a :: b :: l, n, r + 1, _, hs, hn, hr, hlo, hhi => by
    have h2 := hlo 0 (by omega)
    simp [tg] at h2
    have ih := inTab_search c l (n - 1) r (.inr trivial) (hs.tail.tail) (by simp at hn; omega) (by omega) (fun t ht => by
        have := hlo (t + 1) (by omega); simpa [tg, Nat.mul_add] using this) (fun t h1 h3 => by
        have := hhi (t + 1) (by omega) (by omega); simpa [tg, Nat.mul_add] using this)
    rw [inTab, ih]
    have e1 : decide (c ≤ b) = false := decide_eq_false (by omega)
    rw [e1]
    have e2 : decide (r + 1 < n) = decide (r < n - 1) := decide_eq_decide.2 (by omega)
    rw [e2]; simp [tg, Nat.mul_add]
theorem marks_ok : marksL.Pairwise (· ≤ ·) := by decide
theorem wides_ok : widesL.Pairwise (· ≤ ·) := by decide
def tabCells (l : List Int) : Array Value := (l.map fun x => Value.int .i32 x).toArray
theorem tab_cell {w : World} {b T : Nat} {l : List Int} {fz : Nat × Nat} {i : Int} (h : w.heap[b]? = some (.cells (tabCells l) T fz)) (hi : i.toNat < l.length) :
    w.cell? ⟨b, 0 + i.toNat * 1, none⟩ = some (.int .i32 (tg l i.toNat)) := by
  refine cell_of' h ?_
  simp [tabCells, tg, hi]
/-- A character's class. -/
def cls (c : Int) : Int :=
  if c < 0 ∨ c > 1114111 ∨ (55296 ≤ c ∧ c ≤ 57343) then 5 else if c = 10 then 1 else if c < 32 ∨ (127 ≤ c ∧ c ≤ 159) then 2
  else if inTab marksL c = true then 3 else if inTab widesL c = true then 4 else 0
def cellsOf (c : Int) : Int := if cls c = 1 then 0 else if cls c = 4 then 2 else if cls c = 2 ∧ c ≤ 127 then 2 else 1
theorem cls_cases (c : Int) : cls c = 0 ∨ cls c = 1 ∨ cls c = 2 ∨ cls c = 3 ∨ cls c = 4 ∨ cls c = 5 := by unfold cls; (repeat' split) <;> omega

theorem tg_mono {l : List Int} (hs : l.Pairwise (· ≤ ·)) {i j : Nat} (hij : i ≤ j) (hj : j < l.length) : tg l i ≤ tg l j := by
  have hi : i < l.length := by omega
  simp only [tg, List.getD_eq_getElem?_getD, List.getElem?_eq_getElem hi, List.getElem?_eq_getElem hj, Option.getD_some]
  by_cases e : i = j
  · subst e; omega
  · exact List.pairwise_iff_getElem.1 hs i j hi hj (by omega)

theorem bs219_52_0_1_2_3_4_5_6_7_8_9_10_11_12_13_14_15_16_17_18_19_20_21_22_23_24_25_26_27_28_29_30_31_32_33_34_35_36_37_38_39_40_41_42_43_44_45_46_47_48_49_50_51_Width (x0 : Int) (x1 : Int) (x2 : Int) (x3 : Int) (x4 : Int) (x5 : Int) (x6 : Int) (x7 : Int) (x8 : Int) (x9 : Int) (x10 : Int) (x11 : Int) (x12 : Int) (x13 : Int) (x14 : Int) (x15 : Int) (x16 : Int) (x17 : Int) (x18 : Int) (x19 : Int) (x20 : Int) (x21 : Int) (x22 : Int) (x23 : Int) (x24 : Int) (x25 : Int) (x26 : Int) (x27 : Int) (x28 : Int) (x29 : Int) (x30 : Int) (x31 : Int) (x32 : Int) (x33 : Int) (x34 : Int) (x35 : Int) (x36 : Int) (x37 : Int) (x38 : Int) (x39 : Int) (x40 : Int) (x41 : Int) (x42 : Int) (x43 : Int) (x44 : Int) (x45 : Int) (x46 : Int) (x47 : Int) (x48 : Int) (x49 : Int) (x50 : Int) (x51 : Int) : ∀ w, (Instr.buildSlice 219 52 [(0, .int .i32 x0), (1, .int .i32 x1), (2, .int .i32 x2), (3, .int .i32 x3), (4, .int .i32 x4), (5, .int .i32 x5), (6, .int .i32 x6), (7, .int .i32 x7), (8, .int .i32 x8), (9, .int .i32 x9), (10, .int .i32 x10), (11, .int .i32 x11), (12, .int .i32 x12), (13, .int .i32 x13), (14, .int .i32 x14), (15, .int .i32 x15), (16, .int .i32 x16), (17, .int .i32 x17), (18, .int .i32 x18), (19, .int .i32 x19), (20, .int .i32 x20), (21, .int .i32 x21), (22, .int .i32 x22), (23, .int .i32 x23), (24, .int .i32 x24), (25, .int .i32 x25), (26, .int .i32 x26), (27, .int .i32 x27), (28, .int .i32 x28), (29, .int .i32 x29), (30, .int .i32 x30), (31, .int .i32 x31), (32, .int .i32 x32), (33, .int .i32 x33), (34, .int .i32 x34), (35, .int .i32 x35), (36, .int .i32 x36), (37, .int .i32 x37), (38, .int .i32 x38), (39, .int .i32 x39), (40, .int .i32 x40), (41, .int .i32 x41), (42, .int .i32 x42), (43, .int .i32 x43), (44, .int .i32 x44), (45, .int .i32 x45), (46, .int .i32 x46), (47, .int .i32 x47), (48, .int .i32 x48), (49, .int .i32 x49), (50, .int .i32 x50), (51, .int .i32 x51)].toArray).run Tryz.prog w = .ok (.slice (some ⟨w.heap.size, 0, none⟩) 52 52) (w.alloc (.cells [.int .i32 x0, .int .i32 x1, .int .i32 x2, .int .i32 x3, .int .i32 x4, .int .i32 x5, .int .i32 x6, .int .i32 x7, .int .i32 x8, .int .i32 x9, .int .i32 x10, .int .i32 x11, .int .i32 x12, .int .i32 x13, .int .i32 x14, .int .i32 x15, .int .i32 x16, .int .i32 x17, .int .i32 x18, .int .i32 x19, .int .i32 x20, .int .i32 x21, .int .i32 x22, .int .i32 x23, .int .i32 x24, .int .i32 x25, .int .i32 x26, .int .i32 x27, .int .i32 x28, .int .i32 x29, .int .i32 x30, .int .i32 x31, .int .i32 x32, .int .i32 x33, .int .i32 x34, .int .i32 x35, .int .i32 x36, .int .i32 x37, .int .i32 x38, .int .i32 x39, .int .i32 x40, .int .i32 x41, .int .i32 x42, .int .i32 x43, .int .i32 x44, .int .i32 x45, .int .i32 x46, .int .i32 x47, .int .i32 x48, .int .i32 x49, .int .i32 x50, .int .i32 x51].toArray 21)) := fun _ => by kernel_rfl
set_option maxRecDepth 20000 in
set_option maxHeartbeats 400000 in
theorem marks_any (w : World) (hG : Good w) :
    Calls Tryz.prog 186 #[] w fun e w' => ∃ b : Nat, e = .returned (.slice (some ⟨b, 0, none⟩) 52 52) ∧ w.heap.size ≤ b ∧ w'.heap[b]? = some (.cells (tabCells marksL) 21 (0, 0)) ∧ Below w.heap.size w w' := by
  have hO0 := Own.start hG
  refine enter Tryz.func186 rfl rfl rfl 0 ?_
  refine SC.sr ?_
  refine SO.as ?_
  refine SO.nn ?_
  refine SC.sr ?_
  refine SO.buildSlice hO0 rfl rfl rfl rfl rfl (bs219_52_0_1_2_3_4_5_6_7_8_9_10_11_12_13_14_15_16_17_18_19_20_21_22_23_24_25_26_27_28_29_30_31_32_33_34_35_36_37_38_39_40_41_42_43_44_45_46_47_48_49_50_51_Width _ _ _ _ _ _ _ _ _ _ _ _ _ _ _ _ _ _ _ _ _ _ _ _ _ _ _ _ _ _ _ _ _ _ _ _ _ _ _ _ _ _ _ _ _ _ _ _ _ _ _ _) ?_
  intro b1 w1 hb1 hO1
  refine SO.as ?_
  refine SO.nn ?_
  refine SC.ret ?_
  refine SQ.out (.inl rfl) (res1 rfl rfl) ?_
  exact ⟨b1, rfl, hb1, hO1.at (i := 0) rfl, hO1.toBelow ⟨hb1, trivial⟩⟩

theorem bs219_54_0_1_2_3_4_5_6_7_8_9_10_11_12_13_14_15_16_17_18_19_20_21_22_23_24_25_26_27_28_29_30_31_32_33_34_35_36_37_38_39_40_41_42_43_44_45_46_47_48_49_50_51_52_53_Width (x0 : Int) (x1 : Int) (x2 : Int) (x3 : Int) (x4 : Int) (x5 : Int) (x6 : Int) (x7 : Int) (x8 : Int) (x9 : Int) (x10 : Int) (x11 : Int) (x12 : Int) (x13 : Int) (x14 : Int) (x15 : Int) (x16 : Int) (x17 : Int) (x18 : Int) (x19 : Int) (x20 : Int) (x21 : Int) (x22 : Int) (x23 : Int) (x24 : Int) (x25 : Int) (x26 : Int) (x27 : Int) (x28 : Int) (x29 : Int) (x30 : Int) (x31 : Int) (x32 : Int) (x33 : Int) (x34 : Int) (x35 : Int) (x36 : Int) (x37 : Int) (x38 : Int) (x39 : Int) (x40 : Int) (x41 : Int) (x42 : Int) (x43 : Int) (x44 : Int) (x45 : Int) (x46 : Int) (x47 : Int) (x48 : Int) (x49 : Int) (x50 : Int) (x51 : Int) (x52 : Int) (x53 : Int) : ∀ w, (Instr.buildSlice 219 54 [(0, .int .i32 x0), (1, .int .i32 x1), (2, .int .i32 x2), (3, .int .i32 x3), (4, .int .i32 x4), (5, .int .i32 x5), (6, .int .i32 x6), (7, .int .i32 x7), (8, .int .i32 x8), (9, .int .i32 x9), (10, .int .i32 x10), (11, .int .i32 x11), (12, .int .i32 x12), (13, .int .i32 x13), (14, .int .i32 x14), (15, .int .i32 x15), (16, .int .i32 x16), (17, .int .i32 x17), (18, .int .i32 x18), (19, .int .i32 x19), (20, .int .i32 x20), (21, .int .i32 x21), (22, .int .i32 x22), (23, .int .i32 x23), (24, .int .i32 x24), (25, .int .i32 x25), (26, .int .i32 x26), (27, .int .i32 x27), (28, .int .i32 x28), (29, .int .i32 x29), (30, .int .i32 x30), (31, .int .i32 x31), (32, .int .i32 x32), (33, .int .i32 x33), (34, .int .i32 x34), (35, .int .i32 x35), (36, .int .i32 x36), (37, .int .i32 x37), (38, .int .i32 x38), (39, .int .i32 x39), (40, .int .i32 x40), (41, .int .i32 x41), (42, .int .i32 x42), (43, .int .i32 x43), (44, .int .i32 x44), (45, .int .i32 x45), (46, .int .i32 x46), (47, .int .i32 x47), (48, .int .i32 x48), (49, .int .i32 x49), (50, .int .i32 x50), (51, .int .i32 x51), (52, .int .i32 x52), (53, .int .i32 x53)].toArray).run Tryz.prog w = .ok (.slice (some ⟨w.heap.size, 0, none⟩) 54 54) (w.alloc (.cells [.int .i32 x0, .int .i32 x1, .int .i32 x2, .int .i32 x3, .int .i32 x4, .int .i32 x5, .int .i32 x6, .int .i32 x7, .int .i32 x8, .int .i32 x9, .int .i32 x10, .int .i32 x11, .int .i32 x12, .int .i32 x13, .int .i32 x14, .int .i32 x15, .int .i32 x16, .int .i32 x17, .int .i32 x18, .int .i32 x19, .int .i32 x20, .int .i32 x21, .int .i32 x22, .int .i32 x23, .int .i32 x24, .int .i32 x25, .int .i32 x26, .int .i32 x27, .int .i32 x28, .int .i32 x29, .int .i32 x30, .int .i32 x31, .int .i32 x32, .int .i32 x33, .int .i32 x34, .int .i32 x35, .int .i32 x36, .int .i32 x37, .int .i32 x38, .int .i32 x39, .int .i32 x40, .int .i32 x41, .int .i32 x42, .int .i32 x43, .int .i32 x44, .int .i32 x45, .int .i32 x46, .int .i32 x47, .int .i32 x48, .int .i32 x49, .int .i32 x50, .int .i32 x51, .int .i32 x52, .int .i32 x53].toArray 21)) := fun _ => by kernel_rfl
set_option maxRecDepth 20000 in
set_option maxHeartbeats 400000 in
theorem wides_any (w : World) (hG : Good w) :
    Calls Tryz.prog 187 #[] w fun e w' => ∃ b : Nat, e = .returned (.slice (some ⟨b, 0, none⟩) 54 54) ∧ w.heap.size ≤ b ∧ w'.heap[b]? = some (.cells (tabCells widesL) 21 (0, 0)) ∧ Below w.heap.size w w' := by
  have hO0 := Own.start hG
  refine enter Tryz.func187 rfl rfl rfl 0 ?_
  refine SC.sr ?_
  refine SO.as ?_
  refine SO.nn ?_
  refine SC.sr ?_
  refine SO.buildSlice hO0 rfl rfl rfl rfl rfl (bs219_54_0_1_2_3_4_5_6_7_8_9_10_11_12_13_14_15_16_17_18_19_20_21_22_23_24_25_26_27_28_29_30_31_32_33_34_35_36_37_38_39_40_41_42_43_44_45_46_47_48_49_50_51_52_53_Width _ _ _ _ _ _ _ _ _ _ _ _ _ _ _ _ _ _ _ _ _ _ _ _ _ _ _ _ _ _ _ _ _ _ _ _ _ _ _ _ _ _ _ _ _ _ _ _ _ _ _ _ _ _) ?_
  intro b1 w1 hb1 hO1
  refine SO.as ?_
  refine SO.nn ?_
  refine SC.ret ?_
  refine SQ.out (.inl rfl) (res1 rfl rfl) ?_
  exact ⟨b1, rfl, hb1, hO1.at (i := 0) rfl, hO1.toBelow ⟨hb1, trivial⟩⟩

set_option maxRecDepth 20000 in
set_option maxHeartbeats 400000 in
theorem within1_any (l : List Int) (c : Int) (b1 b2 bt : Nat) (k : Nat) (w : World) (hG : Good w) (hl : l.length ≤ 1000) (hk : 2 * k + 1 < l.length)
    (h1 : w.heap[b1]? = some (.cells #[.slice (some ⟨bt, 0, none⟩) l.length l.length] 219 (0, 0))) (h2 : w.heap[b2]? = some (.cells #[.int .i32 c] 21 (0, 0))) (h3 : w.heap[bt]? = some (.cells (tabCells l) 21 (0, 0))) :
    Calls Tryz.prog 208 #[.int .i64 k, .pointer (some ⟨b1, 0, none⟩), .pointer (some ⟨b2, 0, none⟩)] w fun e w' => e = .returned (.bool (decide (c ≤ tg l (2 * k + 1)))) ∧ Below w.heap.size w w' := by
  have hO0 := Own.start hG
  refine enter Tryz.func208 rfl rfl rfl 0 ?_
  refine SC.sr ?_
  refine SO.as ?_
  refine SO.nn ?_
  refine SC.seq ?_
  refine SC.drawO mixed hO0 (fun hO1 => ?_)
  refine SA.tk 0 rfl hO1 (fun v hv => .load rfl rfl ag219 (cell_of' (hv.heapO trivial h1) rfl)) ?_
  refine SA.tm 1 rfl hO1 ?_
  refine SA.tk 2 rfl hO1 (fun v hv => .mul rfl rfl rfl (by omega)) ?_
  refine SA.tk 3 rfl hO1 (fun v hv => .add rfl rfl rfl (by omega)) ?_
  refine SA.tk 4 rfl hO1 (fun v hv => .indexAddr rfl rfl rfl Tryz.underlying219 sz21 (by omega) (by omega)) ?_
  refine SA.tk 5 rfl hO1 (fun v hv => .load rfl rfl ag21 (tab_cell (hv.heapO trivial h3) (by omega))) ?_
  refine SA.tk 6 rfl hO1 (fun v hv => .load rfl rfl ag21 (cell_of' (hv.heapO trivial h2) rfl)) ?_
  refine SA.tk 7 rfl hO1 (fun v hv => .geq rfl rfl rfl) ?_
  refine SA.ta 8 rfl hO1 ?_
  refine SA.done (by kernel_rfl) ?_
  refine SQ.then_normal ?_
  refine SC.ret ?_
  refine SQ.out (.inl rfl) (res1 rfl rfl) ?_
  refine ⟨?_, hO1.toBelow trivial⟩
  rw [show ((2 : Int) * (k : Int) + 1).toNat = 2 * k + 1 by omega]

set_option maxRecDepth 20000 in
set_option maxHeartbeats 400000 in
theorem within_any (l : List Int) (c : Int) (m bt : Nat) (w : World) (hG : Good w) (hl : l.length ≤ 1000) (hs : l.Pairwise (· ≤ ·)) (hm : l.length = 2 * m)
    (h3 : w.heap[bt]? = some (.cells (tabCells l) 21 (0, 0))) :
    Calls Tryz.prog 185 #[.slice (some ⟨bt, 0, none⟩) l.length l.length, .int .i32 c] w fun e w' => e = .returned (.bool (inTab l c)) ∧ Below w.heap.size w w' := by
  have hO0 := Own.start hG
  refine enter Tryz.func185 rfl rfl rfl 0 ?_
  refine SC.sr ?_
  refine SO.box hO0 rfl rfl rfl rfl rfl [_] rfl ?_
  intro b1 w1 hb1 hO1
  refine SO.box hO1 rfl rfl rfl rfl rfl [_] rfl ?_
  intro b2 w2 hb2 hO2
  refine SO.as ?_
  refine SO.nn ?_
  refine SC.sr ?_
  refine SO.v (.load rfl rfl ag219 (cell_of' (hO2.at (i := 1) rfl) rfl)) ?_
  refine SO.v (.lenA rfl rfl Tryz.underlying219) ?_
  refine SO.v (.quo rfl rfl rfl (by omega) (by omega)) ?_
  refine SO.v (.makeFunc rfl rfl) ?_
  have hc : Calls Tryz.prog 142 #[.int .i64 ((l.length : Int) / 2), .func (.func 208) #[] #[.pointer (some ⟨b1, 0, none⟩), .pointer (some ⟨b2, 0, none⟩)]] w2 fun e w' => ∃ r : Nat, e = .returned (.int .i64 r) ∧ r ≤ m ∧ (∀ t < r, ¬ c ≤ tg l (2 * t + 1)) ∧ (∀ t, r ≤ t → t < m → c ≤ tg l (2 * t + 1)) ∧ Below w2.heap.size w2 w' := by
    rw [show ((l.length : Int) / 2) = (m : Nat) by omega]
    refine search_any m 208 #[] _ (fun t => c ≤ tg l (2 * t + 1)) w2 (hO2.good hG) (by omega) en208 (fun i j hij hj h => Int.le_trans h (tg_mono hs (by omega) (by omega))) (fun i hi w' hb => ?_)
    have hO9 := hO2.below hb
    exact within1_any l c b1 b2 bt i w' (hO9.good hG) hl (by omega) (hO9.at (i := 1) rfl) (hO9.at (i := 0) rfl) (hO9.heapO ⟨hb2, hb1, trivial⟩ h3)
  refine SO.call rfl rfl rfl rfl (.callF rfl rfl en142) (hc) ?_
  rintro _ w3 ⟨r, rfl, hr, hlo, hhi, hb3⟩
  have hO3 := hO2.below hb3
  refine ⟨_, rfl, ?_⟩
  refine SO.as ?_
  refine SO.nn ?_
  refine SC.seq ?_
  have hin := inTab_search c l m r (.inr trivial) hs hm hr hlo hhi
  refine SC.drawO mixed hO3 (fun hO4 => ?_)
  refine SA.tm 0 rfl hO4 ?_
  refine SA.tk 1 rfl hO4 (fun v hv => .load rfl rfl ag219 (cell_of' (hv.at (i := 1) rfl) rfl)) ?_
  refine SA.tk 2 rfl hO4 (fun v hv => .lenA rfl rfl Tryz.underlying219) ?_
  refine SA.tk 3 rfl hO4 (fun v hv => .quo rfl rfl rfl (by omega) (by omega)) ?_
  refine SA.tk 4 rfl hO4 (fun v hv => .lss rfl rfl rfl) ?_
  refine SA.tm 5 rfl hO4 ?_
  refine SA.dec 16 rfl (fun g5 => ?_) (fun g5 => ?_)
  ·
   refine SA.tk 6 rfl hO4 (fun v hv => .load rfl rfl ag219 (cell_of' (hv.at (i := 1) rfl) rfl)) ?_
   refine SA.tm 7 rfl hO4 ?_
   refine SA.tk 8 rfl hO4 (fun v hv => .mul rfl rfl rfl (by omega)) ?_
   refine SA.tk 9 rfl hO4 (fun v hv => .indexAddr rfl rfl rfl Tryz.underlying219 sz21 (by omega) (by omega)) ?_
   refine SA.tk 10 rfl hO4 (fun v hv => .load rfl rfl ag21 (tab_cell (hv.heapO ⟨hb2, hb1, trivial⟩ h3) (by omega))) ?_
   refine SA.tk 11 rfl hO4 (fun v hv => .load rfl rfl ag21 (cell_of' (hv.at (i := 0) rfl) rfl)) ?_
   refine SA.tk 12 rfl hO4 (fun v hv => .leq rfl rfl rfl) ?_
   refine SA.tk 13 rfl hO4 (fun v hv => .pickT rfl rfl rfl) ?_
   refine SA.ta 14 rfl hO4 ?_
   refine SA.done (by kernel_rfl) ?_
   refine SQ.then_normal ?_
   refine SC.ret ?_
   refine SQ.out (.inl rfl) (res1 rfl rfl) ?_
   refine ⟨?_, hO4.toBelow ⟨hb2, hb1, trivial⟩⟩
   rw [hin]
   rw [show ((2 : Int) * (r : Int)).toNat = 2 * r by omega, decide_eq_true (show r < m by omega), Bool.true_and]
  ·
   refine SA.pq 6 rfl hO4 ?_
   refine SA.pq 7 rfl hO4 ?_
   refine SA.pq 8 rfl hO4 ?_
   refine SA.pq 9 rfl hO4 ?_
   refine SA.pq 10 rfl hO4 ?_
   refine SA.pq 11 rfl hO4 ?_
   refine SA.pq 12 rfl hO4 ?_
   refine SA.tk 13 rfl hO4 (fun v hv => .pickF rfl rfl rfl) ?_
   refine SA.ta 14 rfl hO4 ?_
   refine SA.done (by kernel_rfl) ?_
   refine SQ.then_normal ?_
   refine SC.ret ?_
   refine SQ.out (.inl rfl) (res1 rfl rfl) ?_
   refine ⟨?_, hO4.toBelow ⟨hb2, hb1, trivial⟩⟩
   rw [hin]
   rw [decide_eq_false (show ¬ r < m by omega), Bool.false_and]

set_option maxRecDepth 20000 in
set_option maxHeartbeats 400000 in
theorem class_any (c : Int) (w : World) (hG : Good w) :
    Calls Tryz.prog 161 #[.int .i32 c] w fun e w' => e = .returned (.int .i64 (cls c)) ∧ Below w.heap.size w w' := by
  have hO0 := Own.start hG
  refine enter Tryz.func161 rfl rfl rfl 0 ?_
  refine SC.sr ?_
  refine SO.as ?_
  refine SO.nn ?_
  refine SC.seq ?_
  refine SC.block ?_
  refine SC.sr ?_
  refine SO.mv ?_
  refine SO.v (.lss rfl rfl rfl) ?_
  refine SO.mv ?_
  refine SO.dec 6 rfl (fun g1 => ?_) (fun g1 => ?_)
  ·
   refine SO.ps ?_
   refine SO.ps ?_
   refine SO.v (.pickT rfl rfl rfl) ?_
   refine SO.mv ?_
   refine SO.ps ?_
   refine SO.ps ?_
   refine SO.ps ?_
   refine SO.ps ?_
   refine SO.ps ?_
   refine SO.ps ?_
   refine SO.v (.pickT rfl rfl rfl) ?_
   refine SO.as ?_
   refine SO.nn ?_
   refine SC.yes rfl ?_
   refine SC.sr ?_
   refine SO.as ?_
   refine SO.nn ?_
   refine SC.ret ?_
   refine SQ.block_ret ?_
   refine SQ.then_ret ?_
   refine SQ.out (.inl rfl) (res1 rfl rfl) ?_
   refine ⟨?_, hO0.toBelow trivial⟩
   unfold cls
   rw [if_pos (by omega)]
  ·
   refine SO.mv ?_
   refine SO.v (.gtr rfl rfl rfl) ?_
   refine SO.v (.pickF rfl rfl rfl) ?_
   refine SO.mv ?_
   refine SO.dec 10 rfl (fun g3 => ?_) (fun g3 => ?_)
   ·
    refine SO.ps ?_
    refine SO.ps ?_
    refine SO.ps ?_
    refine SO.ps ?_
    refine SO.ps ?_
    refine SO.ps ?_
    refine SO.v (.pickT rfl rfl rfl) ?_
    refine SO.as ?_
    refine SO.nn ?_
    refine SC.yes rfl ?_
    refine SC.sr ?_
    refine SO.as ?_
    refine SO.nn ?_
    refine SC.ret ?_
    refine SQ.block_ret ?_
    refine SQ.then_ret ?_
    refine SQ.out (.inl rfl) (res1 rfl rfl) ?_
    refine ⟨?_, hO0.toBelow trivial⟩
    unfold cls
    rw [if_pos (by omega)]
   ·
    refine SO.mv ?_
    refine SO.v (.geq rfl rfl rfl) ?_
    refine SO.mv ?_
    refine SO.dec 13 rfl (fun g5 => ?_) (fun g5 => ?_)
    ·
     refine SO.mv ?_
     refine SO.v (.leq rfl rfl rfl) ?_
     refine SO.v (.pickT rfl rfl rfl) ?_
     refine SO.v (.pickF rfl rfl rfl) ?_
     refine SO.as ?_
     refine SO.nn ?_
     refine SC.dec rfl (fun c6 => ?_) (fun c6 => ?_)
     ·
      refine SC.sr ?_
      refine SO.as ?_
      refine SO.nn ?_
      refine SC.ret ?_
      refine SQ.block_ret ?_
      refine SQ.then_ret ?_
      refine SQ.out (.inl rfl) (res1 rfl rfl) ?_
      refine ⟨?_, hO0.toBelow trivial⟩
      unfold cls
      rw [if_pos (by omega)]
     ·
      refine SC.sr ?_
      refine SO.mv ?_
      refine SO.v (.eql rfl rfl rfl) ?_
      refine SO.as ?_
      refine SO.nn ?_
      refine SC.dec rfl (fun c8 => ?_) (fun c8 => ?_)
      ·
       refine SC.sr ?_
       refine SO.as ?_
       refine SO.nn ?_
       refine SC.ret ?_
       refine SQ.block_ret ?_
       refine SQ.then_ret ?_
       refine SQ.out (.inl rfl) (res1 rfl rfl) ?_
       refine ⟨?_, hO0.toBelow trivial⟩
       unfold cls
       (exfalso; omega)
      ·
       refine SC.sr ?_
       refine SO.mv ?_
       refine SO.v (.lss rfl rfl rfl) ?_
       refine SO.mv ?_
       refine SO.dec 24 rfl (fun g10 => ?_) (fun g10 => ?_)
       ·
        refine SO.ps ?_
        refine SO.ps ?_
        refine SO.ps ?_
        refine SO.ps ?_
        refine SO.ps ?_
        refine SO.ps ?_
        refine SO.v (.pickT rfl rfl rfl) ?_
        refine SO.as ?_
        refine SO.nn ?_
        refine SC.yes rfl ?_
        refine SC.sr ?_
        refine SO.as ?_
        refine SO.nn ?_
        refine SC.ret ?_
        refine SQ.block_ret ?_
        refine SQ.then_ret ?_
        refine SQ.out (.inl rfl) (res1 rfl rfl) ?_
        refine ⟨?_, hO0.toBelow trivial⟩
        unfold cls
        (exfalso; omega)
       ·
        refine SO.mv ?_
        refine SO.v (.geq rfl rfl rfl) ?_
        refine SO.mv ?_
        refine SO.dec 27 rfl (fun g12 => ?_) (fun g12 => ?_)
        ·
         refine SO.mv ?_
         refine SO.v (.leq rfl rfl rfl) ?_
         refine SO.v (.pickT rfl rfl rfl) ?_
         refine SO.v (.pickF rfl rfl rfl) ?_
         refine SO.as ?_
         refine SO.nn ?_
         refine SC.dec rfl (fun c13 => ?_) (fun c13 => ?_)
         ·
          refine SC.sr ?_
          refine SO.as ?_
          refine SO.nn ?_
          refine SC.ret ?_
          refine SQ.block_ret ?_
          refine SQ.then_ret ?_
          refine SQ.out (.inl rfl) (res1 rfl rfl) ?_
          refine ⟨?_, hO0.toBelow trivial⟩
          unfold cls
          (exfalso; omega)
         ·
          refine SC.sr ?_
          refine SO.call rfl rfl rfl rfl (.callF rfl rfl en186) (marks_any _ (hO0.good hG)) ?_
          rintro _ w15 ⟨bt, rfl, hbt, hT, hb15⟩
          have hO15 := hO0.below hb15
          refine ⟨_, rfl, ?_⟩
          refine SO.mv ?_
          refine SO.call rfl rfl rfl rfl (.callF rfl rfl en185) (within_any marksL c 26 bt _ (hO15.good hG) (by decide) marks_ok rfl hT) ?_
          rintro _ w16 ⟨rfl, hb16⟩
          have hO16 := hO15.below hb16
          refine ⟨_, rfl, ?_⟩
          refine SO.as ?_
          refine SO.nn ?_
          refine SC.bool rfl (fun c17 => ?_) (fun c17 => ?_)
          ·
           refine SC.sr ?_
           refine SO.as ?_
           refine SO.nn ?_
           refine SC.ret ?_
           refine SQ.block_ret ?_
           refine SQ.then_ret ?_
           refine SQ.out (.inl rfl) (res1 rfl rfl) ?_
           refine ⟨?_, hO16.toBelow trivial⟩
           unfold cls
           rw [if_neg (by omega), if_neg (by omega), if_neg (by omega), if_pos (by assumption)]
          ·
           refine SC.sr ?_
           refine SO.call rfl rfl rfl rfl (.callF rfl rfl en187) (wides_any _ (hO16.good hG)) ?_
           rintro _ w19 ⟨bt, rfl, hbt, hT, hb19⟩
           have hO19 := hO16.below hb19
           refine ⟨_, rfl, ?_⟩
           refine SO.mv ?_
           refine SO.call rfl rfl rfl rfl (.callF rfl rfl en185) (within_any widesL c 27 bt _ (hO19.good hG) (by decide) wides_ok rfl hT) ?_
           rintro _ w20 ⟨rfl, hb20⟩
           have hO20 := hO19.below hb20
           refine ⟨_, rfl, ?_⟩
           refine SO.as ?_
           refine SO.nn ?_
           refine SC.bool rfl (fun c21 => ?_) (fun c21 => ?_)
           ·
            refine SC.sr ?_
            refine SO.as ?_
            refine SO.nn ?_
            refine SC.ret ?_
            refine SQ.block_ret ?_
            refine SQ.then_ret ?_
            refine SQ.out (.inl rfl) (res1 rfl rfl) ?_
            refine ⟨?_, hO20.toBelow trivial⟩
            unfold cls
            rw [if_neg (by omega), if_neg (by omega), if_neg (by omega), if_neg (by simp [*]), if_pos (by assumption)]
           ·
            refine SC.skip ?_
            refine SQ.block_normal ?_
            refine SQ.then_normal ?_
            refine SC.sr ?_
            refine SO.as ?_
            refine SO.nn ?_
            refine SC.ret ?_
            refine SQ.out (.inl rfl) (res1 rfl rfl) ?_
            refine ⟨?_, hO20.toBelow trivial⟩
            unfold cls
            rw [if_neg (by omega), if_neg (by omega), if_neg (by omega), if_neg (by simp [*]), if_neg (by simp [*])]
        ·
         refine SO.ps ?_
         refine SO.ps ?_
         refine SO.v (.pickF rfl rfl rfl) ?_
         refine SO.v (.pickF rfl rfl rfl) ?_
         refine SO.as ?_
         refine SO.nn ?_
         refine SC.no rfl ?_
         refine SC.sr ?_
         refine SO.call rfl rfl rfl rfl (.callF rfl rfl en186) (marks_any _ (hO0.good hG)) ?_
         rintro _ w24 ⟨bt, rfl, hbt, hT, hb24⟩
         have hO24 := hO0.below hb24
         refine ⟨_, rfl, ?_⟩
         refine SO.mv ?_
         refine SO.call rfl rfl rfl rfl (.callF rfl rfl en185) (within_any marksL c 26 bt _ (hO24.good hG) (by decide) marks_ok rfl hT) ?_
         rintro _ w25 ⟨rfl, hb25⟩
         have hO25 := hO24.below hb25
         refine ⟨_, rfl, ?_⟩
         refine SO.as ?_
         refine SO.nn ?_
         refine SC.bool rfl (fun c26 => ?_) (fun c26 => ?_)
         ·
          refine SC.sr ?_
          refine SO.as ?_
          refine SO.nn ?_
          refine SC.ret ?_
          refine SQ.block_ret ?_
          refine SQ.then_ret ?_
          refine SQ.out (.inl rfl) (res1 rfl rfl) ?_
          refine ⟨?_, hO25.toBelow trivial⟩
          unfold cls
          (exfalso; omega)
         ·
          refine SC.sr ?_
          refine SO.call rfl rfl rfl rfl (.callF rfl rfl en187) (wides_any _ (hO25.good hG)) ?_
          rintro _ w28 ⟨bt, rfl, hbt, hT, hb28⟩
          have hO28 := hO25.below hb28
          refine ⟨_, rfl, ?_⟩
          refine SO.mv ?_
          refine SO.call rfl rfl rfl rfl (.callF rfl rfl en185) (within_any widesL c 27 bt _ (hO28.good hG) (by decide) wides_ok rfl hT) ?_
          rintro _ w29 ⟨rfl, hb29⟩
          have hO29 := hO28.below hb29
          refine ⟨_, rfl, ?_⟩
          refine SO.as ?_
          refine SO.nn ?_
          refine SC.bool rfl (fun c30 => ?_) (fun c30 => ?_)
          ·
           refine SC.sr ?_
           refine SO.as ?_
           refine SO.nn ?_
           refine SC.ret ?_
           refine SQ.block_ret ?_
           refine SQ.then_ret ?_
           refine SQ.out (.inl rfl) (res1 rfl rfl) ?_
           refine ⟨?_, hO29.toBelow trivial⟩
           unfold cls
           (exfalso; omega)
          ·
           refine SC.skip ?_
           refine SQ.block_normal ?_
           refine SQ.then_normal ?_
           refine SC.sr ?_
           refine SO.as ?_
           refine SO.nn ?_
           refine SC.ret ?_
           refine SQ.out (.inl rfl) (res1 rfl rfl) ?_
           refine ⟨?_, hO29.toBelow trivial⟩
           unfold cls
           (exfalso; omega)
    ·
     refine SO.ps ?_
     refine SO.ps ?_
     refine SO.v (.pickF rfl rfl rfl) ?_
     refine SO.v (.pickF rfl rfl rfl) ?_
     refine SO.as ?_
     refine SO.nn ?_
     refine SC.no rfl ?_
     refine SC.sr ?_
     refine SO.mv ?_
     refine SO.v (.eql rfl rfl rfl) ?_
     refine SO.as ?_
     refine SO.nn ?_
     refine SC.dec rfl (fun c33 => ?_) (fun c33 => ?_)
     ·
      refine SC.sr ?_
      refine SO.as ?_
      refine SO.nn ?_
      refine SC.ret ?_
      refine SQ.block_ret ?_
      refine SQ.then_ret ?_
      refine SQ.out (.inl rfl) (res1 rfl rfl) ?_
      refine ⟨?_, hO0.toBelow trivial⟩
      unfold cls
      rw [if_neg (by omega), if_pos (by omega)]
     ·
      refine SC.sr ?_
      refine SO.mv ?_
      refine SO.v (.lss rfl rfl rfl) ?_
      refine SO.mv ?_
      refine SO.dec 24 rfl (fun g35 => ?_) (fun g35 => ?_)
      ·
       refine SO.ps ?_
       refine SO.ps ?_
       refine SO.ps ?_
       refine SO.ps ?_
       refine SO.ps ?_
       refine SO.ps ?_
       refine SO.v (.pickT rfl rfl rfl) ?_
       refine SO.as ?_
       refine SO.nn ?_
       refine SC.yes rfl ?_
       refine SC.sr ?_
       refine SO.as ?_
       refine SO.nn ?_
       refine SC.ret ?_
       refine SQ.block_ret ?_
       refine SQ.then_ret ?_
       refine SQ.out (.inl rfl) (res1 rfl rfl) ?_
       refine ⟨?_, hO0.toBelow trivial⟩
       unfold cls
       rw [if_neg (by omega), if_neg (by omega), if_pos (by omega)]
      ·
       refine SO.mv ?_
       refine SO.v (.geq rfl rfl rfl) ?_
       refine SO.mv ?_
       refine SO.dec 27 rfl (fun g37 => ?_) (fun g37 => ?_)
       ·
        refine SO.mv ?_
        refine SO.v (.leq rfl rfl rfl) ?_
        refine SO.v (.pickT rfl rfl rfl) ?_
        refine SO.v (.pickF rfl rfl rfl) ?_
        refine SO.as ?_
        refine SO.nn ?_
        refine SC.dec rfl (fun c38 => ?_) (fun c38 => ?_)
        ·
         refine SC.sr ?_
         refine SO.as ?_
         refine SO.nn ?_
         refine SC.ret ?_
         refine SQ.block_ret ?_
         refine SQ.then_ret ?_
         refine SQ.out (.inl rfl) (res1 rfl rfl) ?_
         refine ⟨?_, hO0.toBelow trivial⟩
         unfold cls
         rw [if_neg (by omega), if_neg (by omega), if_pos (by omega)]
        ·
         refine SC.sr ?_
         refine SO.call rfl rfl rfl rfl (.callF rfl rfl en186) (marks_any _ (hO0.good hG)) ?_
         rintro _ w40 ⟨bt, rfl, hbt, hT, hb40⟩
         have hO40 := hO0.below hb40
         refine ⟨_, rfl, ?_⟩
         refine SO.mv ?_
         refine SO.call rfl rfl rfl rfl (.callF rfl rfl en185) (within_any marksL c 26 bt _ (hO40.good hG) (by decide) marks_ok rfl hT) ?_
         rintro _ w41 ⟨rfl, hb41⟩
         have hO41 := hO40.below hb41
         refine ⟨_, rfl, ?_⟩
         refine SO.as ?_
         refine SO.nn ?_
         refine SC.bool rfl (fun c42 => ?_) (fun c42 => ?_)
         ·
          refine SC.sr ?_
          refine SO.as ?_
          refine SO.nn ?_
          refine SC.ret ?_
          refine SQ.block_ret ?_
          refine SQ.then_ret ?_
          refine SQ.out (.inl rfl) (res1 rfl rfl) ?_
          refine ⟨?_, hO41.toBelow trivial⟩
          unfold cls
          rw [if_neg (by omega), if_neg (by omega), if_neg (by omega), if_pos (by assumption)]
         ·
          refine SC.sr ?_
          refine SO.call rfl rfl rfl rfl (.callF rfl rfl en187) (wides_any _ (hO41.good hG)) ?_
          rintro _ w44 ⟨bt, rfl, hbt, hT, hb44⟩
          have hO44 := hO41.below hb44
          refine ⟨_, rfl, ?_⟩
          refine SO.mv ?_
          refine SO.call rfl rfl rfl rfl (.callF rfl rfl en185) (within_any widesL c 27 bt _ (hO44.good hG) (by decide) wides_ok rfl hT) ?_
          rintro _ w45 ⟨rfl, hb45⟩
          have hO45 := hO44.below hb45
          refine ⟨_, rfl, ?_⟩
          refine SO.as ?_
          refine SO.nn ?_
          refine SC.bool rfl (fun c46 => ?_) (fun c46 => ?_)
          ·
           refine SC.sr ?_
           refine SO.as ?_
           refine SO.nn ?_
           refine SC.ret ?_
           refine SQ.block_ret ?_
           refine SQ.then_ret ?_
           refine SQ.out (.inl rfl) (res1 rfl rfl) ?_
           refine ⟨?_, hO45.toBelow trivial⟩
           unfold cls
           rw [if_neg (by omega), if_neg (by omega), if_neg (by omega), if_neg (by simp [*]), if_pos (by assumption)]
          ·
           refine SC.skip ?_
           refine SQ.block_normal ?_
           refine SQ.then_normal ?_
           refine SC.sr ?_
           refine SO.as ?_
           refine SO.nn ?_
           refine SC.ret ?_
           refine SQ.out (.inl rfl) (res1 rfl rfl) ?_
           refine ⟨?_, hO45.toBelow trivial⟩
           unfold cls
           rw [if_neg (by omega), if_neg (by omega), if_neg (by omega), if_neg (by simp [*]), if_neg (by simp [*])]
       ·
        refine SO.ps ?_
        refine SO.ps ?_
        refine SO.v (.pickF rfl rfl rfl) ?_
        refine SO.v (.pickF rfl rfl rfl) ?_
        refine SO.as ?_
        refine SO.nn ?_
        refine SC.no rfl ?_
        refine SC.sr ?_
        refine SO.call rfl rfl rfl rfl (.callF rfl rfl en186) (marks_any _ (hO0.good hG)) ?_
        rintro _ w49 ⟨bt, rfl, hbt, hT, hb49⟩
        have hO49 := hO0.below hb49
        refine ⟨_, rfl, ?_⟩
        refine SO.mv ?_
        refine SO.call rfl rfl rfl rfl (.callF rfl rfl en185) (within_any marksL c 26 bt _ (hO49.good hG) (by decide) marks_ok rfl hT) ?_
        rintro _ w50 ⟨rfl, hb50⟩
        have hO50 := hO49.below hb50
        refine ⟨_, rfl, ?_⟩
        refine SO.as ?_
        refine SO.nn ?_
        refine SC.bool rfl (fun c51 => ?_) (fun c51 => ?_)
        ·
         refine SC.sr ?_
         refine SO.as ?_
         refine SO.nn ?_
         refine SC.ret ?_
         refine SQ.block_ret ?_
         refine SQ.then_ret ?_
         refine SQ.out (.inl rfl) (res1 rfl rfl) ?_
         refine ⟨?_, hO50.toBelow trivial⟩
         unfold cls
         rw [if_neg (by omega), if_neg (by omega), if_neg (by omega), if_pos (by assumption)]
        ·
         refine SC.sr ?_
         refine SO.call rfl rfl rfl rfl (.callF rfl rfl en187) (wides_any _ (hO50.good hG)) ?_
         rintro _ w53 ⟨bt, rfl, hbt, hT, hb53⟩
         have hO53 := hO50.below hb53
         refine ⟨_, rfl, ?_⟩
         refine SO.mv ?_
         refine SO.call rfl rfl rfl rfl (.callF rfl rfl en185) (within_any widesL c 27 bt _ (hO53.good hG) (by decide) wides_ok rfl hT) ?_
         rintro _ w54 ⟨rfl, hb54⟩
         have hO54 := hO53.below hb54
         refine ⟨_, rfl, ?_⟩
         refine SO.as ?_
         refine SO.nn ?_
         refine SC.bool rfl (fun c55 => ?_) (fun c55 => ?_)
         ·
          refine SC.sr ?_
          refine SO.as ?_
          refine SO.nn ?_
          refine SC.ret ?_
          refine SQ.block_ret ?_
          refine SQ.then_ret ?_
          refine SQ.out (.inl rfl) (res1 rfl rfl) ?_
          refine ⟨?_, hO54.toBelow trivial⟩
          unfold cls
          rw [if_neg (by omega), if_neg (by omega), if_neg (by omega), if_neg (by simp [*]), if_pos (by assumption)]
         ·
          refine SC.skip ?_
          refine SQ.block_normal ?_
          refine SQ.then_normal ?_
          refine SC.sr ?_
          refine SO.as ?_
          refine SO.nn ?_
          refine SC.ret ?_
          refine SQ.out (.inl rfl) (res1 rfl rfl) ?_
          refine ⟨?_, hO54.toBelow trivial⟩
          unfold cls
          rw [if_neg (by omega), if_neg (by omega), if_neg (by omega), if_neg (by simp [*]), if_neg (by simp [*])]

set_option maxRecDepth 20000 in
set_option maxHeartbeats 400000 in
theorem ccells_any (c : Int) (w : World) (hG : Good w) :
    Calls Tryz.prog 162 #[.int .i32 c] w fun e w' => e = .returned (.int .i64 (cellsOf c)) ∧ Below w.heap.size w w' := by
  have hO0 := Own.start hG
  refine enter Tryz.func162 rfl rfl rfl 0 ?_
  refine SC.sr ?_
  refine SO.as ?_
  refine SO.nn ?_
  refine SC.seq ?_
  refine SC.sr ?_
  refine SO.mv ?_
  refine SO.call rfl rfl rfl rfl (.callF rfl rfl en161) (class_any _ _ (hO0.good hG)) ?_
  rintro _ w1 ⟨rfl, hb1⟩
  have hO1 := hO0.below hb1
  refine ⟨_, rfl, ?_⟩
  refine SO.nn ?_
  refine SC.block ?_
  refine SC.sr ?_
  refine SO.v (.eql rfl rfl rfl) ?_
  refine SO.as ?_
  refine SO.nn ?_
  refine SC.dec rfl (fun c2 => ?_) (fun c2 => ?_)
  ·
   refine SC.sr ?_
   refine SO.as ?_
   refine SO.nn ?_
   refine SC.ret ?_
   refine SQ.block_ret ?_
   refine SQ.then_ret ?_
   refine SQ.out (.inl rfl) (res1 rfl rfl) ?_
   refine ⟨?_, hO1.toBelow trivial⟩
   unfold cellsOf
   rw [if_pos (by omega)]
  ·
   refine SC.sr ?_
   refine SO.v (.eql rfl rfl rfl) ?_
   refine SO.as ?_
   refine SO.nn ?_
   refine SC.dec rfl (fun c4 => ?_) (fun c4 => ?_)
   ·
    refine SC.sr ?_
    refine SO.as ?_
    refine SO.nn ?_
    refine SC.ret ?_
    refine SQ.block_ret ?_
    refine SQ.then_ret ?_
    refine SQ.out (.inl rfl) (res1 rfl rfl) ?_
    refine ⟨?_, hO1.toBelow trivial⟩
    unfold cellsOf
    rw [if_neg (by omega), if_pos (by omega)]
   ·
    refine SC.sr ?_
    refine SO.v (.eql rfl rfl rfl) ?_
    refine SO.as ?_
    refine SO.nn ?_
    refine SC.dec rfl (fun c6 => ?_) (fun c6 => ?_)
    ·
     refine SC.sr ?_
     refine SO.mv ?_
     refine SO.v (.leq rfl rfl rfl) ?_
     refine SO.nn ?_
     refine SC.dec rfl (fun c7 => ?_) (fun c7 => ?_)
     ·
      refine SC.sr ?_
      refine SO.as ?_
      refine SO.nn ?_
      refine SC.ret ?_
      refine SQ.block_ret ?_
      refine SQ.then_ret ?_
      refine SQ.out (.inl rfl) (res1 rfl rfl) ?_
      refine ⟨?_, hO1.toBelow trivial⟩
      unfold cellsOf
      rw [if_neg (by omega), if_neg (by omega), if_pos (by omega)]
     ·
      refine SC.skip ?_
      refine SQ.block_normal ?_
      refine SQ.then_normal ?_
      refine SC.sr ?_
      refine SO.as ?_
      refine SO.nn ?_
      refine SC.ret ?_
      refine SQ.out (.inl rfl) (res1 rfl rfl) ?_
      refine ⟨?_, hO1.toBelow trivial⟩
      unfold cellsOf
      rw [if_neg (by omega), if_neg (by omega), if_neg (by omega)]
    ·
     refine SC.skip ?_
     refine SQ.block_normal ?_
     refine SQ.then_normal ?_
     refine SC.sr ?_
     refine SO.as ?_
     refine SO.nn ?_
     refine SC.ret ?_
     refine SQ.out (.inl rfl) (res1 rfl rfl) ?_
     refine ⟨?_, hO1.toBelow trivial⟩
     unfold cellsOf
     rw [if_neg (by omega), if_neg (by omega), if_neg (by omega)]

/-- Does no boundary lie between two units? -/
def glue (u v : Int) : Prop := (u = 13 ∧ v = 10) ∨ (cls v = 3 ∧ cls u ≠ 1 ∧ cls u ≠ 2)
instance (u v : Int) : Decidable (glue u v) := by unfold glue; infer_instance

set_option maxRecDepth 20000 in
set_option maxHeartbeats 400000 in
theorem glued_any (u v : Int) (w : World) (hG : Good w) :
    Calls Tryz.prog 133 #[.int .i32 u, .int .i32 v] w fun e w' => e = .returned (.bool (decide (glue u v))) ∧ Below w.heap.size w w' := by
  have hO0 := Own.start hG
  refine enter Tryz.func133 rfl rfl rfl 0 ?_
  refine SC.sr ?_
  refine SO.as ?_
  refine SO.nn ?_
  refine SC.seq ?_
  refine SC.sr ?_
  refine SO.mv ?_
  refine SO.v (.eql rfl rfl rfl) ?_
  refine SO.mv ?_
  refine SO.dec 8 rfl (fun g1 => ?_) (fun g1 => ?_)
  ·
   refine SO.mv ?_
   refine SO.v (.eql rfl rfl rfl) ?_
   refine SO.v (.pickT rfl rfl rfl) ?_
   refine SO.nn ?_
   refine SC.dec rfl (fun c2 => ?_) (fun c2 => ?_)
   ·
    refine SC.sr ?_
    refine SO.as ?_
    refine SO.nn ?_
    refine SC.ret ?_
    refine SQ.then_ret ?_
    refine SQ.out (.inl rfl) (res1 rfl rfl) ?_
    refine ⟨?_, hO0.toBelow trivial⟩
    (rw [decide_eq_true (show glue u v by unfold glue; omega)])
   ·
    refine SC.skip ?_
    refine SQ.then_normal ?_
    refine SC.sr ?_
    refine SO.mv ?_
    refine SO.call rfl rfl rfl rfl (.callF rfl rfl en161) (class_any _ _ (hO0.good hG)) ?_
    rintro _ w4 ⟨rfl, hb4⟩
    have hO4 := hO0.below hb4
    refine ⟨_, rfl, ?_⟩
    refine SO.as ?_
    refine SO.nn ?_
    refine SC.sr ?_
    refine SO.mv ?_
    refine SO.call rfl rfl rfl rfl (.callF rfl rfl en161) (class_any _ _ (hO4.good hG)) ?_
    rintro _ w5 ⟨rfl, hb5⟩
    have hO5 := hO4.below hb5
    refine ⟨_, rfl, ?_⟩
    refine SO.v (.eql rfl rfl rfl) ?_
    refine SO.mv ?_
    refine SO.dec 17 rfl (fun g6 => ?_) (fun g6 => ?_)
    ·
     refine SO.mv ?_
     refine SO.v (.neq rfl rfl rfl) ?_
     refine SO.v (.pickT rfl rfl rfl) ?_
     refine SO.mv ?_
     refine SO.dec 21 rfl (fun g7 => ?_) (fun g7 => ?_)
     ·
      refine SO.mv ?_
      refine SO.v (.neq rfl rfl rfl) ?_
      refine SO.v (.pickT rfl rfl rfl) ?_
      refine SO.as ?_
      refine SO.nn ?_
      refine SC.ret ?_
      refine SQ.out (.inl rfl) (res1 rfl rfl) ?_
      refine ⟨?_, hO5.toBelow trivial⟩
      (congr 2; exact decide_eq_decide.2 (by unfold glue; omega))
     ·
      refine SO.ps ?_
      refine SO.ps ?_
      refine SO.v (.pickF rfl rfl rfl) ?_
      refine SO.as ?_
      refine SO.nn ?_
      refine SC.ret ?_
      refine SQ.out (.inl rfl) (res1 rfl rfl) ?_
      refine ⟨?_, hO5.toBelow trivial⟩
      (rw [decide_eq_false (show ¬ glue u v by unfold glue; omega)])
    ·
     refine SO.ps ?_
     refine SO.ps ?_
     refine SO.v (.pickF rfl rfl rfl) ?_
     refine SO.mv ?_
     refine SO.ps ?_
     refine SO.ps ?_
     refine SO.v (.pickF rfl rfl rfl) ?_
     refine SO.as ?_
     refine SO.nn ?_
     refine SC.ret ?_
     refine SQ.out (.inl rfl) (res1 rfl rfl) ?_
     refine ⟨?_, hO5.toBelow trivial⟩
     (rw [decide_eq_false (show ¬ glue u v by unfold glue; omega)])
  ·
   refine SO.ps ?_
   refine SO.ps ?_
   refine SO.v (.pickF rfl rfl rfl) ?_
   refine SO.nn ?_
   refine SC.no rfl ?_
   refine SC.skip ?_
   refine SQ.then_normal ?_
   refine SC.sr ?_
   refine SO.mv ?_
   refine SO.call rfl rfl rfl rfl (.callF rfl rfl en161) (class_any _ _ (hO0.good hG)) ?_
   rintro _ w11 ⟨rfl, hb11⟩
   have hO11 := hO0.below hb11
   refine ⟨_, rfl, ?_⟩
   refine SO.as ?_
   refine SO.nn ?_
   refine SC.sr ?_
   refine SO.mv ?_
   refine SO.call rfl rfl rfl rfl (.callF rfl rfl en161) (class_any _ _ (hO11.good hG)) ?_
   rintro _ w12 ⟨rfl, hb12⟩
   have hO12 := hO11.below hb12
   refine ⟨_, rfl, ?_⟩
   refine SO.v (.eql rfl rfl rfl) ?_
   refine SO.mv ?_
   refine SO.dec 17 rfl (fun g13 => ?_) (fun g13 => ?_)
   ·
    refine SO.mv ?_
    refine SO.v (.neq rfl rfl rfl) ?_
    refine SO.v (.pickT rfl rfl rfl) ?_
    refine SO.mv ?_
    refine SO.dec 21 rfl (fun g14 => ?_) (fun g14 => ?_)
    ·
     refine SO.mv ?_
     refine SO.v (.neq rfl rfl rfl) ?_
     refine SO.v (.pickT rfl rfl rfl) ?_
     refine SO.as ?_
     refine SO.nn ?_
     refine SC.ret ?_
     refine SQ.out (.inl rfl) (res1 rfl rfl) ?_
     refine ⟨?_, hO12.toBelow trivial⟩
     (congr 2; exact decide_eq_decide.2 (by unfold glue; omega))
    ·
     refine SO.ps ?_
     refine SO.ps ?_
     refine SO.v (.pickF rfl rfl rfl) ?_
     refine SO.as ?_
     refine SO.nn ?_
     refine SC.ret ?_
     refine SQ.out (.inl rfl) (res1 rfl rfl) ?_
     refine ⟨?_, hO12.toBelow trivial⟩
     (rw [decide_eq_false (show ¬ glue u v by unfold glue; omega)])
   ·
    refine SO.ps ?_
    refine SO.ps ?_
    refine SO.v (.pickF rfl rfl rfl) ?_
    refine SO.mv ?_
    refine SO.ps ?_
    refine SO.ps ?_
    refine SO.v (.pickF rfl rfl rfl) ?_
    refine SO.as ?_
    refine SO.nn ?_
    refine SC.ret ?_
    refine SQ.out (.inl rfl) (res1 rfl rfl) ?_
    refine ⟨?_, hO12.toBelow trivial⟩
    (rw [decide_eq_false (show ¬ glue u v by unfold glue; omega)])

end Go.Proofs.YtclgplkkajfenaaGreatDoor
/- Clusters, plainly. -/
namespace Go.Proofs.YtclgplkkajfenaaGreatDoor
open Go
theorem uEnd_spec {l : Bs} {i : Nat} (hi : i < l.length) : i < uEnd l i ∧ uEnd l i ≤ l.length ∧ UB l (uEnd l i) ∧ ∀ t, UB l t → i < t → uEnd l i ≤ t := by
  obtain ⟨h1, h2, h3⟩ := uDown_spec l i (Nat.le_of_lt hi)
  have hd : uDown l i < l.length := by omega
  have e : uEnd l i = uDown l i + usz (l.drop (uDown l i)) := by unfold uEnd; rw [if_pos hd]
  rw [e]
  exact ⟨h3 hd, usz_drop_le hd, h1.next hd, fun t ht hit => h1.gap ht (by omega)⟩
theorem uLast_spec {l : Bs} {i : Nat} (h0 : 0 < i) (hi : i ≤ l.length) : uDown l (i - 1) < i ∧ UB l (uDown l (i - 1)) ∧ ∀ t, UB l t → t < i → t ≤ uDown l (i - 1) := by
  obtain ⟨h1, h2, h3⟩ := uDown_spec l (i - 1) (by omega)
  refine ⟨by omega, h1, fun t ht hti => ?_⟩
  by_cases h : t ≤ uDown l (i - 1)
  · exact h
  · have := h1.gap ht (by omega)
    have := h3 (by omega)
    omega
theorem uNext_nat {l : Bs} {i : Nat} (hi : i ≤ l.length) : uNext l (i : Int) = uEnd l i := by
  unfold uNext; rw [if_neg (by omega)]; congr 1; omega
theorem uPrev_nat {l : Bs} {i : Nat} (h0 : 0 < i) (hi : i ≤ l.length) : uPrev l (i : Int) = uDown l (i - 1) := by
  unfold uPrev; rw [if_neg (by omega)]; congr 1; omega
/-- Is there a boundary of clusters at i? -/
def CB (l : Bs) (i : Nat) : Prop := i = 0 ∨ i = l.length ∨ (i < l.length ∧ uDown l i = i ∧ ¬ glue (uch (l.drop (uDown l (i - 1)))) (uch (l.drop i)))
instance (l : Bs) (i : Nat) : Decidable (CB l i) := by unfold CB; infer_instance
theorem CB.le {l : Bs} {i : Nat} (h : CB l i) : i ≤ l.length := by rcases h with rfl | rfl | ⟨h, _⟩ <;> omega
theorem uDown_len (l : Bs) : uDown l l.length = l.length := by
  obtain ⟨h1, h2, h3⟩ := uDown_spec l l.length (Nat.le_refl _)
  by_cases h : uDown l l.length < l.length
  · have := h3 h; have := usz_drop_le h; omega
  · omega
theorem UB_len (l : Bs) : UB l l.length := (UB_iff_uDown (Nat.le_refl _)).2 (uDown_len l)
theorem CB.ub {l : Bs} {i : Nat} (h : CB l i) : UB l i := by
  rcases h with rfl | rfl | ⟨h, h2, _⟩
  · exact UB.zero l
  · exact UB_len l
  · exact (UB_iff_uDown (Nat.le_of_lt h)).2 h2
theorem CB.zero (l : Bs) : CB l 0 := .inl rfl
theorem CB.len (l : Bs) : CB l l.length := .inr (.inl rfl)
theorem CB_cond {l : Bs} {i : Nat} (h0 : 0 < i) (hi : i < l.length) (hb : uBd l (i : Int)) :
    CB l i ↔ ¬ glue (atCh l (uPrev l (i : Int))) (atCh l (i : Int)) := by
  have e1 : uDown l i = i := by have := hb.2.2; simpa using this
  have h1 : uAt l (i : Int) := ⟨hb, by omega⟩
  obtain ⟨g1, g2, g3⟩ := uLast_spec h0 (Nat.le_of_lt hi)
  have h2 : uAt l ((uDown l (i - 1) : Nat) : Int) := ⟨⟨by omega, by omega, by simpa using uDown_self g2⟩, by omega⟩
  rw [uPrev_nat h0 (Nat.le_of_lt hi)]
  unfold atCh; rw [if_pos h1, if_pos h2]
  simp only [Int.toNat_natCast]
  unfold CB
  constructor
  · rintro (rfl | rfl | ⟨_, _, h⟩)
    · omega
    · omega
    · exact h
  · exact fun h => .inr (.inr ⟨hi, e1, h⟩)
def cN (l : Bs) : Nat → Nat → Nat
  | 0, _ => l.length
  | f + 1, i => if CB l (i + 1) then i + 1 else cN l f (i + 1)
/-- The least boundary behind i, or the length. -/
def cNext (l : Bs) (i : Nat) : Nat := cN l (l.length - i) i
theorem cN_eq {l : Bs} {n : Nat} (hn : n ≤ l.length) (hb : CB l n) : ∀ f i, i < n → n ≤ i + f → (∀ t, i < t → t < n → ¬ CB l t) → cN l f i = n
  | 0, i, h1, h2, _ => by omega
  | f + 1, i, h1, h2, h3 => by
    rw [cN]
    by_cases e : i + 1 = n
    · subst e; rw [if_pos hb]
    · rw [if_neg (h3 _ (by omega) (by omega))]
      exact cN_eq hn hb f (i + 1) (by omega) (by omega) (fun t ht => h3 t (by omega))
theorem cNext_eq {l : Bs} {i n : Nat} (h : i < n) (hb : CB l n) (hno : ∀ t, i < t → t < n → ¬ CB l t) : cNext l i = n :=
  cN_eq hb.le hb _ i h (by have := hb.le; omega) hno
theorem cN_spec {l : Bs} : ∀ f i, i + f = l.length → 0 < f → i < cN l f i ∧ cN l f i ≤ l.length ∧ CB l (cN l f i) ∧ ∀ t, i < t → t < cN l f i → ¬ CB l t
  | 0, i, _, h => by omega
  | f + 1, i, h, _ => by
    rw [cN]
    by_cases e : CB l (i + 1)
    · rw [if_pos e]; exact ⟨by omega, by omega, e, fun t _ _ => by omega⟩
    · rw [if_neg e]
      by_cases hf : f = 0
      · subst hf; exact absurd (show CB l (i + 1) by rw [show i + 1 = l.length by omega]; exact .len l) e
      · obtain ⟨h1, h2, h3, h4⟩ := cN_spec (l := l) f (i + 1) (by omega) (by omega)
        refine ⟨by omega, h2, h3, fun t ht ht' => ?_⟩
        by_cases e' : t = i + 1
        · subst e'; exact e
        · exact h4 t (by omega) ht'
theorem cNext_spec {l : Bs} {i : Nat} (hi : i < l.length) : i < cNext l i ∧ cNext l i ≤ l.length ∧ CB l (cNext l i) ∧ ∀ t, i < t → t < cNext l i → ¬ CB l t :=
  cN_spec _ i (by omega) (by omega)
theorem cNext_out {l : Bs} {i : Nat} (hi : l.length ≤ i) : cNext l i = l.length := by
  unfold cNext; rw [show l.length - i = 0 by omega]; rfl
/-- The greatest boundary ahead of i, or nought. -/
def cPrev (l : Bs) : Nat → Nat
  | 0 => 0
  | i + 1 => if CB l i then i else cPrev l i
theorem cPrev_eq {l : Bs} {n : Nat} (hb : CB l n) : ∀ i, n < i → (∀ t, n < t → t < i → ¬ CB l t) → cPrev l i = n
  | 0, h, _ => by omega
  | i + 1, h, hno => by
    rw [cPrev]
    by_cases e : n = i
    · subst e; rw [if_pos hb]
    · rw [if_neg (hno i (by omega) (by omega))]
      exact cPrev_eq hb i (by omega) fun t ht ht' => hno t ht (by omega)
theorem cPrev_spec {l : Bs} : ∀ i, 0 < i → cPrev l i < i ∧ CB l (cPrev l i) ∧ ∀ t, cPrev l i < t → t < i → ¬ CB l t
  | 0, h => by omega
  | i + 1, _ => by
    rw [cPrev]
    by_cases e : CB l i
    · rw [if_pos e]; exact ⟨by omega, e, fun t _ _ => by omega⟩
    · rw [if_neg e]
      by_cases hi : i = 0
      · subst hi; exact absurd (CB.zero l) e
      · obtain ⟨h1, h2, h3⟩ := cPrev_spec (l := l) i (by omega)
        exact ⟨by omega, h2, fun t ht ht' => by
          by_cases e' : t = i
          · subst e'; exact e
          · exact h3 t ht (by omega)⟩
/-- The answers for whatever number. -/
def cBd (l : Bs) (i : Int) : Prop := 0 ≤ i ∧ CB l i.toNat
instance (l : Bs) (i : Int) : Decidable (cBd l i) := by unfold cBd; infer_instance
def cNextI (l : Bs) (i : Int) : Nat := if i < 0 then 0 else cNext l i.toNat
def cPrevI (l : Bs) (i : Int) : Nat := if i > l.length then l.length else cPrev l i.toNat
def cSnapI (l : Bs) (i : Int) : Nat := if i < 0 then 0 else if CB l i.toNat then i.toNat else cNext l i.toNat
/-- Is the cluster at i CR LF? -/
def crlf (l : Bs) (i : Nat) : Prop := uch (l.drop i) = 13 ∧ by' l (i + 1) = 10
instance (l : Bs) (i : Nat) : Decidable (crlf l i) := by unfold crlf; infer_instance
/-- The class and the cells of the cluster that begins at i. -/
def clCls (l : Bs) (i : Nat) : Int := if crlf l i then 1 else cls (uch (l.drop i))
def clCells (l : Bs) (i : Nat) : Int := if crlf l i then 0 else cellsOf (uch (l.drop i))
/-- The clusters from i on: where they begin and end. -/
def clF (l : Bs) : Nat → Nat → List (Nat × Nat)
  | 0, _ => []
  | f + 1, i => if i < l.length then (i, cNext l i) :: clF l f (cNext l i) else []
def clFrom (l : Bs) (i : Nat) : List (Nat × Nat) := clF l (l.length - i) i
def clusters (l : Bs) : List (Nat × Nat) := clFrom l 0
theorem clF_more {l : Bs} : ∀ f g i, l.length ≤ i + f → l.length ≤ i + g → clF l f i = clF l g i
  | 0, 0, _, _, _ => rfl
  | 0, g + 1, i, h, _ => by rw [clF, clF, if_neg (by omega)]
  | f + 1, 0, i, _, h => by rw [clF, clF, if_neg (by omega)]
  | f + 1, g + 1, i, h1, h2 => by
    rw [clF, clF]
    by_cases h : i < l.length
    · rw [if_pos h, if_pos h, clF_more f g _ (by have := (cNext_spec h).1; omega) (by have := (cNext_spec h).1; omega)]
    · rw [if_neg h, if_neg h]
theorem clFrom_cons {l : Bs} {i : Nat} (h : i < l.length) : clFrom l i = (i, cNext l i) :: clFrom l (cNext l i) := by
  unfold clFrom
  rw [show l.length - i = (l.length - i - 1) + 1 by omega, clF, if_pos h]
  rw [clF_more (l.length - i - 1) (l.length - cNext l i) _ (by have := (cNext_spec h).1; omega) (by omega)]
theorem clFrom_nil {l : Bs} {i : Nat} (h : l.length ≤ i) : clFrom l i = [] := by
  unfold clFrom; rw [show l.length - i = 0 by omega]; rfl
end Go.Proofs.YtclgplkkajfenaaGreatDoor
/- cluster.Boundary, Next, Prev, Snap. -/
namespace Go.Proofs.YtclgplkkajfenaaGreatDoor
open Go Go.RowKit Ow
theorem cBd_edge {l : Bs} {i : Int} (h : i ≤ 0 ∨ (l.length : Int) ≤ i) : decide (cBd l i) = decide (i = 0 ∨ i = l.length) := by
  refine decide_eq_decide.2 ⟨fun ⟨h1, h2⟩ => ?_, fun h' => ?_⟩
  · rcases h2 with h2 | h2 | ⟨h2, _⟩ <;> omega
  · rcases h' with rfl | rfl
    · exact ⟨by omega, .zero l⟩
    · exact ⟨by omega, by simpa using CB.len l⟩
theorem cBd_no {l : Bs} {i : Int} (h : ¬ uBd l i) : ¬ cBd l i := fun ⟨h1, h2⟩ => h ⟨h1, by have := h2.le; omega, uDown_self h2.ub⟩
theorem cBd_nat {l : Bs} {i : Nat} : cBd l (i : Int) ↔ CB l i := ⟨fun h => by simpa using h.2, fun h => ⟨by omega, by simpa using h⟩⟩

set_option maxRecDepth 20000 in
set_option maxHeartbeats 400000 in
theorem cboundary_any (s : ByteArray) (i : Int) (w : World) (hG : Good w) (hz : s.size ≤ 4611686018427387904) :
    Calls Tryz.prog 66 #[.string s, .int .i64 i] w fun e w' => e = .returned (.bool (decide (cBd (bl s) i))) ∧ Below w.heap.size w w' := by
  have hO0 := Own.start hG
  refine enter Tryz.func66 rfl rfl rfl 0 ?_
  refine SC.sr ?_
  refine SO.as ?_
  refine SO.nn ?_
  refine SC.seq ?_
  refine SC.sr ?_
  refine SO.mv ?_
  refine SO.v (.leq rfl rfl rfl) ?_
  refine SO.mv ?_
  refine SO.dec 11 rfl (fun g1 => ?_) (fun g1 => ?_)
  ·
   refine SO.ps ?_
   refine SO.ps ?_
   refine SO.ps ?_
   refine SO.ps ?_
   refine SO.v (.pickT rfl rfl rfl) ?_
   refine SO.nn ?_
   refine SC.yes rfl ?_
   refine SC.sr ?_
   refine SO.mv ?_
   refine SO.v (.eql rfl rfl rfl) ?_
   refine SO.mv ?_
   refine SO.dec 19 rfl (fun g2 => ?_) (fun g2 => ?_)
   ·
    refine SO.ps ?_
    refine SO.ps ?_
    refine SO.ps ?_
    refine SO.ps ?_
    refine SO.v (.pickT rfl rfl rfl) ?_
    refine SO.as ?_
    refine SO.nn ?_
    refine SC.ret ?_
    refine SQ.then_ret ?_
    refine SQ.out (.inl rfl) (res1 rfl rfl) ?_
    refine ⟨?_, hO0.toBelow trivial⟩
    (rw [cBd_edge (by rw [bl_length]; omega), decide_eq_true (by rw [bl_length]; omega)])
   ·
    refine SO.mv ?_
    refine SO.mv ?_
    refine SO.v (.lenS rfl rfl Tryz.underlying9) ?_
    refine SO.v (.eql rfl rfl rfl) ?_
    refine SO.v (.pickF rfl rfl rfl) ?_
    refine SO.as ?_
    refine SO.nn ?_
    refine SC.ret ?_
    refine SQ.then_ret ?_
    refine SQ.out (.inl rfl) (res1 rfl rfl) ?_
    refine ⟨?_, hO0.toBelow trivial⟩
    (rw [cBd_edge (by rw [bl_length]; omega)]; congr 2; exact decide_eq_decide.2 (by rw [bl_length]; omega))
  ·
   refine SO.mv ?_
   refine SO.mv ?_
   refine SO.v (.lenS rfl rfl Tryz.underlying9) ?_
   refine SO.v (.geq rfl rfl rfl) ?_
   refine SO.v (.pickF rfl rfl rfl) ?_
   refine SO.nn ?_
   refine SC.dec rfl (fun c5 => ?_) (fun c5 => ?_)
   ·
    refine SC.sr ?_
    refine SO.mv ?_
    refine SO.v (.eql rfl rfl rfl) ?_
    refine SO.mv ?_
    refine SO.dec 19 rfl (fun g6 => ?_) (fun g6 => ?_)
    ·
     refine SO.ps ?_
     refine SO.ps ?_
     refine SO.ps ?_
     refine SO.ps ?_
     refine SO.v (.pickT rfl rfl rfl) ?_
     refine SO.as ?_
     refine SO.nn ?_
     refine SC.ret ?_
     refine SQ.then_ret ?_
     refine SQ.out (.inl rfl) (res1 rfl rfl) ?_
     refine ⟨?_, hO0.toBelow trivial⟩
     (rw [cBd_edge (by rw [bl_length]; omega), decide_eq_true (by rw [bl_length]; omega)])
    ·
     refine SO.mv ?_
     refine SO.mv ?_
     refine SO.v (.lenS rfl rfl Tryz.underlying9) ?_
     refine SO.v (.eql rfl rfl rfl) ?_
     refine SO.v (.pickF rfl rfl rfl) ?_
     refine SO.as ?_
     refine SO.nn ?_
     refine SC.ret ?_
     refine SQ.then_ret ?_
     refine SQ.out (.inl rfl) (res1 rfl rfl) ?_
     refine ⟨?_, hO0.toBelow trivial⟩
     (rw [cBd_edge (by rw [bl_length]; omega)]; congr 2; exact decide_eq_decide.2 (by rw [bl_length]; omega))
   ·
    refine SC.skip ?_
    refine SQ.then_normal ?_
    refine SC.seq ?_
    refine SC.sr ?_
    refine SO.mv ?_
    refine SO.mv ?_
    refine SO.call rfl rfl rfl rfl (.callF rfl rfl en130) (boundary_at _ _ _ (hO0.good hG) hz) ?_
    rintro _ w9 ⟨rfl, hb9⟩
    have hO9 := hO0.below hb9
    refine ⟨_, rfl, ?_⟩
    refine SO.v (.notD rfl rfl) ?_
    refine SO.nn ?_
    refine SC.dec rfl (fun c10 => ?_) (fun c10 => ?_)
    ·
     have hub : ¬ uBd (bl s) i := c10
     refine SC.sr ?_
     refine SO.as ?_
     refine SO.nn ?_
     refine SC.ret ?_
     refine SQ.then_ret ?_
     refine SQ.out (.inl rfl) (res1 rfl rfl) ?_
     refine ⟨?_, hO9.toBelow trivial⟩
     rw [decide_eq_false (cBd_no hub)]
    ·
     have hub : uBd (bl s) i := Decidable.not_not.1 c10
     obtain ⟨k, rfl⟩ := Int.eq_ofNat_of_zero_le (show 0 ≤ i by omega)
     have hcb := CB_cond (l := bl s) (i := k) (by omega) (by rw [bl_length]; omega) hub
     refine SC.skip ?_
     refine SQ.then_normal ?_
     refine SC.sr ?_
     refine SO.mv ?_
     refine SO.mv ?_
     refine SO.mv ?_
     refine SO.call rfl rfl rfl rfl (.callF rfl rfl en132) (prev_any _ _ _ (hO9.good hG) hz (by omega)) ?_
     rintro _ w12 ⟨rfl, hb12⟩
     have hO12 := hO9.below hb12
     refine ⟨_, rfl, ?_⟩
     refine SO.call rfl rfl rfl rfl (.callF rfl rfl en131) (at_any _ _ _ (hO12.good hG) hz) ?_
     rintro _ w13 ⟨rfl, hb13⟩
     have hO13 := hO12.below hb13
     refine ⟨_, rfl, ?_⟩
     refine SO.mv ?_
     refine SO.v (.extract rfl rfl rfl) ?_
     refine SO.v (.extract rfl rfl rfl) ?_
     refine SO.alloc hO13 rfl rfl rfl rfl zv177 [_, _] rfl ?_
     intro b14 w14 hb14 hO14
     refine SO.store hO14 (i := 0) rfl rfl rfl rfl rfl rfl sz177 rfl rfl [(_, .cells [_, _].toArray _ _)] rfl ?_
     intro w15 hO15
     refine SO.as ?_
     refine SO.nn ?_
     refine SC.sr ?_
     refine SO.mv ?_
     refine SO.mv ?_
     refine SO.call rfl rfl rfl rfl (.callF rfl rfl en131) (at_any _ _ _ (hO15.good hG) hz) ?_
     rintro _ w16 ⟨rfl, hb16⟩
     have hO16 := hO15.below hb16
     refine ⟨_, rfl, ?_⟩
     refine SO.mv ?_
     refine SO.v (.extract rfl rfl rfl) ?_
     refine SO.v (.extract rfl rfl rfl) ?_
     refine SO.alloc hO16 rfl rfl rfl rfl zv177 [_, _] rfl ?_
     intro b17 w17 hb17 hO17
     refine SO.store hO17 (i := 0) rfl rfl rfl rfl rfl rfl sz177 rfl rfl [(_, .cells [_, _].toArray _ _), _] rfl ?_
     intro w18 hO18
     refine SO.as ?_
     refine SO.nn ?_
     refine SC.sr ?_
     refine SO.v (.fieldAddr rfl rfl fa177_0) ?_
     refine SO.v (.load rfl rfl ag21 (cell_of' (hO18.at (i := 1) rfl) rfl)) ?_
     refine SO.v (.fieldAddr rfl rfl fa177_0) ?_
     refine SO.v (.load rfl rfl ag21 (cell_of' (hO18.at (i := 0) rfl) rfl)) ?_
     refine SO.call rfl rfl rfl rfl (.callF rfl rfl en133) (glued_any _ _ _ (hO18.good hG)) ?_
     rintro _ w19 ⟨rfl, hb19⟩
     have hO19 := hO18.below hb19
     refine ⟨_, rfl, ?_⟩
     refine SO.v (.notD rfl rfl) ?_
     refine SO.as ?_
     refine SO.nn ?_
     refine SC.ret ?_
     refine SQ.out (.inl rfl) (res1 rfl rfl) ?_
     refine ⟨?_, hO19.toBelow ⟨hb17, hb14, trivial⟩⟩
     (congr 2; exact decide_eq_decide.2 ⟨fun h => ⟨by omega, hcb.2 h⟩, fun h => hcb.1 h.2⟩)

set_option maxRecDepth 20000 in
set_option maxHeartbeats 400000 in
theorem cnext_any (s : ByteArray) (i : Int) (w : World) (hG : Good w) (hz : s.size ≤ 4611686018427387904) :
    Calls Tryz.prog 30 #[.string s, .int .i64 i] w fun e w' => e = .returned (.int .i64 (cNextI (bl s) i : Nat)) ∧ Below w.heap.size w w' := by
  have hO0 := Own.start hG
  refine enter Tryz.func30 rfl rfl rfl 0 ?_
  refine SC.sr ?_
  refine SO.as ?_
  refine SO.nn ?_
  refine SC.seq ?_
  refine SC.sr ?_
  refine SO.mv ?_
  refine SO.v (.lss rfl rfl rfl) ?_
  refine SO.nn ?_
  refine SC.dec rfl (fun c1 => ?_) (fun c1 => ?_)
  ·
   have hneg : i < 0 := c1
   refine SC.sr ?_
   refine SO.as ?_
   refine SO.nn ?_
   refine SC.ret ?_
   refine SQ.then_ret ?_
   refine SQ.out (.inl rfl) (res1 rfl rfl) ?_
   refine ⟨?_, hO0.toBelow trivial⟩
   unfold cNextI
   (rw [if_pos hneg]; rfl)
  ·
   obtain ⟨k, rfl⟩ := Int.eq_ofNat_of_zero_le (show 0 ≤ i by omega)
   refine SC.skip ?_
   refine SQ.then_normal ?_
   refine SC.seq ?_
   refine SC.block ?_
   refine SC.loop (α := Nat) (fun j => [(0, .string s), (1, .int .i64 (j : Int))]) (fun j v => k ≤ j ∧ (∀ t, k < t → t ≤ j → ¬ CB (bl s) t) ∧ Ow.Own w [] v) (fun j => (bl s).length - j) k ?_ ?_ ?_
   · exact ⟨rfl, rfl, trivial⟩
   · exact ⟨by omega, fun t h1 h2 => by omega, hO0⟩
   rintro j w3 ⟨hkj, hno, hO3⟩
   refine SC.seq ?_
   refine SC.sr ?_
   refine SO.mv ?_
   refine SO.mv ?_
   refine SO.v (.lenS rfl rfl Tryz.underlying9) ?_
   refine SO.v (.lss rfl rfl rfl) ?_
   refine SO.nn ?_
   refine SC.dec rfl (fun c4 => ?_) (fun c4 => ?_)
   ·
    have hlt : j < (bl s).length := by rw [bl_length]; omega
    obtain ⟨u1, u2, u3, u4⟩ := uEnd_spec hlt
    have hun := uNext_nat (l := bl s) (i := j) (Nat.le_of_lt hlt)
    refine SC.skip ?_
    refine SQ.then_normal ?_
    refine SC.block ?_
    refine SC.sr ?_
    refine SO.mv ?_
    refine SO.mv ?_
    refine SO.call rfl rfl rfl rfl (.callF rfl rfl en83) (next_any _ _ _ (hO3.good hG) hz) ?_
    rintro _ w5 ⟨rfl, hb5⟩
    have hO5 := hO3.below hb5
    refine ⟨_, rfl, ?_⟩
    refine SO.as ?_
    refine SO.nn ?_
    refine SC.sr ?_
    refine SO.mv ?_
    refine SO.mv ?_
    refine SO.call rfl rfl rfl rfl (.callF rfl rfl en66) (cboundary_any _ _ _ (hO5.good hG) hz) ?_
    rintro _ w6 ⟨rfl, hb6⟩
    have hO6 := hO5.below hb6
    refine ⟨_, rfl, ?_⟩
    refine SO.nn ?_
    refine SC.dec rfl (fun c7 => ?_) (fun c7 => ?_)
    ·
     have hb := cBd_nat.1 c7
     rw [hun] at hb
     have hres : cNext (bl s) k = uNext (bl s) j := by
       rw [hun]; exact cNext_eq (by omega) hb (fun t h1 h2 h3 => by
         by_cases e : t ≤ j
         · exact hno t h1 e h3
         · have := u4 t h3.ub (by omega); omega)
     refine SC.sr ?_
     refine SO.mv ?_
     refine SO.as ?_
     refine SO.nn ?_
     refine SC.ret ?_
     refine SQ.block_ret ?_
     refine SQ.then_ret ?_
     refine SQ.block_ret ?_
     refine SQ.then_ret ?_
     refine SQ.out (.inl rfl) (res1 rfl rfl) ?_
     refine ⟨?_, hO6.toBelow trivial⟩
     unfold cNextI
     rw [if_neg (by omega), Int.toNat_natCast, hres]
    ·
     have hb := fun h => c7 (cBd_nat.2 h)
     rw [hun] at hb
     have hno2 : ∀ t, k < t → t ≤ uNext (bl s) j → ¬ CB (bl s) t := fun t h1 h2 h3 => by
         rw [hun] at h2
         by_cases e : t ≤ j
         · exact hno t h1 e h3
         · have := u4 t h3.ub (by omega)
           have e2 : t = uEnd (bl s) j := by omega
           subst e2; exact hb h3
     refine SC.skip ?_
     refine SQ.block_normal ?_
     refine SQ.round (uNext (bl s) j) (by rw [hun]; omega) ⟨rfl, rfl, trivial⟩ ⟨by rw [hun]; omega, hno2, hO6⟩
   ·
    have hge : cNext (bl s) k = (bl s).length := by
      by_cases e : k < (bl s).length
      · refine absurd (CB.len (bl s)) (hno _ e (by rw [bl_length]; omega))
      · exact cNext_out (by omega)
    rw [bl_length] at hge
    refine SC.exit ?_
    refine SQ.then_exit ?_
    refine SQ.then_exit ?_
    refine SQ.block_exit ?_
    refine SQ.then_normal ?_
    refine SC.sr ?_
    refine SO.mv ?_
    refine SO.v (.lenS rfl rfl Tryz.underlying9) ?_
    refine SO.as ?_
    refine SO.nn ?_
    refine SC.ret ?_
    refine SQ.out (.inl rfl) (res1 rfl rfl) ?_
    refine ⟨?_, hO3.toBelow trivial⟩
    unfold cNextI
    rw [if_neg (by omega), Int.toNat_natCast, hge]

set_option maxRecDepth 20000 in
set_option maxHeartbeats 400000 in
theorem cprev_any (s : ByteArray) (i : Int) (w : World) (hG : Good w) (hz : s.size ≤ 4611686018427387904) :
    Calls Tryz.prog 222 #[.string s, .int .i64 i] w fun e w' => e = .returned (.int .i64 (cPrevI (bl s) i : Nat)) ∧ Below w.heap.size w w' := by
  have hO0 := Own.start hG
  refine enter Tryz.func222 rfl rfl rfl 0 ?_
  refine SC.sr ?_
  refine SO.as ?_
  refine SO.nn ?_
  refine SC.seq ?_
  refine SC.sr ?_
  refine SO.mv ?_
  refine SO.mv ?_
  refine SO.v (.lenS rfl rfl Tryz.underlying9) ?_
  refine SO.v (.gtr rfl rfl rfl) ?_
  refine SO.nn ?_
  refine SC.dec rfl (fun c1 => ?_) (fun c1 => ?_)
  ·
   have hbig : i > ((bl s).length : Int) := by rw [bl_length]; omega
   refine SC.sr ?_
   refine SO.mv ?_
   refine SO.v (.lenS rfl rfl Tryz.underlying9) ?_
   refine SO.as ?_
   refine SO.nn ?_
   refine SC.ret ?_
   refine SQ.then_ret ?_
   refine SQ.out (.inl rfl) (res1 rfl rfl) ?_
   refine ⟨?_, hO0.toBelow trivial⟩
   unfold cPrevI
   rw [if_pos hbig, bl_length]
  ·
   obtain ⟨k, hk⟩ : ∃ k : Nat, i.toNat = k := ⟨_, rfl⟩
   have hsm : ¬ i > ((bl s).length : Int) := by rw [bl_length]; omega
   refine SC.skip ?_
   refine SQ.then_normal ?_
   refine SC.seq ?_
   refine SC.block ?_
   refine SC.loop (α := Int) (fun j => [(0, .string s), (1, .int .i64 j)]) (fun j v => j ≤ i ∧ (∀ t : Nat, j ≤ t → (t : Int) < i → ¬ CB (bl s) t) ∧ Ow.Own w [] v) (fun j => j.toNat) i ?_ ?_ ?_
   · exact ⟨rfl, rfl, trivial⟩
   · exact ⟨by omega, fun t h1 h2 => by omega, hO0⟩
   rintro j w3 ⟨hkj, hno, hO3⟩
   refine SC.seq ?_
   refine SC.sr ?_
   refine SO.mv ?_
   refine SO.v (.gtr rfl rfl rfl) ?_
   refine SO.nn ?_
   refine SC.dec rfl (fun c4 => ?_) (fun c4 => ?_)
   ·
    obtain ⟨m, rfl⟩ := Int.eq_ofNat_of_zero_le (show 0 ≤ j by omega)
    have hlt : m ≤ (bl s).length := by rw [bl_length]; omega
    obtain ⟨u1, u2, u3⟩ := uLast_spec (l := bl s) (i := m) (by omega) hlt
    have hun := uPrev_nat (l := bl s) (i := m) (by omega) hlt
    refine SC.skip ?_
    refine SQ.then_normal ?_
    refine SC.block ?_
    refine SC.sr ?_
    refine SO.mv ?_
    refine SO.mv ?_
    refine SO.call rfl rfl rfl rfl (.callF rfl rfl en132) (prev_any _ _ _ (hO3.good hG) hz (by omega)) ?_
    rintro _ w5 ⟨rfl, hb5⟩
    have hO5 := hO3.below hb5
    refine ⟨_, rfl, ?_⟩
    refine SO.as ?_
    refine SO.nn ?_
    refine SC.sr ?_
    refine SO.mv ?_
    refine SO.mv ?_
    refine SO.call rfl rfl rfl rfl (.callF rfl rfl en66) (cboundary_any _ _ _ (hO5.good hG) hz) ?_
    rintro _ w6 ⟨rfl, hb6⟩
    have hO6 := hO5.below hb6
    refine ⟨_, rfl, ?_⟩
    refine SO.nn ?_
    refine SC.dec rfl (fun c7 => ?_) (fun c7 => ?_)
    ·
     have hb := cBd_nat.1 c7
     rw [hun] at hb
     have hres : cPrev (bl s) i.toNat = uPrev (bl s) m := by
       rw [hun]; exact cPrev_eq hb _ (by omega) (fun t h1 h2 h3 => by
         by_cases e : m ≤ t
         · exact hno t (by omega) (by omega) h3
         · have := u3 t h3.ub (by omega); omega)
     refine SC.sr ?_
     refine SO.mv ?_
     refine SO.as ?_
     refine SO.nn ?_
     refine SC.ret ?_
     refine SQ.block_ret ?_
     refine SQ.then_ret ?_
     refine SQ.block_ret ?_
     refine SQ.then_ret ?_
     refine SQ.out (.inl rfl) (res1 rfl rfl) ?_
     refine ⟨?_, hO6.toBelow trivial⟩
     unfold cPrevI
     rw [if_neg hsm, hres]
    ·
     have hb := fun h => c7 (cBd_nat.2 h)
     rw [hun] at hb
     have hno2 : ∀ t : Nat, ((uPrev (bl s) m : Nat) : Int) ≤ t → (t : Int) < i → ¬ CB (bl s) t := fun t h1 h2 h3 => by
         rw [hun] at h1
         by_cases e : m ≤ t
         · exact hno t (by omega) (by omega) h3
         · have := u3 t h3.ub (by omega)
           have e2 : t = uDown (bl s) (m - 1) := by omega
           subst e2; exact hb h3
     refine SC.skip ?_
     refine SQ.block_normal ?_
     refine SQ.round ((uPrev (bl s) m : Nat) : Int) (by rw [hun]; omega) ⟨rfl, rfl, trivial⟩ ⟨by rw [hun]; omega, hno2, hO6⟩
   ·
    have hge : cPrev (bl s) i.toNat = 0 := by
      by_cases e : 0 < i
      · exact cPrev_eq (.zero _) _ (by omega) (fun t h1 h2 => hno t (by omega) (by omega))
      · rw [show i.toNat = 0 by omega]; rfl
    refine SC.exit ?_
    refine SQ.then_exit ?_
    refine SQ.then_exit ?_
    refine SQ.block_exit ?_
    refine SQ.then_normal ?_
    refine SC.sr ?_
    refine SO.as ?_
    refine SO.nn ?_
    refine SC.ret ?_
    refine SQ.out (.inl rfl) (res1 rfl rfl) ?_
    refine ⟨?_, hO3.toBelow trivial⟩
    unfold cPrevI
    (rw [if_neg hsm, hge]; rfl)

set_option maxRecDepth 20000 in
set_option maxHeartbeats 400000 in
theorem csnap_any (s : ByteArray) (i : Int) (w : World) (hG : Good w) (hz : s.size ≤ 4611686018427387904) :
    Calls Tryz.prog 65 #[.string s, .int .i64 i] w fun e w' => e = .returned (.int .i64 (cSnapI (bl s) i : Nat)) ∧ Below w.heap.size w w' := by
  have hO0 := Own.start hG
  refine enter Tryz.func65 rfl rfl rfl 0 ?_
  refine SC.sr ?_
  refine SO.as ?_
  refine SO.nn ?_
  refine SC.seq ?_
  refine SC.sr ?_
  refine SO.mv ?_
  refine SO.v (.lss rfl rfl rfl) ?_
  refine SO.nn ?_
  refine SC.dec rfl (fun c1 => ?_) (fun c1 => ?_)
  ·
   refine SC.sr ?_
   refine SO.as ?_
   refine SO.nn ?_
   refine SC.ret ?_
   refine SQ.then_ret ?_
   refine SQ.out (.inl rfl) (res1 rfl rfl) ?_
   refine ⟨?_, hO0.toBelow trivial⟩
   unfold cSnapI
   (rw [if_pos (by omega)]; rfl)
  ·
   refine SC.skip ?_
   refine SQ.then_normal ?_
   refine SC.seq ?_
   refine SC.sr ?_
   refine SO.mv ?_
   refine SO.mv ?_
   refine SO.call rfl rfl rfl rfl (.callF rfl rfl en66) (cboundary_any _ _ _ (hO0.good hG) hz) ?_
   rintro _ w3 ⟨rfl, hb3⟩
   have hO3 := hO0.below hb3
   refine ⟨_, rfl, ?_⟩
   refine SO.nn ?_
   refine SC.dec rfl (fun c4 => ?_) (fun c4 => ?_)
   ·
    have hb := c4
    refine SC.sr ?_
    refine SO.mv ?_
    refine SO.as ?_
    refine SO.nn ?_
    refine SC.ret ?_
    refine SQ.then_ret ?_
    refine SQ.out (.inl rfl) (res1 rfl rfl) ?_
    refine ⟨?_, hO3.toBelow trivial⟩
    unfold cSnapI
    (rw [if_neg (by omega), if_pos hb.2]; congr 2; omega)
   ·
    have hb := c4
    refine SC.skip ?_
    refine SQ.then_normal ?_
    refine SC.sr ?_
    refine SO.mv ?_
    refine SO.mv ?_
    refine SO.call rfl rfl rfl rfl (.callF rfl rfl en30) (cnext_any _ _ _ (hO3.good hG) hz) ?_
    rintro _ w6 ⟨rfl, hb6⟩
    have hO6 := hO3.below hb6
    refine ⟨_, rfl, ?_⟩
    refine SO.as ?_
    refine SO.nn ?_
    refine SC.ret ?_
    refine SQ.out (.inl rfl) (res1 rfl rfl) ?_
    refine ⟨?_, hO6.toBelow trivial⟩
    unfold cSnapI
    (rw [if_neg (by omega), if_neg (fun h => hb ⟨by omega, h⟩)]; unfold cNextI; rw [if_neg (by omega)])

end Go.Proofs.YtclgplkkajfenaaGreatDoor
