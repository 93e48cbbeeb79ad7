/- Plain facts on units; the unit package; sort.Search. -/
import Derived.Test.YtclgplkkajfenaaGreatDoorCalc
import Derived.Test.YtclgplkkajfenaaGreatDoorFa
import Derived.Laws.BytesString
import Derived.Laws.IdiomCopy
import Derived.Laws.MakeOwn
/- Plain facts on bytes: the units of a text (UTF-8 characters and lone bad bytes), cut off from the left, and that three bytes back are enough to find the unit around a place. -/
namespace Go.Proofs.YtclgplkkajfenaaGreatDoor

abbrev Bs := List UInt8

/-- A byte of a text, as a number; 0 behind its end. -/
def by' (l : Bs) (k : Nat) : Nat := (l.getD k 0).toNat
/-- Is the byte at k there, and one that goes on (80 to BF)? -/
def con (l : Bs) (k : Nat) : Bool := decide (k < l.length) && by' l k / 64 == 2

def okRune (r : Nat) : Bool := decide (r < 0xD800) || (decide (0xE000 ≤ r) && decide (r ≤ 0x10FFFF))

/-- The unit at the head: its character (-1: a bad byte) and its size. -/
def un (l : Bs) : Int × Nat :=
  let b0 := by' l 0
  if b0 < 0x80 then (b0, 1)
  else if b0 / 32 == 6 && con l 1 then
    let c := (b0 % 32) * 64 + by' l 1 % 64
    if c ≥ 0x80 then (c, 2) else (-1, 1)
  else if b0 / 16 == 14 && con l 1 && con l 2 then
    let c := (b0 % 16) * 4096 + (by' l 1 % 64) * 64 + by' l 2 % 64
    if c ≥ 0x800 && okRune c then (c, 3) else (-1, 1)
  else if b0 / 8 == 30 && con l 1 && con l 2 && con l 3 then
    let c := (b0 % 8) * 262144 + (by' l 1 % 64) * 4096 + (by' l 2 % 64) * 64 + by' l 3 % 64
    if c ≥ 0x10000 && okRune c then (c, 4) else (-1, 1)
  else (-1, 1)

def usz (l : Bs) : Nat := (un l).2

theorem usz_pos (l : Bs) : 1 ≤ usz l := by
  unfold usz un; dsimp only
  repeat' split
  all_goals simp

theorem usz_le4 (l : Bs) : usz l ≤ 4 := by
  unfold usz un; dsimp only
  repeat' split
  all_goals simp

/-- A unit of two bytes or more: its first byte is no byte that goes on, its others are, and all are there. -/
theorem usz_multi (l : Bs) (h : 2 ≤ usz l) : by' l 0 / 64 = 3 ∧ ∀ k, 1 ≤ k → k < usz l → con l k = true := by
  revert h
  unfold usz un; dsimp only
  split
  · intro h; simp at h
  · split
    · rename_i h0 h1
      simp only [Bool.and_eq_true, beq_iff_eq] at h1
      split
      · intro _
        refine ⟨by omega, fun k hk hk2 => ?_⟩
        obtain rfl : k = 1 := by simp at hk2; omega
        exact h1.2
      · intro h; simp at h
    · split
      · rename_i h0 h1
        simp only [Bool.and_eq_true, beq_iff_eq] at h1
        split
        · intro _
          refine ⟨by omega, fun k hk hk2 => ?_⟩
          simp at hk2
          obtain rfl | rfl : k = 1 ∨ k = 2 := by omega
          · exact h1.1.2
          · exact h1.2
        · intro h; simp at h
      · split
        · rename_i h0 h1
          simp only [Bool.and_eq_true, beq_iff_eq] at h1
          split
          · intro _
            refine ⟨by omega, fun k hk hk2 => ?_⟩
            simp at hk2
            obtain rfl | rfl | rfl : k = 1 ∨ k = 2 ∨ k = 3 := by omega
            · exact h1.1.1.2
            · exact h1.1.2
            · exact h1.2
          · intro h; simp at h
        · intro h; simp at h

theorem con_lt {l : Bs} {k : Nat} (h : con l k = true) : k < l.length := by
  unfold con at h; simp at h; exact h.1

theorem con_by {l : Bs} {k : Nat} (h : con l k = true) : by' l k / 64 = 2 := by
  unfold con at h; simp at h; exact h.2

theorem by_drop (l : Bs) (i k : Nat) : by' (l.drop i) k = by' l (i + k) := by
  unfold by'; simp [List.getD_eq_getElem?_getD, List.getElem?_drop]

theorem con_drop (l : Bs) (i k : Nat) : con (l.drop i) k = con l (i + k) := by
  unfold con; rw [by_drop]; congr 1; simp only [List.length_drop, decide_eq_decide]; omega

theorem usz_le_length (l : Bs) (h : l ≠ []) : usz l ≤ l.length := by
  have h1 : 1 ≤ l.length := by cases l with | nil => exact absurd rfl h | cons _ _ => simp
  by_cases h2 : 2 ≤ usz l
  · have := (usz_multi l h2).2 (usz l - 1) (by omega) (by omega)
    have := con_lt this
    omega
  · omega

/-- From the place i the cuts of units lead to the place j. -/
inductive Re (l : Bs) : Nat → Nat → Prop
  | refl (i : Nat) : Re l i i
  | head (i j : Nat) : i < l.length → Re l (i + usz (l.drop i)) j → Re l i j

theorem drop_ne {l : Bs} {i : Nat} (h : i < l.length) : l.drop i ≠ [] := by
  intro e; have := congrArg List.length e; simp at this; omega

theorem usz_drop_le {l : Bs} {i : Nat} (h : i < l.length) : i + usz (l.drop i) ≤ l.length := by
  have := usz_le_length _ (drop_ne h); simp at this; omega

theorem Re.le {l : Bs} {i j : Nat} (h : Re l i j) : i ≤ j := by
  induction h with
  | refl => exact Nat.le_refl _
  | head i j _ _ ih => omega

theorem Re.snoc {l : Bs} {i j : Nat} (h : Re l i j) (hj : j < l.length) : Re l i (j + usz (l.drop j)) := by
  induction h with
  | refl i => exact .head _ _ hj (.refl _)
  | head i j h1 _ ih => exact .head _ _ h1 (ih hj)

theorem Re.trans {l : Bs} {i j k : Nat} (h : Re l i j) (h2 : Re l j k) : Re l i k := by
  induction h with
  | refl i => exact h2
  | head i j h1 _ ih => exact .head _ _ h1 (ih h2)

theorem Re.le_length {l : Bs} {i j : Nat} (h : Re l i j) (hi : i ≤ l.length) : j ≤ l.length := by
  induction h with
  | refl i => exact hi
  | head i j h1 _ ih => exact ih (usz_drop_le h1)

theorem Re.step {l : Bs} {i j : Nat} (h : Re l i j) (hlt : i < j) : i < l.length ∧ Re l (i + usz (l.drop i)) j := by
  cases h with
  | refl => omega
  | head _ _ h1 h2 => exact ⟨h1, h2⟩

theorem Re.two {l : Bs} {a i j : Nat} (hi : Re l a i) (hj : Re l a j) : Re l i j ∨ Re l j i := by
  induction hi with
  | refl => exact .inl hj
  | head a i h1 h2 ih =>
    cases hj with
    | refl => exact .inr (.head _ _ h1 h2)
    | head _ _ _ h4 => exact ih h4

/-- i is a boundary of the units of l. -/
def UB (l : Bs) (i : Nat) : Prop := Re l 0 i

theorem UB.zero (l : Bs) : UB l 0 := .refl 0
theorem UB.le {l : Bs} {i : Nat} (h : UB l i) : i ≤ l.length := Re.le_length h (Nat.zero_le _)
theorem UB.next {l : Bs} {i : Nat} (h : UB l i) (hi : i < l.length) : UB l (i + usz (l.drop i)) := Re.snoc h hi

/-- Behind a boundary the next one is its unit's end. -/
theorem UB.gap {l : Bs} {i j : Nat} (hi : UB l i) (hj : UB l j) (h : i < j) : i + usz (l.drop i) ≤ j := by
  rcases Re.two hi hj with h1 | h1
  · exact (h1.step h).2.le
  · have := h1.le; omega

/-- The boundary at or ahead of i (by so many rounds, from the boundary j on). -/
def downF (l : Bs) : Nat → Nat → Nat → Nat
  | 0, j, _ => j
  | f + 1, j, i => if j + usz (l.drop j) ≤ i ∧ j < l.length then downF l f (j + usz (l.drop j)) i else j
/-- The greatest boundary at or ahead of i. -/
def uDown (l : Bs) (i : Nat) : Nat := downF l i 0 i

theorem downF_spec (l : Bs) (i : Nat) (_hil : i ≤ l.length) : ∀ f j, Re l 0 j → j ≤ i → i ≤ f + j → UB l (downF l f j i) ∧ downF l f j i ≤ i ∧ (downF l f j i < l.length → i < downF l f j i + usz (l.drop (downF l f j i))) := by
  intro f
  induction f with
  | zero =>
    intro j hj hji hf
    obtain rfl : i = j := by omega
    have := usz_pos (l.drop i)
    exact ⟨hj, hji, fun _ => by simp only [downF]; omega⟩
  | succ f ih =>
    intro j hj hji hf
    have p := usz_pos (l.drop j)
    simp only [downF]
    split
    · rename_i h
      exact ih _ (hj.snoc h.2) h.1 (by omega)
    · rename_i h
      refine ⟨hj, hji, fun hl => ?_⟩
      have : ¬ (j + usz (l.drop j) ≤ i) := fun h2 => h ⟨h2, hl⟩
      omega

theorem uDown_spec (l : Bs) (i : Nat) (hil : i ≤ l.length) : UB l (uDown l i) ∧ uDown l i ≤ i ∧ (uDown l i < l.length → i < uDown l i + usz (l.drop (uDown l i))) :=
  downF_spec l i hil i 0 (.refl 0) (Nat.zero_le _) (by omega)

theorem uDown_unique {l : Bs} {i j : Nat} (hj : UB l j) (hji : j ≤ i) (h : j < l.length → i < j + usz (l.drop j)) (hil : i ≤ l.length) : uDown l i = j := by
  obtain ⟨h1, h2, h3⟩ := uDown_spec l i hil
  rcases Nat.lt_trichotomy (uDown l i) j with hlt | heq | hgt
  · have g := h1.gap hj hlt
    have := hj.le
    have := h3 (by omega); omega
  · exact heq
  · have g := hj.gap h1 hgt
    have := h1.le
    have := h (by omega); omega

theorem uDown_self {l : Bs} {i : Nat} (h : UB l i) : uDown l i = i :=
  uDown_unique h (Nat.le_refl _) (fun _ => by have := usz_pos (l.drop i); omega) h.le

theorem UB_iff_uDown {l : Bs} {i : Nat} (hil : i ≤ l.length) : UB l i ↔ uDown l i = i :=
  ⟨uDown_self, fun h => h ▸ (uDown_spec l i hil).1⟩

/-- **Wherever a unit of more than one byte is read over the place i, it begins at the boundary around i.** -/
theorem resync {l : Bs} {i j : Nat} (hji : j < i) (hil : i ≤ l.length) (h : i < j + usz (l.drop j)) : uDown l i = j := by
  obtain ⟨h1, h2, h3⟩ := uDown_spec l i hil
  have m := usz_multi (l.drop j) (by omega)
  have hjl : j + usz (l.drop j) ≤ l.length := usz_drop_le (by omega)
  rw [by_drop] at m
  simp only [Nat.add_zero] at m
  -- bytes inside the unit at j go on
  have hin : ∀ k, j < k → k < j + usz (l.drop j) → by' l k / 64 = 2 := fun k a b => by
    have := con_by (m.2 (k - j) (by omega) (by omega))
    rw [by_drop] at this
    rwa [show j + (k - j) = k by omega] at this
  rcases Nat.lt_trichotomy (uDown l i) j with hlt | heq | hgt
  · -- j lies inside the unit at the boundary
    have hc := h3 (by omega)
    have m2 := (usz_multi (l.drop (uDown l i)) (by omega)).2 (j - uDown l i) (by omega) (by omega)
    have := con_by m2
    rw [by_drop] at this
    rw [show uDown l i + (j - uDown l i) = j by omega] at this
    omega
  · exact heq
  · -- the boundary lies inside the unit that is read at j: go back to the boundary around j
    exfalso
    obtain ⟨d1, d2, d3⟩ := uDown_spec l j (by omega)
    have hd3 := d3 (by omega)
    by_cases e : uDown l j = j
    · rw [e] at d1
      have := d1.gap h1 hgt
      omega
    · have m2 := (usz_multi (l.drop (uDown l j)) (by omega)).2 (j - uDown l j) (by omega) (by omega)
      have := con_by m2
      rw [by_drop] at this
      rw [show uDown l j + (j - uDown l j) = j by omega] at this
      omega

/-- Where the unit around i ends: i itself, where i is the text's end. -/
def uEnd (l : Bs) (i : Nat) : Nat := if uDown l i < l.length then uDown l i + usz (l.drop (uDown l i)) else uDown l i


/-! ### A Go string as its bytes -/
abbrev bl (s : ByteArray) : Bs := s.data.toList
theorem bl_length (s : ByteArray) : (bl s).length = s.size := rfl
theorem bl_extract (s : ByteArray) (a b : Nat) : bl (s.extract a b) = ((bl s).take b).drop a := by
  show (s.extract a b).data.toList = _
  rw [ByteArray.data_extract, Array.toList_extract, List.extract_eq_take_drop]
  rw [List.drop_take]
theorem bl_tail (s : ByteArray) (a : Nat) : bl (s.extract a s.size) = (bl s).drop a := by
  rw [bl_extract, List.take_of_length_le (by simp)]
theorem bl_append (s t : ByteArray) : bl (s ++ t) = bl s ++ bl t := by
  show (s ++ t).data.toList = _
  rw [ByteArray.data_append]; simp
theorem bl_inj {s t : ByteArray} (h : bl s = bl t) : s = t := by
  cases s; cases t; simp [bl] at h; rw [h]
theorem by_get (s : ByteArray) (k : Nat) : by' (bl s) k = (s.get! k).toNat := by
  unfold by' bl
  rw [List.getD_eq_getElem?_getD]
  show _ = (s.data[k]!).toNat
  rw [Array.getElem!_eq_getD, Array.getD_eq_getD_getElem?]
  simp; rfl
/-- The model's decoder at the head of a text that isn't empty, with Go's test for a bad byte. -/
theorem un_decode (s : ByteArray) (h : 0 < s.size) :
    un (bl s) = if (Lib.decodeGo s).1 = 65533 ∧ (Lib.decodeGo s).2 = 1 then ((-1 : Int), 1) else ((((Lib.decodeGo s).1 : Nat) : Int), (Lib.decodeGo s).2) := by
  have hd : Lib.decodeGo s = Utf8.decode s 0 := by unfold Lib.decodeGo; rw [if_neg (by omega)]
  rw [hd]
  have hc : ∀ k, con (bl s) k = (decide (0 + k < s.size) && (s.get! (0 + k)).toNat / 64 == 2) := fun k => by
    unfold con; rw [by_get, bl_length]; simp
  have hv : ∀ c : Nat, Utf8.valid (c : Int) = okRune c := fun c => by
    unfold Utf8.valid okRune
    have h1 : (decide ((0 : Int) ≤ c) && decide ((c : Int) < 0xD800)) = decide (c < 0xD800) := by
      rw [Bool.eq_iff_iff]; simp; omega
    have h2 : (decide ((0xE000 : Int) ≤ c) && decide ((c : Int) ≤ 0x10FFFF)) = (decide (0xE000 ≤ c) && decide (c ≤ 0x10FFFF)) := by
      rw [Bool.eq_iff_iff]; simp; omega
    rw [h1, h2]
  unfold un Utf8.decode
  simp only [by_get, hc, hv, Nat.zero_add, Nat.add_zero, Utf8.runeError]
  by_cases h0 : (s.get! 0).toNat < 0x80
  · simp only [if_pos h0]
    rw [if_neg (by omega)]
  simp only [if_neg h0]
  by_cases h1 : ((s.get! 0).toNat / 32 == 6 && (decide (1 < s.size) && (s.get! 1).toNat / 64 == 2)) = true
  · simp only [if_pos h1]
    by_cases h4 : (s.get! 0).toNat % 32 * 64 + (s.get! 1).toNat % 64 ≥ 0x80
    · simp only [if_pos h4]; rw [if_neg (by omega)]
    · simp only [if_neg h4]; simp
  simp only [if_neg h1]
  by_cases h2 : ((s.get! 0).toNat / 16 == 14 && (decide (1 < s.size) && (s.get! 1).toNat / 64 == 2) && (decide (2 < s.size) && (s.get! 2).toNat / 64 == 2)) = true
  · simp only [if_pos h2]
    by_cases h4 : (decide ((s.get! 0).toNat % 16 * 4096 + (s.get! 1).toNat % 64 * 64 + (s.get! 2).toNat % 64 ≥ 0x800) && okRune ((s.get! 0).toNat % 16 * 4096 + (s.get! 1).toNat % 64 * 64 + (s.get! 2).toNat % 64)) = true
    · simp only [if_pos h4]; rw [if_neg (by omega)]
    · simp only [if_neg h4]; simp
  simp only [if_neg h2]
  by_cases h3 : ((s.get! 0).toNat / 8 == 30 && (decide (1 < s.size) && (s.get! 1).toNat / 64 == 2) && (decide (2 < s.size) && (s.get! 2).toNat / 64 == 2) && (decide (3 < s.size) && (s.get! 3).toNat / 64 == 2)) = true
  · simp only [if_pos h3]
    by_cases h4 : (decide ((s.get! 0).toNat % 8 * 262144 + (s.get! 1).toNat % 64 * 4096 + (s.get! 2).toNat % 64 * 64 + (s.get! 3).toNat % 64 ≥ 0x10000) && okRune ((s.get! 0).toNat % 8 * 262144 + (s.get! 1).toNat % 64 * 4096 + (s.get! 2).toNat % 64 * 64 + (s.get! 3).toNat % 64)) = true
    · simp only [if_pos h4]; rw [if_neg (by omega)]
    · simp only [if_neg h4]; simp
  simp only [if_neg h3]; simp
end Go.Proofs.YtclgplkkajfenaaGreatDoor
/- unit.first, unit.around. -/
  namespace Go.Proofs.YtclgplkkajfenaaGreatDoor
open Go Go.RowKit Ow
/-- The character of the unit at the head, -1 of a bad byte. -/
def uch (l : Bs) : Int := (un l).1
theorem around_val {l : Bs} {i d : Nat} {a b : Int} (h : uDown l i = d) (ha : a = d) (hb : b = if d < l.length then d + usz (l.drop d) else d) :
    Ending.returned (.tuple #[.int .i64 a, .int .i64 b]) = .returned (.tuple #[.int .i64 (uDown l i), .int .i64 (uEnd l i)]) := by
  unfold uEnd; rw [h, ha, hb]
theorem down_at {l : Bs} {i : Nat} (hi : i ≤ l.length) (h : ∀ t, i ≤ t + 3 → t < i → t + usz (l.drop t) ≤ i) : uDown l i = i := by
  obtain ⟨_, h2, h3⟩ := uDown_spec l i hi
  by_cases e : uDown l i = i
  · exact e
  · have h4 := h3 (by omega)
    have h5 := usz_le4 (l.drop (uDown l i))
    have := h (uDown l i) (by omega) (by omega)
    omega

theorem bd177_0_1_Uni (x0 : Int) (x1 : Int) : ∀ w, (Instr.build 177 [(0, .int .i32 x0), (1, .int .i64 x1)].toArray).run Tryz.prog w = .ok (.agg [.int .i32 x0, .int .i64 x1].toArray) w := fun _ => by kernel_rfl
set_option maxRecDepth 20000 in
set_option maxHeartbeats 400000 in
theorem first_any (s : ByteArray) (w : World) (hG : Good w) (hs : 0 < s.size) :
    Calls Tryz.prog 159 #[.string s] w fun e w' => e = .returned (.agg #[.int .i32 (uch (bl s)), .int .i64 (usz (bl s) : Nat)]) ∧ Below w.heap.size w w' := by
  have hu := un_decode s hs
  have hO0 := Own.start hG
  refine enter Tryz.func159 rfl rfl rfl 0 ?_
  refine SC.sr ?_
  refine SO.alloc hO0 rfl rfl rfl rfl zv177 [_, _] rfl ?_
  intro b1 w1 hb1 hO1
  refine SO.nn ?_
  refine SC.sr ?_
  refine SO.mv ?_
  refine SO.call rfl rfl rfl rfl (.callF rfl rfl en184) (Tryz.utf8_DecodeRuneInString _ _ (hO1.good hG)) ?_
  rintro _ w2 ⟨rfl, hb2⟩
  have hO2 := hO1.below hb2
  refine ⟨_, rfl, ?_⟩
  refine SO.mv ?_
  refine SO.v (.extract rfl rfl rfl) ?_
  refine SO.v (.extract rfl rfl rfl) ?_
  refine SO.as ?_
  refine SO.as ?_
  refine SO.nn ?_
  refine SC.seq ?_
  refine SC.sr ?_
  refine SO.mv ?_
  refine SO.v (.eql rfl rfl rfl) ?_
  refine SO.mv ?_
  refine SO.dec 12 rfl (fun g3 => ?_) (fun g3 => ?_)
  ·
   refine SO.mv ?_
   refine SO.v (.eql rfl rfl rfl) ?_
   refine SO.v (.pickT rfl rfl rfl) ?_
   refine SO.nn ?_
   refine SC.dec rfl (fun c4 => ?_) (fun c4 => ?_)
   ·
    refine SC.sr ?_
    refine SO.v (.build rfl rfl (bd177_0_1_Uni _ _)) ?_
    refine SO.store hO2 (i := 0) rfl rfl rfl rfl rfl rfl sz177 rfl rfl [(_, .cells [_, _].toArray _ _)] rfl ?_
    intro w5 hO5
    refine SO.nn ?_
    refine SC.ret ?_
    refine SQ.then_ret ?_
    refine SQ.out (.inl rfl) (resC [_, _] rfl rfl ag177 sz177 (hO5.at (i := 0) rfl) rfl rfl) ?_
    refine ⟨?_, hO5.toBelow ⟨hb1, trivial⟩⟩
    unfold uch usz
    rw [hu]
    (rw [if_pos (by omega)]; rfl)
   ·
    refine SC.skip ?_
    refine SQ.then_normal ?_
    refine SC.sr ?_
    refine SO.mv ?_
    refine SO.mv ?_
    refine SO.v (.build rfl rfl (bd177_0_1_Uni _ _)) ?_
    refine SO.store hO2 (i := 0) rfl rfl rfl rfl rfl rfl sz177 rfl rfl [(_, .cells [_, _].toArray _ _)] rfl ?_
    intro w7 hO7
    refine SO.nn ?_
    refine SC.ret ?_
    refine SQ.out (.inl rfl) (resC [_, _] rfl rfl ag177 sz177 (hO7.at (i := 0) rfl) rfl rfl) ?_
    refine ⟨?_, hO7.toBelow ⟨hb1, trivial⟩⟩
    unfold uch usz
    rw [hu]
    rw [if_neg (by omega)]
  ·
   refine SO.ps ?_
   refine SO.ps ?_
   refine SO.v (.pickF rfl rfl rfl) ?_
   refine SO.nn ?_
   refine SC.no rfl ?_
   refine SC.skip ?_
   refine SQ.then_normal ?_
   refine SC.sr ?_
   refine SO.mv ?_
   refine SO.mv ?_
   refine SO.v (.build rfl rfl (bd177_0_1_Uni _ _)) ?_
   refine SO.store hO2 (i := 0) rfl rfl rfl rfl rfl rfl sz177 rfl rfl [(_, .cells [_, _].toArray _ _)] rfl ?_
   intro w9 hO9
   refine SO.nn ?_
   refine SC.ret ?_
   refine SQ.out (.inl rfl) (resC [_, _] rfl rfl ag177 sz177 (hO9.at (i := 0) rfl) rfl rfl) ?_
   refine ⟨?_, hO9.toBelow ⟨hb1, trivial⟩⟩
   unfold uch usz
   rw [hu]
   rw [if_neg (by omega)]

theorem first_at (s : ByteArray) (j : Nat) (w : World) (hG : Good w) (hj : j < s.size) :
    Calls Tryz.prog 159 #[.string (s.extract (j : Int).toNat s.size)] w fun e w' => e = .returned (.agg #[.int .i32 (uch ((bl s).drop j)), .int .i64 (usz ((bl s).drop j) : Nat)]) ∧ Below w.heap.size w w' := by
  have := first_any (s.extract (j : Int).toNat s.size) w hG (by simp only [ByteArray.size_extract]; omega)
  rwa [bl_tail, Int.toNat_natCast] at this

theorem fi177_1_Uni (x0 : Int) (x1 : Int) : ∀ w, (Instr.field 177 (.agg [.int .i32 x0, .int .i64 x1].toArray) 1).run Tryz.prog w = .ok (.int .i64 x1) w := fun _ => by kernel_rfl
set_option maxRecDepth 20000 in
set_option maxHeartbeats 400000 in
theorem around_any (s : ByteArray) (i : Nat) (w : World) (hG : Good w) (hi : i ≤ s.size) (hz : s.size ≤ 4611686018427387904) :
    Calls Tryz.prog 144 #[.string s, .int .i64 i] w fun e w' => e = .returned (.tuple #[.int .i64 (uDown (bl s) i), .int .i64 (uEnd (bl s) i)]) ∧ Below w.heap.size w w' := by
  have hO0 := Own.start hG
  refine enter Tryz.func144 rfl rfl rfl 0 ?_
  refine SC.sr ?_
  refine SO.as ?_
  refine SO.as ?_
  refine SO.nn ?_
  refine SC.seq ?_
  refine SC.sr ?_
  refine SO.mv ?_
  refine SO.v (.sub rfl rfl rfl (by omega)) ?_
  refine SO.v (.maxI rfl rfl rfl) ?_
  refine SO.as ?_
  refine SO.nn ?_
  refine SC.block ?_
  refine SC.loop (α := Nat) (fun j => [(0, .string s), (1, .int .i64 (i : Int)), (6, .int .i64 (j : Int))]) (fun j v => j ≤ i ∧ i ≤ j + 3 ∧ (∀ t, i ≤ t + 3 → t < j → t + usz ((bl s).drop t) ≤ i) ∧ Ow.Own w [] v) (fun j => i - j) (i - 3) ?_ ?_ ?_
  · exact ⟨rfl, rfl, look_int rfl (by omega), trivial⟩
  · exact ⟨by omega, by omega, fun t h1 h2 => by omega, hO0⟩
  rintro j w1 ⟨hj1, hj2, hj3, hO1⟩
  refine SC.seq ?_
  refine SC.sr ?_
  refine SO.mv ?_
  refine SO.mv ?_
  refine SO.v (.lss rfl rfl rfl) ?_
  refine SO.nn ?_
  refine SC.dec rfl (fun c2 => ?_) (fun c2 => ?_)
  ·
   have hjlt : j < i := by omega
   refine SC.skip ?_
   refine SQ.then_normal ?_
   refine SC.seq ?_
   refine SC.block ?_
   refine SC.sr ?_
   refine SO.mv ?_
   refine SO.mv ?_
   refine SO.v (.sliceL rfl rfl rfl Tryz.underlying9 (by omega)) ?_
   refine SO.call rfl rfl rfl rfl (.callF rfl rfl en159) (first_at _ _ _ (hO1.good hG) (by omega)) ?_
   rintro _ w3 ⟨rfl, hb3⟩
   have hO3 := hO1.below hb3
   refine ⟨_, rfl, ?_⟩
   refine SO.alloc hO3 rfl rfl rfl rfl zv177 [_, _] rfl ?_
   intro b4 w4 hb4 hO4
   refine SO.store hO4 (i := 0) rfl rfl rfl rfl rfl rfl sz177 rfl rfl [(_, .cells [_, _].toArray _ _)] rfl ?_
   intro w5 hO5
   refine SO.nn ?_
   refine SC.sr ?_
   have hle := usz_drop_le (l := bl s) (i := j) (by rw [bl_length]; omega)
   rw [bl_length] at hle
   refine SO.mv ?_
   refine SO.v (.fieldAddr rfl rfl fa177_1) ?_
   refine SO.v (.load rfl rfl ag3 (cell_of' (hO5.at (i := 0) rfl) rfl)) ?_
   refine SO.v (.add rfl rfl rfl (by omega)) ?_
   refine SO.mv ?_
   refine SO.v (.gtr rfl rfl rfl) ?_
   refine SO.nn ?_
   refine SC.dec rfl (fun c6 => ?_) (fun c6 => ?_)
   ·
    have hr := resync (l := bl s) (i := i) (j := j) (by omega) (by rw [bl_length]; omega) (by omega)
    refine SC.seq ?_
    refine SC.drawO mixed hO5 (fun hO7 => ?_)
    refine SA.tm 0 rfl hO7 ?_
    refine SA.tm 1 rfl hO7 ?_
    refine SA.tk 2 rfl hO7 (fun v hv => .fieldAddr rfl rfl fa177_1) ?_
    refine SA.tk 3 rfl hO7 (fun v hv => .load rfl rfl ag3 (cell_of' (hv.at (i := 0) rfl) rfl)) ?_
    refine SA.tk 4 rfl hO7 (fun v hv => .add rfl rfl rfl (by omega)) ?_
    refine SA.ta 5 rfl hO7 ?_
    refine SA.ta 6 rfl hO7 ?_
    refine SA.done (by kernel_rfl) ?_
    refine SQ.then_normal ?_
    refine SC.ret ?_
    refine SQ.block_ret ?_
    refine SQ.then_ret ?_
    refine SQ.then_ret ?_
    refine SQ.block_ret ?_
    refine SQ.then_ret ?_
    refine SQ.out (.inl rfl) (res2 rfl rfl rfl) ?_
    refine ⟨?_, hO7.toBelow ⟨hb4, trivial⟩⟩
    exact around_val hr rfl (by rw [if_pos (by rw [bl_length]; omega)]; omega)
   ·
    have hj4 : ∀ t, i ≤ t + 3 → t < j + 1 → t + usz ((bl s).drop t) ≤ i := fun t h1 h2 => by
      by_cases e : t = j
      · subst e; omega
      · exact hj3 t h1 (by omega)
    refine SC.skip ?_
    refine SQ.block_normal ?_
    refine SQ.then_normal ?_
    refine SC.region ?_
    refine SO.mv ?_
    refine SO.v (.add rfl rfl rfl (by omega)) ?_
    refine SO.as ?_
    refine SO.nil ?_
    refine SQ.round (j + 1) (by omega) ⟨rfl, rfl, look_int rfl (by omega), trivial⟩ ⟨by omega, by omega, hj4, (hO5.tail hb4)⟩
  ·
   have hr := down_at (l := bl s) (i := i) (by rw [bl_length]; omega) (fun t h1 h2 => hj3 t h1 (by omega))
   refine SC.exit ?_
   refine SQ.then_exit ?_
   refine SQ.then_exit ?_
   refine SQ.block_exit ?_
   refine SQ.then_normal ?_
   refine SC.seq ?_
   refine SC.sr ?_
   refine SO.mv ?_
   refine SO.mv ?_
   refine SO.v (.lenS rfl rfl Tryz.underlying9) ?_
   refine SO.v (.eql rfl rfl rfl) ?_
   refine SO.nn ?_
   refine SC.dec rfl (fun c9 => ?_) (fun c9 => ?_)
   ·
    refine SC.sr ?_
    refine SO.mv ?_
    refine SO.mv ?_
    refine SO.as ?_
    refine SO.as ?_
    refine SO.nn ?_
    refine SC.ret ?_
    refine SQ.then_ret ?_
    refine SQ.out (.inl rfl) (res2 rfl rfl rfl) ?_
    refine ⟨?_, hO1.toBelow trivial⟩
    exact around_val hr rfl (by rw [if_neg (by rw [bl_length]; omega)])
   ·
    refine SC.skip ?_
    refine SQ.then_normal ?_
    refine SC.seq ?_
    have h4 := usz_le4 ((bl s).drop i)
    refine SC.region ?_
    refine SO.mv ?_
    refine SO.mv ?_
    refine SO.mv ?_
    refine SO.mv ?_
    refine SO.v (.sliceL rfl rfl rfl Tryz.underlying9 (by omega)) ?_
    refine SO.call rfl rfl rfl rfl (.callF rfl rfl en159) (first_at _ _ _ (hO1.good hG) (by omega)) ?_
    rintro _ w11 ⟨rfl, hb11⟩
    have hO11 := hO1.below hb11
    refine ⟨_, rfl, ?_⟩
    refine SO.v (.field rfl rfl (fi177_1_Uni _ _)) ?_
    refine SO.v (.add rfl rfl rfl (by omega)) ?_
    refine SO.as ?_
    refine SO.as ?_
    refine SO.nn ?_
    refine SC.ret ?_
    refine SQ.out (.inl rfl) (res2 rfl rfl rfl) ?_
    refine ⟨?_, hO11.toBelow trivial⟩
    exact around_val hr rfl (by rw [if_pos (by rw [bl_length]; omega)]; omega)

end Go.Proofs.YtclgplkkajfenaaGreatDoor
/- unit.Boundary, At, Down, Prev, Next. -/
namespace Go.Proofs.YtclgplkkajfenaaGreatDoor
open Go Go.RowKit Ow
theorem first_int (s : ByteArray) (i : Int) (w : World) (hG : Good w) (h0 : 0 ≤ i) (hi : i < s.size) :
    Calls Tryz.prog 159 #[.string (s.extract i.toNat s.size)] w fun e w' => e = .returned (.agg #[.int .i32 (uch ((bl s).drop i.toNat)), .int .i64 (usz ((bl s).drop i.toNat) : Nat)]) ∧ Below w.heap.size w w' := by
  obtain ⟨n, rfl⟩ := Int.eq_ofNat_of_zero_le h0
  exact first_at s n w hG (by omega)
/-- Is there a boundary of units at i? -/
def uBd (l : Bs) (i : Int) : Prop := 0 ≤ i ∧ i ≤ l.length ∧ uDown l i.toNat = i.toNat
instance (l : Bs) (i : Int) : Decidable (uBd l i) := by unfold uBd; infer_instance
theorem around_at (s : ByteArray) (i : Int) (w : World) (hG : Good w) (h0 : 0 ≤ i) (hi : i ≤ s.size) (hz : s.size ≤ 4611686018427387904) :
    Calls Tryz.prog 144 #[.string s, .int .i64 i] w fun e w' => e = .returned (.tuple #[.int .i64 (uDown (bl s) i.toNat), .int .i64 (uEnd (bl s) i.toNat)]) ∧ Below w.heap.size w w' := by
  obtain ⟨n, rfl⟩ := Int.eq_ofNat_of_zero_le h0
  exact around_any s n w hG (by omega) hz
/-- The clamp of a number. -/
def clamp (l : Bs) (i : Int) : Nat := (min (max i 0) (l.length : Int)).toNat
def uPrev (l : Bs) (i : Int) : Nat := if i ≤ 0 then 0 else uDown l (min (i - 1) (l.length : Int)).toNat
def uNext (l : Bs) (i : Int) : Nat := if i < 0 then 0 else uEnd l (min i (l.length : Int)).toNat
def uAt (l : Bs) (i : Int) : Prop := uBd l i ∧ i < l.length
instance (l : Bs) (i : Int) : Decidable (uAt l i) := by unfold uAt; infer_instance
def atCh (l : Bs) (i : Int) : Int := if uAt l i then uch (l.drop i.toNat) else 0
def atSz (l : Bs) (i : Int) : Nat := if uAt l i then usz (l.drop i.toNat) else 0

set_option maxRecDepth 20000 in
set_option maxHeartbeats 400000 in
theorem boundary_at (s : ByteArray) (i : Int) (w : World) (hG : Good w) (hz : s.size ≤ 4611686018427387904) :
    Calls Tryz.prog 130 #[.string s, .int .i64 i] w fun e w' => e = .returned (.bool (decide (uBd (bl s) i))) ∧ Below w.heap.size w w' := by
  have hO0 := Own.start hG
  refine enter Tryz.func130 rfl rfl rfl 0 ?_
  refine SC.sr ?_
  refine SO.as ?_
  refine SO.nn ?_
  refine SC.seq ?_
  refine SC.sr ?_
  refine SO.mv ?_
  refine SO.v (.lss rfl rfl rfl) ?_
  refine SO.mv ?_
  refine SO.dec 9 rfl (fun g1 => ?_) (fun g1 => ?_)
  ·
   refine SO.ps ?_
   refine SO.ps ?_
   refine SO.ps ?_
   refine SO.ps ?_
   refine SO.v (.pickT rfl rfl rfl) ?_
   refine SO.nn ?_
   refine SC.yes rfl ?_
   refine SC.sr ?_
   refine SO.as ?_
   refine SO.nn ?_
   refine SC.ret ?_
   refine SQ.then_ret ?_
   refine SQ.out (.inl rfl) (res1 rfl rfl) ?_
   refine ⟨?_, hO0.toBelow trivial⟩
   (rw [decide_eq_false (by unfold uBd; rw [bl_length]; omega)])
  ·
   refine SO.mv ?_
   refine SO.mv ?_
   refine SO.v (.lenS rfl rfl Tryz.underlying9) ?_
   refine SO.v (.gtr rfl rfl rfl) ?_
   refine SO.v (.pickF rfl rfl rfl) ?_
   refine SO.nn ?_
   refine SC.dec rfl (fun c3 => ?_) (fun c3 => ?_)
   ·
    refine SC.sr ?_
    refine SO.as ?_
    refine SO.nn ?_
    refine SC.ret ?_
    refine SQ.then_ret ?_
    refine SQ.out (.inl rfl) (res1 rfl rfl) ?_
    refine ⟨?_, hO0.toBelow trivial⟩
    (rw [decide_eq_false (by unfold uBd; rw [bl_length]; omega)])
   ·
    refine SC.skip ?_
    refine SQ.then_normal ?_
    refine SC.sr ?_
    refine SO.mv ?_
    refine SO.mv ?_
    refine SO.call rfl rfl rfl rfl (.callF rfl rfl en144) (around_at _ _ _ (hO0.good hG) (by omega) (by omega) hz) ?_
    rintro _ w5 ⟨rfl, hb5⟩
    have hO5 := hO0.below hb5
    refine ⟨_, rfl, ?_⟩
    refine SO.mv ?_
    refine SO.v (.extract rfl rfl rfl) ?_
    refine SO.v (.extract rfl rfl rfl) ?_
    refine SO.as ?_
    refine SO.as ?_
    refine SO.nn ?_
    refine SC.sr ?_
    refine SO.mv ?_
    refine SO.mv ?_
    refine SO.v (.eql rfl rfl rfl) ?_
    refine SO.as ?_
    refine SO.nn ?_
    refine SC.ret ?_
    refine SQ.out (.inl rfl) (res1 rfl rfl) ?_
    refine ⟨?_, hO5.toBelow trivial⟩
    (congr 2; exact decide_eq_decide.2 (by unfold uBd; rw [bl_length]; omega))

theorem bd177_z_Unj  : ∀ w, (Instr.build 177 [].toArray).run Tryz.prog w = .ok (.agg [.int .i32 0, .int .i64 0].toArray) w := fun _ => by kernel_rfl
set_option maxRecDepth 20000 in
set_option maxHeartbeats 400000 in
theorem at_any (s : ByteArray) (i : Int) (w : World) (hG : Good w) (hz : s.size ≤ 4611686018427387904) :
    Calls Tryz.prog 131 #[.string s, .int .i64 i] w fun e w' => e = .returned (.tuple #[.agg #[.int .i32 (atCh (bl s) i), .int .i64 (atSz (bl s) i)], .bool (decide (uAt (bl s) i))]) ∧ Below w.heap.size w w' := by
  have hO0 := Own.start hG
  refine enter Tryz.func131 rfl rfl rfl 0 ?_
  refine SC.sr ?_
  refine SO.alloc hO0 rfl rfl rfl rfl zv177 [_, _] rfl ?_
  intro b1 w1 hb1 hO1
  refine SO.as ?_
  refine SO.nn ?_
  refine SC.seq ?_
  refine SC.sr ?_
  refine SO.mv ?_
  refine SO.v (.lss rfl rfl rfl) ?_
  refine SO.mv ?_
  refine SO.dec 8 rfl (fun g2 => ?_) (fun g2 => ?_)
  ·
   refine SO.ps ?_
   refine SO.ps ?_
   refine SO.ps ?_
   refine SO.ps ?_
   refine SO.v (.pickT rfl rfl rfl) ?_
   refine SO.mv ?_
   refine SO.ps ?_
   refine SO.ps ?_
   refine SO.ps ?_
   refine SO.ps ?_
   refine SO.v (.pickT rfl rfl rfl) ?_
   refine SO.nn ?_
   refine SC.yes rfl ?_
   refine SC.sr ?_
   refine SO.v (.build rfl rfl (bd177_z_Unj)) ?_
   refine SO.store hO1 (i := 0) rfl rfl rfl rfl rfl rfl sz177 rfl rfl [(_, .cells [_, _].toArray _ _)] rfl ?_
   intro w3 hO3
   refine SO.as ?_
   refine SO.nn ?_
   refine SC.ret ?_
   refine SQ.then_ret ?_
   refine SQ.out (.inl rfl) (resCT [_, _] rfl rfl rfl ag177 sz177 (hO3.at (i := 0) rfl) rfl rfl) ?_
   refine ⟨?_, hO3.toBelow ⟨hb1, trivial⟩⟩
   unfold atCh atSz
   (have hA : ¬ uAt (bl s) i := (by unfold uAt uBd at *; rw [bl_length] at *; omega); rw [if_neg hA, if_neg hA, decide_eq_false hA]; rfl)
  ·
   refine SO.mv ?_
   refine SO.mv ?_
   refine SO.v (.lenS rfl rfl Tryz.underlying9) ?_
   refine SO.v (.geq rfl rfl rfl) ?_
   refine SO.v (.pickF rfl rfl rfl) ?_
   refine SO.mv ?_
   refine SO.dec 14 rfl (fun g5 => ?_) (fun g5 => ?_)
   ·
    refine SO.ps ?_
    refine SO.ps ?_
    refine SO.ps ?_
    refine SO.ps ?_
    refine SO.v (.pickT rfl rfl rfl) ?_
    refine SO.nn ?_
    refine SC.yes rfl ?_
    refine SC.sr ?_
    refine SO.v (.build rfl rfl (bd177_z_Unj)) ?_
    refine SO.store hO1 (i := 0) rfl rfl rfl rfl rfl rfl sz177 rfl rfl [(_, .cells [_, _].toArray _ _)] rfl ?_
    intro w6 hO6
    refine SO.as ?_
    refine SO.nn ?_
    refine SC.ret ?_
    refine SQ.then_ret ?_
    refine SQ.out (.inl rfl) (resCT [_, _] rfl rfl rfl ag177 sz177 (hO6.at (i := 0) rfl) rfl rfl) ?_
    refine ⟨?_, hO6.toBelow ⟨hb1, trivial⟩⟩
    unfold atCh atSz
    (have hA : ¬ uAt (bl s) i := (by unfold uAt uBd at *; rw [bl_length] at *; omega); rw [if_neg hA, if_neg hA, decide_eq_false hA]; rfl)
   ·
    refine SO.mv ?_
    refine SO.mv ?_
    refine SO.call rfl rfl rfl rfl (.callF rfl rfl en130) (boundary_at _ _ _ (hO1.good hG) hz) ?_
    rintro _ w8 ⟨rfl, hb8⟩
    have hO8 := hO1.below hb8
    refine ⟨_, rfl, ?_⟩
    refine SO.v (.notD rfl rfl) ?_
    refine SO.v (.pickF rfl rfl rfl) ?_
    refine SO.nn ?_
    refine SC.dec rfl (fun c9 => ?_) (fun c9 => ?_)
    ·
     refine SC.sr ?_
     refine SO.v (.build rfl rfl (bd177_z_Unj)) ?_
     refine SO.store hO8 (i := 0) rfl rfl rfl rfl rfl rfl sz177 rfl rfl [(_, .cells [_, _].toArray _ _)] rfl ?_
     intro w10 hO10
     refine SO.as ?_
     refine SO.nn ?_
     refine SC.ret ?_
     refine SQ.then_ret ?_
     refine SQ.out (.inl rfl) (resCT [_, _] rfl rfl rfl ag177 sz177 (hO10.at (i := 0) rfl) rfl rfl) ?_
     refine ⟨?_, hO10.toBelow ⟨hb1, trivial⟩⟩
     unfold atCh atSz
     (have hA : ¬ uAt (bl s) i := (by unfold uAt uBd at *; rw [bl_length] at *; omega); rw [if_neg hA, if_neg hA, decide_eq_false hA]; rfl)
    ·
     refine SC.skip ?_
     refine SQ.then_normal ?_
     refine SC.seq ?_
     have hA : uAt (bl s) i := ⟨Decidable.not_not.1 (by assumption), by rw [bl_length]; omega⟩
     refine SC.region ?_
     refine SO.mv ?_
     refine SO.mv ?_
     refine SO.v (.sliceL rfl rfl rfl Tryz.underlying9 (by omega)) ?_
     refine SO.call rfl rfl rfl rfl (.callF rfl rfl en159) (first_int _ _ _ (hO8.good hG) (by omega) (by omega)) ?_
     rintro _ w12 ⟨rfl, hb12⟩
     have hO12 := hO8.below hb12
     refine ⟨_, rfl, ?_⟩
     refine SO.store hO12 (i := 0) rfl rfl rfl rfl rfl rfl sz177 rfl rfl [(_, .cells [_, _].toArray _ _)] rfl ?_
     intro w13 hO13
     refine SO.as ?_
     refine SO.nn ?_
     refine SC.ret ?_
     refine SQ.out (.inl rfl) (resCT [_, _] rfl rfl rfl ag177 sz177 (hO13.at (i := 0) rfl) rfl rfl) ?_
     refine ⟨?_, hO13.toBelow ⟨hb1, trivial⟩⟩
     unfold atCh atSz
     rw [if_pos hA, if_pos hA, decide_eq_true hA]

set_option maxRecDepth 20000 in
set_option maxHeartbeats 400000 in
theorem down_any (s : ByteArray) (i : Int) (w : World) (hG : Good w) (hz : s.size ≤ 4611686018427387904) :
    Calls Tryz.prog 160 #[.string s, .int .i64 i] w fun e w' => e = .returned (.int .i64 (uDown (bl s) (clamp (bl s) i))) ∧ Below w.heap.size w w' := by
  have hO0 := Own.start hG
  refine enter Tryz.func160 rfl rfl rfl 0 ?_
  refine SC.sr ?_
  refine SO.as ?_
  refine SO.nn ?_
  refine SC.sr ?_
  refine SO.mv ?_
  refine SO.mv ?_
  refine SO.v (.maxI rfl rfl rfl) ?_
  refine SO.mv ?_
  refine SO.v (.lenS rfl rfl Tryz.underlying9) ?_
  refine SO.v (.minI rfl rfl rfl) ?_
  refine SO.call rfl rfl rfl rfl (.callF rfl rfl en144) (around_at _ _ _ (hO0.good hG) (by omega) (by omega) hz) ?_
  rintro _ w1 ⟨rfl, hb1⟩
  have hO1 := hO0.below hb1
  refine ⟨_, rfl, ?_⟩
  refine SO.mv ?_
  refine SO.v (.extract rfl rfl rfl) ?_
  refine SO.v (.extract rfl rfl rfl) ?_
  refine SO.as ?_
  refine SO.as ?_
  refine SO.nn ?_
  refine SC.sr ?_
  refine SO.mv ?_
  refine SO.as ?_
  refine SO.nn ?_
  refine SC.ret ?_
  refine SQ.out (.inl rfl) (res1 rfl rfl) ?_
  exact ⟨rfl, hO1.toBelow trivial⟩

set_option maxRecDepth 20000 in
set_option maxHeartbeats 400000 in
theorem prev_any (s : ByteArray) (i : Int) (w : World) (hG : Good w) (hz : s.size ≤ 4611686018427387904) (hi : i ≤ 4611686018427387904) :
    Calls Tryz.prog 132 #[.string s, .int .i64 i] w fun e w' => e = .returned (.int .i64 (uPrev (bl s) i)) ∧ Below w.heap.size w w' := by
  have hO0 := Own.start hG
  refine enter Tryz.func132 rfl rfl rfl 0 ?_
  refine SC.sr ?_
  refine SO.as ?_
  refine SO.nn ?_
  refine SC.seq ?_
  refine SC.sr ?_
  refine SO.mv ?_
  refine SO.v (.leq rfl rfl rfl) ?_
  refine SO.nn ?_
  refine SC.dec rfl (fun c1 => ?_) (fun c1 => ?_)
  ·
   refine SC.sr ?_
   refine SO.as ?_
   refine SO.nn ?_
   refine SC.ret ?_
   refine SQ.then_ret ?_
   refine SQ.out (.inl rfl) (res1 rfl rfl) ?_
   refine ⟨?_, hO0.toBelow trivial⟩
   unfold uPrev
   (rw [if_pos (by omega)]; rfl)
  ·
   refine SC.skip ?_
   refine SQ.then_normal ?_
   refine SC.sr ?_
   refine SO.mv ?_
   refine SO.mv ?_
   refine SO.v (.sub rfl rfl rfl (by omega)) ?_
   refine SO.mv ?_
   refine SO.v (.lenS rfl rfl Tryz.underlying9) ?_
   refine SO.v (.minI rfl rfl rfl) ?_
   refine SO.call rfl rfl rfl rfl (.callF rfl rfl en160) (down_any _ _ _ (hO0.good hG) hz) ?_
   rintro _ w3 ⟨rfl, hb3⟩
   have hO3 := hO0.below hb3
   refine ⟨_, rfl, ?_⟩
   refine SO.as ?_
   refine SO.nn ?_
   refine SC.ret ?_
   refine SQ.out (.inl rfl) (res1 rfl rfl) ?_
   refine ⟨?_, hO3.toBelow trivial⟩
   unfold uPrev
   (rw [if_neg (by omega)]; unfold clamp; rw [bl_length]; congr 4; omega)

set_option maxRecDepth 20000 in
set_option maxHeartbeats 400000 in
theorem next_any (s : ByteArray) (i : Int) (w : World) (hG : Good w) (hz : s.size ≤ 4611686018427387904) :
    Calls Tryz.prog 83 #[.string s, .int .i64 i] w fun e w' => e = .returned (.int .i64 (uNext (bl s) i)) ∧ Below w.heap.size w w' := by
  have hO0 := Own.start hG
  refine enter Tryz.func83 rfl rfl rfl 0 ?_
  refine SC.sr ?_
  refine SO.as ?_
  refine SO.nn ?_
  refine SC.seq ?_
  refine SC.sr ?_
  refine SO.mv ?_
  refine SO.v (.lss rfl rfl rfl) ?_
  refine SO.nn ?_
  refine SC.dec rfl (fun c1 => ?_) (fun c1 => ?_)
  ·
   refine SC.sr ?_
   refine SO.as ?_
   refine SO.nn ?_
   refine SC.ret ?_
   refine SQ.then_ret ?_
   refine SQ.out (.inl rfl) (res1 rfl rfl) ?_
   refine ⟨?_, hO0.toBelow trivial⟩
   unfold uNext
   (rw [if_pos (by omega)]; rfl)
  ·
   refine SC.skip ?_
   refine SQ.then_normal ?_
   refine SC.sr ?_
   refine SO.mv ?_
   refine SO.mv ?_
   refine SO.mv ?_
   refine SO.v (.lenS rfl rfl Tryz.underlying9) ?_
   refine SO.v (.minI rfl rfl rfl) ?_
   refine SO.call rfl rfl rfl rfl (.callF rfl rfl en144) (around_at _ _ _ (hO0.good hG) (by omega) (by omega) hz) ?_
   rintro _ w3 ⟨rfl, hb3⟩
   have hO3 := hO0.below hb3
   refine ⟨_, rfl, ?_⟩
   refine SO.mv ?_
   refine SO.v (.extract rfl rfl rfl) ?_
   refine SO.v (.extract rfl rfl rfl) ?_
   refine SO.as ?_
   refine SO.as ?_
   refine SO.nn ?_
   refine SC.sr ?_
   refine SO.mv ?_
   refine SO.as ?_
   refine SO.nn ?_
   refine SC.ret ?_
   refine SQ.out (.inl rfl) (res1 rfl rfl) ?_
   refine ⟨?_, hO3.toBelow trivial⟩
   unfold uNext
   (rw [if_neg (by omega)]; rfl)

end Go.Proofs.YtclgplkkajfenaaGreatDoor
/- The calculus: conversions, shifts, places of rows, copies, new rows, bytes to strings. -/
    namespace Go.Proofs.YtclgplkkajfenaaGreatDoor
namespace Ow
open Go Go.RowKit
variable {P : Program} {ro : Option Nat} {n : Nat} {ops : Array Oper} {Q : Exit → Act → World → Prop} {N : Nat} {D : List Deferred} {e : Env} {w : World} {o : Oper}
theorem Res.convI {S T : TypeId} {x : Operand} {k k' : IntKind} {a b : Int} (ho : o.op = .convert S T x) (hx : ev e x = some (.int k a)) (hs : (P.underlying S).isSome = true) (hd : P.underlying T = some (.int k'))
    (hb : k'.wrap a = b) : Res P e o w (.ok (.value (.int k' b)) w) := fun ac h => by
  obtain ⟨d, hd'⟩ := Option.isSome_iff_exists.mp hs
  unfold execOp; rw [ho]; simp only [ev_eval h hx]
  subst hb
  simp [convert, run_underlying hd', run_underlying hd, Conv.intToInt, Sem.run_bind, Result.andThen]
theorem u64_in (a : Int) (h : 0 ≤ a ∧ a < 18446744073709551616) : IntKind.u64.wrap a = a := by
  simp [IntKind.wrap, IntKind.signed, IntKind.bits]; omega
theorem Res.shr1 {T yT : TypeId} {x y : Operand} {j : IntKind} {a : Int} (ho : o.op = .binOp .shr T x y yT) (hx : ev e x = some (.int .u64 a)) (hy : ev e y = some (.int j 1)) :
    Res P e o w (.ok (.value (.int .u64 (a / 2))) w) :=
  .bin ho hx hy (by simp [eqGuard, go_sem]) (by simp [binOp, go_sem])
theorem Res.indexAddr {T E : TypeId} {x y : Operand} {b off len cap sz : Nat} {k : IntKind} {i : Int} (ho : o.op = .indexAddr T x y) (hx : ev e x = some (.slice (some ⟨b, off, none⟩) len cap)) (hy : ev e y = some (.int k i))
    (hT : P.underlying T = some (.slice E)) (hs : ∀ w, (sizeOf E).run P w = .ok sz w) (h0 : 0 ≤ i) (h1 : i < len) : Res P e o w (.ok (.value (.pointer (some ⟨b, off + i.toNat * sz, none⟩))) w) := fun ac h => by
  unfold execOp; rw [ho]; simp only [ev_eval h hx, ev_eval h hy]
  have he : P.elem T = E := by simp [Program.elem, hT]
  simp [Instr.indexAt, run_underlying hT, asIntOf, h0, h1, hs, Sem.run_bind, Result.andThen, Addr.add, go_sem]
end Ow
end Go.Proofs.YtclgplkkajfenaaGreatDoor
/- sort.Search. -/
  namespace Go.Proofs.YtclgplkkajfenaaGreatDoor
open Go Go.RowKit Ow
set_option maxRecDepth 20000 in
set_option maxHeartbeats 400000 in
theorem search_any (n : Nat) (f : FuncId) (fs cs : Array Value) (p : Nat → Prop) [DecidablePred p] (w : World) (hG : Good w) (hn : n ≤ 4611686018427387904)
    (he : ∀ args w, (callFunc f args).run Tryz.prog w = .ok (.enter f args) w) (hp : ∀ i j, i ≤ j → j < n → p i → p j)
    (hf : ∀ i < n, ∀ w', Below w.heap.size w w' → Calls Tryz.prog f (fs ++ #[.int .i64 (i : Nat)] ++ cs) w' fun e w'' => e = .returned (.bool (decide (p i))) ∧ Below w'.heap.size w' w'') :
    Calls Tryz.prog 142 #[.int .i64 n, .func (.func f) fs cs] w fun e w' => ∃ r : Nat, e = .returned (.int .i64 r) ∧ r ≤ n ∧ (∀ t < r, ¬ p t) ∧ (∀ t, r ≤ t → t < n → p t) ∧ Below w.heap.size w w' := by
  have hO0 := Own.start hG
  refine enter Tryz.func142 rfl rfl rfl 0 ?_
  refine SC.sr ?_
  refine SO.as ?_
  refine SO.nn ?_
  refine SC.sr ?_
  refine SO.mv ?_
  refine SO.as ?_
  refine SO.as ?_
  refine SO.nn ?_
  refine SC.seq ?_
  refine SC.block ?_
  refine SC.loop (α := Nat × Nat) (fun x => [(0, .int .i64 (n : Int)), (1, .func (.func f) fs cs), (5, .int .i64 (x.1 : Int)), (6, .int .i64 (x.2 : Int))]) (fun x v => x.1 ≤ x.2 ∧ x.2 ≤ n ∧ (∀ t < x.1, ¬ p t) ∧ (∀ t, x.2 ≤ t → t < n → p t) ∧ Ow.Own w [] v) (fun x => x.2 - x.1) (0, n) ?_ ?_ ?_
  · exact ⟨rfl, rfl, rfl, rfl, trivial⟩
  · exact ⟨by simp, by simp, fun t h => by simp at h, fun t h1 h2 => by simp at h1; omega, hO0⟩
  rintro ⟨i, j⟩ w1 ⟨hij, hjn, hlo, hhi, hO1⟩
  simp only at hij hjn hlo hhi
  refine SC.seq ?_
  refine SC.sr ?_
  refine SO.mv ?_
  refine SO.mv ?_
  refine SO.v (.lss rfl rfl rfl) ?_
  refine SO.nn ?_
  refine SC.dec rfl (fun c2 => ?_) (fun c2 => ?_)
  ·
   refine SC.skip ?_
   refine SQ.then_normal ?_
   refine SC.block ?_
   refine SC.sr ?_
   refine SO.mv ?_
   refine SO.mv ?_
   refine SO.v (.add rfl rfl rfl (by omega)) ?_
   refine SO.v (.convI rfl rfl (by rw [Tryz.underlying3]; rfl) Tryz.underlying207 (u64_in _ (by omega))) ?_
   refine SO.v (.shr1 rfl rfl rfl) ?_
   refine SO.v (.convI rfl rfl (by rw [Tryz.underlying207]; rfl) Tryz.underlying3 (IntWalk.i64_in _ (by omega))) ?_
   refine SO.as ?_
   refine SO.nn ?_
   refine SC.seq ?_
   obtain ⟨m, hm⟩ : ∃ m : Nat, ((i : Int) + j) / 2 = m := ⟨(i + j) / 2, by omega⟩
   have hmi : i ≤ m ∧ m < j := by omega
   have hc : Calls Tryz.prog f (fs ++ #[.int .i64 (((i : Int) + j) / 2)] ++ cs) w1 fun e w'' => e = .returned (.bool (decide (p m))) ∧ Below w1.heap.size w1 w'' := by rw [hm]; exact hf m (by omega) _ (hO1.toBelow trivial)
   refine SC.region ?_
   refine SO.mv ?_
   refine SO.mv ?_
   refine SO.call rfl rfl rfl rfl (.callV rfl rfl rfl he) (hc) ?_
   rintro _ w3 ⟨rfl, hb3⟩
   have hO3 := hO1.below hb3
   refine ⟨_, rfl, ?_⟩
   refine SO.v (.notD rfl rfl) ?_
   refine SO.nn ?_
   refine SC.dec rfl (fun c4 => ?_) (fun c4 => ?_)
   ·
    have hlo2 : ∀ t < m + 1, ¬ p t := fun t ht h => c4 (hp t m (by omega) (by omega) h)
    refine SC.region ?_
    refine SO.mv ?_
    refine SO.v (.add rfl rfl rfl (by omega)) ?_
    refine SO.as ?_
    refine SO.nil ?_
    refine SQ.block_normal ?_
    exact SQ.round (m + 1, j) (by simp only; omega) ⟨rfl, rfl, look_int rfl (by simp only; omega), rfl, trivial⟩ ⟨by simp only; omega, hjn, hlo2, hhi, hO3⟩
   ·
    have hhi2 : ∀ t, m ≤ t → t < n → p t := fun t h1 h2 => hp m t h1 h2 (Decidable.not_not.1 c4)
    refine SC.region ?_
    refine SO.mv ?_
    refine SO.as ?_
    refine SO.nil ?_
    refine SQ.block_normal ?_
    exact SQ.round (i, m) (by simp only; omega) ⟨rfl, rfl, rfl, look_int rfl (by simp only; omega), trivial⟩ ⟨by simp only; omega, by simp only; omega, hlo, hhi2, hO3⟩
  ·
   refine SC.exit ?_
   refine SQ.then_exit ?_
   refine SQ.then_exit ?_
   refine SQ.block_exit ?_
   refine SQ.then_normal ?_
   refine SC.sr ?_
   refine SO.mv ?_
   refine SO.as ?_
   refine SO.nn ?_
   refine SC.ret ?_
   refine SQ.out (.inl rfl) (res1 rfl rfl) ?_
   exact ⟨i, rfl, by omega, hlo, fun t h1 h2 => hhi t (by omega) h2, hO1.toBelow trivial⟩

end Go.Proofs.YtclgplkkajfenaaGreatDoor
