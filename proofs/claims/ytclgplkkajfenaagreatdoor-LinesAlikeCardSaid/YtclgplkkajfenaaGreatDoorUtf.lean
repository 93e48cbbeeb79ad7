import Derived.Test.YtclgplkkajfenaaGreatDoorBase
/- Plain facts on bytes: the units of a text (UTF-8 characters and lone bad bytes), cut off from the left, and that three bytes back are enough to find the unit around a place. -/
namespace Go.Proofs.YtclgplkkajfenaaGreatDoor

abbrev Bs := List UInt8

/-- A byte of a text, as a number; 0 behind its end. -/
def by' (l : Bs) (k : Nat) : Nat := (l.getD k 0).toNat
/-- Is the byte at k there, and one that goes on (80 to BF)? -/
def con (l : Bs) (k : Nat) : Bool := decide (k < l.length) && by' l k / 64 == 2

def okRune (r : Nat) : Bool := decide (r < 0xD800) || (decide (0xE000 ≤ r) && decide (r ≤ 0x10FFFF))

/-- The unit at the head: its character (-1: a bad byte) and its size. -/
def un (l : Bs) : Int × Nat :=
  let b0 := by' l 0
  if b0 < 0x80 then (b0, 1)
  else if b0 / 32 == 6 && con l 1 then
    let c := (b0 % 32) * 64 + by' l 1 % 64
    if c ≥ 0x80 then (c, 2) else (-1, 1)
  else if b0 / 16 == 14 && con l 1 && con l 2 then
    let c := (b0 % 16) * 4096 + (by' l 1 % 64) * 64 + by' l 2 % 64
    if c ≥ 0x800 && okRune c then (c, 3) else (-1, 1)
  else if b0 / 8 == 30 && con l 1 && con l 2 && con l 3 then
    let c := (b0 % 8) * 262144 + (by' l 1 % 64) * 4096 + (by' l 2 % 64) * 64 + by' l 3 % 64
    if c ≥ 0x10000 && okRune c then (c, 4) else (-1, 1)
  else (-1, 1)

def usz (l : Bs) : Nat := (un l).2

theorem usz_pos (l : Bs) : 1 ≤ usz l := by
  unfold usz un; dsimp only
  repeat' split
  all_goals simp

theorem usz_le4 (l : Bs) : usz l ≤ 4 := by
  unfold usz un; dsimp only
  repeat' split
  all_goals simp

/-- A unit of two bytes or more: its first byte is no byte that goes on, its others are, and all are there. -/
theorem usz_multi (l : Bs) (h : 2 ≤ usz l) : by' l 0 / 64 = 3 ∧ ∀ k, 1 ≤ k → k < usz l → con l k = true := by
  revert h
  unfold usz un; dsimp only
  split
  · intro h; simp at h
  · split
    · rename_i h0 h1
      simp only [Bool.and_eq_true, beq_iff_eq] at h1
      split
      · intro _
        refine ⟨by omega, fun k hk hk2 => ?_⟩
        obtain rfl : k = 1 := by simp at hk2; omega
        exact h1.2
      · intro h; simp at h
    · split
      · rename_i h0 h1
        simp only [Bool.and_eq_true, beq_iff_eq] at h1
        split
        · intro _
          refine ⟨by omega, fun k hk hk2 => ?_⟩
          simp at hk2
          obtain rfl | rfl : k = 1 ∨ k = 2 := by omega
          · exact h1.1.2
          · exact h1.2
        · intro h; simp at h
      · split
        · rename_i h0 h1
          simp only [Bool.and_eq_true, beq_iff_eq] at h1
          split
          · intro _
            refine ⟨by omega, fun k hk hk2 => ?_⟩
            simp at hk2
            obtain rfl | rfl | rfl : k = 1 ∨ k = 2 ∨ k = 3 := by omega
            · exact h1.1.1.2
            · exact h1.1.2
            · exact h1.2
          · intro h; simp at h
        · intro h; simp at h

theorem con_lt {l : Bs} {k : Nat} (h : con l k = true) : k < l.length := by
  unfold con at h; simp at h; exact h.1

theorem con_by {l : Bs} {k : Nat} (h : con l k = true) : by' l k / 64 = 2 := by
  unfold con at h; simp at h; exact h.2

theorem by_drop (l : Bs) (i k : Nat) : by' (l.drop i) k = by' l (i + k) := by
  unfold by'; simp [List.getD_eq_getElem?_getD, List.getElem?_drop]

theorem con_drop (l : Bs) (i k : Nat) : con (l.drop i) k = con l (i + k) := by
  unfold con; rw [by_drop]; congr 1; simp only [List.length_drop, decide_eq_decide]; omega

theorem usz_le_length (l : Bs) (h : l ≠ []) : usz l ≤ l.length := by
  have h1 : 1 ≤ l.length := by cases l with | nil => exact absurd rfl h | cons _ _ => simp
  by_cases h2 : 2 ≤ usz l
  · have := (usz_multi l h2).2 (usz l - 1) (by omega) (by omega)
    have := con_lt this
    omega
  · omega

/-- From the place i the cuts of units lead to the place j. -/
inductive Re (l : Bs) : Nat → Nat → Prop
  | refl (i : Nat) : Re l i i
  | head (i j : Nat) : i < l.length → Re l (i + usz (l.drop i)) j → Re l i j

theorem drop_ne {l : Bs} {i : Nat} (h : i < l.length) : l.drop i ≠ [] := by
  intro e; have := congrArg List.length e; simp at this; omega

theorem usz_drop_le {l : Bs} {i : Nat} (h : i < l.length) : i + usz (l.drop i) ≤ l.length := by
  have := usz_le_length _ (drop_ne h); simp at this; omega

theorem Re.le {l : Bs} {i j : Nat} (h : Re l i j) : i ≤ j := by
  induction h with
  | refl => exact Nat.le_refl _
  | head i j _ _ ih => omega

theorem Re.snoc {l : Bs} {i j : Nat} (h : Re l i j) (hj : j < l.length) : Re l i (j + usz (l.drop j)) := by
  induction h with
  | refl i => exact .head _ _ hj (.refl _)
  | head i j h1 _ ih => exact .head _ _ h1 (ih hj)

theorem Re.trans {l : Bs} {i j k : Nat} (h : Re l i j) (h2 : Re l j k) : Re l i k := by
  induction h with
  | refl i => exact h2
  | head i j h1 _ ih => exact .head _ _ h1 (ih h2)

theorem Re.le_length {l : Bs} {i j : Nat} (h : Re l i j) (hi : i ≤ l.length) : j ≤ l.length := by
  induction h with
  | refl i => exact hi
  | head i j h1 _ ih => exact ih (usz_drop_le h1)

theorem Re.step {l : Bs} {i j : Nat} (h : Re l i j) (hlt : i < j) : i < l.length ∧ Re l (i + usz (l.drop i)) j := by
  cases h with
  | refl => omega
  | head _ _ h1 h2 => exact ⟨h1, h2⟩

theorem Re.two {l : Bs} {a i j : Nat} (hi : Re l a i) (hj : Re l a j) : Re l i j ∨ Re l j i := by
  induction hi with
  | refl => exact .inl hj
  | head a i h1 h2 ih =>
    cases hj with
    | refl => exact .inr (.head _ _ h1 h2)
    | head _ _ _ h4 => exact ih h4

/-- i is a boundary of the units of l. -/
def UB (l : Bs) (i : Nat) : Prop := Re l 0 i

theorem UB.zero (l : Bs) : UB l 0 := .refl 0
theorem UB.le {l : Bs} {i : Nat} (h : UB l i) : i ≤ l.length := Re.le_length h (Nat.zero_le _)
theorem UB.next {l : Bs} {i : Nat} (h : UB l i) (hi : i < l.length) : UB l (i + usz (l.drop i)) := Re.snoc h hi

/-- Behind a boundary the next one is its unit's end. -/
theorem UB.gap {l : Bs} {i j : Nat} (hi : UB l i) (hj : UB l j) (h : i < j) : i + usz (l.drop i) ≤ j := by
  rcases Re.two hi hj with h1 | h1
  · exact (h1.step h).2.le
  · have := h1.le; omega

/-- The boundary at or ahead of i (by so many rounds, from the boundary j on). -/
def downF (l : Bs) : Nat → Nat → Nat → Nat
  | 0, j, _ => j
  | f + 1, j, i => if j + usz (l.drop j) ≤ i ∧ j < l.length then downF l f (j + usz (l.drop j)) i else j
/-- The greatest boundary at or ahead of i. -/
def uDown (l : Bs) (i : Nat) : Nat := downF l i 0 i

theorem downF_spec (l : Bs) (i : Nat) (_hil : i ≤ l.length) : ∀ f j, Re l 0 j → j ≤ i → i ≤ f + j → UB l (downF l f j i) ∧ downF l f j i ≤ i ∧ (downF l f j i < l.length → i < downF l f j i + usz (l.drop (downF l f j i))) := by
  intro f
  induction f with
  | zero =>
    intro j hj hji hf
    obtain rfl : i = j := by omega
    have := usz_pos (l.drop i)
    exact ⟨hj, hji, fun _ => by simp only [downF]; omega⟩
  | succ f ih =>
    intro j hj hji hf
    have p := usz_pos (l.drop j)
    simp only [downF]
    split
    · rename_i h
      exact ih _ (hj.snoc h.2) h.1 (by omega)
    · rename_i h
      refine ⟨hj, hji, fun hl => ?_⟩
      have : ¬ (j + usz (l.drop j) ≤ i) := fun h2 => h ⟨h2, hl⟩
      omega

theorem uDown_spec (l : Bs) (i : Nat) (hil : i ≤ l.length) : UB l (uDown l i) ∧ uDown l i ≤ i ∧ (uDown l i < l.length → i < uDown l i + usz (l.drop (uDown l i))) :=
  downF_spec l i hil i 0 (.refl 0) (Nat.zero_le _) (by omega)

theorem uDown_unique {l : Bs} {i j : Nat} (hj : UB l j) (hji : j ≤ i) (h : j < l.length → i < j + usz (l.drop j)) (hil : i ≤ l.length) : uDown l i = j := by
  obtain ⟨h1, h2, h3⟩ := uDown_spec l i hil
  rcases Nat.lt_trichotomy (uDown l i) j with hlt | heq | hgt
  · have g := h1.gap hj hlt
    have := hj.le
    have := h3 (by omega); omega
  · exact heq
  · have g := hj.gap h1 hgt
    have := h1.le
    have := h (by omega); omega

theorem uDown_self {l : Bs} {i : Nat} (h : UB l i) : uDown l i = i :=
  uDown_unique h (Nat.le_refl _) (fun _ => by have := usz_pos (l.drop i); omega) h.le

theorem UB_iff_uDown {l : Bs} {i : Nat} (hil : i ≤ l.length) : UB l i ↔ uDown l i = i :=
  ⟨uDown_self, fun h => h ▸ (uDown_spec l i hil).1⟩

/-- **Wherever a unit of more than one byte is read over the place i, it begins at the boundary around i.** -/
theorem resync {l : Bs} {i j : Nat} (hji : j < i) (hil : i ≤ l.length) (h : i < j + usz (l.drop j)) : uDown l i = j := by
  obtain ⟨h1, h2, h3⟩ := uDown_spec l i hil
  have m := usz_multi (l.drop j) (by omega)
  have hjl : j + usz (l.drop j) ≤ l.length := usz_drop_le (by omega)
  rw [by_drop] at m
  simp only [Nat.add_zero] at m
  -- bytes inside the unit at j go on
  have hin : ∀ k, j < k → k < j + usz (l.drop j) → by' l k / 64 = 2 := fun k a b => by
    have := con_by (m.2 (k - j) (by omega) (by omega))
    rw [by_drop] at this
    rwa [show j + (k - j) = k by omega] at this
  rcases Nat.lt_trichotomy (uDown l i) j with hlt | heq | hgt
  · -- j lies inside the unit at the boundary
    have hc := h3 (by omega)
    have m2 := (usz_multi (l.drop (uDown l i)) (by omega)).2 (j - uDown l i) (by omega) (by omega)
    have := con_by m2
    rw [by_drop] at this
    rw [show uDown l i + (j - uDown l i) = j by omega] at this
    omega
  · exact heq
  · -- the boundary lies inside the unit that is read at j: go back to the boundary around j
    exfalso
    obtain ⟨d1, d2, d3⟩ := uDown_spec l j (by omega)
    have hd3 := d3 (by omega)
    by_cases e : uDown l j = j
    · rw [e] at d1
      have := d1.gap h1 hgt
      omega
    · have m2 := (usz_multi (l.drop (uDown l j)) (by omega)).2 (j - uDown l j) (by omega) (by omega)
      have := con_by m2
      rw [by_drop] at this
      rw [show uDown l j + (j - uDown l j) = j by omega] at this
      omega

/-- Where the unit around i ends: i itself, where i is the text's end. -/
def uEnd (l : Bs) (i : Nat) : Nat := if uDown l i < l.length then uDown l i + usz (l.drop (uDown l i)) else uDown l i


/-! ### A Go string as its bytes -/
abbrev bl (s : ByteArray) : Bs := s.data.toList
theorem bl_length (s : ByteArray) : (bl s).length = s.size := rfl
theorem bl_extract (s : ByteArray) (a b : Nat) : bl (s.extract a b) = ((bl s).take b).drop a := by
  show (s.extract a b).data.toList = _
  rw [ByteArray.data_extract, Array.toList_extract, List.extract_eq_take_drop]
  rw [List.drop_take]
theorem bl_tail (s : ByteArray) (a : Nat) : bl (s.extract a s.size) = (bl s).drop a := by
  rw [bl_extract, List.take_of_length_le (by simp)]
theorem bl_append (s t : ByteArray) : bl (s ++ t) = bl s ++ bl t := by
  show (s ++ t).data.toList = _
  rw [ByteArray.data_append]; simp
theorem bl_inj {s t : ByteArray} (h : bl s = bl t) : s = t := by
  cases s; cases t; simp [bl] at h; rw [h]
theorem by_get (s : ByteArray) (k : Nat) : by' (bl s) k = (s.get! k).toNat := by
  unfold by' bl
  rw [List.getD_eq_getElem?_getD]
  show _ = (s.data[k]!).toNat
  rw [Array.getElem!_eq_getD, Array.getD_eq_getD_getElem?]
  simp; rfl
/-- The model's decoder at the head of a text that isn't empty, with Go's test for a bad byte. -/
theorem un_decode (s : ByteArray) (h : 0 < s.size) :
    un (bl s) = if (Lib.decodeGo s).1 = 65533 ∧ (Lib.decodeGo s).2 = 1 then ((-1 : Int), 1) else ((((Lib.decodeGo s).1 : Nat) : Int), (Lib.decodeGo s).2) := by
  have hd : Lib.decodeGo s = Utf8.decode s 0 := by unfold Lib.decodeGo; rw [if_neg (by omega)]
  rw [hd]
  have hc : ∀ k, con (bl s) k = (decide (0 + k < s.size) && (s.get! (0 + k)).toNat / 64 == 2) := fun k => by
    unfold con; rw [by_get, bl_length]; simp
  have hv : ∀ c : Nat, Utf8.valid (c : Int) = okRune c := fun c => by
    unfold Utf8.valid okRune
    have h1 : (decide ((0 : Int) ≤ c) && decide ((c : Int) < 0xD800)) = decide (c < 0xD800) := by
      rw [Bool.eq_iff_iff]; simp; omega
    have h2 : (decide ((0xE000 : Int) ≤ c) && decide ((c : Int) ≤ 0x10FFFF)) = (decide (0xE000 ≤ c) && decide (c ≤ 0x10FFFF)) := by
      rw [Bool.eq_iff_iff]; simp; omega
    rw [h1, h2]
  unfold un Utf8.decode
  simp only [by_get, hc, hv, Nat.zero_add, Nat.add_zero, Utf8.runeError]
  by_cases h0 : (s.get! 0).toNat < 0x80
  · simp only [if_pos h0]
    rw [if_neg (by omega)]
  simp only [if_neg h0]
  by_cases h1 : ((s.get! 0).toNat / 32 == 6 && (decide (1 < s.size) && (s.get! 1).toNat / 64 == 2)) = true
  · simp only [if_pos h1]
    by_cases h4 : (s.get! 0).toNat % 32 * 64 + (s.get! 1).toNat % 64 ≥ 0x80
    · simp only [if_pos h4]; rw [if_neg (by omega)]
    · simp only [if_neg h4]; simp
  simp only [if_neg h1]
  by_cases h2 : ((s.get! 0).toNat / 16 == 14 && (decide (1 < s.size) && (s.get! 1).toNat / 64 == 2) && (decide (2 < s.size) && (s.get! 2).toNat / 64 == 2)) = true
  · simp only [if_pos h2]
    by_cases h4 : (decide ((s.get! 0).toNat % 16 * 4096 + (s.get! 1).toNat % 64 * 64 + (s.get! 2).toNat % 64 ≥ 0x800) && okRune ((s.get! 0).toNat % 16 * 4096 + (s.get! 1).toNat % 64 * 64 + (s.get! 2).toNat % 64)) = true
    · simp only [if_pos h4]; rw [if_neg (by omega)]
    · simp only [if_neg h4]; simp
  simp only [if_neg h2]
  by_cases h3 : ((s.get! 0).toNat / 8 == 30 && (decide (1 < s.size) && (s.get! 1).toNat / 64 == 2) && (decide (2 < s.size) && (s.get! 2).toNat / 64 == 2) && (decide (3 < s.size) && (s.get! 3).toNat / 64 == 2)) = true
  · simp only [if_pos h3]
    by_cases h4 : (decide ((s.get! 0).toNat % 8 * 262144 + (s.get! 1).toNat % 64 * 4096 + (s.get! 2).toNat % 64 * 64 + (s.get! 3).toNat % 64 ≥ 0x10000) && okRune ((s.get! 0).toNat % 8 * 262144 + (s.get! 1).toNat % 64 * 4096 + (s.get! 2).toNat % 64 * 64 + (s.get! 3).toNat % 64)) = true
    · simp only [if_pos h4]; rw [if_neg (by omega)]
    · simp only [if_neg h4]; simp
  simp only [if_neg h3]; simp
end Go.Proofs.YtclgplkkajfenaaGreatDoor
