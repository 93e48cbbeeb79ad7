/- Clusters, plainly. -/
import Derived.Test.YtclgplkkajfenaaGreatDoorWidth
namespace Go.Proofs.YtclgplkkajfenaaGreatDoor
open Go
theorem uEnd_spec {l : Bs} {i : Nat} (hi : i < l.length) : i < uEnd l i ∧ uEnd l i ≤ l.length ∧ UB l (uEnd l i) ∧ ∀ t, UB l t → i < t → uEnd l i ≤ t := by
  obtain ⟨h1, h2, h3⟩ := uDown_spec l i (Nat.le_of_lt hi)
  have hd : uDown l i < l.length := by omega
  have e : uEnd l i = uDown l i + usz (l.drop (uDown l i)) := by unfold uEnd; rw [if_pos hd]
  rw [e]
  exact ⟨h3 hd, usz_drop_le hd, h1.next hd, fun t ht hit => h1.gap ht (by omega)⟩
theorem uLast_spec {l : Bs} {i : Nat} (h0 : 0 < i) (hi : i ≤ l.length) : uDown l (i - 1) < i ∧ UB l (uDown l (i - 1)) ∧ ∀ t, UB l t → t < i → t ≤ uDown l (i - 1) := by
  obtain ⟨h1, h2, h3⟩ := uDown_spec l (i - 1) (by omega)
  refine ⟨by omega, h1, fun t ht hti => ?_⟩
  by_cases h : t ≤ uDown l (i - 1)
  · exact h
  · have := h1.gap ht (by omega)
    have := h3 (by omega)
    omega
theorem uNext_nat {l : Bs} {i : Nat} (hi : i ≤ l.length) : uNext l (i : Int) = uEnd l i := by
  unfold uNext; rw [if_neg (by omega)]; congr 1; omega
theorem uPrev_nat {l : Bs} {i : Nat} (h0 : 0 < i) (hi : i ≤ l.length) : uPrev l (i : Int) = uDown l (i - 1) := by
  unfold uPrev; rw [if_neg (by omega)]; congr 1; omega
/-- Is there a boundary of clusters at i? -/
def CB (l : Bs) (i : Nat) : Prop := i = 0 ∨ i = l.length ∨ (i < l.length ∧ uDown l i = i ∧ ¬ glue (uch (l.drop (uDown l (i - 1)))) (uch (l.drop i)))
instance (l : Bs) (i : Nat) : Decidable (CB l i) := by unfold CB; infer_instance
theorem CB.le {l : Bs} {i : Nat} (h : CB l i) : i ≤ l.length := by rcases h with rfl | rfl | ⟨h, _⟩ <;> omega
theorem uDown_len (l : Bs) : uDown l l.length = l.length := by
  obtain ⟨h1, h2, h3⟩ := uDown_spec l l.length (Nat.le_refl _)
  by_cases h : uDown l l.length < l.length
  · have := h3 h; have := usz_drop_le h; omega
  · omega
theorem UB_len (l : Bs) : UB l l.length := (UB_iff_uDown (Nat.le_refl _)).2 (uDown_len l)
theorem CB.ub {l : Bs} {i : Nat} (h : CB l i) : UB l i := by
  rcases h with rfl | rfl | ⟨h, h2, _⟩
  · exact UB.zero l
  · exact UB_len l
  · exact (UB_iff_uDown (Nat.le_of_lt h)).2 h2
theorem CB.zero (l : Bs) : CB l 0 := .inl rfl
theorem CB.len (l : Bs) : CB l l.length := .inr (.inl rfl)
theorem CB_cond {l : Bs} {i : Nat} (h0 : 0 < i) (hi : i < l.length) (hb : uBd l (i : Int)) :
    CB l i ↔ ¬ glue (atCh l (uPrev l (i : Int))) (atCh l (i : Int)) := by
  have e1 : uDown l i = i := by have := hb.2.2; simpa using this
  have h1 : uAt l (i : Int) := ⟨hb, by omega⟩
  obtain ⟨g1, g2, g3⟩ := uLast_spec h0 (Nat.le_of_lt hi)
  have h2 : uAt l ((uDown l (i - 1) : Nat) : Int) := ⟨⟨by omega, by omega, by simpa using uDown_self g2⟩, by omega⟩
  rw [uPrev_nat h0 (Nat.le_of_lt hi)]
  unfold atCh; rw [if_pos h1, if_pos h2]
  simp only [Int.toNat_natCast]
  unfold CB
  constructor
  · rintro (rfl | rfl | ⟨_, _, h⟩)
    · omega
    · omega
    · exact h
  · exact fun h => .inr (.inr ⟨hi, e1, h⟩)
def cN (l : Bs) : Nat → Nat → Nat
  | 0, _ => l.length
  | f + 1, i => if CB l (i + 1) then i + 1 else cN l f (i + 1)
/-- The least boundary behind i, or the length. -/
def cNext (l : Bs) (i : Nat) : Nat := cN l (l.length - i) i
theorem cN_eq {l : Bs} {n : Nat} (hn : n ≤ l.length) (hb : CB l n) : ∀ f i, i < n → n ≤ i + f → (∀ t, i < t → t < n → ¬ CB l t) → cN l f i = n
  | 0, i, h1, h2, _ => by omega
  | f + 1, i, h1, h2, h3 => by
    rw [cN]
    by_cases e : i + 1 = n
    · subst e; rw [if_pos hb]
    · rw [if_neg (h3 _ (by omega) (by omega))]
      exact cN_eq hn hb f (i + 1) (by omega) (by omega) (fun t ht => h3 t (by omega))
theorem cNext_eq {l : Bs} {i n : Nat} (h : i < n) (hb : CB l n) (hno : ∀ t, i < t → t < n → ¬ CB l t) : cNext l i = n :=
  cN_eq hb.le hb _ i h (by have := hb.le; omega) hno
theorem cN_spec {l : Bs} : ∀ f i, i + f = l.length → 0 < f → i < cN l f i ∧ cN l f i ≤ l.length ∧ CB l (cN l f i) ∧ ∀ t, i < t → t < cN l f i → ¬ CB l t
  | 0, i, _, h => by omega
  | f + 1, i, h, _ => by
    rw [cN]
    by_cases e : CB l (i + 1)
    · rw [if_pos e]; exact ⟨by omega, by omega, e, fun t _ _ => by omega⟩
    · rw [if_neg e]
      by_cases hf : f = 0
      · subst hf; exact absurd (show CB l (i + 1) by rw [show i + 1 = l.length by omega]; exact .len l) e
      · obtain ⟨h1, h2, h3, h4⟩ := cN_spec (l := l) f (i + 1) (by omega) (by omega)
        refine ⟨by omega, h2, h3, fun t ht ht' => ?_⟩
        by_cases e' : t = i + 1
        · subst e'; exact e
        · exact h4 t (by omega) ht'
theorem cNext_spec {l : Bs} {i : Nat} (hi : i < l.length) : i < cNext l i ∧ cNext l i ≤ l.length ∧ CB l (cNext l i) ∧ ∀ t, i < t → t < cNext l i → ¬ CB l t :=
  cN_spec _ i (by omega) (by omega)
theorem cNext_out {l : Bs} {i : Nat} (hi : l.length ≤ i) : cNext l i = l.length := by
  unfold cNext; rw [show l.length - i = 0 by omega]; rfl
/-- The greatest boundary ahead of i, or nought. -/
def cPrev (l : Bs) : Nat → Nat
  | 0 => 0
  | i + 1 => if CB l i then i else cPrev l i
theorem cPrev_eq {l : Bs} {n : Nat} (hb : CB l n) : ∀ i, n < i → (∀ t, n < t → t < i → ¬ CB l t) → cPrev l i = n
  | 0, h, _ => by omega
  | i + 1, h, hno => by
    rw [cPrev]
    by_cases e : n = i
    · subst e; rw [if_pos hb]
    · rw [if_neg (hno i (by omega) (by omega))]
      exact cPrev_eq hb i (by omega) fun t ht ht' => hno t ht (by omega)
theorem cPrev_spec {l : Bs} : ∀ i, 0 < i → cPrev l i < i ∧ CB l (cPrev l i) ∧ ∀ t, cPrev l i < t → t < i → ¬ CB l t
  | 0, h => by omega
  | i + 1, _ => by
    rw [cPrev]
    by_cases e : CB l i
    · rw [if_pos e]; exact ⟨by omega, e, fun t _ _ => by omega⟩
    · rw [if_neg e]
      by_cases hi : i = 0
      · subst hi; exact absurd (CB.zero l) e
      · obtain ⟨h1, h2, h3⟩ := cPrev_spec (l := l) i (by omega)
        exact ⟨by omega, h2, fun t ht ht' => by
          by_cases e' : t = i
          · subst e'; exact e
          · exact h3 t ht (by omega)⟩
/-- The answers for whatever number. -/
def cBd (l : Bs) (i : Int) : Prop := 0 ≤ i ∧ CB l i.toNat
instance (l : Bs) (i : Int) : Decidable (cBd l i) := by unfold cBd; infer_instance
def cNextI (l : Bs) (i : Int) : Nat := if i < 0 then 0 else cNext l i.toNat
def cPrevI (l : Bs) (i : Int) : Nat := if i > l.length then l.length else cPrev l i.toNat
def cSnapI (l : Bs) (i : Int) : Nat := if i < 0 then 0 else if CB l i.toNat then i.toNat else cNext l i.toNat
/-- Is the cluster at i CR LF? -/
def crlf (l : Bs) (i : Nat) : Prop := uch (l.drop i) = 13 ∧ by' l (i + 1) = 10
instance (l : Bs) (i : Nat) : Decidable (crlf l i) := by unfold crlf; infer_instance
/-- The class and the cells of the cluster that begins at i. -/
def clCls (l : Bs) (i : Nat) : Int := if crlf l i then 1 else cls (uch (l.drop i))
def clCells (l : Bs) (i : Nat) : Int := if crlf l i then 0 else cellsOf (uch (l.drop i))
/-- The clusters from i on: where they begin and end. -/
def clF (l : Bs) : Nat → Nat → List (Nat × Nat)
  | 0, _ => []
  | f + 1, i => if i < l.length then (i, cNext l i) :: clF l f (cNext l i) else []
def clFrom (l : Bs) (i : Nat) : List (Nat × Nat) := clF l (l.length - i) i
def clusters (l : Bs) : List (Nat × Nat) := clFrom l 0
theorem clF_more {l : Bs} : ∀ f g i, l.length ≤ i + f → l.length ≤ i + g → clF l f i = clF l g i
  | 0, 0, _, _, _ => rfl
  | 0, g + 1, i, h, _ => by rw [clF, clF, if_neg (by omega)]
  | f + 1, 0, i, _, h => by rw [clF, clF, if_neg (by omega)]
  | f + 1, g + 1, i, h1, h2 => by
    rw [clF, clF]
    by_cases h : i < l.length
    · rw [if_pos h, if_pos h, clF_more f g _ (by have := (cNext_spec h).1; omega) (by have := (cNext_spec h).1; omega)]
    · rw [if_neg h, if_neg h]
theorem clFrom_cons {l : Bs} {i : Nat} (h : i < l.length) : clFrom l i = (i, cNext l i) :: clFrom l (cNext l i) := by
  unfold clFrom
  rw [show l.length - i = (l.length - i - 1) + 1 by omega, clF, if_pos h]
  rw [clF_more (l.length - i - 1) (l.length - cNext l i) _ (by have := (cNext_spec h).1; omega) (by omega)]
theorem clFrom_nil {l : Bs} {i : Nat} (h : l.length ≤ i) : clFrom l i = [] := by
  unfold clFrom; rw [show l.length - i = 0 by omega]; rfl
end Go.Proofs.YtclgplkkajfenaaGreatDoor
