/- Motions from line to line, by definition. -/
import Derived.Test.YtclgplkkajfenaaGreatDoorMov2
namespace Go.Proofs.YtclgplkkajfenaaGreatDoor
open Go Go.RowKit Ow
theorem upto_prefix (lb : Bs) (q : Int) : ∀ (cs : List (Nat × Nat)) (n : Int), ∃ r, cs = upto lb q cs n ++ r
  | [], _ => ⟨[], rfl⟩
  | c :: cs, n => by
    rw [upto]; split
    · exact ⟨c :: cs, rfl⟩
    · obtain ⟨r, hr⟩ := upto_prefix lb q cs (n + clCells lb c.1)
      exact ⟨r, by rw [List.cons_append, ← hr]⟩
theorem lastTo_mem (F : Int) (cs : List (Nat × Nat)) : lastTo F cs = F ∨ ∃ c ∈ cs, lastTo F cs = aw F c.2 := by
  rcases List.eq_nil_or_concat cs with rfl | ⟨p, x, rfl⟩
  · exact .inl rfl
  · exact .inr ⟨x, by simp, by rw [List.concat_eq_append]; exact lastTo_snoc F p x⟩
theorem place_spec {s : ByteArray} (hz : s.size ≤ 1073741824) {m : Int} (h : 0 ≤ m) (hm : m ≤ nlC (bl s)) (q : Int) :
    ∃ t : Nat, atR s m q = t ∧ CB (bl s) t ∧ bgn (bl s) m ≤ t ∧ t ≤ lend (bl s) m := by
  obtain ⟨e0, e1, e2, e3⟩ := lineB_eq (s := s) h hm
  obtain ⟨g1, g2, g3, g4⟩ := lend_spec (l := bl s) h hm
  have hF := bgn_CB (l := bl s) h hm
  have hlen := sub_length (F := bgn (bl s) m) g2
  have g2' := g2
  rw [bl_length] at g2'
  unfold atR
  rw [if_neg (by omega), e1]
  rcases lastTo_mem (bgn (bl s) m : Nat) (upto (bl (lineB s m)) q (clusters (bl (lineB s m))) 0) with e | ⟨c, hc, e⟩
  · exact ⟨_, e, hF, Nat.le_refl _, g1⟩
  · obtain ⟨r, hr⟩ := upto_prefix (bl (lineB s m)) q (clusters (bl (lineB s m))) 0
    have hc2 : c ∈ clusters (bl (lineB s m)) := by rw [hr]; exact List.mem_append_left _ hc
    obtain ⟨c1, c2, c3⟩ := clusters_mem hc2
    obtain ⟨u1, u2, u3, _⟩ := cNext_spec c2
    rw [← c3] at u1 u2 u3
    rw [e0] at u2 u3
    rw [hlen] at u2
    have := (CB_sub hF g3 g1 (i := c.2) u2).1 u3
    exact ⟨bgn (bl s) m + c.2, by rw [e, aw_nat hz (by omega) (by omega)], this, by omega, by omega⟩
theorem ofN_line {s : ByteArray} {m : Int} (h : 0 ≤ m) (hm : m ≤ nlC (bl s)) {t : Nat} (h1 : bgn (bl s) m ≤ t) (h2 : t ≤ lend (bl s) m) : ofN (bl s) (t : Nat) = m := by
  obtain ⟨g1, g2, g3, g4⟩ := lend_spec (l := bl s) h hm
  unfold ofN
  rw [if_neg (by omega), Int.toNat_natCast]
  exact nlT_in h hm h1 h2
theorem cSnapI_self {l : Bs} {p : Nat} (h : CB l p) : cSnapI l (p : Int) = p := by
  unfold cSnapI; rw [if_neg (by omega), Int.toNat_natCast, if_pos h]
/-- A boundary's line. -/
theorem CB_line {s : ByteArray} {a : Nat} (ha : CB (bl s) a) : 0 ≤ ofN (bl s) (a : Nat) ∧ ofN (bl s) (a : Nat) ≤ nlC (bl s) ∧ bgn (bl s) (ofN (bl s) (a : Nat)) ≤ a ∧ a ≤ lend (bl s) (ofN (bl s) (a : Nat)) := by
  have hal := ha.le
  have hN : ofN (bl s) (a : Nat) = nlT (bl s) a := by unfold ofN; rw [if_neg (by omega), Int.toNat_natCast]
  have := nlT_le_nlC (bl s) a
  obtain ⟨L1, L2⟩ := line_of_CB ha
  rw [hN]
  exact ⟨by omega, by omega, L1, L2⟩
theorem colR_CB {s : ByteArray} (hz : s.size ≤ 1073741824) {a : Nat} (ha : CB (bl s) a) : colR s (a : Nat) = colW s (ofN (bl s) (a : Nat)) (a : Nat) ∧ 0 ≤ colR s (a : Nat) ∧ atR s (ofN (bl s) (a : Nat)) (colR s (a : Nat)) = a := by
  have hal := ha.le
  have hE : ofE (bl s) (a : Nat) = 0 := by unfold ofE; rw [if_neg (by omega)]
  obtain ⟨k0, k1, L1, L2⟩ := CB_line ha
  have hcol : colR s (a : Nat) = colW s (ofN (bl s) (a : Nat)) (a : Nat) := by unfold colR; rw [if_neg (by omega)]
  have hcw := colW_le s (ofN (bl s) (a : Nat)) (a : Nat)
  refine ⟨hcol, by omega, ?_⟩
  rw [hcol]
  exact at_of hz k0 k1 ha L1 L2 (Int.le_refl _) (fun h => by have := clCells_pos k0 k1 ha L1 h; omega)
/-! ### the steps -/
def stLeft (s : ByteArray) : Step := ⟨fun _ a => cPrevI (bl s) a, fun _ a => decide (a > 0), fun g _ => g⟩
def stRight (s : ByteArray) : Step := ⟨fun _ a => cNextI (bl s) a, fun _ a => decide (a < s.size), fun g _ => g⟩
def stLineStart (s : ByteArray) : Step := ⟨fun _ a => spF (bl s) (ofN (bl s) a), fun _ _ => true, fun g _ => g⟩
def stLineEnd (s : ByteArray) : Step := ⟨fun _ a => spT (bl s) (ofN (bl s) a), fun _ _ => true, fun g _ => g⟩
def stOver (s : ByteArray) (d : Int) : Step := ⟨ovTo s d, fun _ a => decide (ovOk (bl s) a d), ovGo s d⟩
def stTextStart : Step := ⟨fun _ _ => 0, fun _ _ => true, fun g _ => g⟩
def stTextEnd (s : ByteArray) : Step := ⟨fun _ _ => s.size, fun _ _ => true, fun g _ => g⟩
theorem stepIn_nat {s : ByteArray} {S : Step} (h : ∀ (g : Int) (a : Nat), CB (bl s) a → S.ok g a = true → ∃ t : Nat, S.to g a = t ∧ CB (bl s) t) : StepIn s S := fun g a h0 ha hok => by
  obtain ⟨n, rfl⟩ := Int.eq_ofNat_of_zero_le h0
  obtain ⟨t, e, ht⟩ := h g n (by simpa using ha) hok
  rw [e]
  exact ⟨by omega, by simpa using ht⟩
theorem over_in {s : ByteArray} (hz : s.size ≤ 1073741824) (d : Int) : StepIn s (stOver s d) := stepIn_nat fun g a _ hok => by
  have h : ovOk (bl s) (a : Int) d := of_decide_eq_true hok
  have h2 := h
  unfold ovOk at h2
  obtain ⟨t, e, ht, _⟩ := place_spec hz (m := ofN (bl s) (a : Int) + d) h2.1 (by omega) (ovG s g a)
  exact ⟨t, by show ovTo s d g a = t; unfold ovTo; rw [if_pos h]; exact e, ht⟩
theorem lineStart_in (s : ByteArray) : StepIn s (stLineStart s) := stepIn_nat fun g a ha _ => by
  obtain ⟨k0, k1, _, _⟩ := CB_line ha
  obtain ⟨_, e1, _, _⟩ := lineB_eq (s := s) k0 k1
  exact ⟨_, by show ((spF (bl s) (ofN (bl s) a) : Nat) : Int) = _; rw [e1], bgn_CB k0 k1⟩
theorem lineEnd_in (s : ByteArray) : StepIn s (stLineEnd s) := stepIn_nat fun g a ha _ => by
  obtain ⟨k0, k1, _, _⟩ := CB_line ha
  obtain ⟨_, _, e2, _⟩ := lineB_eq (s := s) k0 k1
  exact ⟨_, by show ((spT (bl s) (ofN (bl s) a) : Nat) : Int) = _; rw [e2], (lend_spec k0 k1).2.2.1⟩
end Go.Proofs.YtclgplkkajfenaaGreatDoor
