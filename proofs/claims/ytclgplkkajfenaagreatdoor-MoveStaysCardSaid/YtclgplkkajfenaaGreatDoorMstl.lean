/- All motions, by definition. -/
import Derived.Test.YtclgplkkajfenaaGreatDoorMov3
namespace Go.Proofs.YtclgplkkajfenaaGreatDoor
open Go Go.RowKit Ow
def Bnd (l : Bs) (sp : Int × Int) : Prop := ∃ f t : Nat, sp = ((f : Int), (t : Int)) ∧ CB l f ∧ CB l t
theorem wFold_mem (l : Bs) : ∀ (n : Nat) (pre : List (Nat × Nat)), pre.length = n → (∀ c ∈ pre, CB l c.1 ∧ CB l c.2) → ∀ sp ∈ (wFold l pre).1, Bnd l sp := by
  intro n
  induction n with
  | zero => intro pre h _ sp hs; rw [List.length_eq_zero_iff.1 h] at hs; simp [wFold] at hs
  | succ n ih =>
    intro pre h hc sp hs
    rcases List.eq_nil_or_concat pre with rfl | ⟨p, x, rfl⟩
    · simp at h
    rw [List.concat_eq_append] at h hc hs
    have hp := ih p (by simpa using h) (fun c hcp => hc c (List.mem_append_left _ hcp))
    have hx := hc x (by simp)
    rw [wFold_snoc, wStep] at hs
    by_cases h1 : wdAt l x = true
    · rw [if_pos h1] at hs
      by_cases h2 : (wFold l p).2 = true
      · rw [if_pos h2] at hs
        rcases List.mem_append.1 hs with h3 | h3
        · exact hp sp ((List.dropLast_sublist _).subset h3)
        · simp only [List.mem_singleton] at h3
          subst h3
          cases hl : (wFold l p).1.getLast? with
          | none => exact ⟨0, x.2, by simp, .zero l, hx.2⟩
          | some y =>
            obtain ⟨f, t, e, h4, h5⟩ := hp y (List.mem_of_getLast? hl)
            exact ⟨f, x.2, by simp [e], h4, hx.2⟩
      · rw [if_neg h2] at hs
        rcases List.mem_append.1 hs with h3 | h3
        · exact hp sp h3
        · simp only [List.mem_singleton] at h3
          exact ⟨x.1, x.2, h3, hx.1, hx.2⟩
    · rw [if_neg h1] at hs
      exact hp sp hs
theorem wSpans_mem (l : Bs) : ∀ sp ∈ wSpans l, Bnd l sp := wFold_mem l _ _ rfl fun c hc => by
  obtain ⟨h1, h2, h3⟩ := clusters_mem hc
  exact ⟨h1, by rw [h3]; exact (cNext_spec h2).2.2.1⟩
theorem wAhF_spec : ∀ (xs : List (Int × Int)) (a n : Int), wAhF xs a n = n ∨ ∃ c ∈ xs, wAhF xs a n = c.2 ∧ c.2 > a
  | [], _, _ => .inl rfl
  | c :: r, a, n => by
    rw [wAhF]
    split
    · rename_i h; exact .inr ⟨c, by simp, rfl, h⟩
    · rcases wAhF_spec r a n with h | ⟨d, h1, h2⟩
      · exact .inl h
      · exact .inr ⟨d, List.mem_cons_of_mem _ h1, h2⟩
theorem wBeF_spec : ∀ (xs : List (Int × Int)) (a f : Int), wBeF xs a f = f ∨ ∃ c ∈ xs, wBeF xs a f = c.1 ∧ c.1 < a
  | [], _, _ => .inl rfl
  | c :: r, a, f => by
    rw [wBeF]
    rcases wBeF_spec r a (if c.1 < a then c.1 else f) with h | ⟨d, h1, h2⟩
    · by_cases e : c.1 < a
      · rw [if_pos e] at h ⊢; exact .inr ⟨c, by simp, h, e⟩
      · rw [if_neg e] at h ⊢; exact .inl h
    · exact .inr ⟨d, List.mem_cons_of_mem _ h1, h2⟩
theorem wAhead_spec {s : ByteArray} {a : Nat} (ha : CB (bl s) a) : ∃ t : Nat, wAhead s (a : Int) = t ∧ CB (bl s) t ∧ a ≤ t := by
  have hl := ha.le
  rw [bl_length] at hl
  unfold wAhead
  rw [show min (max (a : Int) 0) (s.size : Int) = a by omega]
  rcases wAhF_spec (wSpans (bl s)) a s.size with h | ⟨c, h1, h2, h3⟩
  · exact ⟨s.size, h, CB.len (bl s), hl⟩
  · obtain ⟨f, t, e, _, h5⟩ := wSpans_mem (bl s) c h1
    rw [e] at h2 h3
    simp only at h2 h3
    exact ⟨t, h2, h5, by omega⟩
theorem wBehind_spec {s : ByteArray} {a : Nat} (ha : CB (bl s) a) : ∃ t : Nat, wBehind s (a : Int) = t ∧ CB (bl s) t ∧ t ≤ a := by
  have hl := ha.le
  rw [bl_length] at hl
  unfold wBehind
  rw [show min (max (a : Int) 0) (s.size : Int) = a by omega]
  rcases wBeF_spec (wSpans (bl s)) a 0 with h | ⟨c, h1, h2, h3⟩
  · exact ⟨0, by rw [h]; rfl, .zero _, Nat.zero_le _⟩
  · obtain ⟨f, t, e, h4, _⟩ := wSpans_mem (bl s) c h1
    rw [e] at h2 h3
    simp only at h2 h3
    exact ⟨f, h2, h4, by omega⟩
def stWordLeft (s : ByteArray) : Step := ⟨fun _ a => wBehind s a, fun _ a => decide (a > 0), fun g _ => g⟩
def stWordRight (s : ByteArray) : Step := ⟨fun _ a => wAhead s a, fun _ a => decide (a < s.size), fun g _ => g⟩
/-- The step of each motion. -/
def stOf (s : ByteArray) : Nat → Step
  | 0 => stLeft s
  | 1 => stRight s
  | 2 => stWordLeft s
  | 3 => stWordRight s
  | 4 => stLineStart s
  | 5 => stLineEnd s
  | 6 => stOver s (-1)
  | 7 => stOver s 1
  | 8 => stTextStart
  | _ => stTextEnd s
theorem ten {i : Nat} (h : i < 10) : i = 0 ∨ i = 1 ∨ i = 2 ∨ i = 3 ∨ i = 4 ∨ i = 5 ∨ i = 6 ∨ i = 7 ∨ i = 8 ∨ i = 9 := by omega
theorem stOf_c (s : ByteArray) {i : Nat} (h : i < 10) : StepC s (172 + i) (stOf s i) := by
  rcases ten h with rfl | rfl | rfl | rfl | rfl | rfl | rfl | rfl | rfl | rfl
  · exact stepc fun y b lim g a w hG h2 on hp _ _ => mv_left y b g s lim a w hG h2 on hp
  · exact stepc fun y b lim g a w hG h2 on hp _ _ => mv_right y b g s lim a w hG h2 on hp
  · exact stepc fun y b lim g a w hG h2 on hp _ _ => mv_wordLeft y b g s lim a w hG h2 on hp
  · exact stepc fun y b lim g a w hG h2 on hp _ _ => mv_wordRight y b g s lim a w hG h2 on hp
  · exact lineStart_c s
  · exact stepc fun y b lim g a w hG h2 on hp _ _ => mv_lineEnd y b g s lim a w hG h2 on hp
  · exact up_c s
  · exact down_c s
  · exact stepc fun y b lim g a w hG h2 on hp _ _ => mv_textStart y b g s lim a w hG h2 on hp
  · exact stepc fun y b lim g a w hG h2 on hp _ _ => mv_textEnd y b g s lim a w hG h2 on hp
theorem stOf_go (s : ByteArray) {i : Nat} (h : i < 10) (h6 : i ≠ 6) (h7 : i ≠ 7) (g a : Int) : (stOf s i).go g a = g := by
  rcases ten h with rfl | rfl | rfl | rfl | rfl | rfl | rfl | rfl | rfl | rfl <;> first | rfl | exact absurd rfl h6 | exact absurd rfl h7
/-- Where a step leads. -/
theorem stOf_to {s : ByteArray} (hz : s.size ≤ 1073741824) {i : Nat} (h : i < 10) (g : Int) {a : Nat} (ha : CB (bl s) a) (hok : (stOf s i).ok g a = true) :
    ∃ t : Nat, (stOf s i).to g a = t ∧ CB (bl s) t ∧ ((i = 0 ∨ i = 2 ∨ i = 4 ∨ i = 6 ∨ i = 8) → t ≤ a) ∧ ((i = 1 ∨ i = 3 ∨ i = 5 ∨ i = 7 ∨ i = 9) → a ≤ t) := by
  have hl := ha.le
  have hl2 := hl
  rw [bl_length] at hl2
  obtain ⟨k0, k1, L1, L2⟩ := CB_line ha
  rcases ten h with rfl | rfl | rfl | rfl | rfl | rfl | rfl | rfl | rfl | rfl
  · have h0 : (a : Int) > 0 := of_decide_eq_true hok
    obtain ⟨c1, c2, _⟩ := cPrev_spec (l := bl s) a (by omega)
    exact ⟨cPrev (bl s) a, by show ((cPrevI (bl s) (a : Int) : Nat) : Int) = _; unfold cPrevI; rw [if_neg (by omega), Int.toNat_natCast], c2, fun _ => by omega, fun h => by omega⟩
  · have h0 : (a : Int) < s.size := of_decide_eq_true hok
    obtain ⟨c1, c2, c3, _⟩ := cNext_spec (l := bl s) (i := a) (by rw [bl_length]; omega)
    exact ⟨cNext (bl s) a, by show ((cNextI (bl s) (a : Int) : Nat) : Int) = _; unfold cNextI; rw [if_neg (by omega), Int.toNat_natCast], c3, fun h => by omega, fun _ => by omega⟩
  · obtain ⟨t, e, h1, h2⟩ := wBehind_spec ha
    exact ⟨t, e, h1, fun _ => h2, fun h => by omega⟩
  · obtain ⟨t, e, h1, h2⟩ := wAhead_spec ha
    exact ⟨t, e, h1, fun h => by omega, fun _ => h2⟩
  · obtain ⟨_, e1, _, _⟩ := lineB_eq (s := s) k0 k1
    exact ⟨_, by show ((spF (bl s) (ofN (bl s) a) : Nat) : Int) = _; rw [e1], bgn_CB k0 k1, fun _ => L1, fun h => by omega⟩
  · obtain ⟨_, _, e2, _⟩ := lineB_eq (s := s) k0 k1
    exact ⟨_, by show ((spT (bl s) (ofN (bl s) a) : Nat) : Int) = _; rw [e2], (lend_spec k0 k1).2.2.1, fun h => by omega, fun _ => L2⟩
  · have h1 : ovOk (bl s) (a : Int) (-1) := of_decide_eq_true hok
    have h2 := h1
    unfold ovOk at h2
    obtain ⟨t, e, ht, b1, b2⟩ := place_spec hz (m := ofN (bl s) (a : Int) + -1) h2.1 (by omega) (ovG s g a)
    have := lend_lt (l := bl s) (k := ofN (bl s) (a : Int) + -1) h2.1 (by omega)
    rw [show ofN (bl s) (a : Int) + -1 + 1 = ofN (bl s) (a : Int) by omega] at this
    exact ⟨t, by show ovTo s (-1) g a = t; unfold ovTo; rw [if_pos h1]; exact e, ht, fun _ => by omega, fun h => by omega⟩
  · have h1 : ovOk (bl s) (a : Int) 1 := of_decide_eq_true hok
    have h2 := h1
    unfold ovOk at h2
    obtain ⟨t, e, ht, b1, b2⟩ := place_spec hz (m := ofN (bl s) (a : Int) + 1) h2.1 (by omega) (ovG s g a)
    have := lend_lt (l := bl s) (k := ofN (bl s) (a : Int)) k0 (by omega)
    exact ⟨t, by show ovTo s 1 g a = t; unfold ovTo; rw [if_pos h1]; exact e, ht, fun h => by omega, fun _ => by omega⟩
  · exact ⟨0, rfl, .zero _, fun _ => Nat.zero_le _, fun h => by omega⟩
  · exact ⟨s.size, rfl, CB.len (bl s), fun h => by omega, fun _ => hl2⟩
theorem stOf_in {s : ByteArray} (hz : s.size ≤ 1073741824) {i : Nat} (h : i < 10) : StepIn s (stOf s i) := stepIn_nat fun g a ha hok => by
  obtain ⟨t, e, ht, _⟩ := stOf_to hz h g ha hok
  exact ⟨t, e, ht⟩
/-- Many steps. -/
theorem stOf_iter {s : ByteArray} (hz : s.size ≤ 1073741824) {i : Nat} (h : i < 10) : ∀ (n : Nat) (a : Nat) (g e : Int), CB (bl s) a →
    ∃ t : Nat, ((stOf s i).iter n a g e).1 = t ∧ CB (bl s) t ∧ ((i = 0 ∨ i = 2 ∨ i = 4 ∨ i = 6 ∨ i = 8) → t ≤ a) ∧ ((i = 1 ∨ i = 3 ∨ i = 5 ∨ i = 7 ∨ i = 9) → a ≤ t) ∧
      (((stOf s i).iter n a g e).2.2 = 0 ∨ ((stOf s i).iter n a g e).2.2 = e ∧ t = a) ∧ (i ≠ 6 → i ≠ 7 → ((stOf s i).iter n a g e).2.1 = g)
  | 0, a, g, e, ha => ⟨a, rfl, ha, fun _ => Nat.le_refl _, fun _ => Nat.le_refl _, .inr ⟨rfl, rfl⟩, fun _ _ => rfl⟩
  | n + 1, a, g, e, ha => by
    rw [Step.iter]
    by_cases hok : (stOf s i).ok g a = true
    · rw [if_pos hok]
      obtain ⟨t, et, ht, d1, d2⟩ := stOf_to hz h g ha hok
      rw [et]
      obtain ⟨t2, h1, h2, h3, h4, h5, h6⟩ := stOf_iter hz h n t ((stOf s i).go g a) 0 ht
      refine ⟨t2, h1, h2, fun x => Nat.le_trans (h3 x) (d1 x), fun x => Nat.le_trans (d2 x) (h4 x), ?_, fun x y => by rw [h6 x y, stOf_go s h x y]⟩
      rcases h5 with h5 | h5
      · exact .inl h5
      · exact .inl h5.1
    · rw [if_neg hok]
      exact ⟨a, rfl, ha, fun _ => Nat.le_refl _, fun _ => Nat.le_refl _, .inr ⟨rfl, rfl⟩, fun x y => stOf_go s h x y _ _⟩
/-- The error ahead of the steps does not count for where they lead. -/
theorem iter_err (S : Step) : ∀ (n : Nat) (a g e e' : Int), (S.iter n a g e).1 = (S.iter n a g e').1 ∧ (S.iter n a g e).2.1 = (S.iter n a g e').2.1
  | 0, _, _, _, _ => ⟨rfl, rfl⟩
  | n + 1, a, g, e, e' => by
    rw [Step.iter, Step.iter]
    split <;> exact ⟨rfl, rfl⟩
end Go.Proofs.YtclgplkkajfenaaGreatDoor
