/- A boundary is told by four bytes at each side. -/
import Derived.Test.YtclgplkkajfenaaGreatDoorLaws
namespace Go.Proofs.YtclgplkkajfenaaGreatDoor
open Go Go.RowKit Ow
theorem un_win {l : Bs} {a c t : Nat} (ht : t < c) (hc : c ≤ l.length) (h : c = l.length ∨ t + 4 ≤ c) (hat : a ≤ t) : un ((sub l a c).drop (t - a)) = un (l.drop t) := by
  rw [sub_drop, show a + (t - a) = t by omega]
  refine un_take ?_
  rcases h with rfl | h
  · have := usz_drop_le ht; omega
  · have := usz_le4 (l.drop t); omega
theorem usz_win {l : Bs} {a c t : Nat} (ht : t < c) (hc : c ≤ l.length) (h : c = l.length ∨ t + 4 ≤ c) (hat : a ≤ t) : usz ((sub l a c).drop (t - a)) = usz (l.drop t) := by
  unfold usz; rw [un_win ht hc h hat]
theorem uch_win {l : Bs} {a c t : Nat} (ht : t < c) (hc : c ≤ l.length) (h : c = l.length ∨ t + 4 ≤ c) (hat : a ≤ t) : uch ((sub l a c).drop (t - a)) = uch (l.drop t) := by
  unfold uch; rw [un_win ht hc h hat]
theorem UB_loc {l : Bs} {i : Nat} (hi : i ≤ l.length) : UB l i ↔ ∀ t, t < i → i ≤ t + 3 → t + usz (l.drop t) ≤ i := by
  constructor
  · intro h t ht _
    by_cases g : t + usz (l.drop t) ≤ i
    · exact g
    · have := resync ht hi (by omega)
      rw [uDown_self h] at this; omega
  · intro h
    exact (UB_iff_uDown hi).2 (down_at hi fun t h1 h2 => h t h2 h1)
theorem UB_win {l : Bs} {a c q : Nat} (haq : a ≤ q) (hqc : q ≤ c) (hc : c ≤ l.length) (h1 : a = 0 ∨ a + 3 ≤ q) (h2 : c = l.length ∨ q + 3 ≤ c) : UB (sub l a c) (q - a) ↔ UB l q := by
  have hlen := sub_length (F := a) hc
  rw [UB_loc (by omega), UB_loc (by omega)]
  constructor
  · intro h t ht ht3
    have := h (t - a) (by omega) (by omega)
    rw [usz_win (by omega) hc (by omega) (by omega)] at this
    omega
  · intro h t ht ht3
    have := h (a + t) (by omega) (by omega)
    rw [← usz_win (a := a) (c := c) (by omega) hc (by omega) (by omega), show a + t - a = t by omega] at this
    omega
theorem uDown_win {l : Bs} {a c q : Nat} (haq : a ≤ q) (hqc : q < c) (hc : c ≤ l.length) (h1 : a = 0 ∨ a + 3 ≤ q) (h2 : c = l.length ∨ q + 3 ≤ c) : uDown (sub l a c) (q - a) = uDown l q - a ∧ a ≤ uDown l q := by
  have hlen := sub_length (F := a) hc
  obtain ⟨d1, d2, d3⟩ := uDown_spec l q (by omega)
  have d4 := d3 (by omega)
  have d5 := usz_le4 (l.drop (uDown l q))
  have ha : a ≤ uDown l q := by omega
  refine ⟨?_, ha⟩
  by_cases e : uDown l q = q
  · rw [e] at d1 ⊢
    exact uDown_self ((UB_win haq (by omega) hc h1 h2).2 d1)
  · refine resync (by omega) (by omega) ?_
    rw [usz_win (by omega) hc (by omega) ha]
    omega
theorem CB_win {l : Bs} {a c p : Nat} (h0 : 0 < p) (hp : p < l.length) (hap : a ≤ p) (hpc : p ≤ c) (hc : c ≤ l.length) (h1 : a = 0 ∨ a + 4 ≤ p) (h2 : c = l.length ∨ p + 4 ≤ c) : CB (sub l a c) (p - a) ↔ CB l p := by
  have hlen := sub_length (F := a) hc
  obtain ⟨e1, e2⟩ := uDown_win (l := l) (a := a) (c := c) (q := p - 1) (by omega) (by omega) hc (by omega) (by omega)
  obtain ⟨_, d2, _⟩ := uDown_spec l (p - 1) (by omega)
  have hu := UB_win (l := l) (a := a) (c := c) (q := p) hap hpc hc (by omega) (by omega)
  rw [UB_iff_uDown (by omega), UB_iff_uDown (by omega)] at hu
  have x1 : uch ((sub l a c).drop (uDown (sub l a c) (p - a - 1))) = uch (l.drop (uDown l (p - 1))) := by
    rw [show p - a - 1 = p - 1 - a by omega, e1, uch_win (by omega) hc (by omega) e2]
  have x2 : uch ((sub l a c).drop (p - a)) = uch (l.drop p) := uch_win (by omega) hc (by omega) hap
  unfold CB
  rw [x1, x2]
  constructor
  · rintro (h | h | ⟨h, h3, h4⟩)
    · omega
    · omega
    · exact .inr (.inr ⟨hp, hu.1 h3, h4⟩)
  · rintro (h | h | ⟨h, h3, h4⟩)
    · omega
    · omega
    · exact .inr (.inr ⟨by omega, hu.2 h3, h4⟩)
end Go.Proofs.YtclgplkkajfenaaGreatDoor
