/- Going down and up again by a goal. -/
import Derived.Test.YtclgplkkajfenaaGreatDoorMlaw
namespace Go.Proofs.YtclgplkkajfenaaGreatDoor
open Go Go.RowKit Ow
theorem stepc {s : ByteArray} {f : Nat} {S : Step} (h : ∀ (y b lim : Nat) (g a : Int) (w : World), Good w → 2 ≤ y → w.heap[y]? = some (walkO b g) → StoreAt w b s lim → 0 ≤ a → a ≤ s.size →
    Calls Tryz.prog f #[.pointer (some ⟨y, 0, none⟩), .int .i64 a] w fun e w' => e = .returned (.tuple #[.int .i64 (S.to g a), .bool (S.ok g a)]) ∧ Ow.Own w [(y, walkO b (S.go g a))] w') : StepC s f S :=
  fun y b lim g a w hG h2 on hp h0 h1 => by
    have h3 := h y b lim g a w hG h2 on hp h0 h1
    rw [Bool.decide_eq_true]; exact h3
theorem down_c (s : ByteArray) : StepC s 179 (stOver s 1) := stepc fun y b lim g a w hG h2 on hp _ _ => mv_down y b g s lim a w hG h2 on hp
theorem up_c (s : ByteArray) : StepC s 178 (stOver s (-1)) := stepc fun y b lim g a w hG h2 on hp _ _ => mv_up y b g s lim a w hG h2 on hp
theorem lineStart_c (s : ByteArray) : StepC s 176 (stLineStart s) := stepc fun y b lim g a w hG h2 on hp _ _ => mv_lineStart y b g s lim a w hG h2 on hp
/-- One step over to a line that there is. -/
theorem over_step {s : ByteArray} (hz : s.size ≤ 1073741824) {m d c0 g : Int} (h : 0 ≤ m) (hm : m ≤ nlC (bl s)) (hd : 0 ≤ m + d) (hd2 : m + d ≤ nlC (bl s)) (hc : 0 ≤ c0) (hg : g = c0 ∨ g < 0 ∧ colR s (atR s m c0) = c0) :
    (stOver s d).ok g (atR s m c0) = true ∧ (stOver s d).to g (atR s m c0) = atR s (m + d) c0 ∧ (stOver s d).go g (atR s m c0) = c0 := by
  obtain ⟨t, et, ht, b1, b2⟩ := place_spec hz h hm c0
  have hl := ofN_line (s := s) h hm b1 b2
  have hok : ovOk (bl s) (atR s m c0) d := by rw [et]; unfold ovOk; omega
  have hG : ovG s g (atR s m c0) = c0 := by
    unfold ovG
    rcases hg with rfl | ⟨h1, h2⟩
    · rw [if_neg (by omega)]
    · rw [if_pos h1, h2]
  refine ⟨decide_eq_true hok, ?_, ?_⟩
  · show ovTo s d g _ = _
    unfold ovTo; rw [if_pos hok, hG, et, hl]
  · show ovGo s d g _ = _
    unfold ovGo; rw [if_pos hok, hG]
theorem over_edge {s : ByteArray} (hz : s.size ≤ 1073741824) {m d c0 g : Int} (h : 0 ≤ m) (hm : m ≤ nlC (bl s)) (hd : ¬ (0 ≤ m + d ∧ m + d ≤ nlC (bl s))) :
    (stOver s d).ok g (atR s m c0) = false ∧ (stOver s d).go g (atR s m c0) = g := by
  obtain ⟨t, et, ht, b1, b2⟩ := place_spec hz h hm c0
  have hl := ofN_line (s := s) h hm b1 b2
  have hok : ¬ ovOk (bl s) (atR s m c0) d := by rw [et]; unfold ovOk; omega
  refine ⟨decide_eq_false hok, ?_⟩
  show ovGo s d g _ = _
  unfold ovGo; rw [if_neg hok]
theorem over_iter {s : ByteArray} (hz : s.size ≤ 1073741824) {d c0 : Int} (hd : d = 1 ∨ d = -1) (hc : 0 ≤ c0) : ∀ (n : Nat) (m g e : Int), 0 < n → 0 ≤ m → m ≤ nlC (bl s) → 0 ≤ m + d * n → m + d * n ≤ nlC (bl s) →
    (g = c0 ∨ g < 0 ∧ colR s (atR s m c0) = c0) → (stOver s d).iter n (atR s m c0) g e = (atR s (m + d * n) c0, c0, 0)
  | 0, _, _, _, h, _, _, _, _, _ => absurd h (Nat.lt_irrefl _)
  | n + 1, m, g, e, _, h0, h1, h2, h3, hg => by
    have hn : ((n + 1 : Nat) : Int) = n + 1 := by omega
    rw [hn] at h2 h3 ⊢
    have hmul : d * ((n : Int) + 1) = d + d * n := by rw [Int.mul_add, Int.mul_one]; omega
    rw [hmul] at h2 h3 ⊢
    have hdn : (d = 1 ∧ d * (n : Int) = n) ∨ (d = -1 ∧ d * (n : Int) = -n) := by
      rcases hd with rfl | rfl
      · exact .inl ⟨rfl, Int.one_mul _⟩
      · exact .inr ⟨rfl, by omega⟩
    obtain ⟨a1, a2, a3⟩ := over_step hz (m := m) (d := d) (g := g) h0 h1 (by omega) (by omega) hc hg
    rw [Step.iter, if_pos a1, a2, a3]
    cases n with
    | zero =>
      show (atR s (m + d) c0, c0, (0 : Int)) = _
      have e0 : m + (d + d * ((0 : Nat) : Int)) = m + d := by omega
      rw [e0]
    | succ n =>
      rw [over_iter hz hd hc (n + 1) (m + d) c0 0 (by omega) (by omega) (by omega) (by omega) (by omega) (.inl rfl)]
      rw [Int.add_assoc]
theorem over_run {s : ByteArray} (hz : s.size ≤ 1073741824) {d c0 m : Int} (h : 0 ≤ m) (hm : m ≤ nlC (bl s)) (g c : Int) : (stOver s d).run s (atR s m c0) g c = (stOver s d).iter (min (max c 1) 1000).toNat (atR s m c0) (max g (-1)) 8 := by
  obtain ⟨t, et, ht, b1, b2⟩ := place_spec hz h hm c0
  unfold Step.run
  rw [et, show max (t : Int) 0 = t by omega, cSnapI_self ht]
/-- One step down (or up) by the goal. -/
theorem over_one {s : ByteArray} (hz : s.size ≤ 1073741824) {d c0 m : Int} (_hd : d = 1 ∨ d = -1) (hc : 0 ≤ c0) (h : 0 ≤ m) (hm : m ≤ nlC (bl s)) :
    (stOver s d).run s (atR s m c0) c0 1 = if 0 ≤ m + d ∧ m + d ≤ nlC (bl s) then (atR s (m + d) c0, c0, 0) else (atR s m c0, c0, 8) := by
  rw [over_run hz h hm, show (min (max (1 : Int) 1) 1000).toNat = 0 + 1 from rfl, show max c0 (-1) = c0 by omega]
  split
  · rename_i e
    obtain ⟨a1, a2, a3⟩ := over_step hz (m := m) (d := d) (g := c0) h hm e.1 e.2 hc (.inl rfl)
    rw [Step.iter, if_pos a1, a2, a3]; rfl
  · rename_i e
    obtain ⟨a1, a2⟩ := over_edge hz (m := m) (d := d) (c0 := c0) (g := c0) h hm e
    rw [Step.iter, if_neg (by rw [a1]; decide), a2]
theorem lineStart_one {s : ByteArray} {t : Nat} (ht : CB (bl s) t) (g : Int) : (stLineStart s).run s (t : Int) g 1 = (((bgn (bl s) (ofN (bl s) t) : Nat) : Int), max g (-1), 0) := by
  obtain ⟨k0, k1, _, _⟩ := CB_line ht
  obtain ⟨_, e1, _, _⟩ := lineB_eq (s := s) k0 k1
  unfold Step.run
  rw [show (min (max (1 : Int) 1) 1000).toNat = 0 + 1 from rfl, show max (t : Int) 0 = t by omega, cSnapI_self ht]
  show (((spF (bl s) (ofN (bl s) t) : Nat) : Int), max g (-1), (0 : Int)) = _
  rw [e1]
/-- move.Go by a motion from line to line. -/
theorem go_over (s : ByteArray) (hz : s.size ≤ 1073741824) (i : Nat) (d : Int) (hi : i = 6 ∧ d = -1 ∨ i = 7 ∧ d = 1) (b lim : Nat) (a g c : Int) (w : World) (hG : Good w) (hp : StoreAt w b s lim) :
    Calls Tryz.prog 63 #[.pointer (some ⟨b, 0, none⟩), .int .i64 ((i : Int) + 4), .int .i64 a, .int .i64 g, .int .i64 c] w fun e w' => e = .returned (.tuple #[.int .i64 ((stOver s d).run s a g c).1, .int .i64 ((stOver s d).run s a g c).2.1, .int .i64 ((stOver s d).run s a g c).2.2]) ∧ Below w.heap.size w w' := by
  have hc : StepC s (172 + i) (stOver s d) := by
    rcases hi with ⟨rfl, rfl⟩ | ⟨rfl, rfl⟩
    · exact up_c s
    · exact down_c s
  refine (go_any s (stOver s d) i (by omega) hc (over_in hz d) b lim a g c w hG hp).mono ?_
  rintro e w' ⟨rfl, hb⟩
  refine ⟨?_, hb⟩
  unfold Step.goal
  rw [if_neg (by omega)]
end Go.Proofs.YtclgplkkajfenaaGreatDoor
