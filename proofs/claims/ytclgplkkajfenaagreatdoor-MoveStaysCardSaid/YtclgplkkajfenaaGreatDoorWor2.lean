/- words: the fold. -/
import Derived.Test.YtclgplkkajfenaaGreatDoorWor1
import Derived.Test.YtclgplkkajfenaaGreatDoorRgi
namespace Go.Proofs.YtclgplkkajfenaaGreatDoor
open Go Go.RowKit Ow
/-- Does a cluster begin with a word's character? -/
def wdAt (l : Bs) (c : Nat × Nat) : Bool := isW (atCh l (c.1 : Int))
/-- One cluster more: the words so far, and whether the last one goes on. -/
def wStep (l : Bs) (st : List (Int × Int) × Bool) (c : Nat × Nat) : List (Int × Int) × Bool :=
  if wdAt l c = true then (if st.2 = true then st.1.dropLast ++ [((st.1.getLast?.getD (0, 0)).1, (c.2 : Int))] else st.1 ++ [((c.1 : Int), (c.2 : Int))], true) else (st.1, false)
def wFold (l : Bs) (cs : List (Nat × Nat)) : List (Int × Int) × Bool := cs.foldl (wStep l) ([], false)
theorem wFold_snoc (l : Bs) (pre : List (Nat × Nat)) (x : Nat × Nat) : wFold l (pre ++ [x]) = wStep l (wFold l pre) x := by simp [wFold]
theorem wFold_snd (l : Bs) (pre : List (Nat × Nat)) (x : Nat × Nat) : (wFold l (pre ++ [x])).2 = wdAt l x := by
  rw [wFold_snoc, wStep]
  by_cases h : wdAt l x = true
  · rw [if_pos h, h]
  · rw [if_neg h]; simp at h; rw [h]
theorem wFold_len (l : Bs) : ∀ (n : Nat) (pre : List (Nat × Nat)), pre.length = n → (wFold l pre).1.length ≤ n ∧ ((wFold l pre).2 = true → (wFold l pre).1 ≠ []) := by
  intro n
  induction n with
  | zero => intro pre h; rw [List.length_eq_zero_iff.1 h]; simp [wFold]
  | succ n ih =>
    intro pre h
    rcases List.eq_nil_or_concat pre with rfl | ⟨p, x, rfl⟩
    · simp at h
    rw [List.concat_eq_append] at h ⊢
    have hp := ih p (by simpa using h)
    rw [wFold_snoc, wStep]
    by_cases h1 : wdAt l x = true
    · rw [if_pos h1]
      by_cases h2 : (wFold l p).2 = true
      · rw [if_pos h2]
        refine ⟨?_, fun _ => by simp⟩
        have := List.length_pos_iff.2 (hp.2 h2)
        simp only [List.length_append, List.length_dropLast, List.length_singleton]
        omega
      · rw [if_neg h2]
        refine ⟨?_, fun _ => by simp⟩
        simp only [List.length_append, List.length_singleton]
        omega
    · rw [if_neg h1]
      exact ⟨by have := hp.1; simp only; omega, fun h => by cases h⟩
theorem wFold_ne {l : Bs} {pre : List (Nat × Nat)} (h : (wFold l pre).2 = true) : ∃ xs y, (wFold l pre).1 = xs ++ [y] := by
  rcases List.eq_nil_or_concat (wFold l pre).1 with e | ⟨xs, y, e⟩
  · exact absurd e ((wFold_len l _ pre rfl).2 h)
  · exact ⟨xs, y, by rw [e, List.concat_eq_append]⟩
/-- The words of a text. -/
def wSpans (l : Bs) : List (Int × Int) := (wFold l (clusters l)).1
/-- What stands fast while the words are gathered: the text's boxes, the box of the words, the box that tells whether a word goes on. -/
structure SpC (w : World) (s : ByteArray) (B bs b1 b2 b3 : Nat) (v : Value) (b : Bool) (W : World) : Prop where
  good : Good W
  base : Below w.heap.size w W
  xs : W.heap[bs]? = some (boxS s)
  x1 : W.heap[b1]? = some (boxS s)
  x3 : W.heap[b3]? = some (.cells [.bool b].toArray 4 (0, 0))
  x2 : W.heap[b2]? = some (.cells [v].toArray 111 (0, 0))
  lt : (w.heap.size ≤ B ∧ 2 ≤ w.heap.size) ∧ bs < B ∧ b1 < B ∧ (w.heap.size ≤ b2 ∧ b2 < B) ∧ (w.heap.size ≤ b3 ∧ b3 < B) ∧ b2 ≠ b3 ∧ bs ≠ b3 ∧ bs ≠ b2 ∧ b1 ≠ b3 ∧ b1 ≠ b2
theorem SpC.grown {w W W' : World} {s : ByteArray} {B bs b1 b2 b3 : Nat} {v : Value} {b : Bool} (h : SpC w s B bs b1 b2 b3 v b W) {row : Option Nat} (hg : W.grownBy W' row) (hr : ∀ r, row = some r → B ≤ r) : SpC w s B bs b1 b2 b3 v b W' := by
  obtain ⟨g, bb, xs, x1, x3, x2, lt⟩ := h
  obtain ⟨⟨l1, l2⟩, l3, l4, l5, l6, l7⟩ := lt
  have hk : ∀ k o, k < B → W.heap[k]? = some o → W'.heap[k]? = some o := fun k o hk ho => (hg.block k (lt_of_heap ho) (fun e => by have := hr k e.symm; omega)).trans ho
  have hW : w.heap.size ≤ W.heap.size := bb.size
  refine ⟨g.mono (B := 2) ⟨hg.os, hg.tape, hg.output, hg.size, fun k hk => hg.block k (by omega) (fun e => by have := hr k e.symm; omega)⟩ (by omega), ?_, hk _ _ l3 xs, hk _ _ l4 x1, hk _ _ l6.2 x3, hk _ _ l5.2 x2, ⟨l1, l2⟩, l3, l4, l5, l6, l7⟩
  exact bb.trans ⟨hg.os, hg.tape, hg.output, hg.size, fun k hk => hg.block k (by omega) (fun e => by have := hr k e.symm; omega)⟩
theorem SpC.below {w W W' : World} {s : ByteArray} {B bs b1 b2 b3 : Nat} {v : Value} {b : Bool} (h : SpC w s B bs b1 b2 b3 v b W) (hb : Below W.heap.size W W') : SpC w s B bs b1 b2 b3 v b W' :=
  h.grown (row := none) ⟨hb.os, hb.tape, hb.output, hb.size, fun k hk _ => hb.block k hk⟩ (fun _ e => by cases e)
/-- The two boxes are turned. -/
theorem SpC.turned {w W W' : World} {s : ByteArray} {B bs b1 b2 b3 : Nat} {v v' : Value} {b b' : Bool} {L : List (Nat × Obj)} (h : SpC w s B bs b1 b2 b3 v b W) (hO : Ow.Own W L W') (hL : ∀ p ∈ L, p.1 = b2 ∨ p.1 = b3 ∨ W.heap.size ≤ p.1)
    (h3 : W'.heap[b3]? = some (.cells [.bool b'].toArray 4 (0, 0))) (h2 : W'.heap[b2]? = some (.cells [v'].toArray 111 (0, 0))) : SpC w s B bs b1 b2 b3 v' b' W' := by
  obtain ⟨g, bb, xs, x1, x3, x2, lt⟩ := h
  obtain ⟨⟨l1, l2⟩, l3, l4, l5, l6, l7, l8, l9, l10, l11⟩ := lt
  have hk : ∀ k o, k ≠ b2 → k ≠ b3 → W.heap[k]? = some o → W'.heap[k]? = some o := fun k o n2 n3 ho => (hO.old k (lt_of_heap ho) (fun p hp e => by
    have := lt_of_heap ho
    rcases hL p hp with e' | e' | e' <;> omega)).trans ho
  refine ⟨hO.good g, ?_, hk _ _ l9 l8 xs, hk _ _ l11 l10 x1, h3, h2, ⟨l1, l2⟩, l3, l4, l5, l6, l7, l8, l9, l10, l11⟩
  exact bb.trans ⟨hO.os, hO.tape, hO.output, hO.size, fun k hk => hO.old k (by have := bb.size; omega) (fun p hp e => by rcases hL p hp with e' | e' | e' <;> (have := bb.size; omega))⟩
theorem own_keeps {W W' : World} {L : List (Nat × Obj)} {B b2 b3 : Nat} (hO : Ow.Own W L W') (hL : ∀ p ∈ L, p.1 = b2 ∨ p.1 = b3 ∨ W.heap.size ≤ p.1) (h2 : b2 < B) (h3 : b3 < B) : KeepsFrom B W W' :=
  ⟨hO.size, fun j o hB hj _ => (hO.old j (lt_of_heap hj) (fun p hp e => by have := lt_of_heap hj; rcases hL p hp with e' | e' | e' <;> omega)).trans hj⟩
theorem row_own {W W' : World} {L : List (Nat × Obj)} {B b2 b3 : Nat} {v : Value} {xs : List (Int × Int)} (hr : Own' encS 41 2 B W v xs) (hO : Ow.Own W L W') (hL : ∀ p ∈ L, p.1 = b2 ∨ p.1 = b3 ∨ W.heap.size ≤ p.1) (h2 : b2 < B) (h3 : b3 < B) : Own' encS 41 2 B W' v xs := by
  obtain ⟨h1, h' | ⟨g, cap, cur, hv, h0, hc, rest⟩⟩ := hr
  · exact ⟨h1, .inl h'⟩
  · exact ⟨h1, .inr ⟨g, cap, cur, hv, h0, (hO.old g (lt_of_heap hc) (fun p hp e => by have := lt_of_heap hc; rcases hL p hp with e' | e' | e' <;> omega)).trans hc, rest⟩⟩
def SpI (w : World) (s : ByteArray) (B bs b1 b2 b3 : Nat) (pre : List (Nat × Nat)) (W : World) : Prop := ∃ v, SpC w s B bs b1 b2 b3 v (decide ((wFold (bl s) pre).2 = true)) W ∧ Own' encS 41 2 B W v (wFold (bl s) pre).1
theorem SpI.below {w W W' : World} {s : ByteArray} {B bs b1 b2 b3 : Nat} {pre : List (Nat × Nat)} (h : SpI w s B bs b1 b2 b3 pre W) (hb : Below W.heap.size W W') : SpI w s B bs b1 b2 b3 pre W' := by
  obtain ⟨v, h1, h2⟩ := h
  exact ⟨v, h1.below hb, h2.below hb⟩
theorem SpI.from {w : World} {s : ByteArray} {B bs b1 b2 b3 : Nat} : OwnFrom B (fun pre W => SpI w s B bs b1 b2 b3 pre W) := fun pre W W' row h hg hr => by
  obtain ⟨v, h1, h2⟩ := h
  exact ⟨v, h1.grown hg (fun r e => (hr r e).1), h2.from hg (fun r e => (hr r e).2)⟩
theorem isword_dec (c : Int) (w : World) (hG : Good w) : Calls Tryz.prog 223 #[.int .i32 c] w fun e w' => e = .returned (.bool (decide (isW c = true))) ∧ Below w.heap.size w w' := by
  have h := isword_any c w hG
  rw [Bool.decide_eq_true]; exact h
theorem Own'.sliceL {B : Nat} {w : World} {v : Value} {xs : List (Int × Int)} (h : Own' encS 41 2 B w v xs) (hx : xs ≠ []) : ∃ (g cap k : Nat), v = .slice (some ⟨g, 0, none⟩) k cap ∧ k = xs.length ∧ B ≤ g ∧ g < w.heap.size := by
  obtain ⟨g, cap, e, h1, h2⟩ := h.slice' hx
  exact ⟨g, cap, _, e, rfl, h1, h2⟩

end Go.Proofs.YtclgplkkajfenaaGreatDoor
