/- The calculus: ranges over functions. -/
import Derived.Test.YtclgplkkajfenaaGreatDoorOw6
import Derived.RangeFuncNested
namespace Go.Proofs.YtclgplkkajfenaaGreatDoor
namespace Ow
open Go Go.RowKit
variable {P : Program} {ro : Option Nat} {n : Nat} {ops : Array Oper} {Q : Exit → Act → World → Prop} {N : Nat} {D : List Deferred} {e : Env} {w w0 : World} {o : Oper} {L : List (Nat × Obj)}

theorem Own.learn (h : Own w0 L w) {b : Nat} {o : Obj} (hb : w.heap[b]? = some o) (hn : ∀ p ∈ L, p.1 ≠ b) (h2 : w0.heap.size ≤ b) : Own w0 ((b, o) :: L) w :=
  ⟨h.os, h.tape, h.output, h.size, fun k hk hp => h.old k hk fun p hm => hp p (List.mem_cons_of_mem _ hm),
   fun p hp => by rcases List.mem_cons.1 hp with rfl | hp; exact hb; exact h.own p hp,
   by
    simp only [List.map_cons, List.nodup_cons]
    refine ⟨fun hm => ?_, h.nd⟩
    obtain ⟨p, hp, e⟩ := List.mem_map.1 hm
    exact hn p hp e,
   fun p hp => by rcases List.mem_cons.1 hp with rfl | hp; exact Nat.le_trans h.base h2; exact h.two p hp, h.base⟩
theorem Own.grown (h : Own w0 L w) {w' : World} {row : Option Nat} {B : Nat} (hB : w0.heap.size ≤ B) (hg : w.grownBy w' row) (hr : ∀ r, row = some r → B ≤ r) (hL : ∀ p ∈ L, p.1 < B) : Own w0 L w' :=
  ⟨hg.os.trans h.os, hg.tape.trans h.tape, hg.output.trans h.output, Nat.le_trans h.size hg.size,
   fun k hk hn => (hg.block k (Nat.lt_of_lt_of_le hk h.size) (fun e => by have := hr k e.symm; omega)).trans (h.old k hk hn),
   fun p hp => (hg.block p.1 (lt_of_heap (h.own p hp)) (fun e => by have := hr _ e.symm; have := hL p hp; omega)).trans (h.own p hp), h.nd, h.two, h.base⟩
/-- Seen from here: what was the call's own is old, and known. -/
theorem Own.adopt (h : Own w0 L w) : Own w L w :=
  ⟨rfl, rfl, rfl, Nat.le_refl _, fun _ _ _ => rfl, h.own, h.nd, h.two, Nat.le_trans h.base h.size⟩
theorem Own.comp {w' : World} {L' : List (Nat × Obj)} (h : Own w0 L w) (k : Own w L' w') (hm : L'.map (·.1) = L.map (·.1)) : Own w0 L' w' :=
  ⟨k.os.trans h.os, k.tape.trans h.tape, k.output.trans h.output, Nat.le_trans h.size k.size,
   fun j hj hn => (k.old j (Nat.lt_of_lt_of_le hj h.size) hn).trans (h.old j hj fun p hp e => by
    have : p.1 ∈ L'.map (·.1) := by rw [hm]; exact List.mem_map_of_mem hp
    obtain ⟨q, hq, e'⟩ := List.mem_map.1 this
    exact hn q hq (e'.trans e)),
   k.own, k.nd, k.two, h.base⟩
theorem Own.lt (h : Own w0 L w) : ∀ p ∈ L, p.1 < w.heap.size := fun p hp => lt_of_heap (h.own p hp)
theorem Own.keeps {w' : World} {L' : List (Nat × Obj)} {B : Nat} (k : Own w L' w') (hL : ∀ p ∈ L', p.1 < B) : KeepsFrom B w w' :=
  ⟨k.size, fun j o hB hj _ => (k.old j (lt_of_heap hj) fun p hp e => by have := hL p hp; omega).trans hj⟩
theorem names_lt {L L' : List (Nat × Obj)} {B : Nat} (hm : L'.map (·.1) = L.map (·.1)) (hL : ∀ p ∈ L, p.1 < B) : ∀ p ∈ L', p.1 < B := fun p hp => by
  have : p.1 ∈ L.map (·.1) := by rw [← hm]; exact List.mem_map_of_mem hp
  obtain ⟨q, hq, e⟩ := List.mem_map.1 this
  rw [← e]; exact hL q hq
theorem Own.ltN (h : Own w0 L w) : ∀ b ∈ L.map (·.1), b < w.heap.size := fun b hb => by
  obtain ⟨q, hq, e⟩ := List.mem_map.1 hb
  rw [← e]; exact h.lt q hq
theorem namesLt {L' : List (Nat × Obj)} {ns : List Nat} {B : Nat} (hm : L'.map (·.1) = ns) (hL : ∀ b ∈ ns, b < B) : ∀ p ∈ L', p.1 < B := fun p hp =>
  hL p.1 (by rw [← hm]; exact List.mem_map_of_mem hp)
theorem namesNe {L' : List (Nat × Obj)} {ns : List Nat} {B u : Nat} (hm : L'.map (·.1) = ns) (hL : ∀ b ∈ ns, b < B) (hu : B ≤ u) : ∀ p ∈ L', p.1 ≠ u := fun p hp e => by
  have := namesLt hm hL p hp; omega
theorem Own.ownFrom {β : Type} {Lf : β → List (Nat × Obj)} {X : β → Prop} {B : Nat} (hB : w0.heap.size ≤ B) (hL : ∀ s, X s → ∀ p ∈ Lf s, p.1 < B) : OwnFrom B (fun s W => X s ∧ Own w0 (Lf s) W) :=
  fun s _ _ _ hs hg hr => ⟨hs.1, hs.2.grown hB hg (fun r e => (hr r e).1) (hL s hs.1)⟩

def penv : List (Nat × Value) → Env → Env
  | [], e => e
  | (p, v) :: r, e => penv r ((p, v) :: e)
theorem fits_foldl : ∀ (l : List (Nat × Value)) (e : Env) (t : Array Value) (D : List Deferred), t.size = N → (∀ p ∈ l, p.1 < N) → Fits e { tmps := t, defers := D } →
    Fits (penv l e) { tmps := l.foldl (fun t (p, v) => t.setIfInBounds p v) t, defers := D } ∧ (l.foldl (fun t (p, v) => t.setIfInBounds p v) t).size = N
  | [], _, _, _, ht, _, h => ⟨h, ht⟩
  | (p, v) :: r, e, t, D, ht, hl, h => by
    have hp := hl (p, v) (by simp)
    exact fits_foldl r ((p, v) :: e) (t.setIfInBounds p v) D (by simpa using ht) (fun q hq => hl q (List.mem_cons_of_mem _ hq)) (fun k u hk => by
      by_cases e' : p = k
      · subst e'; rw [look_same] at hk; cases hk; simp [ht, hp]
      · rw [look_other _ _ e'] at hk
        show (t.setIfInBounds p v)[k]? = some u
        rw [Array.getElem?_setIfInBounds_ne e']; exact h k u hk)
def coll (d : Nat) : Deferred := { target := .collected d, args := #[] }
def markO : Obj := .deferred (some [])
/-- What a round's assignment leaves. -/
def AssK {β : Type} (E : β → Env) (M : β → World → Prop) (w0 : World) (B : Nat) (Kp : World → World → Prop) (L1 : List (Nat × Obj)) (N : Nat) (W : World) : Act → World → Prop :=
  fun a W' => ∃ u, Fits (E u) a ∧ a.tmps.size = N ∧ a.defers = [] ∧ M u W' ∧ KeepsFrom B W W' ∧ Kp W W' ∧ Own w0 L1 W'
theorem SQ.assigned {β : Type} {E : β → Env} {M : β → World → Prop} {B : Nat} {Kp : World → World → Prop} {L1 : List (Nat × Obj)} {W : World} {Q' : Exit → Act → World → Prop} (u : β) (hc : Cov e (E u)) (hM : M u w) (h1 : KeepsFrom B W w) (h2 : Kp W w) (h3 : Own w0 L1 w) :
    SQ (Exit.then (AssK E M w0 B Kp L1 N W) Q') .normal N [] e w := fun _ g1 g2 g3 => ⟨u, g3.cov hc, g1, g2, hM, h1, h2, h3⟩
/-- How a round may be left. -/
def RoundK {α : Type} (w0 : World) (B : Nat) (Kp : World → World → Prop) (Lf : List α → List (Nat × Obj)) (X : Code → List α → Prop) (Lx : Code → List α → List (Nat × Obj)) (xs : List α) (W : World) : Exit → Act → World → Prop :=
  ownPostG B Kp (fun pre W' => True ∧ Own w0 (Lf pre) W') (fun c pre W' => X c pre ∧ Own w0 (Lx c pre) W') xs W
theorem SQ.goes {α : Type} {B : Nat} {Kp : World → World → Prop} {Lf : List α → List (Nat × Obj)} {X : Code → List α → Prop} {Lx : Code → List α → List (Nat × Obj)} {xs : List α} {W : World}
    (h1 : KeepsFrom B W w) (h2 : Kp W w) (h3 : Own w0 (Lf xs) w) : SQ (RoundK w0 B Kp Lf X Lx xs W) .normal N D e w := fun _ _ _ _ => ⟨h1, h2, trivial, h3⟩
theorem SQ.breaks {α : Type} {B : Nat} {Kp : World → World → Prop} {Lf : List α → List (Nat × Obj)} {X : Code → List α → Prop} {Lx : Code → List α → List (Nat × Obj)} {xs : List α} {W : World} {id : Nat}
    (h1 : KeepsFrom B W w) (h2 : X (.exit id) xs) (h3 : Own w0 (Lx (.exit id) xs) w) : SQ (RoundK w0 B Kp Lf X Lx xs W) (.exit id) N D e w := fun _ _ _ _ => ⟨h1, h2, h3⟩
theorem SQ.returns {α : Type} {B : Nat} {Kp : World → World → Prop} {Lf : List α → List (Nat × Obj)} {X : Code → List α → Prop} {Lx : Code → List α → List (Nat × Obj)} {xs : List α} {W : World}
    (h1 : KeepsFrom B W w) (h2 : X .ret xs) (h3 : Own w0 (Lx .ret xs) w) : SQ (RoundK w0 B Kp Lf X Lx xs W) .ret N D e w := fun _ _ _ _ => ⟨h1, h2, h3⟩
theorem SC.range {α β : Type} {g : Operand} {ps : List Nat} {assign body : Code} (hO : Own w0 L w) {gf : Nat} {lb : Array Value} (hg : ev e g = some (.func (.func gf) #[] lb))
    (eg : ∀ args w, (callFunc gf args).run P w = .ok (.enter gf args) w) {encs : α → List Value} {Kp : World → World → Prop} {S Sp : List α → Prop} {NN : Nat} (hn : 1 ≤ n)
    (hseq : SeqStopsK (Fc none) (n - 1) P gf lb (fun x => (encs x).toArray) Kp S Sp NN w) (hKt : ∀ {A B C : World}, Kp A B → Kp B C → Kp A C)
    (hKb : ∀ (W : World) (l : Nat) (o o' : Obj), w.heap.size ≤ l → W.heap[l]? = some o → o.isCells = false → o.isWalk = false → Kp W (W.putObj l o'))
    (hps : ∀ x, (encs x).length = ps.length) (hpN : ∀ p ∈ ps, p < N)
    (Lf : List α → List (Nat × Obj)) (X : Code → List α → Prop) (Lx : Code → List α → List (Nat × Obj)) (hL0 : Lf [] = L)
    (hLf : ∀ pre, (Lf pre).map (·.1) = L.map (·.1)) (hLx : ∀ c pre, X c pre → (Lx c pre).map (·.1) = L.map (·.1))
    (E : α → β → Env) (M : α → β → World → Prop) (hM : ∀ x u, OwnFrom w.heap.size (fun (_ : Unit) W => M x u W))
    (hassign : ∀ (l : Nat) (pre : List α) (x : α) (W : World), Own w0 (Lf pre) W → w.heap.size ≤ W.heap.size →
      SC P (some l) (n - 1 - 1) assign (Exit.then (AssK (E x) (M x) w0 w.heap.size Kp (Lf pre) N W) (fun _ _ _ => False)) N [] (penv (ps.zip (encs x)) e) W)
    (hbody : ∀ (l : Nat) (pre : List α) (x : α) (u : β) (W : World), Own w0 (Lf pre) W → w.heap.size ≤ W.heap.size → M x u W → pre.length < NN →
      SC P (some l) (n - 1 - 1) body (RoundK w0 w.heap.size Kp Lf X Lx (pre ++ [x]) W) N [] (E x u) W)
    (hdone : ∀ (d : Nat) (xs : List α) (W : World), w0.heap.size ≤ d → S xs → Own w0 ((d, markO) :: Lf xs) W → SQ Q .normal N (coll d :: D) e W)
    (hstop : ∀ (d : Nat) (c : Code) (pre : List α) (W : World), w0.heap.size ≤ d → Sp pre → X c pre → Own w0 ((d, markO) :: Lx c pre) W → SC P none n c Q N (coll d :: D) e W) :
    SC P none n (.rangeFunc g ps.toArray assign body) Q N D e w := by
  intro a h1 h2 h3
  have hB := hO.size
  have hlt := hO.lt
  refine wpIn_rangeFunc_ownH (F := Fc none) rfl hn (ev_eval h3 hg) trivial eg hseq hKt hKb (Below.refl _ _) (fun x => by simp [hps])
    (fun pre W => True ∧ (Own w0 (Lf pre) W ∧ w.heap.size ≤ W.heap.size)) (fun c pre W => X c pre ∧ Own w0 (Lx c pre) W) ?_ ?_ ⟨trivial, hL0 ▸ hO, Nat.le_refl _⟩
    (fun x a' W => ∃ u, Fits (E x u) a' ∧ a'.tmps.size = N ∧ a'.defers = [] ∧ M x u W) ?_ ?_ ?_ ?_ ?_
  · exact fun s A B row hs hg hr => ⟨trivial, hs.2.1.grown hB hg (fun r e => (hr r e).1) (names_lt (hLf s) hlt), Nat.le_trans hs.2.2 hg.size⟩
  · exact fun c s A B row hs hg hr => ⟨hs.1, hs.2.grown hB hg (fun r e => (hr r e).1) (names_lt (hLx c s hs.1) hlt)⟩
  · rintro x a' _ A B row ⟨u, g1, g2, g3, g4⟩ hg hr
    exact ⟨u, g1, g2, g3, hM x u () A B row g4 hg hr⟩
  · rintro l pre x W K ⟨_, hI, hIw⟩ hK
    have hz := fits_foldl (N := N) (ps.zip (encs x)) e a.tmps [] h1 (fun p hp => hpN _ (List.of_mem_zip hp).1) h3
    refine wpIn_mono (hassign l pre x W hI hIw _ (by simpa using hz.2) rfl (by simpa using hz.1)) fun ex a' W' hq => ?_
    cases ex with
    | normal =>
      obtain ⟨u, g1, g2, g3, g4, g5, g6, g7⟩ := hq
      exact hK a' W' g5 g6 ⟨trivial, g7, Nat.le_trans hIw g5.size⟩ ⟨u, g1, g2, g3, g4⟩
    | _ => exact hq
  · rintro l pre x a' W _ _ ⟨_, hI, hIw⟩ ⟨u, g1, g2, g3, g4⟩ hlen
    refine wpIn_mono (hbody l pre x u W hI hIw g4 hlen a' g2 g3 g1) fun ex a2 W' hq => ?_
    cases ex with
    | normal => exact ⟨hq.1, hq.2.1, trivial, hq.2.2.2, Nat.le_trans hIw hq.1.size⟩
    | _ => exact hq
  · rintro d xs W hd hS ⟨_, hI, _⟩ hK
    exact hdone d xs W (Nat.le_trans hB hd) hS (hI.learn hK (fun p hp => by have := names_lt (hLf xs) hlt p hp; omega) (Nat.le_trans hB hd)) _ h1 (by simp [h2, coll]) (fun t v ht => h3 t v ht)
  · rintro d c pre W hd hS ⟨hX, hI⟩ hK
    exact hstop d c pre W (Nat.le_trans hB hd) hS hX (hI.learn hK (fun p hp => by have := names_lt (hLx c pre hX) hlt p hp; omega) (Nat.le_trans hB hd)) _ h1 (by simp [h2, coll]) (fun t v ht => h3 t v ht)
end Ow
end Go.Proofs.YtclgplkkajfenaaGreatDoor
