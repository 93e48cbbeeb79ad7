/- The calculus: ranges over functions, with something said of what was gone through. -/
import Derived.Test.YtclgplkkajfenaaGreatDoorOw8
namespace Go.Proofs.YtclgplkkajfenaaGreatDoor
namespace Ow
open Go Go.RowKit
variable {P : Program} {ro : Option Nat} {n : Nat} {ops : Array Oper} {Q : Exit → Act → World → Prop} {N : Nat} {D : List Deferred} {e : Env} {w w0 : World} {o : Oper} {L : List (Nat × Obj)}

/-- How a round may be left. -/
def RoundP {α : Type} (Pf : List α → Prop) (w0 : World) (B : Nat) (Kp : World → World → Prop) (Lf : List α → List (Nat × Obj)) (X : Code → List α → Prop) (Lx : Code → List α → List (Nat × Obj)) (xs : List α) (W : World) : Exit → Act → World → Prop :=
  ownPostG B Kp (fun pre W' => Pf pre ∧ Own w0 (Lf pre) W') (fun c pre W' => X c pre ∧ Own w0 (Lx c pre) W') xs W
theorem SQ.goesP {α : Type} {Pf : List α → Prop} {B : Nat} {Kp : World → World → Prop} {Lf : List α → List (Nat × Obj)} {X : Code → List α → Prop} {Lx : Code → List α → List (Nat × Obj)} {xs : List α} {W : World}
    (h1 : KeepsFrom B W w) (h2 : Kp W w) (hP : Pf xs) (h3 : Own w0 (Lf xs) w) : SQ (RoundP Pf w0 B Kp Lf X Lx xs W) .normal N D e w := fun _ _ _ _ => ⟨h1, h2, hP, h3⟩
theorem SQ.breaksP {α : Type} {Pf : List α → Prop} {B : Nat} {Kp : World → World → Prop} {Lf : List α → List (Nat × Obj)} {X : Code → List α → Prop} {Lx : Code → List α → List (Nat × Obj)} {xs : List α} {W : World} {id : Nat}
    (h1 : KeepsFrom B W w) (h2 : X (.exit id) xs) (h3 : Own w0 (Lx (.exit id) xs) w) : SQ (RoundP Pf w0 B Kp Lf X Lx xs W) (.exit id) N D e w := fun _ _ _ _ => ⟨h1, h2, h3⟩
theorem SQ.returnsP {α : Type} {Pf : List α → Prop} {B : Nat} {Kp : World → World → Prop} {Lf : List α → List (Nat × Obj)} {X : Code → List α → Prop} {Lx : Code → List α → List (Nat × Obj)} {xs : List α} {W : World}
    (h1 : KeepsFrom B W w) (h2 : X .ret xs) (h3 : Own w0 (Lx .ret xs) w) : SQ (RoundP Pf w0 B Kp Lf X Lx xs W) .ret N D e w := fun _ _ _ _ => ⟨h1, h2, h3⟩
theorem SC.rangeP {α β : Type} (Pf : List α → Prop) (hP0 : Pf []) {g : Operand} {ps : List Nat} {assign body : Code} (hO : Own w0 L w) {gf : Nat} {lb : Array Value} (hg : ev e g = some (.func (.func gf) #[] lb))
    (eg : ∀ args w, (callFunc gf args).run P w = .ok (.enter gf args) w) {encs : α → List Value} {Kp : World → World → Prop} {S Sp : List α → Prop} {NN : Nat} (hn : 1 ≤ n)
    (hseq : SeqStopsK (Fc none) (n - 1) P gf lb (fun x => (encs x).toArray) Kp S Sp NN w) (hKt : ∀ {A B C : World}, Kp A B → Kp B C → Kp A C)
    (hKb : ∀ (W : World) (l : Nat) (o o' : Obj), w.heap.size ≤ l → W.heap[l]? = some o → o.isCells = false → o.isWalk = false → Kp W (W.putObj l o'))
    (hps : ∀ x, (encs x).length = ps.length) (hpN : ∀ p ∈ ps, p < N)
    (Lf : List α → List (Nat × Obj)) (X : Code → List α → Prop) (Lx : Code → List α → List (Nat × Obj)) (hL0 : Lf [] = L)
    (hLf : ∀ pre, (Lf pre).map (·.1) = L.map (·.1)) (hLx : ∀ c pre, X c pre → (Lx c pre).map (·.1) = L.map (·.1))
    (E : α → β → Env) (M : α → β → World → Prop) (hM : ∀ x u, OwnFrom w.heap.size (fun (_ : Unit) W => M x u W))
    (hassign : ∀ (l : Nat) (pre : List α) (x : α) (W : World), Own w0 (Lf pre) W → w.heap.size ≤ W.heap.size →
      SC P (some l) (n - 1 - 1) assign (Exit.then (AssK (E x) (M x) w0 w.heap.size Kp (Lf pre) N W) (fun _ _ _ => False)) N [] (penv (ps.zip (encs x)) e) W)
    (hbody : ∀ (l : Nat) (pre : List α) (x : α) (u : β) (W : World), Pf pre → Own w0 (Lf pre) W → w.heap.size ≤ W.heap.size → M x u W → pre.length < NN →
      SC P (some l) (n - 1 - 1) body (RoundP Pf w0 w.heap.size Kp Lf X Lx (pre ++ [x]) W) N [] (E x u) W)
    (hdone : ∀ (d : Nat) (xs : List α) (W : World), w0.heap.size ≤ d → S xs → Pf xs → Own w0 ((d, markO) :: Lf xs) W → SQ Q .normal N (coll d :: D) e W)
    (hstop : ∀ (d : Nat) (c : Code) (pre : List α) (W : World), w0.heap.size ≤ d → Sp pre → X c pre → Own w0 ((d, markO) :: Lx c pre) W → SC P none n c Q N (coll d :: D) e W) :
    SC P none n (.rangeFunc g ps.toArray assign body) Q N D e w := by
  intro a h1 h2 h3
  have hB := hO.size
  have hlt := hO.lt
  refine wpIn_rangeFunc_ownH (F := Fc none) rfl hn (ev_eval h3 hg) trivial eg hseq hKt hKb (Below.refl _ _) (fun x => by simp [hps])
    (fun pre W => Pf pre ∧ (Own w0 (Lf pre) W ∧ w.heap.size ≤ W.heap.size)) (fun c pre W => X c pre ∧ Own w0 (Lx c pre) W) ?_ ?_ ⟨hP0, hL0 ▸ hO, Nat.le_refl _⟩
    (fun x a' W => ∃ u, Fits (E x u) a' ∧ a'.tmps.size = N ∧ a'.defers = [] ∧ M x u W) ?_ ?_ ?_ ?_ ?_
  · exact fun s A B row hs hg hr => ⟨hs.1, hs.2.1.grown hB hg (fun r e => (hr r e).1) (names_lt (hLf s) hlt), Nat.le_trans hs.2.2 hg.size⟩
  · exact fun c s A B row hs hg hr => ⟨hs.1, hs.2.grown hB hg (fun r e => (hr r e).1) (names_lt (hLx c s hs.1) hlt)⟩
  · rintro x a' _ A B row ⟨u, g1, g2, g3, g4⟩ hg hr
    exact ⟨u, g1, g2, g3, hM x u () A B row g4 hg hr⟩
  · rintro l pre x W K ⟨hP, hI, hIw⟩ hK
    have hz := fits_foldl (N := N) (ps.zip (encs x)) e a.tmps [] h1 (fun p hp => hpN _ (List.of_mem_zip hp).1) h3
    refine wpIn_mono (hassign l pre x W hI hIw _ (by simpa using hz.2) rfl (by simpa using hz.1)) fun ex a' W' hq => ?_
    cases ex with
    | normal =>
      obtain ⟨u, g1, g2, g3, g4, g5, g6, g7⟩ := hq
      exact hK a' W' g5 g6 ⟨hP, g7, Nat.le_trans hIw g5.size⟩ ⟨u, g1, g2, g3, g4⟩
    | _ => exact hq
  · rintro l pre x a' W _ _ ⟨hP, hI, hIw⟩ ⟨u, g1, g2, g3, g4⟩ hlen
    refine wpIn_mono (hbody l pre x u W hP hI hIw g4 hlen a' g2 g3 g1) fun ex a2 W' hq => ?_
    cases ex with
    | normal => exact ⟨hq.1, hq.2.1, hq.2.2.1, hq.2.2.2, Nat.le_trans hIw hq.1.size⟩
    | _ => exact hq
  · rintro d xs W hd hS ⟨hP, hI, _⟩ hK
    exact hdone d xs W (Nat.le_trans hB hd) hS hP (hI.learn hK (fun p hp => by have := names_lt (hLf xs) hlt p hp; omega) (Nat.le_trans hB hd)) _ h1 (by simp [h2, coll]) (fun t v ht => h3 t v ht)
  · rintro d c pre W hd hS ⟨hX, hI⟩ hK
    exact hstop d c pre W (Nat.le_trans hB hd) hS hX (hI.learn hK (fun p hp => by have := names_lt (hLx c pre hX) hlt p hp; omega) (Nat.le_trans hB hd)) _ h1 (by simp [h2, coll]) (fun t v ht => h3 t v ht)
end Ow
end Go.Proofs.YtclgplkkajfenaaGreatDoor
