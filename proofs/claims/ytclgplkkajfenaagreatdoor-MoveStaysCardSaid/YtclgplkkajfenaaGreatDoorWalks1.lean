/- Ranges over functions; cluster.Walk, Count, Cells. -/
import Derived.Test.YtclgplkkajfenaaGreatDoorUnits
import Derived.RangeFuncNested
import Derived.Test.YtclgplkkajfenaaGreatDoorClus
import Derived.Test.YtclgplkkajfenaaGreatDoorShelf
/- The calculus: ranges over functions. -/
  namespace Go.Proofs.YtclgplkkajfenaaGreatDoor
namespace Ow
open Go Go.RowKit
variable {P : Program} {ro : Option Nat} {n : Nat} {ops : Array Oper} {Q : Exit → Act → World → Prop} {N : Nat} {D : List Deferred} {e : Env} {w w0 : World} {o : Oper} {L : List (Nat × Obj)}

theorem Own.learn (h : Own w0 L w) {b : Nat} {o : Obj} (hb : w.heap[b]? = some o) (hn : ∀ p ∈ L, p.1 ≠ b) (h2 : w0.heap.size ≤ b) : Own w0 ((b, o) :: L) w :=
  ⟨h.os, h.tape, h.output, h.size, fun k hk hp => h.old k hk fun p hm => hp p (List.mem_cons_of_mem _ hm),
   fun p hp => by rcases List.mem_cons.1 hp with rfl | hp; exact hb; exact h.own p hp,
   by
    simp only [List.map_cons, List.nodup_cons]
    refine ⟨fun hm => ?_, h.nd⟩
    obtain ⟨p, hp, e⟩ := List.mem_map.1 hm
    exact hn p hp e,
   fun p hp => by rcases List.mem_cons.1 hp with rfl | hp; exact Nat.le_trans h.base h2; exact h.two p hp, h.base⟩
theorem Own.grown (h : Own w0 L w) {w' : World} {row : Option Nat} {B : Nat} (hB : w0.heap.size ≤ B) (hg : w.grownBy w' row) (hr : ∀ r, row = some r → B ≤ r) (hL : ∀ p ∈ L, p.1 < B) : Own w0 L w' :=
  ⟨hg.os.trans h.os, hg.tape.trans h.tape, hg.output.trans h.output, Nat.le_trans h.size hg.size,
   fun k hk hn => (hg.block k (Nat.lt_of_lt_of_le hk h.size) (fun e => by have := hr k e.symm; omega)).trans (h.old k hk hn),
   fun p hp => (hg.block p.1 (lt_of_heap (h.own p hp)) (fun e => by have := hr _ e.symm; have := hL p hp; omega)).trans (h.own p hp), h.nd, h.two, h.base⟩
/-- Seen from here: what was the call's own is old, and known. -/
theorem Own.adopt (h : Own w0 L w) : Own w L w :=
  ⟨rfl, rfl, rfl, Nat.le_refl _, fun _ _ _ => rfl, h.own, h.nd, h.two, Nat.le_trans h.base h.size⟩
theorem Own.comp {w' : World} {L' : List (Nat × Obj)} (h : Own w0 L w) (k : Own w L' w') (hm : L'.map (·.1) = L.map (·.1)) : Own w0 L' w' :=
  ⟨k.os.trans h.os, k.tape.trans h.tape, k.output.trans h.output, Nat.le_trans h.size k.size,
   fun j hj hn => (k.old j (Nat.lt_of_lt_of_le hj h.size) hn).trans (h.old j hj fun p hp e => by
    have : p.1 ∈ L'.map (·.1) := by rw [hm]; exact List.mem_map_of_mem hp
    obtain ⟨q, hq, e'⟩ := List.mem_map.1 this
    exact hn q hq (e'.trans e)),
   k.own, k.nd, k.two, h.base⟩
theorem Own.lt (h : Own w0 L w) : ∀ p ∈ L, p.1 < w.heap.size := fun p hp => lt_of_heap (h.own p hp)
theorem Own.keeps {w' : World} {L' : List (Nat × Obj)} {B : Nat} (k : Own w L' w') (hL : ∀ p ∈ L', p.1 < B) : KeepsFrom B w w' :=
  ⟨k.size, fun j o hB hj _ => (k.old j (lt_of_heap hj) fun p hp e => by have := hL p hp; omega).trans hj⟩
theorem names_lt {L L' : List (Nat × Obj)} {B : Nat} (hm : L'.map (·.1) = L.map (·.1)) (hL : ∀ p ∈ L, p.1 < B) : ∀ p ∈ L', p.1 < B := fun p hp => by
  have : p.1 ∈ L.map (·.1) := by rw [← hm]; exact List.mem_map_of_mem hp
  obtain ⟨q, hq, e⟩ := List.mem_map.1 this
  rw [← e]; exact hL q hq
theorem Own.ltN (h : Own w0 L w) : ∀ b ∈ L.map (·.1), b < w.heap.size := fun b hb => by
  obtain ⟨q, hq, e⟩ := List.mem_map.1 hb
  rw [← e]; exact h.lt q hq
theorem namesLt {L' : List (Nat × Obj)} {ns : List Nat} {B : Nat} (hm : L'.map (·.1) = ns) (hL : ∀ b ∈ ns, b < B) : ∀ p ∈ L', p.1 < B := fun p hp =>
  hL p.1 (by rw [← hm]; exact List.mem_map_of_mem hp)
theorem namesNe {L' : List (Nat × Obj)} {ns : List Nat} {B u : Nat} (hm : L'.map (·.1) = ns) (hL : ∀ b ∈ ns, b < B) (hu : B ≤ u) : ∀ p ∈ L', p.1 ≠ u := fun p hp e => by
  have := namesLt hm hL p hp; omega
theorem Own.ownFrom {β : Type} {Lf : β → List (Nat × Obj)} {X : β → Prop} {B : Nat} (hB : w0.heap.size ≤ B) (hL : ∀ s, X s → ∀ p ∈ Lf s, p.1 < B) : OwnFrom B (fun s W => X s ∧ Own w0 (Lf s) W) :=
  fun s _ _ _ hs hg hr => ⟨hs.1, hs.2.grown hB hg (fun r e => (hr r e).1) (hL s hs.1)⟩

def penv : List (Nat × Value) → Env → Env
  | [], e => e
  | (p, v) :: r, e => penv r ((p, v) :: e)
theorem fits_foldl : ∀ (l : List (Nat × Value)) (e : Env) (t : Array Value) (D : List Deferred), t.size = N → (∀ p ∈ l, p.1 < N) → Fits e { tmps := t, defers := D } →
    Fits (penv l e) { tmps := l.foldl (fun t (p, v) => t.setIfInBounds p v) t, defers := D } ∧ (l.foldl (fun t (p, v) => t.setIfInBounds p v) t).size = N
  | [], _, _, _, ht, _, h => ⟨h, ht⟩
  | (p, v) :: r, e, t, D, ht, hl, h => by
    have hp := hl (p, v) (by simp)
    exact fits_foldl r ((p, v) :: e) (t.setIfInBounds p v) D (by simpa using ht) (fun q hq => hl q (List.mem_cons_of_mem _ hq)) (fun k u hk => by
      by_cases e' : p = k
      · subst e'; rw [look_same] at hk; cases hk; simp [ht, hp]
      · rw [look_other _ _ e'] at hk
        show (t.setIfInBounds p v)[k]? = some u
        rw [Array.getElem?_setIfInBounds_ne e']; exact h k u hk)
def coll (d : Nat) : Deferred := { target := .collected d, args := #[] }
def markO : Obj := .deferred (some [])
/-- What a round's assignment leaves. -/
def AssK {β : Type} (E : β → Env) (M : β → World → Prop) (w0 : World) (B : Nat) (Kp : World → World → Prop) (L1 : List (Nat × Obj)) (N : Nat) (W : World) : Act → World → Prop :=
  fun a W' => ∃ u, Fits (E u) a ∧ a.tmps.size = N ∧ a.defers = [] ∧ M u W' ∧ KeepsFrom B W W' ∧ Kp W W' ∧ Own w0 L1 W'
theorem SQ.assigned {β : Type} {E : β → Env} {M : β → World → Prop} {B : Nat} {Kp : World → World → Prop} {L1 : List (Nat × Obj)} {W : World} {Q' : Exit → Act → World → Prop} (u : β) (hc : Cov e (E u)) (hM : M u w) (h1 : KeepsFrom B W w) (h2 : Kp W w) (h3 : Own w0 L1 w) :
    SQ (Exit.then (AssK E M w0 B Kp L1 N W) Q') .normal N [] e w := fun _ g1 g2 g3 => ⟨u, g3.cov hc, g1, g2, hM, h1, h2, h3⟩
/-- How a round may be left. -/
def RoundK {α : Type} (w0 : World) (B : Nat) (Kp : World → World → Prop) (Lf : List α → List (Nat × Obj)) (X : Code → List α → Prop) (Lx : Code → List α → List (Nat × Obj)) (xs : List α) (W : World) : Exit → Act → World → Prop :=
  ownPostG B Kp (fun pre W' => True ∧ Own w0 (Lf pre) W') (fun c pre W' => X c pre ∧ Own w0 (Lx c pre) W') xs W
theorem SQ.goes {α : Type} {B : Nat} {Kp : World → World → Prop} {Lf : List α → List (Nat × Obj)} {X : Code → List α → Prop} {Lx : Code → List α → List (Nat × Obj)} {xs : List α} {W : World}
    (h1 : KeepsFrom B W w) (h2 : Kp W w) (h3 : Own w0 (Lf xs) w) : SQ (RoundK w0 B Kp Lf X Lx xs W) .normal N D e w := fun _ _ _ _ => ⟨h1, h2, trivial, h3⟩
theorem SQ.breaks {α : Type} {B : Nat} {Kp : World → World → Prop} {Lf : List α → List (Nat × Obj)} {X : Code → List α → Prop} {Lx : Code → List α → List (Nat × Obj)} {xs : List α} {W : World} {id : Nat}
    (h1 : KeepsFrom B W w) (h2 : X (.exit id) xs) (h3 : Own w0 (Lx (.exit id) xs) w) : SQ (RoundK w0 B Kp Lf X Lx xs W) (.exit id) N D e w := fun _ _ _ _ => ⟨h1, h2, h3⟩
theorem SQ.returns {α : Type} {B : Nat} {Kp : World → World → Prop} {Lf : List α → List (Nat × Obj)} {X : Code → List α → Prop} {Lx : Code → List α → List (Nat × Obj)} {xs : List α} {W : World}
    (h1 : KeepsFrom B W w) (h2 : X .ret xs) (h3 : Own w0 (Lx .ret xs) w) : SQ (RoundK w0 B Kp Lf X Lx xs W) .ret N D e w := fun _ _ _ _ => ⟨h1, h2, h3⟩
theorem SC.range {α β : Type} {g : Operand} {ps : List Nat} {assign body : Code} (hO : Own w0 L w) {gf : Nat} {lb : Array Value} (hg : ev e g = some (.func (.func gf) #[] lb))
    (eg : ∀ args w, (callFunc gf args).run P w = .ok (.enter gf args) w) {encs : α → List Value} {Kp : World → World → Prop} {S Sp : List α → Prop} {NN : Nat} (hn : 1 ≤ n)
    (hseq : SeqStopsK (Fc none) (n - 1) P gf lb (fun x => (encs x).toArray) Kp S Sp NN w) (hKt : ∀ {A B C : World}, Kp A B → Kp B C → Kp A C)
    (hKb : ∀ (W : World) (l : Nat) (o o' : Obj), w.heap.size ≤ l → W.heap[l]? = some o → o.isCells = false → o.isWalk = false → Kp W (W.putObj l o'))
    (hps : ∀ x, (encs x).length = ps.length) (hpN : ∀ p ∈ ps, p < N)
    (Lf : List α → List (Nat × Obj)) (X : Code → List α → Prop) (Lx : Code → List α → List (Nat × Obj)) (hL0 : Lf [] = L)
    (hLf : ∀ pre, (Lf pre).map (·.1) = L.map (·.1)) (hLx : ∀ c pre, X c pre → (Lx c pre).map (·.1) = L.map (·.1))
    (E : α → β → Env) (M : α → β → World → Prop) (hM : ∀ x u, OwnFrom w.heap.size (fun (_ : Unit) W => M x u W))
    (hassign : ∀ (l : Nat) (pre : List α) (x : α) (W : World), Own w0 (Lf pre) W → w.heap.size ≤ W.heap.size →
      SC P (some l) (n - 1 - 1) assign (Exit.then (AssK (E x) (M x) w0 w.heap.size Kp (Lf pre) N W) (fun _ _ _ => False)) N [] (penv (ps.zip (encs x)) e) W)
    (hbody : ∀ (l : Nat) (pre : List α) (x : α) (u : β) (W : World), Own w0 (Lf pre) W → w.heap.size ≤ W.heap.size → M x u W → pre.length < NN →
      SC P (some l) (n - 1 - 1) body (RoundK w0 w.heap.size Kp Lf X Lx (pre ++ [x]) W) N [] (E x u) W)
    (hdone : ∀ (d : Nat) (xs : List α) (W : World), w0.heap.size ≤ d → S xs → Own w0 ((d, markO) :: Lf xs) W → SQ Q .normal N (coll d :: D) e W)
    (hstop : ∀ (d : Nat) (c : Code) (pre : List α) (W : World), w0.heap.size ≤ d → Sp pre → X c pre → Own w0 ((d, markO) :: Lx c pre) W → SC P none n c Q N (coll d :: D) e W) :
    SC P none n (.rangeFunc g ps.toArray assign body) Q N D e w := by
  intro a h1 h2 h3
  have hB := hO.size
  have hlt := hO.lt
  refine wpIn_rangeFunc_ownH (F := Fc none) rfl hn (ev_eval h3 hg) trivial eg hseq hKt hKb (Below.refl _ _) (fun x => by simp [hps])
    (fun pre W => True ∧ (Own w0 (Lf pre) W ∧ w.heap.size ≤ W.heap.size)) (fun c pre W => X c pre ∧ Own w0 (Lx c pre) W) ?_ ?_ ⟨trivial, hL0 ▸ hO, Nat.le_refl _⟩
    (fun x a' W => ∃ u, Fits (E x u) a' ∧ a'.tmps.size = N ∧ a'.defers = [] ∧ M x u W) ?_ ?_ ?_ ?_ ?_
  · exact fun s A B row hs hg hr => ⟨trivial, hs.2.1.grown hB hg (fun r e => (hr r e).1) (names_lt (hLf s) hlt), Nat.le_trans hs.2.2 hg.size⟩
  · exact fun c s A B row hs hg hr => ⟨hs.1, hs.2.grown hB hg (fun r e => (hr r e).1) (names_lt (hLx c s hs.1) hlt)⟩
  · rintro x a' _ A B row ⟨u, g1, g2, g3, g4⟩ hg hr
    exact ⟨u, g1, g2, g3, hM x u () A B row g4 hg hr⟩
  · rintro l pre x W K ⟨_, hI, hIw⟩ hK
    have hz := fits_foldl (N := N) (ps.zip (encs x)) e a.tmps [] h1 (fun p hp => hpN _ (List.of_mem_zip hp).1) h3
    refine wpIn_mono (hassign l pre x W hI hIw _ (by simpa using hz.2) rfl (by simpa using hz.1)) fun ex a' W' hq => ?_
    cases ex with
    | normal =>
      obtain ⟨u, g1, g2, g3, g4, g5, g6, g7⟩ := hq
      exact hK a' W' g5 g6 ⟨trivial, g7, Nat.le_trans hIw g5.size⟩ ⟨u, g1, g2, g3, g4⟩
    | _ => exact hq
  · rintro l pre x a' W _ _ ⟨_, hI, hIw⟩ ⟨u, g1, g2, g3, g4⟩ hlen
    refine wpIn_mono (hbody l pre x u W hI hIw g4 hlen a' g2 g3 g1) fun ex a2 W' hq => ?_
    cases ex with
    | normal => exact ⟨hq.1, hq.2.1, trivial, hq.2.2.2, Nat.le_trans hIw hq.1.size⟩
    | _ => exact hq
  · rintro d xs W hd hS ⟨_, hI, _⟩ hK
    exact hdone d xs W (Nat.le_trans hB hd) hS (hI.learn hK (fun p hp => by have := names_lt (hLf xs) hlt p hp; omega) (Nat.le_trans hB hd)) _ h1 (by simp [h2, coll]) (fun t v ht => h3 t v ht)
  · rintro d c pre W hd hS ⟨hX, hI⟩ hK
    exact hstop d c pre W (Nat.le_trans hB hd) hS hX (hI.learn hK (fun p hp => by have := names_lt (hLx c pre hX) hlt p hp; omega) (Nat.le_trans hB hd)) _ h1 (by simp [h2, coll]) (fun t v ht => h3 t v ht)
end Ow
end Go.Proofs.YtclgplkkajfenaaGreatDoor
/- The calculus: into and out of functions that hold ranges over functions; iterators. -/
namespace Go.Proofs.YtclgplkkajfenaaGreatDoor
namespace Ow
open Go Go.RowKit
variable {P : Program} {ro : Option Nat} {n : Nat} {ops : Array Oper} {Q : Exit → Act → World → Prop} {N : Nat} {D : List Deferred} {e : Env} {w w0 : World} {o : Oper} {L : List (Nat × Obj)}
theorem argFits {args : List Value} {N k : Nat} (hl : Nat.ble args.length N = true) (hk : k = N - args.toArray.size) : Fits (argEnv args 0) { tmps := args.toArray ++ Array.replicate k undef, defers := [] } ∧ (args.toArray ++ Array.replicate k undef).size = N := by
  have hl' : args.length ≤ N := Nat.le_of_ble_eq_true hl
  subst hk
  refine ⟨fun t v ht => ?_, by simp; omega⟩
  obtain ⟨_, h2⟩ := argEnv_look _ _ _ _ ht
  have hlt : t < args.length := by
    rcases Nat.lt_or_ge t args.length with h' | h'
    · exact h'
    · rw [Nat.sub_zero, List.getElem?_eq_none h'] at h2; cases h2
  show (args.toArray ++ Array.replicate _ undef)[t]? = some v
  rw [Array.getElem?_append_left (by simpa using hlt)]
  simpa using h2
theorem enterIn {f : FuncId} {fn : Func} {c : Code} {args : List Value} {N : Nat} {R : Ending → World → Prop} (hf : P.funcs[f]? = some fn) (hb : fn.body = some c) (hN : fn.ntmps = N)
    (hl : Nat.ble args.length N = true) (h : SC P none n c (bodyPost P fn R) N [] (argEnv args 0) w) : CallsIn (Fc none) n P f args.toArray w R := by
  obtain ⟨h1, h2⟩ := argFits (k := fn.ntmps - args.toArray.size) hl (by rw [hN])
  exact callsIn_of_wp hf hb trivial (h _ h2 rfl h1) rfl
theorem enterM {f : FuncId} {fn : Func} {c : Code} {args : List Value} {N : Nat} {R : Ending → World → Prop} (hf : P.funcs[f]? = some fn) (hb : fn.body = some c) (hN : fn.ntmps = N)
    (hl : Nat.ble args.length N = true) (n : Nat) (h : SC P none n c (bodyPostM (Fc none) n P fn R) N [] (argEnv args 0) w) : Calls P f args.toArray w R := by
  refine (callsIn_wide (n := n)).1 ?_
  obtain ⟨h1, h2⟩ := argFits (k := fn.ntmps - args.toArray.size) hl (by rw [hN])
  exact callsIn_of_wp_marks (F := Fc none) hf hb trivial (h _ h2 rfl h1) rfl
def marks (ds : List Nat) : List (Nat × Obj) := ds.map fun d => (d, markO)
theorem leavesM {fn : Func} {tmps : Array Value} {R : Ending → World → Prop} : ∀ (ds : List Nat) (w : World), Own w0 (marks ds ++ L) w → (∀ d ∈ ds, w0.heap.size ≤ d) →
    (∀ w', Own w0 L w' → ∃ v, (results fn tmps).run P w' = .ok v w' ∧ R (.returned v) w') → LeavesInM (Fc none) n P fn tmps R (ds.map coll) .returning w
  | [], w, hO, _, h => by
    obtain ⟨v, h1, h2⟩ := h w hO
    exact ⟨v, h1, h2⟩
  | d :: ds, w, hO, hd, h => by
    have hm : w.heap[d]? = some markO := hO.at (i := 0) rfl
    refine ⟨by simp, .inl ⟨d, _, rfl, run_takeDeferred hm, leavesM ds _ ?_ (fun x hx => hd x (List.mem_cons_of_mem _ hx)) h⟩⟩
    have hO' : Own w0 (marks ds ++ L) w := Own.tail hO (hd d (by simp))
    have hnd := hO.nd
    simp only [marks, List.map_cons, List.cons_append, List.nodup_cons] at hnd
    have hg := grownBy_putObj' w d (.deferred none)
    have hne : ∀ p ∈ marks ds ++ L, p.1 ≠ d := fun p hp e => hnd.1 (by rw [← e]; exact List.mem_map_of_mem (f := Prod.fst) hp)
    exact ⟨hg.os.trans hO'.os, hg.tape.trans hO'.tape, hg.output.trans hO'.output, Nat.le_trans hO'.size hg.size,
      fun k hk hn => (hg.block k (Nat.lt_of_lt_of_le hk hO'.size) (fun e => by cases e; have := hd d (by simp); omega)).trans (hO'.old k hk hn),
      fun p hp => (hg.block p.1 (lt_of_heap (hO'.own p hp)) (fun e => hne p hp (by cases e; rfl))).trans (hO'.own p hp), hO'.nd, hO'.two, hO'.base⟩
theorem SQ.outM {fn : Func} {R : Ending → World → Prop} {x : Exit} (ds : List Nat) (hO : Own w0 (marks ds ++ L) w) (hd : ∀ d ∈ ds, w0.heap.size ≤ d) (hx : x = .ret ∨ x = .normal) 
    (h : ∀ w', Own w0 L w' → ∃ v, (∀ a : Act, Fits e a → (results fn a.tmps).run P w' = .ok v w') ∧ R (.returned v) w') : SQ (bodyPostM (Fc none) n P fn R) x N (ds.map coll) e w := by
  intro a _ h2 h3
  have key : LeavesInM (Fc none) n P fn a.tmps R a.defers .returning w := by
    rw [h2]
    exact leavesM ds w hO hd fun w' hO' => let ⟨v, h4, h5⟩ := h w' hO'; ⟨v, h4 a h3, h5⟩
  rcases hx with rfl | rfl <;> exact key
/-- A call of yield. -/
theorem SO.yield {l : List Oper} {d k : Nat} {x : Operand} {xs : List Operand} {vs : List Value} {ats : Array TypeId} {R : Ending → World → Prop} (hg : gok ops e o = some true) (ho : o.op = .call { callee := .value x, args := xs.toArray, argTypes := ats })
    (hx : ev e x = some (.func (.yield k) #[] #[])) (hl : evL e xs = some vs) (hd : o.dst = some d) (hN : Nat.blt d N = true) (hy : YieldAt (Fc none) (n - 1) P k vs.toArray w R)
    (h : ∀ y w', R y w' → ∃ v, y = .returned v ∧ SO P none n ops l Q N D ((d, v) :: e) w') : SO P none n ops (o :: l) Q N D e w := by
  intro a h1 h2 h3
  unfold wpListIn
  rw [if_pos (gok_wanted hg h3)]
  refine ⟨fun f _ => wideFn f, ?_⟩
  obtain ⟨fn, tmps, asg, bd, hrun, hround⟩ := hy
  have hr : (execOp a.eval o).run P w = .ok (.round k fn tmps asg bd) w := by
    unfold execOp; rw [ho]
    simp only [resolve, List.map_toArray, evL_map h3 hl, ev_eval h3 hx, Deferred.ofValue, invoke, Sem.run_bind, Sem.run_pure, Result.andThen]
    simpa using hrun
  show o.uponIn (Fc none) n P a _ Q ((o.semAt none a.eval).run P w)
  rw [semAt_plain (by rw [ho]; rfl), hr, Oper.uponIn_round, hd]
  have hN' : d < N := Nat.le_of_ble_eq_true hN
  refine ⟨fun h => by simp [Fc, Fence.wide] at h, hround.mono fun y w' hy => ?_⟩
  obtain ⟨v, rfl, hk⟩ := h y w' hy
  exact hk _ (by rw [size_put]; exact h1) (by rw [defers_put]; exact h2) (h3.put (by omega))
/-- A block that a call has laid. -/
theorem Own.learnB {w' : World} (h : Own w0 L w) (hb : Below w.heap.size w w') {b : Nat} {o : Obj} (hn : w.heap.size ≤ b) (hx : w'.heap[b]? = some o) : Own w0 ((b, o) :: L) w' :=
  (h.below hb).learn hx (fun p hp e => by have := h.lt p hp; omega) (Nat.le_trans h.size hn)
/-- An old block that is known. -/
theorem Own.know (h : Own w0 L w) {b : Nat} {o : Obj} (hx : w.heap[b]? = some o) (hn : ∀ p ∈ L, p.1 ≠ b) (h2 : 2 ≤ b) : Own w0 ((b, o) :: L) w :=
  ⟨h.os, h.tape, h.output, h.size, fun k hk hp => h.old k hk fun p hm => hp p (List.mem_cons_of_mem _ hm),
   fun p hp => by rcases List.mem_cons.1 hp with rfl | hp; exact hx; exact h.own p hp,
   by
    simp only [List.map_cons, List.nodup_cons]
    refine ⟨fun hm => ?_, h.nd⟩
    obtain ⟨p, hp, e⟩ := List.mem_map.1 hm
    exact hn p hp e,
   fun p hp => by rcases List.mem_cons.1 hp with rfl | hp; exact h2; exact h.two p hp, h.base⟩
theorem Own.forget {b : Nat} {o : Obj} (h : Own w0 ((b, o) :: L) w) (hx : w0.heap[b]? = some o) : Own w0 L w :=
  ⟨h.os, h.tape, h.output, h.size, fun k hk hn => by
    by_cases e : b = k
    · subst e; rw [hx]; exact h.own (b, o) (by simp)
    · exact h.old k hk fun p hp => by rcases List.mem_cons.1 hp with rfl | hp; exact e; exact hn p hp,
   fun p hp => h.own p (List.mem_cons_of_mem _ hp), (List.nodup_cons.1 h.nd).2, fun p hp => h.two p (List.mem_cons_of_mem _ hp), h.base⟩
theorem Own.swap {p q : Nat × Obj} (h : Own w0 (p :: q :: L) w) : Own w0 (q :: p :: L) w :=
  ⟨h.os, h.tape, h.output, h.size, fun k hk hn => h.old k hk fun x hx => hn x (by simp only [List.mem_cons] at hx ⊢; rcases hx with h1 | h1 | h1; exact .inr (.inl h1); exact .inl h1; exact .inr (.inr h1)),
   fun x hx => h.own x (by simp only [List.mem_cons] at hx ⊢; rcases hx with h1 | h1 | h1; exact .inr (.inl h1); exact .inl h1; exact .inr (.inr h1)), by have := h.nd; simp only [List.map_cons, List.nodup_cons, List.mem_cons] at this ⊢; exact ⟨fun h' => by rcases h' with e | e; exact this.1 (.inl e.symm); exact this.2.1 e, fun e => this.1 (.inr e), this.2.2⟩,
   fun x hx => h.two x (by simp only [List.mem_cons] at hx ⊢; rcases hx with h1 | h1 | h1; exact .inr (.inl h1); exact .inl h1; exact .inr (.inr h1)), h.base⟩
end Ow
end Go.Proofs.YtclgplkkajfenaaGreatDoor
/- cluster.Walk. -/
   namespace Go.Proofs.YtclgplkkajfenaaGreatDoor
open Go Go.RowKit Ow
theorem nlhead_any (t : ByteArray) (w : World) :
    Calls Tryz.prog 163 #[.string t, .string ⟨#[10]⟩] w fun e w' => e = .returned (.bool (decide (by' (bl t) 0 = 10))) ∧ Below w.heap.size w w' := by
  refine (Tryz.strings_HasPrefix t ⟨#[10]⟩ w).mono ?_
  rintro e w' ⟨rfl, rfl⟩
  refine ⟨?_, Below.refl _ _⟩
  congr 2
  show List.isPrefixOf [10] (bl t) = _
  cases h : bl t with
  | nil => simp [by']
  | cons x r =>
    simp only [by', List.getD_cons_zero, List.isPrefixOf, Bool.and_true]
    by_cases e : x = 10
    · subst e; rfl
    · have e2 : x.toNat ≠ 10 := fun h => e (UInt8.toNat_inj.1 h)
      rw [decide_eq_false e2]
      simpa using fun h => e h.symm
theorem at_here (s : ByteArray) (k : Nat) (w : World) (hG : Good w) (hz : s.size ≤ 4611686018427387904) (hk : k < s.size) (hb : UB (bl s) k) :
    Calls Tryz.prog 131 #[.string s, .int .i64 k] w fun e w' => e = .returned (.tuple #[.agg #[.int .i32 (uch ((bl s).drop k)), .int .i64 (usz ((bl s).drop k) : Nat)], .bool true]) ∧ Below w.heap.size w w' := by
  refine (at_any s k w hG hz).mono ?_
  rintro e w' ⟨rfl, h⟩
  refine ⟨?_, h⟩
  have hA : uAt (bl s) (k : Int) := ⟨⟨by omega, by rw [bl_length]; omega, by simpa using uDown_self hb⟩, by rw [bl_length]; omega⟩
  unfold atCh atSz
  rw [if_pos hA, if_pos hA, decide_eq_true hA]; rfl
/-- A cluster's value. -/
def clV (l : Bs) (c : Nat × Nat) : Value := .agg #[.int .i64 (c.1 : Int), .int .i64 (c.2 : Int), .int .i64 (clCls l c.1), .int .i64 (clCells l c.1)]

theorem bd138_0_1_2_3_Walk (x0 : Int) (x1 : Int) (x2 : Int) (x3 : Int) : ∀ w, (Instr.build 138 [(0, .int .i64 x0), (1, .int .i64 x1), (2, .int .i64 x2), (3, .int .i64 x3)].toArray).run Tryz.prog w = .ok (.agg [.int .i64 x0, .int .i64 x1, .int .i64 x2, .int .i64 x3].toArray) w := fun _ => by kernel_rfl
set_option maxRecDepth 20000 in
set_option maxHeartbeats 400000 in
theorem made_any (s : ByteArray) (k to : Nat) (w : World) (hG : Good w) (hz : s.size ≤ 4611686018427387904) (hk : k < s.size) (hb : UB (bl s) k) :
    Calls Tryz.prog 137 #[.string s, .int .i64 k, .int .i64 to] w fun e w' => e = .returned (clV (bl s) (k, to)) ∧ Below w.heap.size w w' := by
  have hsh : by' (bl (s.extract ((k : Int) + 1).toNat s.size)) 0 = by' (bl s) (k + 1) := by
    rw [bl_tail, by_drop, show ((k : Int) + 1).toNat + 0 = k + 1 by omega]
  have hO0 := Own.start hG
  refine enter Tryz.func137 rfl rfl rfl 0 ?_
  refine SC.sr ?_
  refine SO.alloc hO0 rfl rfl rfl rfl zv138 [_, _, _, _] rfl ?_
  intro b1 w1 hb1 hO1
  refine SO.nn ?_
  refine SC.sr ?_
  refine SO.mv ?_
  refine SO.mv ?_
  refine SO.call rfl rfl rfl rfl (.callF rfl rfl en131) (at_here _ _ _ (hO1.good hG) hz hk hb) ?_
  rintro _ w2 ⟨rfl, hb2⟩
  have hO2 := hO1.below hb2
  refine ⟨_, rfl, ?_⟩
  refine SO.mv ?_
  refine SO.v (.extract rfl rfl rfl) ?_
  refine SO.v (.extract rfl rfl rfl) ?_
  refine SO.alloc hO2 rfl rfl rfl rfl zv177 [_, _] rfl ?_
  intro b3 w3 hb3 hO3
  refine SO.store hO3 (i := 0) rfl rfl rfl rfl rfl rfl sz177 rfl rfl [(_, .cells [_, _].toArray _ _), _] rfl ?_
  intro w4 hO4
  refine SO.as ?_
  refine SO.nn ?_
  refine SC.seq ?_
  refine SC.drawO mixed hO4 (fun hO5 => ?_)
  refine SA.tm 0 rfl hO5 ?_
  refine SA.tm 1 rfl hO5 ?_
  refine SA.tk 2 rfl hO5 (fun v hv => .fieldAddr rfl rfl fa177_0) ?_
  refine SA.tk 3 rfl hO5 (fun v hv => .load rfl rfl ag21 (cell_of' (hv.at (i := 0) rfl) rfl)) ?_
  refine SA.tk 5 rfl hO5 (fun v hv => .fieldAddr rfl rfl fa177_0) ?_
  refine SA.tk 6 rfl hO5 (fun v hv => .load rfl rfl ag21 (cell_of' (hv.at (i := 0) rfl) rfl)) ?_
  refine SA.two 4 9 (by kernel_rfl) ?_ ?_
  ·
   refine SB.call rfl rfl rfl rfl (.callF rfl rfl en161) (class_any _ _ (hO5.good hG)) ?_
   rintro _ w6 ⟨rfl, hb6⟩
   have hO6 := hO5.below hb6
   refine ⟨_, rfl, hO6, ?_⟩
   refine SA.two 7 9 (by kernel_rfl) ?_ ?_
   ·
    refine SB.call rfl rfl rfl rfl (.callF rfl rfl en162) (ccells_any _ _ (hO6.good hG)) ?_
    rintro _ w7 ⟨rfl, hb7⟩
    have hO7 := hO6.below hb7
    refine ⟨_, rfl, hO7, ?_⟩
    refine SA.tk 8 rfl hO7 (fun v hv => .build rfl rfl (bd138_0_1_2_3_Walk _ _ _ _)) ?_
    refine SA.one 9 (by kernel_rfl) ?_
    refine SB.alloc hO7 rfl rfl rfl rfl rfl zv138 [_, _, _, _] rfl ?_
    intro b8 w8 hb8 hO8
    refine ⟨(hO8.tail hb8), ?_⟩
    refine SA.one 10 (by kernel_rfl) ?_
    refine SB.store hO8 (j := 0) rfl rfl rfl rfl rfl rfl rfl sz138 rfl rfl [(_, .cells [_, _, _, _].toArray _ _), _, _] rfl ?_
    intro w9 hO9
    refine ⟨(hO9.tail hb8), ?_⟩
    refine SA.done (by kernel_rfl) ?_
    refine SQ.then_normal ?_
    refine SC.seq ?_
    refine SC.sr ?_
    refine SO.v (.fieldAddr rfl rfl fa177_0) ?_
    refine SO.v (.load rfl rfl ag21 (cell_of' (hO9.at (i := 1) rfl) rfl)) ?_
    refine SO.v (.eql rfl rfl rfl) ?_
    refine SO.mv ?_
    refine SO.dec 28 rfl (fun g10 => ?_) (fun g10 => ?_)
    ·
     refine SO.mv ?_
     refine SO.mv ?_
     refine SO.v (.add rfl rfl rfl (by omega)) ?_
     refine SO.v (.sliceL rfl rfl rfl Tryz.underlying9 (by omega)) ?_
     refine SO.call rfl rfl rfl rfl (.callF rfl rfl en163) (nlhead_any _ _) ?_
     rintro _ w11 ⟨rfl, hb11⟩
     have hO11 := hO9.below hb11
     refine ⟨_, rfl, ?_⟩
     refine SO.v (.pickT rfl rfl rfl) ?_
     refine SO.nn ?_
     refine SC.dec rfl (fun c12 => ?_) (fun c12 => ?_)
     ·
      refine SC.region ?_
      refine SO.v (.fieldAddr rfl rfl fa138_2) ?_
      refine SO.store hO11 (i := 0) rfl rfl rfl rfl rfl rfl sz136 rfl rfl [(_, .cells [_, _, _, _].toArray _ _), _, _] rfl ?_
      intro w13 hO13
      refine SO.v (.fieldAddr rfl rfl fa138_3) ?_
      refine SO.store hO13 (i := 0) rfl rfl rfl rfl rfl rfl sz3 rfl rfl [(_, .cells [_, _, _, _].toArray _ _), _, _] rfl ?_
      intro w14 hO14
      refine SO.nn ?_
      refine SC.sr ?_
      refine SO.v (.loadB [_, _, _, _] rfl rfl ag138 sz138 (hO14.at (i := 0) rfl) rfl rfl) ?_
      refine SO.store hO14 (i := 2) rfl rfl rfl rfl rfl rfl sz138 rfl rfl [_, _, (_, .cells [_, _, _, _].toArray _ _)] rfl ?_
      intro w15 hO15
      refine SO.nn ?_
      refine SC.ret ?_
      refine SQ.out (.inl rfl) (resC [_, _, _, _] rfl rfl ag138 sz138 (hO15.at (i := 2) rfl) rfl rfl) ?_
      refine ⟨?_, hO15.toBelow ⟨hb8, hb3, hb1, trivial⟩⟩
      unfold clV clCls clCells
      (have hc : crlf (bl s) k := ⟨by omega, by rw [← hsh]; assumption⟩; rw [if_pos hc, if_pos hc])
     ·
      refine SC.skip ?_
      refine SQ.then_normal ?_
      refine SC.sr ?_
      refine SO.v (.loadB [_, _, _, _] rfl rfl ag138 sz138 (hO11.at (i := 0) rfl) rfl rfl) ?_
      refine SO.store hO11 (i := 2) rfl rfl rfl rfl rfl rfl sz138 rfl rfl [_, _, (_, .cells [_, _, _, _].toArray _ _)] rfl ?_
      intro w17 hO17
      refine SO.nn ?_
      refine SC.ret ?_
      refine SQ.out (.inl rfl) (resC [_, _, _, _] rfl rfl ag138 sz138 (hO17.at (i := 2) rfl) rfl rfl) ?_
      refine ⟨?_, hO17.toBelow ⟨hb8, hb3, hb1, trivial⟩⟩
      unfold clV clCls clCells
      (have hc : ¬ crlf (bl s) k := fun h => absurd h.2 (by rw [← hsh]; assumption); rw [if_neg hc, if_neg hc])
    ·
     refine SO.ps ?_
     refine SO.ps ?_
     refine SO.ps ?_
     refine SO.ps ?_
     refine SO.ps ?_
     refine SO.v (.pickF rfl rfl rfl) ?_
     refine SO.nn ?_
     refine SC.no rfl ?_
     refine SC.skip ?_
     refine SQ.then_normal ?_
     refine SC.sr ?_
     refine SO.v (.loadB [_, _, _, _] rfl rfl ag138 sz138 (hO9.at (i := 0) rfl) rfl rfl) ?_
     refine SO.store hO9 (i := 2) rfl rfl rfl rfl rfl rfl sz138 rfl rfl [_, _, (_, .cells [_, _, _, _].toArray _ _)] rfl ?_
     intro w19 hO19
     refine SO.nn ?_
     refine SC.ret ?_
     refine SQ.out (.inl rfl) (resC [_, _, _, _] rfl rfl ag138 sz138 (hO19.at (i := 2) rfl) rfl rfl) ?_
     refine ⟨?_, hO19.toBelow ⟨hb8, hb3, hb1, trivial⟩⟩
     unfold clV clCls clCells
     (have hc : ¬ crlf (bl s) k := fun h => absurd h.1 (by omega); rw [if_neg hc, if_neg hc])
   ·
    refine SB.alloc hO6 rfl rfl rfl rfl rfl zv138 [_, _, _, _] rfl ?_
    intro b21 w21 hb21 hO21
    refine ⟨(hO21.tail hb21), ?_⟩
    refine SA.one 7 (by kernel_rfl) ?_
    refine SB.call rfl rfl rfl rfl (.callF rfl rfl en162) (ccells_any _ _ (hO21.good hG)) ?_
    rintro _ w22 ⟨rfl, hb22⟩
    have hO22 := hO21.below hb22
    refine ⟨_, rfl, (hO22.tail hb21), ?_⟩
    refine SA.tk 8 rfl (hO22.tail hb21) (fun v hv => .build rfl rfl (bd138_0_1_2_3_Walk _ _ _ _)) ?_
    refine SA.one 10 (by kernel_rfl) ?_
    refine SB.store hO22 (j := 0) rfl rfl rfl rfl rfl rfl rfl sz138 rfl rfl [(_, .cells [_, _, _, _].toArray _ _), _, _] rfl ?_
    intro w23 hO23
    refine ⟨(hO23.tail hb21), ?_⟩
    refine SA.done (by kernel_rfl) ?_
    refine SQ.then_normal ?_
    refine SC.seq ?_
    refine SC.sr ?_
    refine SO.v (.fieldAddr rfl rfl fa177_0) ?_
    refine SO.v (.load rfl rfl ag21 (cell_of' (hO23.at (i := 1) rfl) rfl)) ?_
    refine SO.v (.eql rfl rfl rfl) ?_
    refine SO.mv ?_
    refine SO.dec 28 rfl (fun g24 => ?_) (fun g24 => ?_)
    ·
     refine SO.mv ?_
     refine SO.mv ?_
     refine SO.v (.add rfl rfl rfl (by omega)) ?_
     refine SO.v (.sliceL rfl rfl rfl Tryz.underlying9 (by omega)) ?_
     refine SO.call rfl rfl rfl rfl (.callF rfl rfl en163) (nlhead_any _ _) ?_
     rintro _ w25 ⟨rfl, hb25⟩
     have hO25 := hO23.below hb25
     refine ⟨_, rfl, ?_⟩
     refine SO.v (.pickT rfl rfl rfl) ?_
     refine SO.nn ?_
     refine SC.dec rfl (fun c26 => ?_) (fun c26 => ?_)
     ·
      refine SC.region ?_
      refine SO.v (.fieldAddr rfl rfl fa138_2) ?_
      refine SO.store hO25 (i := 0) rfl rfl rfl rfl rfl rfl sz136 rfl rfl [(_, .cells [_, _, _, _].toArray _ _), _, _] rfl ?_
      intro w27 hO27
      refine SO.v (.fieldAddr rfl rfl fa138_3) ?_
      refine SO.store hO27 (i := 0) rfl rfl rfl rfl rfl rfl sz3 rfl rfl [(_, .cells [_, _, _, _].toArray _ _), _, _] rfl ?_
      intro w28 hO28
      refine SO.nn ?_
      refine SC.sr ?_
      refine SO.v (.loadB [_, _, _, _] rfl rfl ag138 sz138 (hO28.at (i := 0) rfl) rfl rfl) ?_
      refine SO.store hO28 (i := 2) rfl rfl rfl rfl rfl rfl sz138 rfl rfl [_, _, (_, .cells [_, _, _, _].toArray _ _)] rfl ?_
      intro w29 hO29
      refine SO.nn ?_
      refine SC.ret ?_
      refine SQ.out (.inl rfl) (resC [_, _, _, _] rfl rfl ag138 sz138 (hO29.at (i := 2) rfl) rfl rfl) ?_
      refine ⟨?_, hO29.toBelow ⟨hb21, hb3, hb1, trivial⟩⟩
      unfold clV clCls clCells
      (have hc : crlf (bl s) k := ⟨by omega, by rw [← hsh]; assumption⟩; rw [if_pos hc, if_pos hc])
     ·
      refine SC.skip ?_
      refine SQ.then_normal ?_
      refine SC.sr ?_
      refine SO.v (.loadB [_, _, _, _] rfl rfl ag138 sz138 (hO25.at (i := 0) rfl) rfl rfl) ?_
      refine SO.store hO25 (i := 2) rfl rfl rfl rfl rfl rfl sz138 rfl rfl [_, _, (_, .cells [_, _, _, _].toArray _ _)] rfl ?_
      intro w31 hO31
      refine SO.nn ?_
      refine SC.ret ?_
      refine SQ.out (.inl rfl) (resC [_, _, _, _] rfl rfl ag138 sz138 (hO31.at (i := 2) rfl) rfl rfl) ?_
      refine ⟨?_, hO31.toBelow ⟨hb21, hb3, hb1, trivial⟩⟩
      unfold clV clCls clCells
      (have hc : ¬ crlf (bl s) k := fun h => absurd h.2 (by rw [← hsh]; assumption); rw [if_neg hc, if_neg hc])
    ·
     refine SO.ps ?_
     refine SO.ps ?_
     refine SO.ps ?_
     refine SO.ps ?_
     refine SO.ps ?_
     refine SO.v (.pickF rfl rfl rfl) ?_
     refine SO.nn ?_
     refine SC.no rfl ?_
     refine SC.skip ?_
     refine SQ.then_normal ?_
     refine SC.sr ?_
     refine SO.v (.loadB [_, _, _, _] rfl rfl ag138 sz138 (hO23.at (i := 0) rfl) rfl rfl) ?_
     refine SO.store hO23 (i := 2) rfl rfl rfl rfl rfl rfl sz138 rfl rfl [_, _, (_, .cells [_, _, _, _].toArray _ _)] rfl ?_
     intro w33 hO33
     refine SO.nn ?_
     refine SC.ret ?_
     refine SQ.out (.inl rfl) (resC [_, _, _, _] rfl rfl ag138 sz138 (hO33.at (i := 2) rfl) rfl rfl) ?_
     refine ⟨?_, hO33.toBelow ⟨hb21, hb3, hb1, trivial⟩⟩
     unfold clV clCls clCells
     (have hc : ¬ crlf (bl s) k := fun h => absurd h.1 (by omega); rw [if_neg hc, if_neg hc])
  ·
   refine SB.alloc hO5 rfl rfl rfl rfl rfl zv138 [_, _, _, _] rfl ?_
   intro b35 w35 hb35 hO35
   refine ⟨(hO35.tail hb35), ?_⟩
   refine SA.one 4 (by kernel_rfl) ?_
   refine SB.call rfl rfl rfl rfl (.callF rfl rfl en161) (class_any _ _ (hO35.good hG)) ?_
   rintro _ w36 ⟨rfl, hb36⟩
   have hO36 := hO35.below hb36
   refine ⟨_, rfl, (hO36.tail hb35), ?_⟩
   refine SA.one 7 (by kernel_rfl) ?_
   refine SB.call rfl rfl rfl rfl (.callF rfl rfl en162) (ccells_any _ _ (hO36.good hG)) ?_
   rintro _ w37 ⟨rfl, hb37⟩
   have hO37 := hO36.below hb37
   refine ⟨_, rfl, (hO37.tail hb35), ?_⟩
   refine SA.tk 8 rfl (hO37.tail hb35) (fun v hv => .build rfl rfl (bd138_0_1_2_3_Walk _ _ _ _)) ?_
   refine SA.one 10 (by kernel_rfl) ?_
   refine SB.store hO37 (j := 0) rfl rfl rfl rfl rfl rfl rfl sz138 rfl rfl [(_, .cells [_, _, _, _].toArray _ _), _, _] rfl ?_
   intro w38 hO38
   refine ⟨(hO38.tail hb35), ?_⟩
   refine SA.done (by kernel_rfl) ?_
   refine SQ.then_normal ?_
   refine SC.seq ?_
   refine SC.sr ?_
   refine SO.v (.fieldAddr rfl rfl fa177_0) ?_
   refine SO.v (.load rfl rfl ag21 (cell_of' (hO38.at (i := 1) rfl) rfl)) ?_
   refine SO.v (.eql rfl rfl rfl) ?_
   refine SO.mv ?_
   refine SO.dec 28 rfl (fun g39 => ?_) (fun g39 => ?_)
   ·
    refine SO.mv ?_
    refine SO.mv ?_
    refine SO.v (.add rfl rfl rfl (by omega)) ?_
    refine SO.v (.sliceL rfl rfl rfl Tryz.underlying9 (by omega)) ?_
    refine SO.call rfl rfl rfl rfl (.callF rfl rfl en163) (nlhead_any _ _) ?_
    rintro _ w40 ⟨rfl, hb40⟩
    have hO40 := hO38.below hb40
    refine ⟨_, rfl, ?_⟩
    refine SO.v (.pickT rfl rfl rfl) ?_
    refine SO.nn ?_
    refine SC.dec rfl (fun c41 => ?_) (fun c41 => ?_)
    ·
     refine SC.region ?_
     refine SO.v (.fieldAddr rfl rfl fa138_2) ?_
     refine SO.store hO40 (i := 0) rfl rfl rfl rfl rfl rfl sz136 rfl rfl [(_, .cells [_, _, _, _].toArray _ _), _, _] rfl ?_
     intro w42 hO42
     refine SO.v (.fieldAddr rfl rfl fa138_3) ?_
     refine SO.store hO42 (i := 0) rfl rfl rfl rfl rfl rfl sz3 rfl rfl [(_, .cells [_, _, _, _].toArray _ _), _, _] rfl ?_
     intro w43 hO43
     refine SO.nn ?_
     refine SC.sr ?_
     refine SO.v (.loadB [_, _, _, _] rfl rfl ag138 sz138 (hO43.at (i := 0) rfl) rfl rfl) ?_
     refine SO.store hO43 (i := 2) rfl rfl rfl rfl rfl rfl sz138 rfl rfl [_, _, (_, .cells [_, _, _, _].toArray _ _)] rfl ?_
     intro w44 hO44
     refine SO.nn ?_
     refine SC.ret ?_
     refine SQ.out (.inl rfl) (resC [_, _, _, _] rfl rfl ag138 sz138 (hO44.at (i := 2) rfl) rfl rfl) ?_
     refine ⟨?_, hO44.toBelow ⟨hb35, hb3, hb1, trivial⟩⟩
     unfold clV clCls clCells
     (have hc : crlf (bl s) k := ⟨by omega, by rw [← hsh]; assumption⟩; rw [if_pos hc, if_pos hc])
    ·
     refine SC.skip ?_
     refine SQ.then_normal ?_
     refine SC.sr ?_
     refine SO.v (.loadB [_, _, _, _] rfl rfl ag138 sz138 (hO40.at (i := 0) rfl) rfl rfl) ?_
     refine SO.store hO40 (i := 2) rfl rfl rfl rfl rfl rfl sz138 rfl rfl [_, _, (_, .cells [_, _, _, _].toArray _ _)] rfl ?_
     intro w46 hO46
     refine SO.nn ?_
     refine SC.ret ?_
     refine SQ.out (.inl rfl) (resC [_, _, _, _] rfl rfl ag138 sz138 (hO46.at (i := 2) rfl) rfl rfl) ?_
     refine ⟨?_, hO46.toBelow ⟨hb35, hb3, hb1, trivial⟩⟩
     unfold clV clCls clCells
     (have hc : ¬ crlf (bl s) k := fun h => absurd h.2 (by rw [← hsh]; assumption); rw [if_neg hc, if_neg hc])
   ·
    refine SO.ps ?_
    refine SO.ps ?_
    refine SO.ps ?_
    refine SO.ps ?_
    refine SO.ps ?_
    refine SO.v (.pickF rfl rfl rfl) ?_
    refine SO.nn ?_
    refine SC.no rfl ?_
    refine SC.skip ?_
    refine SQ.then_normal ?_
    refine SC.sr ?_
    refine SO.v (.loadB [_, _, _, _] rfl rfl ag138 sz138 (hO38.at (i := 0) rfl) rfl rfl) ?_
    refine SO.store hO38 (i := 2) rfl rfl rfl rfl rfl rfl sz138 rfl rfl [_, _, (_, .cells [_, _, _, _].toArray _ _)] rfl ?_
    intro w48 hO48
    refine SO.nn ?_
    refine SC.ret ?_
    refine SQ.out (.inl rfl) (resC [_, _, _, _] rfl rfl ag138 sz138 (hO48.at (i := 2) rfl) rfl rfl) ?_
    refine ⟨?_, hO48.toBelow ⟨hb35, hb3, hb1, trivial⟩⟩
    unfold clV clCls clCells
    (have hc : ¬ crlf (bl s) k := fun h => absurd h.1 (by omega); rw [if_neg hc, if_neg hc])

set_option maxRecDepth 20000 in
set_option maxHeartbeats 400000 in
def boxS (s : ByteArray) : Obj := .cells #[.string s] 9 (0, 0)
theorem walk_any (s : ByteArray) (w : World) (hG : Good w) :
    Calls Tryz.prog 76 #[.string s] w fun e w' => ∃ b : Nat, e = .returned (.func (.func 136) #[] #[.pointer (some ⟨b, 0, none⟩)]) ∧ w.heap.size ≤ b ∧ w'.heap[b]? = some (boxS s) ∧ Below w.heap.size w w' := by
  have hO0 := Own.start hG
  refine enter Tryz.func76 rfl rfl rfl 0 ?_
  refine SC.sr ?_
  refine SO.box hO0 rfl rfl rfl rfl rfl [_] rfl ?_
  intro b1 w1 hb1 hO1
  refine SO.as ?_
  refine SO.nn ?_
  refine SC.sr ?_
  refine SO.v (.makeFunc rfl rfl) ?_
  refine SO.as ?_
  refine SO.nn ?_
  refine SC.ret ?_
  refine SQ.out (.inl rfl) (res1 rfl rfl) ?_
  exact ⟨b1, rfl, hb1, hO1.at (i := 0) rfl, hO1.toBelow ⟨hb1, trivial⟩⟩

/-- What a round must keep for the walk's sake. -/
def KpW (bs : Nat) (o : Obj) (A B : World) : Prop := (A.heap[bs]? = some o → B.heap[bs]? = some o) ∧ (Good A → Good B)
theorem KpW.trans {bs : Nat} {o : Obj} {A B C : World} (h : KpW bs o A B) (k : KpW bs o B C) : KpW bs o A C := ⟨fun x => k.1 (h.1 x), fun x => k.2 (h.2 x)⟩
theorem abides_below {β : Type} {B : Nat} {J : β → World → Prop} (h : AbidesFrom B J) {s : β} {W W' : World} (hs : J s W) (hb : Below W.heap.size W W') : J s W' :=
  h s W W' none hs ⟨hb.os, hb.tape, hb.output, hb.size, fun k hk _ => hb.block k hk⟩ (fun _ e => by cases e)

theorem cnext_at (s : ByteArray) (k : Nat) (w : World) (hG : Good w) (hz : s.size ≤ 4611686018427387904) :
    Calls Tryz.prog 30 #[.string s, .int .i64 k] w fun e w' => e = .returned (.int .i64 (cNext (bl s) k)) ∧ Below w.heap.size w w' := by
  have := cnext_any s k w hG hz
  unfold cNextI at this
  rwa [if_neg (by omega), Int.toNat_natCast] at this

set_option maxRecDepth 20000 in
set_option maxHeartbeats 400000 in
theorem walk_stops (s : ByteArray) (bs n : Nat) (w : World) (hG0 : Good w) (hz : s.size ≤ 4611686018427387904) (hB0 : w.heap[bs]? = some (boxS s)) :
    SeqStopsK (Fc none) n Tryz.prog 136 #[.pointer (some ⟨bs, 0, none⟩)] (fun c => [clV (bl s) c].toArray) (KpW bs (boxS s)) (fun xs => xs = clusters (bl s)) (fun pre => ∃ r, pre ++ r = clusters (bl s)) (clusters (bl s)).length w := by
  intro l J Jx W hbW hJ hJx hY h0
  have hG : Good W := hG0.ext hbW
  have hB : W.heap[bs]? = some (boxS s) := (hbW.block bs (lt_of_heap hB0)).trans hB0
  have hO0 := Own.start hG
  refine enterIn (args := [.func (.yield l) #[] #[], .pointer (some ⟨bs, 0, none⟩)]) Tryz.func136 rfl rfl rfl ?_
  refine SC.sr ?_
  refine SO.as ?_
  refine SO.nn ?_
  refine SC.block ?_
  refine SC.loop (α := List (Nat × Nat) × Nat) (fun x => [(0, .func (.yield l) #[] #[]), (1, .pointer (some ⟨bs, 0, none⟩)), (3, .int .i64 (x.2 : Int))]) (fun x v => x.1 ++ clFrom (bl s) x.2 = clusters (bl s) ∧ x.2 ≤ (bl s).length ∧ UB (bl s) x.2 ∧ J x.1 v ∧ Good v ∧ v.heap[bs]? = some (boxS s)) (fun x => (bl s).length - x.2) ([], 0) ?_ ?_ ?_
  · exact ⟨rfl, rfl, rfl, trivial⟩
  · exact ⟨rfl, by omega, UB.zero _, h0, hG, hB⟩
  rintro ⟨pre, j⟩ w1 ⟨hpre, hjl, hjb, hJp, hGv, hBv⟩
  simp only at hpre hjl hjb hJp
  have hO1 := Own.start hGv
  refine SC.seq ?_
  refine SC.sr ?_
  refine SO.mv ?_
  refine SO.v (.load rfl rfl ag9 (cell_of' (hO1.heapO trivial hBv) rfl)) ?_
  refine SO.v (.lenS rfl rfl Tryz.underlying9) ?_
  refine SO.v (.lss rfl rfl rfl) ?_
  refine SO.nn ?_
  refine SC.dec rfl (fun c2 => ?_) (fun c2 => ?_)
  ·
   have hk : j < s.size := by omega
   have hkl : j < (bl s).length := hk
   obtain ⟨u1, u2, u3, u4⟩ := cNext_spec hkl
   rw [clFrom_cons hkl] at hpre
   refine SC.skip ?_
   refine SQ.then_normal ?_
   refine SC.block ?_
   refine SC.sr ?_
   refine SO.v (.load rfl rfl ag9 (cell_of' (hO1.heapO trivial hBv) rfl)) ?_
   refine SO.mv ?_
   refine SO.call rfl rfl rfl rfl (.callF rfl rfl en30) (cnext_at _ _ _ (hO1.good hGv) hz) ?_
   rintro _ w3 ⟨rfl, hb3⟩
   have hO3 := hO1.below hb3
   refine ⟨_, rfl, ?_⟩
   refine SO.as ?_
   refine SO.nn ?_
   refine SC.seq ?_
   refine SC.sr ?_
   refine SO.mv ?_
   refine SO.v (.load rfl rfl ag9 (cell_of' (hO3.heapO trivial hBv) rfl)) ?_
   refine SO.mv ?_
   refine SO.mv ?_
   refine SO.call rfl rfl rfl rfl (.callF rfl rfl en137) (made_any _ _ _ _ (hO3.good hGv) hz hk hjb) ?_
   rintro _ w4 ⟨rfl, hb4⟩
   have hO4 := hO3.below hb4
   refine ⟨_, rfl, ?_⟩
   have hJn := abides_below hJ hJp (hO4.toBelow trivial)
   have hGn := hO4.good hGv
   have hBn := hO4.heapO trivial hBv
   refine SO.yield rfl rfl rfl rfl rfl rfl (hY pre (j, cNext (bl s) j) _ hJn (by rw [← hpre]; simp)) ?_
   rintro _ w5 (⟨rfl, hJ2, hK2⟩ | ⟨rfl, hJ2⟩)
   ·
    refine ⟨_, rfl, ?_⟩
    have hG2 := hK2.2 hGn
    have hB2 := hK2.1 hBn
    have hO5 := Own.start hG2
    refine SO.v (.not rfl rfl) ?_
    refine SO.nn ?_
    refine SC.no rfl ?_
    refine SC.skip ?_
    refine SQ.then_normal ?_
    refine SC.region ?_
    refine SO.mv ?_
    refine SO.as ?_
    refine SO.nil ?_
    refine SQ.block_normal ?_
    refine SQ.round (pre ++ [(j, cNext (bl s) j)], cNext (bl s) j) (by simp only; omega) ⟨rfl, rfl, rfl, trivial⟩ ⟨by simpa using hpre, u2, u3.ub, hJ2, hG2, hB2⟩
   ·
    refine ⟨_, rfl, ?_⟩
    refine SO.v (.not rfl rfl) ?_
    refine SO.nn ?_
    refine SC.yes rfl ?_
    refine SC.ret ?_
    refine SQ.then_ret ?_
    refine SQ.block_ret ?_
    refine SQ.then_ret ?_
    refine SQ.block_ret ?_
    refine SQ.out (.inl rfl) (res0 rfl) ?_
    exact ⟨⟨_, rfl⟩, .inr ⟨_, ⟨_, by simpa using hpre⟩, hJ2⟩⟩
  ·
   have hlast : pre = clusters (bl s) := by
     rw [clFrom_nil (by rw [bl_length]; omega)] at hpre; simpa using hpre
   refine SC.exit ?_
   refine SQ.then_exit ?_
   refine SQ.then_exit ?_
   refine SQ.block_exit ?_
   refine SQ.out (.inr rfl) (res0 rfl) ?_
   exact ⟨⟨_, rfl⟩, .inl ⟨pre, hlast, hJp⟩⟩

end Go.Proofs.YtclgplkkajfenaaGreatDoor
/- cluster.Count, Cells. -/
namespace Go.Proofs.YtclgplkkajfenaaGreatDoor
open Go Go.RowKit Ow
theorem KpW.put {w : World} {bs : Nat} {o : Obj} (hb : bs < w.heap.size) (h2 : 2 ≤ w.heap.size) (W : World) (l : Nat) (o1 o2 : Obj) (hl : w.heap.size ≤ l) (hx : W.heap[l]? = some o1) : KpW bs o W (W.putObj l o2) := by
  have hg := grownBy_putObj' W l o2
  refine ⟨fun h => (hg.block bs (lt_of_heap h) (fun e => by cases e; omega)).trans h, fun h => ?_⟩
  have hW : w.heap.size ≤ W.heap.size := by have := lt_of_heap hx; omega
  exact h.mono (B := 2) ⟨hg.os, hg.tape, hg.output, hg.size, fun k hk => hg.block k (by omega) (fun e => by cases e; omega)⟩ (by omega)
def nCells (l : Bs) (cs : List (Nat × Nat)) : Int := (cs.map fun c => clCells l c.1).sum
theorem nCells_snoc (l : Bs) (cs : List (Nat × Nat)) (c : Nat × Nat) : nCells l (cs ++ [c]) = nCells l cs + clCells l c.1 := by simp [nCells, List.sum_append]
theorem cellsOf_range (c : Int) : 0 ≤ cellsOf c ∧ cellsOf c ≤ 2 := by unfold cellsOf; repeat' split <;> omega
theorem clCells_range (l : Bs) (i : Nat) : 0 ≤ clCells l i ∧ clCells l i ≤ 2 := by
  unfold clCells; split
  · omega
  · exact cellsOf_range _
theorem nCells_range (l : Bs) : ∀ cs : List (Nat × Nat), 0 ≤ nCells l cs ∧ nCells l cs ≤ 2 * cs.length
  | [] => by simp [nCells]
  | c :: cs => by
    have h1 := nCells_range l cs
    have h2 := clCells_range l c.1
    simp only [nCells, List.map_cons, List.sum_cons, List.length_cons] at h1 ⊢
    omega
theorem clF_length (l : Bs) : ∀ f i, (clF l f i).length ≤ f
  | 0, _ => by simp [clF]
  | f + 1, i => by
    rw [clF]; split
    · simp only [List.length_cons]; have := clF_length l f (cNext l i); omega
    · simp
theorem clusters_length (l : Bs) : (clusters l).length ≤ l.length := clF_length l _ _

set_option maxRecDepth 20000 in
set_option maxHeartbeats 400000 in
theorem ccount_any (s : ByteArray) (w : World) (hG : Good w) (hz : s.size ≤ 4611686018427387904) :
    Calls Tryz.prog 218 #[.string s] w fun e w' => e = .returned (.int .i64 ((clusters (bl s)).length : Nat)) ∧ Below w.heap.size w w' := by
  have hcl := clusters_length (bl s)
  rw [bl_length] at hcl
  have hO0 := Own.start hG
  refine enterM Tryz.func218 rfl rfl rfl 5 ?_
  refine SC.sr ?_
  refine SO.as ?_
  refine SO.nn ?_
  refine SC.sr ?_
  refine SO.alloc hO0 rfl rfl rfl rfl zv3 [_] rfl ?_
  intro b1 w1 hb1 hO1
  refine SO.store hO1 (i := 0) rfl rfl rfl rfl rfl rfl sz3 rfl rfl [(_, .cells [_].toArray _ _)] rfl ?_
  intro w2 hO2
  refine SO.nn ?_
  refine SC.seq ?_
  refine SC.sr ?_
  refine SO.mv ?_
  refine SO.call rfl rfl rfl rfl (.callF rfl rfl en76) (walk_any _ _ (hO2.good hG)) ?_
  rintro _ w3 ⟨bs, rfl, hbs, hbox, hb3⟩
  have hO3 := hO2.learnB hb3 hbs hbox
  replace hbs := Nat.le_trans hO2.size hbs
  refine ⟨_, rfl, ?_⟩
  refine SO.nn ?_
  refine SC.block ?_
  have hlt4 : ∀ b ∈ [bs, b1], b < w3.heap.size := hO3.ltN
  have hsz4 := hO3.size
  refine SC.range (α := Nat × Nat) (β := Unit) hO3 rfl en136 (encs := fun c => [clV (bl s) c]) (by omega) (walk_stops s bs _ _ (hO3.good hG) hz (hO3.at (i := 0) rfl)) KpW.trans (fun W l o1 o2 hl hx _ _ => KpW.put (lt_of_heap (hO3.at (i := 0) rfl)) (Nat.le_trans hO3.base hO3.size) W l o1 o2 hl hx) (fun _ => rfl) (by decide) (fun pre => [(bs, boxS s), (b1, .cells #[.int .i64 (pre.length : Int)] 3 (0, 0))]) (fun _ _ => False) (fun _ _ => []) rfl (fun _ => rfl) (fun _ _ h => h.elim) (fun _ _ => [(3, .pointer (some ⟨b1, 0, none⟩))]) (fun _ _ _ => True) (fun _ _ _ _ _ _ h _ _ => h) ?_ ?_ ?_ ?_
  · intro l pre x W hI hW
    have hA4 := hI.adopt
    refine SC.skip ?_
    have hE := hA4
    exact SQ.assigned () ⟨rfl, trivial⟩ trivial (hE.keeps (namesLt rfl hlt4)) ⟨fun _ => hE.at (i := 0) rfl, fun h => hE.good h⟩ (hI.comp hE rfl)
  · intro l pre x u W hI hW hM hlen
    have hB4 := hI.adopt
    refine SC.block ?_
    refine SC.region ?_
    refine SO.v (.load rfl rfl ag3 (cell_of' (hB4.at (i := 1) rfl) rfl)) ?_
    refine SO.v (.add rfl rfl rfl (by omega)) ?_
    refine SO.store hB4 (i := 1) rfl rfl rfl rfl rfl rfl sz3 rfl rfl [_, (_, .cells [_].toArray _ _)] rfl ?_
    intro w5 hO5
    refine SO.nil ?_
    refine SQ.block_normal ?_
    have hE := hO5
    rw [show ((pre.length : Int) + 1) = ((pre ++ [x]).length : Nat) by simp] at hE
    exact SQ.goes (hE.keeps (namesLt rfl hlt4)) ⟨fun _ => hE.at (i := 0) rfl, fun h => hE.good h⟩ (hI.comp hE rfl)
  · intro d6 xs W hd6 hS hO6
    subst hS
    refine SQ.block_normal ?_
    refine SQ.then_normal ?_
    refine SC.sr ?_
    refine SO.v (.load rfl rfl ag3 (cell_of' (hO6.at (i := 2) rfl) rfl)) ?_
    refine SO.as ?_
    refine SO.nn ?_
    refine SC.ret ?_
    refine SQ.outM [d6] hO6 (List.forall_mem_cons.2 ⟨hd6, fun _ h => by cases h⟩) (.inl rfl) (fun w7 hO7 => ⟨_, res1 rfl rfl, ?_⟩)
    exact ⟨rfl, hO7.toBelow ⟨hbs, hb1, trivial⟩⟩
  · intro d c pre W hd hSp hX; exact hX.elim

set_option maxRecDepth 20000 in
set_option maxHeartbeats 400000 in
theorem ccellsum_any (s : ByteArray) (w : World) (hG : Good w) (hz : s.size ≤ 4000000000000000000) :
    Calls Tryz.prog 31 #[.string s] w fun e w' => e = .returned (.int .i64 (nCells (bl s) (clusters (bl s)))) ∧ Below w.heap.size w w' := by
  have hcl := clusters_length (bl s)
  rw [bl_length] at hcl
  have hO0 := Own.start hG
  refine enterM Tryz.func31 rfl rfl rfl 5 ?_
  refine SC.sr ?_
  refine SO.as ?_
  refine SO.nn ?_
  refine SC.sr ?_
  refine SO.alloc hO0 rfl rfl rfl rfl zv3 [_] rfl ?_
  intro b1 w1 hb1 hO1
  refine SO.store hO1 (i := 0) rfl rfl rfl rfl rfl rfl sz3 rfl rfl [(_, .cells [_].toArray _ _)] rfl ?_
  intro w2 hO2
  refine SO.nn ?_
  refine SC.seq ?_
  refine SC.sr ?_
  refine SO.mv ?_
  refine SO.call rfl rfl rfl rfl (.callF rfl rfl en76) (walk_any _ _ (hO2.good hG)) ?_
  rintro _ w3 ⟨bs, rfl, hbs, hbox, hb3⟩
  have hO3 := hO2.learnB hb3 hbs hbox
  replace hbs := Nat.le_trans hO2.size hbs
  refine ⟨_, rfl, ?_⟩
  refine SO.nn ?_
  refine SC.block ?_
  have hlt4 : ∀ b ∈ [bs, b1], b < w3.heap.size := hO3.ltN
  have hsz4 := hO3.size
  refine SC.range (α := Nat × Nat) (β := Nat) hO3 rfl en136 (encs := fun c => [clV (bl s) c]) (by omega) (walk_stops s bs _ _ (hO3.good hG) (by omega) (hO3.at (i := 0) rfl)) KpW.trans (fun W l o1 o2 hl hx _ _ => KpW.put (lt_of_heap (hO3.at (i := 0) rfl)) (Nat.le_trans hO3.base hO3.size) W l o1 o2 hl hx) (fun _ => rfl) (by decide) (fun pre => [(bs, boxS s), (b1, .cells #[.int .i64 (nCells (bl s) pre)] 3 (0, 0))]) (fun _ _ => False) (fun _ _ => []) rfl (fun _ => rfl) (fun _ _ h => h.elim) (fun _ u => [(3, .pointer (some ⟨b1, 0, none⟩)), (4, .pointer (some ⟨u, 0, none⟩))]) (fun x u W => w3.heap.size ≤ u ∧ W.heap[u]? = some (.cells #[.int .i64 (x.1 : Int), .int .i64 (x.2 : Int), .int .i64 (clCls (bl s) x.1), .int .i64 (clCells (bl s) x.1)] 138 (0, 0))) (fun _ u => fun _ A B row h hg hr => ⟨h.1, (hg.block u (lt_of_heap h.2) (fun e => by obtain ⟨_, o, ho, hc⟩ := hr u e.symm; rw [h.2] at ho; cases ho; cases hc)).trans h.2⟩) ?_ ?_ ?_ ?_
  · intro l pre x W hI hW
    have hA4 := hI.adopt
    refine SC.region ?_
    refine SO.alloc hA4 rfl rfl rfl rfl zv138 [_, _, _, _] rfl ?_
    intro b5 w5 hb5 hO5
    refine SO.store hO5 (i := 0) rfl rfl rfl rfl rfl rfl sz138 rfl rfl [(_, .cells [_, _, _, _].toArray _ _), _, _] rfl ?_
    intro w6 hO6
    refine SO.nil ?_
    have hE := (hO6.tail hb5)
    exact SQ.assigned b5 ⟨rfl, rfl, trivial⟩ ⟨Nat.le_trans hW hb5, hO6.at (i := 0) rfl⟩ (hE.keeps (namesLt rfl hlt4)) ⟨fun _ => hE.at (i := 0) rfl, fun h => hE.good h⟩ (hI.comp hE rfl)
  · intro l pre x u W hI hW hM hlen
    have hB4 := hI.adopt.know hM.2 (namesNe rfl hlt4 hM.1) (by have := hM.1; have := hO0.base; omega)
    have hr1 := nCells_range (bl s) pre
    have hr2 := clCells_range (bl s) x.1
    refine SC.block ?_
    refine SC.region ?_
    refine SO.v (.load rfl rfl ag3 (cell_of' (hB4.at (i := 2) rfl) rfl)) ?_
    refine SO.v (.fieldAddr rfl rfl fa138_3) ?_
    refine SO.v (.load rfl rfl ag3 (cell_of' (hB4.at (i := 0) rfl) rfl)) ?_
    refine SO.v (.add rfl rfl rfl (by omega)) ?_
    refine SO.store hB4 (i := 2) rfl rfl rfl rfl rfl rfl sz3 rfl rfl [_, _, (_, .cells [_].toArray _ _)] rfl ?_
    intro w7 hO7
    refine SO.nil ?_
    refine SQ.block_normal ?_
    have hE := (hO7.forget hM.2)
    rw [← nCells_snoc] at hE
    exact SQ.goes (hE.keeps (namesLt rfl hlt4)) ⟨fun _ => hE.at (i := 0) rfl, fun h => hE.good h⟩ (hI.comp hE rfl)
  · intro d8 xs W hd8 hS hO8
    subst hS
    refine SQ.block_normal ?_
    refine SQ.then_normal ?_
    refine SC.sr ?_
    refine SO.v (.load rfl rfl ag3 (cell_of' (hO8.at (i := 2) rfl) rfl)) ?_
    refine SO.as ?_
    refine SO.nn ?_
    refine SC.ret ?_
    refine SQ.outM [d8] hO8 (List.forall_mem_cons.2 ⟨hd8, fun _ h => by cases h⟩) (.inl rfl) (fun w9 hO9 => ⟨_, res1 rfl rfl, ?_⟩)
    exact ⟨rfl, hO9.toBelow ⟨hbs, hb1, trivial⟩⟩
  · intro d c pre W hd hSp hX; exact hX.elim

end Go.Proofs.YtclgplkkajfenaaGreatDoor
