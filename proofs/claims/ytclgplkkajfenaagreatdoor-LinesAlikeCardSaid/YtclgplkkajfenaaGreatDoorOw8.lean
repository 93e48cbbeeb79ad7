/- The calculus: into and out of functions that hold ranges over functions; iterators. -/
import Derived.Test.YtclgplkkajfenaaGreatDoorOw7
namespace Go.Proofs.YtclgplkkajfenaaGreatDoor
namespace Ow
open Go Go.RowKit
variable {P : Program} {ro : Option Nat} {n : Nat} {ops : Array Oper} {Q : Exit → Act → World → Prop} {N : Nat} {D : List Deferred} {e : Env} {w w0 : World} {o : Oper} {L : List (Nat × Obj)}
theorem argFits {args : List Value} {N k : Nat} (hl : Nat.ble args.length N = true) (hk : k = N - args.toArray.size) : Fits (argEnv args 0) { tmps := args.toArray ++ Array.replicate k undef, defers := [] } ∧ (args.toArray ++ Array.replicate k undef).size = N := by
  have hl' : args.length ≤ N := Nat.le_of_ble_eq_true hl
  subst hk
  refine ⟨fun t v ht => ?_, by simp; omega⟩
  obtain ⟨_, h2⟩ := argEnv_look _ _ _ _ ht
  have hlt : t < args.length := by
    rcases Nat.lt_or_ge t args.length with h' | h'
    · exact h'
    · rw [Nat.sub_zero, List.getElem?_eq_none h'] at h2; cases h2
  show (args.toArray ++ Array.replicate _ undef)[t]? = some v
  rw [Array.getElem?_append_left (by simpa using hlt)]
  simpa using h2
theorem enterIn {f : FuncId} {fn : Func} {c : Code} {args : List Value} {N : Nat} {R : Ending → World → Prop} (hf : P.funcs[f]? = some fn) (hb : fn.body = some c) (hN : fn.ntmps = N)
    (hl : Nat.ble args.length N = true) (h : SC P none n c (bodyPost P fn R) N [] (argEnv args 0) w) : CallsIn (Fc none) n P f args.toArray w R := by
  obtain ⟨h1, h2⟩ := argFits (k := fn.ntmps - args.toArray.size) hl (by rw [hN])
  exact callsIn_of_wp hf hb trivial (h _ h2 rfl h1) rfl
theorem enterM {f : FuncId} {fn : Func} {c : Code} {args : List Value} {N : Nat} {R : Ending → World → Prop} (hf : P.funcs[f]? = some fn) (hb : fn.body = some c) (hN : fn.ntmps = N)
    (hl : Nat.ble args.length N = true) (n : Nat) (h : SC P none n c (bodyPostM (Fc none) n P fn R) N [] (argEnv args 0) w) : Calls P f args.toArray w R := by
  refine (callsIn_wide (n := n)).1 ?_
  obtain ⟨h1, h2⟩ := argFits (k := fn.ntmps - args.toArray.size) hl (by rw [hN])
  exact callsIn_of_wp_marks (F := Fc none) hf hb trivial (h _ h2 rfl h1) rfl
def marks (ds : List Nat) : List (Nat × Obj) := ds.map fun d => (d, markO)
theorem leavesM {fn : Func} {tmps : Array Value} {R : Ending → World → Prop} : ∀ (ds : List Nat) (w : World), Own w0 (marks ds ++ L) w → (∀ d ∈ ds, w0.heap.size ≤ d) →
    (∀ w', Own w0 L w' → ∃ v, (results fn tmps).run P w' = .ok v w' ∧ R (.returned v) w') → LeavesInM (Fc none) n P fn tmps R (ds.map coll) .returning w
  | [], w, hO, _, h => by
    obtain ⟨v, h1, h2⟩ := h w hO
    exact ⟨v, h1, h2⟩
  | d :: ds, w, hO, hd, h => by
    have hm : w.heap[d]? = some markO := hO.at (i := 0) rfl
    refine ⟨by simp, .inl ⟨d, _, rfl, run_takeDeferred hm, leavesM ds _ ?_ (fun x hx => hd x (List.mem_cons_of_mem _ hx)) h⟩⟩
    have hO' : Own w0 (marks ds ++ L) w := Own.tail hO (hd d (by simp))
    have hnd := hO.nd
    simp only [marks, List.map_cons, List.cons_append, List.nodup_cons] at hnd
    have hg := grownBy_putObj' w d (.deferred none)
    have hne : ∀ p ∈ marks ds ++ L, p.1 ≠ d := fun p hp e => hnd.1 (by rw [← e]; exact List.mem_map_of_mem (f := Prod.fst) hp)
    exact ⟨hg.os.trans hO'.os, hg.tape.trans hO'.tape, hg.output.trans hO'.output, Nat.le_trans hO'.size hg.size,
      fun k hk hn => (hg.block k (Nat.lt_of_lt_of_le hk hO'.size) (fun e => by cases e; have := hd d (by simp); omega)).trans (hO'.old k hk hn),
      fun p hp => (hg.block p.1 (lt_of_heap (hO'.own p hp)) (fun e => hne p hp (by cases e; rfl))).trans (hO'.own p hp), hO'.nd, hO'.two, hO'.base⟩
theorem SQ.outM {fn : Func} {R : Ending → World → Prop} {x : Exit} (ds : List Nat) (hO : Own w0 (marks ds ++ L) w) (hd : ∀ d ∈ ds, w0.heap.size ≤ d) (hx : x = .ret ∨ x = .normal) 
    (h : ∀ w', Own w0 L w' → ∃ v, (∀ a : Act, Fits e a → (results fn a.tmps).run P w' = .ok v w') ∧ R (.returned v) w') : SQ (bodyPostM (Fc none) n P fn R) x N (ds.map coll) e w := by
  intro a _ h2 h3
  have key : LeavesInM (Fc none) n P fn a.tmps R a.defers .returning w := by
    rw [h2]
    exact leavesM ds w hO hd fun w' hO' => let ⟨v, h4, h5⟩ := h w' hO'; ⟨v, h4 a h3, h5⟩
  rcases hx with rfl | rfl <;> exact key
/-- A call of yield. -/
theorem SO.yield {l : List Oper} {d k : Nat} {x : Operand} {xs : List Operand} {vs : List Value} {ats : Array TypeId} {R : Ending → World → Prop} (hg : gok ops e o = some true) (ho : o.op = .call { callee := .value x, args := xs.toArray, argTypes := ats })
    (hx : ev e x = some (.func (.yield k) #[] #[])) (hl : evL e xs = some vs) (hd : o.dst = some d) (hN : Nat.blt d N = true) (hy : YieldAt (Fc none) (n - 1) P k vs.toArray w R)
    (h : ∀ y w', R y w' → ∃ v, y = .returned v ∧ SO P none n ops l Q N D ((d, v) :: e) w') : SO P none n ops (o :: l) Q N D e w := by
  intro a h1 h2 h3
  unfold wpListIn
  rw [if_pos (gok_wanted hg h3)]
  refine ⟨fun f _ => wideFn f, ?_⟩
  obtain ⟨fn, tmps, asg, bd, hrun, hround⟩ := hy
  have hr : (execOp a.eval o).run P w = .ok (.round k fn tmps asg bd) w := by
    unfold execOp; rw [ho]
    simp only [resolve, List.map_toArray, evL_map h3 hl, ev_eval h3 hx, Deferred.ofValue, invoke, Sem.run_bind, Sem.run_pure, Result.andThen]
    simpa using hrun
  show o.uponIn (Fc none) n P a _ Q ((o.semAt none a.eval).run P w)
  rw [semAt_plain (by rw [ho]; rfl), hr, Oper.uponIn_round, hd]
  have hN' : d < N := Nat.le_of_ble_eq_true hN
  refine ⟨fun h => by simp [Fc, Fence.wide] at h, hround.mono fun y w' hy => ?_⟩
  obtain ⟨v, rfl, hk⟩ := h y w' hy
  exact hk _ (by rw [size_put]; exact h1) (by rw [defers_put]; exact h2) (h3.put (by omega))
/-- A block that a call has laid. -/
theorem Own.learnB {w' : World} (h : Own w0 L w) (hb : Below w.heap.size w w') {b : Nat} {o : Obj} (hn : w.heap.size ≤ b) (hx : w'.heap[b]? = some o) : Own w0 ((b, o) :: L) w' :=
  (h.below hb).learn hx (fun p hp e => by have := h.lt p hp; omega) (Nat.le_trans h.size hn)
/-- An old block that is known. -/
theorem Own.know (h : Own w0 L w) {b : Nat} {o : Obj} (hx : w.heap[b]? = some o) (hn : ∀ p ∈ L, p.1 ≠ b) (h2 : 2 ≤ b) : Own w0 ((b, o) :: L) w :=
  ⟨h.os, h.tape, h.output, h.size, fun k hk hp => h.old k hk fun p hm => hp p (List.mem_cons_of_mem _ hm),
   fun p hp => by rcases List.mem_cons.1 hp with rfl | hp; exact hx; exact h.own p hp,
   by
    simp only [List.map_cons, List.nodup_cons]
    refine ⟨fun hm => ?_, h.nd⟩
    obtain ⟨p, hp, e⟩ := List.mem_map.1 hm
    exact hn p hp e,
   fun p hp => by rcases List.mem_cons.1 hp with rfl | hp; exact h2; exact h.two p hp, h.base⟩
theorem Own.forget {b : Nat} {o : Obj} (h : Own w0 ((b, o) :: L) w) (hx : w0.heap[b]? = some o) : Own w0 L w :=
  ⟨h.os, h.tape, h.output, h.size, fun k hk hn => by
    by_cases e : b = k
    · subst e; rw [hx]; exact h.own (b, o) (by simp)
    · exact h.old k hk fun p hp => by rcases List.mem_cons.1 hp with rfl | hp; exact e; exact hn p hp,
   fun p hp => h.own p (List.mem_cons_of_mem _ hp), (List.nodup_cons.1 h.nd).2, fun p hp => h.two p (List.mem_cons_of_mem _ hp), h.base⟩
theorem Own.swap {p q : Nat × Obj} (h : Own w0 (p :: q :: L) w) : Own w0 (q :: p :: L) w :=
  ⟨h.os, h.tape, h.output, h.size, fun k hk hn => h.old k hk fun x hx => hn x (by simp only [List.mem_cons] at hx ⊢; rcases hx with h1 | h1 | h1; exact .inr (.inl h1); exact .inl h1; exact .inr (.inr h1)),
   fun x hx => h.own x (by simp only [List.mem_cons] at hx ⊢; rcases hx with h1 | h1 | h1; exact .inr (.inl h1); exact .inl h1; exact .inr (.inr h1)), by have := h.nd; simp only [List.map_cons, List.nodup_cons, List.mem_cons] at this ⊢; exact ⟨fun h' => by rcases h' with e | e; exact this.1 (.inl e.symm); exact this.2.1 e, fun e => this.1 (.inr e), this.2.2⟩,
   fun x hx => h.two x (by simp only [List.mem_cons] at hx ⊢; rcases hx with h1 | h1 | h1; exact .inr (.inl h1); exact .inl h1; exact .inr (.inr h1)), h.base⟩
end Ow
end Go.Proofs.YtclgplkkajfenaaGreatDoor
