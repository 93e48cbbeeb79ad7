/- The calculus: environments, own memory, regions, operations, drawn regions. -/
import Derived.Test.YtclgplkkajfenaaGreatDoorProg
import Derived.Test.YtclgplkkajfenaaGreatDoorShelf
import Derived.WalkKit
import Derived.WalkLawsBesides
import Derived.WalkSpells
import Derived.Lib.Hide
import Derived.Deep.LoopGhost
import Derived.Deep.QuietTactic
import Derived.BigQuiet
import Derived.Deep.RegionHeld3
import Derived.Deep.DeepFit
import Derived.OrdersHeld
import Derived.OrdersIn
import Derived.RangeFuncNested
import Derived.RangeFuncCalls
import Derived.RangeFuncLeaves
import Derived.TacticsIn
import Derived.Shelf.Abstract
import Derived.WideLaws
/- What all walks of this seat share. -/
           namespace Go.Proofs.YtclgplkkajfenaaGreatDoor
open Go.RowKit
/-- The library's two tables of UTF-8 lie as they were laid. -/
def Good (w : World) : Prop := Lib.Utf8Tabs 0 1 w
theorem Good.two {w : World} (h : Good w) : 2 ≤ w.heap.size := by
  have h1 := (h.2 0 (by omega)).1
  have : (1 : Nat) < w.heap.size := World.block_lt_of_cell? _ _ h1
  omega
theorem Good.mono {B : Nat} {w w' : World} (h : Good w) (hb : Below B w w') (hB : 2 ≤ B) : Good w' :=
  ⟨fun c hc => (hb.cell (p := ⟨0, c, none⟩) (by show 0 < B; omega)).trans (h.1 c hc),
   fun i hi => ⟨(hb.cell (p := ⟨1, 2 * i, none⟩) (by show 1 < B; omega)).trans (h.2 i hi).1, (hb.cell (p := ⟨1, 2 * i + 1, none⟩) (by show 1 < B; omega)).trans (h.2 i hi).2⟩⟩
theorem Good.ext {w w' : World} (h : Good w) (hb : Below w.heap.size w w') : Good w' := h.mono hb h.two
/-- Two steps, each of which leaves what was there. -/
theorem ext_trans {a b c : World} (h : Below a.heap.size a b) (k : Below b.heap.size b c) : Below a.heap.size a c := h.trans (k.mono h.size)
theorem ext_alloc {a b : World} (h : Below a.heap.size a b) (o : Obj) : Below a.heap.size a (b.alloc o) := h.alloc h.size o
/-- A block of two cells of the call's own, behind a call that leaves it alone. -/
theorem own2 {w w1 : World} {x y : Value} {T : TypeId} (hb : Below (w.alloc (.cells #[x, y] T)).heap.size (w.alloc (.cells #[x, y] T)) w1) :
    (w1.cell? ⟨w.heap.size, 0, none⟩ = some x ∧ w1.cell? ⟨w.heap.size, 1, none⟩ = some y) ∧ (w1.frozen? ⟨w.heap.size, 0, none⟩ = false ∧ w1.frozen? ⟨w.heap.size, 1, none⟩ = false) ∧
    w.heap.size < w1.heap.size ∧ Below w.heap.size w w1 := by
  have hs := hb.size
  rw [World.size_alloc] at hs
  have hblk := hb.block w.heap.size (by simp)
  have hnew : (w.alloc (.cells #[x, y] T)).heap[w.heap.size]? = some (.cells #[x, y] T) := by show (w.heap.push _)[_]? = _; simp
  rw [hnew] at hblk
  refine ⟨⟨?_, ?_⟩, ⟨?_, ?_⟩, by omega, ((Below.refl _ w).alloc (Nat.le_refl _) _).trans (hb.mono (by simp))⟩
  · simp [World.cell?, hblk]
  · simp [World.cell?, hblk]
  · simp [World.frozen?, hblk]
  · simp [World.frozen?, hblk]
end Go.Proofs.YtclgplkkajfenaaGreatDoor
/- A small calculus for walks, over the kit's own rules: what the temporaries hold is kept as a list of places and values ('Env'), the memory of the call's own as a list of blocks ('Own'), and each operation is one lemma. -/
      namespace Go.Proofs.YtclgplkkajfenaaGreatDoor
namespace Ow
open Go Go.RowKit

/-! ### What the temporaries hold -/
abbrev Env := List (Nat × Value)
def look : Env → Nat → Option Value
  | [], _ => none
  | (k, v) :: r, t => bif Nat.beq k t then some v else look r t
theorem look_same (k : Nat) (v : Value) (r : Env) : look ((k, v) :: r) k = some v := by simp [look]
theorem look_other {k t : Nat} (v : Value) (r : Env) (h : k ≠ t) : look ((k, v) :: r) t = look r t := by
  have : Nat.beq k t = false := Bool.eq_false_iff.2 fun e => h (Nat.eq_of_beq_eq_true e)
  simp [look, this]

def Fits (e : Env) (a : Act) : Prop := ∀ t v, look e t = some v → a.tmps[t]? = some v

theorem Fits.put {e : Env} {a : Act} {d : Nat} {v : Value} (h : Fits e a) (hd : d < a.tmps.size) : Fits ((d, v) :: e) (a.put (some d) v) := by
  intro t u hu
  show (a.tmps.setIfInBounds d v)[t]? = some u
  by_cases e' : d = t
  · subst e'
    rw [look_same] at hu; cases hu
    simp [hd]
  · rw [look_other _ _ e'] at hu
    rw [Array.getElem?_setIfInBounds_ne e']
    exact h t u hu
theorem size_put (a : Act) (d : Option Tmp) (v : Value) : (a.put d v).tmps.size = a.tmps.size := by
  cases d <;> simp [Act.put]
theorem defers_put (a : Act) (d : Option Tmp) (v : Value) : (a.put d v).defers = a.defers := by
  cases d <;> rfl

/-- What an operand holds. -/
def ev (e : Env) : Operand → Option Value
  | .tmp t => look e t
  | .const v => some v
  | .global g => some (.pointer (some ⟨g, 0, none⟩))
  | .func f => some (.func (.func f) #[] #[])
theorem ev_eval {e : Env} {a : Act} (h : Fits e a) {x : Operand} {v : Value} (hx : ev e x = some v) : a.eval x = v := by
  cases x with
  | tmp t => have := h t v hx; simp [Act.eval, Array.getD_eq_getD_getElem?, this]
  | const u => exact Option.some.inj hx
  | global g => exact Option.some.inj hx
  | func f => exact Option.some.inj hx

/-- e' says no more than e does. -/
def Cov (e : Env) : Env → Prop
  | [] => True
  | (t, v) :: r => look e t = some v ∧ Cov e r
theorem Fits.cov {e e' : Env} {a : Act} (h : Fits e a) (hc : Cov e e') : Fits e' a := by
  induction e' with
  | nil => intro t v hv; simp [look] at hv
  | cons p r ih =>
    obtain ⟨k, u⟩ := p
    intro t v hv
    by_cases e1 : k = t
    · subst e1; rw [look_same] at hv; cases hv; exact h _ _ hc.1
    · rw [look_other _ _ e1] at hv; exact ih hc.2 t v hv

/-! ### The memory of the call's own -/
/-- Of w0's memory nothing has turned but the blocks of L, which hold what L says. -/
structure Own (w0 : World) (L : List (Nat × Obj)) (w : World) : Prop where
  os : w.os = w0.os
  tape : w.tape = w0.tape
  output : w.output = w0.output
  size : w0.heap.size ≤ w.heap.size
  old : ∀ k, k < w0.heap.size → (∀ p ∈ L, p.1 ≠ k) → w.heap[k]? = w0.heap[k]?
  own : ∀ p ∈ L, w.heap[p.1]? = some p.2
  nd : (L.map (·.1)).Nodup
  two : ∀ p ∈ L, 2 ≤ p.1
  base : 2 ≤ w0.heap.size

theorem Own.start {w : World} (h : Good w) : Own w [] w := ⟨rfl, rfl, rfl, Nat.le_refl _, fun _ _ _ => rfl, (fun _ h => by cases h), List.nodup_nil, (fun _ h => by cases h), h.two⟩
theorem Own.at {w0 w : World} {L : List (Nat × Obj)} (h : Own w0 L w) {i b : Nat} {o : Obj} (hi : L[i]? = some (b, o)) : w.heap[b]? = some o :=
  h.own _ (List.mem_of_getElem? hi)
theorem lt_of_heap {w : World} {b : Nat} {o : Obj} (h : w.heap[b]? = some o) : b < w.heap.size := (Array.getElem?_eq_some_iff.1 h).1
theorem Own.alloc {w0 w : World} {L : List (Nat × Obj)} (h : Own w0 L w) (o : Obj) : Own w0 ((w.heap.size, o) :: L) (w.alloc o) := by
  have hs : (w.alloc o).heap = w.heap.push o := rfl
  refine ⟨h.os, h.tape, h.output, by rw [hs]; simp; have := h.size; omega, fun k hk hn => ?_, fun p hp => ?_, ?_, fun p hp => ?_, h.base⟩
  · rw [hs, Array.getElem?_push, if_neg (by have := h.size; omega)]
    exact h.old k hk fun p hp => hn p (List.mem_cons_of_mem _ hp)
  · rcases List.mem_cons.1 hp with rfl | hp
    · rw [hs]; simp
    · have := h.own p hp
      rw [hs, Array.getElem?_push, if_neg (by have := lt_of_heap this; omega)]
      exact this
  · simp only [List.map_cons, List.nodup_cons]
    refine ⟨fun hm => ?_, h.nd⟩
    obtain ⟨p, hp, e⟩ := List.mem_map.1 hm
    have := lt_of_heap (h.own p hp)
    omega
  · rcases List.mem_cons.1 hp with rfl | hp
    · exact Nat.le_trans h.base h.size
    · exact h.two p hp
theorem Own.below {w0 w w' : World} {L : List (Nat × Obj)} (h : Own w0 L w) (hb : Below w.heap.size w w') : Own w0 L w' :=
  ⟨hb.os.trans h.os, hb.tape.trans h.tape, hb.output.trans h.output, Nat.le_trans h.size hb.size,
   fun k hk hn => (hb.block k (Nat.lt_of_lt_of_le hk h.size)).trans (h.old k hk hn),
   fun p hp => (hb.block p.1 (lt_of_heap (h.own p hp))).trans (h.own p hp), h.nd, h.two, h.base⟩
theorem Own.drew {w0 w : World} {L : List (Nat × Obj)} (h : Own w0 L w) : Own w0 L w.drew :=
  ⟨h.os, h.tape, h.output, h.size, h.old, h.own, h.nd, h.two, h.base⟩
/-- A block of the call's own holds something else. -/
theorem Own.set {w0 w w' : World} {L : List (Nat × Obj)} (h : Own w0 L w) {i b : Nat} {o o' : Obj} (hi : L[i]? = some (b, o))
    (hos : w'.os = w.os) (htape : w'.tape = w.tape) (hout : w'.output = w.output) (hsz : w'.heap.size = w.heap.size)
    (hb : w'.heap[b]? = some o') (hn : ∀ k, k ≠ b → w'.heap[k]? = w.heap[k]?) : Own w0 (L.set i (b, o')) w' := by
  have hlen : i < L.length := by
    rcases Nat.lt_or_ge i L.length with h' | h'
    · exact h'
    · rw [List.getElem?_eq_none h'] at hi; cases hi
  have hgi : L[i] = (b, o) := by rw [List.getElem?_eq_getElem hlen] at hi; exact Option.some.inj hi
  have hmap : (L.set i (b, o')).map (·.1) = L.map (·.1) := by
    rw [List.map_set]
    refine List.ext_getElem (by simp) fun j h1 h2 => ?_
    simp only [List.getElem_set]
    split
    · rename_i e; subst e; simp [hgi]
    · rfl
  have other : ∀ j (hj : j < L.length), j ≠ i → (L[j]).1 ≠ b := fun j hj hne e => by
    have nd := List.pairwise_iff_getElem.1 h.nd
    rcases Nat.lt_or_gt_of_ne hne with h1 | h1
    · exact nd j i (by simpa using hj) (by simpa using hlen) h1 (by simp [hgi, e])
    · exact nd i j (by simpa using hlen) (by simpa using hj) h1 (by simp [hgi, e])
  refine ⟨hos.trans h.os, htape.trans h.tape, hout.trans h.output, by rw [hsz]; exact h.size, fun k hk hk' => ?_, fun p hp => ?_, by rw [hmap]; exact h.nd, fun p hp => ?_, h.base⟩
  · have hkb : k ≠ b := fun e => by
      refine hk' (b, o') ?_ e.symm
      exact List.mem_iff_getElem.2 ⟨i, by simpa using hlen, by simp⟩
    rw [hn k hkb]
    refine h.old k hk fun p hp => ?_
    obtain ⟨j, hj, rfl⟩ := List.mem_iff_getElem.1 hp
    by_cases e : j = i
    · subst e; rw [hgi]; exact fun e => hkb e.symm
    · refine hk' L[j] ?_
      exact List.mem_iff_getElem.2 ⟨j, by simpa using hj, by simp [Ne.symm e]⟩
  · obtain ⟨j, hj, rfl⟩ := List.mem_iff_getElem.1 hp
    have hj' : j < L.length := by simpa using hj
    by_cases e : j = i
    · subst e; simp [hb]
    · simp only [List.getElem_set, if_neg (Ne.symm e)]
      rw [hn _ (other j hj' e)]
      exact h.own _ (List.getElem_mem hj')
  · obtain ⟨j, hj, rfl⟩ := List.mem_iff_getElem.1 hp
    have hj' : j < L.length := by simpa using hj
    by_cases e : j = i
    · subst e; have := h.two _ (List.getElem_mem hlen); rw [hgi] at this; simpa using this
    · simp only [List.getElem_set, if_neg (Ne.symm e)]; exact h.two _ (List.getElem_mem hj')
/-- Some of the own blocks are passed over. -/
theorem Own.tail {w0 w : World} {L : List (Nat × Obj)} {p : Nat × Obj} (h : Own w0 (p :: L) w) (hp : w0.heap.size ≤ p.1) : Own w0 L w :=
  ⟨h.os, h.tape, h.output, h.size, fun k hk hn => h.old k hk fun q hq => by
    rcases List.mem_cons.1 hq with rfl | hq
    · omega
    · exact hn q hq, fun q hq => h.own q (List.mem_cons_of_mem _ hq), (List.nodup_cons.1 h.nd).2, fun q hq => h.two q (List.mem_cons_of_mem _ hq), h.base⟩
/-- All these blocks are new. -/
def NewL (B : Nat) : List (Nat × Obj) → Prop
  | [] => True
  | p :: r => B ≤ p.1 ∧ NewL B r
theorem NewL.all {B : Nat} : ∀ {L : List (Nat × Obj)}, NewL B L → ∀ p ∈ L, B ≤ p.1
  | [], _, p, hp => by cases hp
  | q :: r, h, p, hp => by
    rcases List.mem_cons.1 hp with rfl | hp
    · exact h.1
    · exact NewL.all h.2 p hp
theorem Own.toBelow' {w0 w : World} {L : List (Nat × Obj)} (h : Own w0 L w) (hL : ∀ p ∈ L, w0.heap.size ≤ p.1) : Below w0.heap.size w0 w :=
  ⟨h.os, h.tape, h.output, h.size, fun k hk => h.old k hk fun p hp => by have := hL p hp; omega⟩
theorem Own.toBelow {w0 w : World} {L : List (Nat × Obj)} (h : Own w0 L w) (hL : NewL w0.heap.size L) : Below w0.heap.size w0 w := h.toBelow' hL.all
theorem Own.cellO {w0 w : World} {L : List (Nat × Obj)} (h : Own w0 L w) (hL : NewL w0.heap.size L) {a : Addr} {v : Value} (hc : w0.cell? a = some v) : w.cell? a = some v :=
  ((h.toBelow hL).cell (World.block_lt_of_cell? _ _ hc)).trans hc
theorem Own.heapO {w0 w : World} {L : List (Nat × Obj)} (h : Own w0 L w) (hL : NewL w0.heap.size L) {b : Nat} {o : Obj} (hc : w0.heap[b]? = some o) : w.heap[b]? = some o :=
  ((h.toBelow hL).block b (lt_of_heap hc)).trans hc
theorem Own.good {w0 w : World} {L : List (Nat × Obj)} (h : Own w0 L w) (hG : Good w0) : Good w := by
  have h0 : w.heap[0]? = w0.heap[0]? := h.old 0 (by have := h.base; omega) fun p hp e => by have := h.two p hp; omega
  have h1 : w.heap[1]? = w0.heap[1]? := h.old 1 (by have := h.base; omega) fun p hp e => by have := h.two p hp; omega
  exact ⟨fun c hc => (World.cell?_of_block (w := w0) h0).trans (hG.1 c hc),
    fun i hi => ⟨(World.cell?_of_block (w := w0) h1).trans (hG.2 i hi).1, (World.cell?_of_block (w := w0) h1).trans (hG.2 i hi).2⟩⟩
end Ow
end Go.Proofs.YtclgplkkajfenaaGreatDoor
/- The calculus' rules: code, regions, loops, calls, ends. -/
  namespace Go.Proofs.YtclgplkkajfenaaGreatDoor
namespace Ow
open Go Go.RowKit
variable {P : Program} {ro : Option Nat} {n : Nat} {ops : Array Oper} {Q : Exit → Act → World → Prop} {N : Nat} {D : List Deferred} {e : Env} {w : World}

def Fc (ro : Option Nat) : Fence := { Fence.wide with round := ro }
theorem calls_Fc {f : FuncId} {args : Array Value} {R : Ending → World → Prop} (h : Calls P f args w R) : CallsIn (Fc ro) n P f args w R :=
  (callsIn_wide (n := n)).2 h

/-- Code, from what the temporaries and the world hold. -/
def SC (P : Program) (ro : Option Nat) (n : Nat) (c : Code) (Q : Exit → Act → World → Prop) (N : Nat) (D : List Deferred) (e : Env) (w : World) : Prop :=
  ∀ a : Act, a.tmps.size = N → a.defers = D → Fits e a → c.wpIn (Fc ro) n P Q a w
def SQ (Q : Exit → Act → World → Prop) (x : Exit) (N : Nat) (D : List Deferred) (e : Env) (w : World) : Prop :=
  ∀ a : Act, a.tmps.size = N → a.defers = D → Fits e a → Q x a w
def SO (P : Program) (ro : Option Nat) (n : Nat) (ops : Array Oper) (l : List Oper) (Q : Exit → Act → World → Prop) (N : Nat) (D : List Deferred) (e : Env) (w : World) : Prop :=
  ∀ a : Act, a.tmps.size = N → a.defers = D → Fits e a → wpListIn (Fc ro) n P ops Q l a w

theorem SC.cov {c : Code} {e' : Env} (hc : Cov e e') (h : SC P ro n c Q N D e' w) : SC P ro n c Q N D e w := fun a h1 h2 h3 => h a h1 h2 (h3.cov hc)
theorem SO.cov {l : List Oper} {e' : Env} (hc : Cov e e') (h : SO P ro n ops l Q N D e' w) : SO P ro n ops l Q N D e w := fun a h1 h2 h3 => h a h1 h2 (h3.cov hc)
theorem SQ.cov {x : Exit} {e' : Env} (hc : Cov e e') (h : SQ Q x N D e' w) : SQ Q x N D e w := fun a h1 h2 h3 => h a h1 h2 (h3.cov hc)

/-! ### Code -/
theorem SC.seq {x y : Code} (h : SC P ro n x (Exit.then (y.wpIn (Fc ro) n P Q) Q) N D e w) : SC P ro n (.seq x y) Q N D e w := fun a h1 h2 h3 => wpIn_seq (h a h1 h2 h3)
theorem SC.skip (h : SQ Q .normal N D e w) : SC P ro n .skip Q N D e w := fun a h1 h2 h3 => wpIn_skip (h a h1 h2 h3)
theorem SC.ret (h : SQ Q .ret N D e w) : SC P ro n .ret Q N D e w := fun a h1 h2 h3 => wpIn_ret (h a h1 h2 h3)
theorem SC.exit {id : Nat} (h : SQ Q (.exit id) N D e w) : SC P ro n (.exit id) Q N D e w := fun a h1 h2 h3 => wpIn_exit (h a h1 h2 h3)
theorem SC.block {id : Nat} {c : Code} (h : SC P ro n c (Exit.inBlock id Q) N D e w) : SC P ro n (.block id c) Q N D e w := fun a h1 h2 h3 => wpIn_block (h a h1 h2 h3)
theorem SC.region {id : Nat} {l : List Oper} (h : SO P ro n l.toArray l Q N D e w) : SC P ro n (.region id l.toArray false) Q N D e w := fun a h1 h2 h3 => wpIn_region_lit (h a h1 h2 h3)
theorem SC.yes {c : Operand} {x y : Code} (hc : ev e c = some (.bool true)) (h : SC P ro n x Q N D e w) : SC P ro n (.cond c x y) Q N D e w :=
  fun a h1 h2 h3 => wpIn_cond_true (ev_eval h3 hc) (h a h1 h2 h3)
theorem SC.no {c : Operand} {x y : Code} (hc : ev e c = some (.bool false)) (h : SC P ro n y Q N D e w) : SC P ro n (.cond c x y) Q N D e w :=
  fun a h1 h2 h3 => wpIn_cond_false (ev_eval h3 hc) (h a h1 h2 h3)
theorem SC.bool {c : Operand} {x y : Code} {b : Bool} (hc : ev e c = some (.bool b)) (h1 : b = true → SC P ro n x Q N D e w) (h2 : b = false → SC P ro n y Q N D e w) : SC P ro n (.cond c x y) Q N D e w := by
  cases b
  · exact SC.no hc (h2 rfl)
  · exact SC.yes hc (h1 rfl)
theorem SC.dec {c : Operand} {x y : Code} {p : Prop} [Decidable p] (hc : ev e c = some (.bool (decide p))) (h1 : p → SC P ro n x Q N D e w) (h2 : ¬ p → SC P ro n y Q N D e w) : SC P ro n (.cond c x y) Q N D e w := by
  by_cases hp : p
  · exact SC.yes (by rw [hc, decide_eq_true hp]) (h1 hp)
  · exact SC.no (by rw [hc, decide_eq_false hp]) (h2 hp)

theorem SQ.then_normal {y : Code} {Q' : Exit → Act → World → Prop} (h : SC P ro n y Q N D e w) : SQ (Exit.then (y.wpIn (Fc ro) n P Q) Q') .normal N D e w := h
theorem SQ.then_ret {K : Act → World → Prop} (h : SQ Q .ret N D e w) : SQ (Exit.then K Q) .ret N D e w := h
theorem SQ.then_exit {K : Act → World → Prop} {id : Nat} (h : SQ Q (.exit id) N D e w) : SQ (Exit.then K Q) (.exit id) N D e w := h
theorem SQ.block_normal {id : Nat} (h : SQ Q .normal N D e w) : SQ (Exit.inBlock id Q) .normal N D e w := h
theorem SQ.block_ret {id : Nat} (h : SQ Q .ret N D e w) : SQ (Exit.inBlock id Q) .ret N D e w := h
theorem SQ.block_exit {id : Nat} (h : SQ Q .normal N D e w) : SQ (Exit.inBlock id Q) (.exit id) N D e w := fun a h1 h2 h3 => by
  simp only [Exit.inBlock, if_true]; exact h a h1 h2 h3
theorem SQ.block_pass {id id' : Nat} (hne : Nat.beq id' id = false) (h : SQ Q (.exit id') N D e w) : SQ (Exit.inBlock id Q) (.exit id') N D e w := fun a h1 h2 h3 => by
  have : id' ≠ id := fun e => by subst e; simp at hne
  simp only [Exit.inBlock, if_neg this]; exact h a h1 h2 h3

/-! ### Loops: what holds at a round's head is said of a ghost x -/
def LoopK {α : Type} (I : α → Env) (M : α → World → Prop) (m : α → Nat) (x : α) (N : Nat) (D : List Deferred) : Act → World → Prop :=
  fun a w => ∃ x', m x' < m x ∧ Fits (I x') a ∧ a.tmps.size = N ∧ a.defers = D ∧ M x' w
theorem SQ.round {α : Type} {I : α → Env} {M : α → World → Prop} {m : α → Nat} {x : α} (x' : α) (hm : m x' < m x) (hc : Cov e (I x')) (hM : M x' w) :
    SQ (Exit.then (LoopK I M m x N D) Q) .normal N D e w := fun _ h1 h2 h3 => ⟨x', hm, h3.cov hc, h1, h2, hM⟩
theorem SC.loop {α : Type} {c : Code} (I : α → Env) (M : α → World → Prop) (m : α → Nat) (x₀ : α) (hc : Cov e (I x₀)) (h0 : M x₀ w)
    (round : ∀ x w, M x w → SC P ro n c (Exit.then (LoopK I M m x N D) Q) N D (I x) w) : SC P ro n (.loop c) Q N D e w := by
  intro a h1 h2 h3
  let Inv : Act → World → α → Prop := fun a w x => Fits (I x) a ∧ a.tmps.size = N ∧ a.defers = D ∧ M x w
  have least : ∀ a w, (∃ x, Inv a w x) → ∃ x, Inv a w x ∧ ∀ y, Inv a w y → m x ≤ m y := fun a w ⟨x, hx⟩ => by
    have key : ∀ k, ∀ x, m x = k → Inv a w x → ∃ x, Inv a w x ∧ ∀ y, Inv a w y → m x ≤ m y := by
      intro k
      induction k using Nat.strongRecOn with
      | _ k ih =>
        intro x hk hx
        by_cases h : ∃ y, Inv a w y ∧ m y < m x
        · obtain ⟨y, hy, hlt⟩ := h
          exact ih (m y) (by omega) y rfl hy
        · exact ⟨x, hx, fun y hy => Nat.le_of_not_lt fun hlt => h ⟨y, hy, hlt⟩⟩
    exact key _ x rfl hx
  let μ : Act → World → Nat := fun a w => open Classical in if h : ∃ x, Inv a w x then m (Classical.choose (least a w h)) else 0
  refine wpIn_loop (fun a w => ∃ x, Inv a w x) μ ⟨x₀, h3.cov hc, h1, h2, h0⟩ fun a w hI => ?_
  have hch := Classical.choose_spec (least a w hI)
  have hμ : μ a w = m (Classical.choose (least a w hI)) := by simp only [μ]; rw [dif_pos hI]
  revert hch hμ
  generalize Classical.choose (least a w hI) = x
  intro ⟨⟨f1, f2, f3, f4⟩, _⟩ hμ
  refine wpIn_mono (round x w f4 a f2 f3 f1) fun ex a' w' hq => ?_
  cases ex with
  | normal =>
    obtain ⟨x', hm, g1, g2, g3, g4⟩ := hq
    have hI' : ∃ x, Inv a' w' x := ⟨x', g1, g2, g3, g4⟩
    refine ⟨hI', ?_⟩
    have hle := (Classical.choose_spec (least a' w' hI')).2 x' ⟨g1, g2, g3, g4⟩
    have : μ a' w' = m (Classical.choose (least a' w' hI')) := by simp only [μ]; rw [dif_pos hI']
    show μ a' w' < μ a w
    omega
  | _ => exact hq

/-! ### Operations -/
/-- What an operation does, from what the temporaries hold. -/
def Res (P : Program) (e : Env) (o : Oper) (w : World) (r : Result Next) : Prop := ∀ a : Act, Fits e a → (execOp a.eval o).run P w = r
def plainOp : Op → Bool | .defer _ => false | .select .. => false | _ => true
theorem semAt_plain {o : Oper} (h : plainOp o.op = true) (ρ : Operand → Value) : o.semAt ro ρ = execOp ρ o :=
  Oper.semAt_eq ro ρ o fun c hc => by rw [hc] at h; cases h

/-- Is the operation carried out? -/
def gok (ops : Array Oper) (e : Env) (o : Oper) : Option Bool :=
  match o.guard with
  | none => some true
  | some (j, want) =>
    match (ops[j]?).bind (·.dst) with
    | some t => match look e t with
      | some (.bool b) => some (b == want)
      | some (.tuple _) => some false
      | _ => none
    | none => none
theorem gok_wanted {o : Oper} {b : Bool} (h : gok ops e o = some b) {a : Act} (hf : Fits e a) : Region.wanted o (yielded ops a.tmps) = b := by
  unfold gok at h
  unfold Region.wanted
  cases hg : o.guard with
  | none => rw [hg] at h; simpa using h
  | some g =>
    obtain ⟨j, want⟩ := g
    rw [hg] at h
    simp only at h ⊢
    cases hj : (ops[j]?).bind (·.dst) with
    | none => rw [hj] at h; cases h
    | some t =>
      rw [hj] at h
      simp only at h
      cases hl : look e t with
      | none => rw [hl] at h; cases h
      | some v =>
        rw [hl] at h
        cases v <;> simp only [reduceCtorEq] at h
        · rename_i b'
          have := hf _ _ hl
          simp only [yielded, hj, Option.bind_some, this]
          injection h
        · have := hf _ _ hl
          simp only [yielded, hj, Option.bind_some, this]
          injection h

theorem SO.nil (h : SQ Q .normal N D e w) : SO P ro n ops [] Q N D e w := fun a h1 h2 h3 => h a h1 h2 h3
theorem wideFn (f : FuncId) : (Fc ro).fn f := trivial

theorem SO.val {o : Oper} {l : List Oper} {d : Nat} {v : Value} {w' : World} (hg : gok ops e o = some true) (hp : plainOp o.op = true) (hd : o.dst = some d) (hN : Nat.blt d N = true)
    (hr : Res P e o w (.ok (.value v) w')) (h : SO P ro n ops l Q N D ((d, v) :: e) w') : SO P ro n ops (o :: l) Q N D e w := by
  intro a h1 h2 h3
  unfold wpListIn
  rw [if_pos (gok_wanted hg h3)]
  refine ⟨fun f _ => wideFn f, ?_⟩
  show o.uponIn (Fc ro) n P a _ Q ((o.semAt ro a.eval).run P w)
  rw [semAt_plain hp, hr a h3, Oper.uponIn_value, hd]
  have hN' : d < N := Nat.le_of_ble_eq_true hN
  exact h _ (by rw [size_put]; exact h1) (by rw [defers_put]; exact h2) (h3.put (by omega))
theorem SO.eff {o : Oper} {l : List Oper} {w' : World} (hg : gok ops e o = some true) (hp : plainOp o.op = true) (hd : o.dst = none)
    (hr : Res P e o w (.ok .skip w')) (h : SO P ro n ops l Q N D e w') : SO P ro n ops (o :: l) Q N D e w := by
  intro a h1 h2 h3
  unfold wpListIn
  rw [if_pos (gok_wanted hg h3)]
  refine ⟨fun f _ => wideFn f, ?_⟩
  show o.uponIn (Fc ro) n P a _ Q ((o.semAt ro a.eval).run P w)
  rw [semAt_plain hp, hr a h3, Oper.uponIn_skip, hd]
  exact h a h1 h2 h3
theorem SO.pass {o : Oper} {l : List Oper} {d : Nat} (hg : gok ops e o = some false) (hd : o.dst = some d) (hN : Nat.blt d N = true)
    (h : SO P ro n ops l Q N D ((d, undef) :: e) w) : SO P ro n ops (o :: l) Q N D e w := by
  intro a h1 h2 h3
  unfold wpListIn
  rw [if_neg (by rw [gok_wanted hg h3]; decide)]
  refine ⟨fun f _ => wideFn f, ?_⟩
  rw [hd]
  have hN' : d < N := Nat.le_of_ble_eq_true hN
  exact h _ (by rw [size_put]; exact h1) (by rw [defers_put]; exact h2) (h3.put (by omega))
theorem SO.passN {o : Oper} {l : List Oper} (hg : gok ops e o = some false) (hd : o.dst = none)
    (h : SO P ro n ops l Q N D e w) : SO P ro n ops (o :: l) Q N D e w := by
  intro a h1 h2 h3
  unfold wpListIn
  rw [if_neg (by rw [gok_wanted hg h3]; decide)]
  refine ⟨fun f _ => wideFn f, ?_⟩
  rw [hd]
  exact h a h1 h2 h3
/-- A call, by its contract. -/
theorem SO.call {o : Oper} {l : List Oper} {d f : Nat} {args : Array Value} {w1 : World} {R : Ending → World → Prop} (hg : gok ops e o = some true) (hp : plainOp o.op = true) (hd : o.dst = some d) (hN : Nat.blt d N = true)
    (hr : Res P e o w (.ok (.enter f args) w1)) (hc : Calls P f args w1 R)
    (h : ∀ x w', R x w' → ∃ v, x = .returned v ∧ SO P ro n ops l Q N D ((d, v) :: e) w') : SO P ro n ops (o :: l) Q N D e w := by
  intro a h1 h2 h3
  unfold wpListIn
  rw [if_pos (gok_wanted hg h3)]
  refine ⟨fun f _ => wideFn f, ?_⟩
  show o.uponIn (Fc ro) n P a _ Q ((o.semAt ro a.eval).run P w)
  rw [semAt_plain hp, hr a h3, Oper.uponIn_enter, hd]
  have hN' : d < N := Nat.le_of_ble_eq_true hN
  refine ⟨fun h => by simp [Fc, Fence.wide] at h, (calls_Fc hc).mono fun x w' hx => ?_⟩
  obtain ⟨v, rfl, hk⟩ := h x w' hx
  exact hk _ (by rw [size_put]; exact h1) (by rw [defers_put]; exact h2) (h3.put (by omega))
/-- A bool in a temporary: one way or the other. -/
theorem SO.bool {l : List Oper} (t : Nat) {b : Bool} (hl : look e t = some (.bool b)) (h1 : b = true → SO P ro n ops l Q N D ((t, .bool true) :: e) w)
    (h2 : b = false → SO P ro n ops l Q N D ((t, .bool false) :: e) w) : SO P ro n ops l Q N D e w := by
  intro a g1 g2 g3
  cases b
  · refine h2 rfl a g1 g2 fun k v hk => ?_
    by_cases e' : t = k
    · subst e'; rw [look_same] at hk; cases hk; exact g3 _ _ hl
    · rw [look_other _ _ e'] at hk; exact g3 _ _ hk
  · refine h1 rfl a g1 g2 fun k v hk => ?_
    by_cases e' : t = k
    · subst e'; rw [look_same] at hk; cases hk; exact g3 _ _ hl
    · rw [look_other _ _ e'] at hk; exact g3 _ _ hk
theorem SO.dec {l : List Oper} (t : Nat) {p : Prop} [Decidable p] (hl : look e t = some (.bool (decide p))) (h1 : p → SO P ro n ops l Q N D ((t, .bool true) :: e) w)
    (h2 : ¬ p → SO P ro n ops l Q N D ((t, .bool false) :: e) w) : SO P ro n ops l Q N D e w :=
  SO.bool t hl (fun h => h1 (of_decide_eq_true h)) (fun h => h2 (of_decide_eq_false h))

/-! ### Into a function and out of it -/
def argEnv : List Value → Nat → Env
  | [], _ => []
  | v :: r, k => (k, v) :: argEnv r (k + 1)
theorem argEnv_look (l : List Value) : ∀ k t v, look (argEnv l k) t = some v → k ≤ t ∧ l[t - k]? = some v := by
  induction l with
  | nil => intro k t v h; simp [argEnv, look] at h
  | cons x r ih =>
    intro k t v h
    by_cases e : k = t
    · subst e; rw [argEnv, look_same] at h; cases h; simp
    · rw [argEnv, look_other _ _ e] at h
      obtain ⟨h1, h2⟩ := ih _ _ _ h
      refine ⟨by omega, ?_⟩
      rw [show t - k = (t - (k + 1)) + 1 by omega]
      simpa using h2
theorem enter {f : FuncId} {fn : Func} {c : Code} {args : List Value} {N : Nat} {R : Ending → World → Prop} (hf : P.funcs[f]? = some fn) (hb : fn.body = some c) (hN : fn.ntmps = N)
    (hl : Nat.ble args.length N = true) (n : Nat) (h : SC P none n c (bodyPost P fn R) N [] (argEnv args 0) w) : Calls P f args.toArray w R := by
  refine (callsIn_wide (n := n)).1 ?_
  have hl' : args.length ≤ N := Nat.le_of_ble_eq_true hl
  refine callsIn_of_wp hf hb trivial (h _ ?_ rfl ?_) rfl
  · simp [hN]; omega
  · intro t v ht
    obtain ⟨_, h2⟩ := argEnv_look _ _ _ _ ht
    have hlt : t < args.length := by
      rcases Nat.lt_or_ge t args.length with h' | h'
      · exact h'
      · rw [Nat.sub_zero, List.getElem?_eq_none h'] at h2; cases h2
    show (args.toArray ++ Array.replicate _ undef)[t]? = some v
    rw [Array.getElem?_append_left (by simpa using hlt)]
    simpa using h2

theorem SQ.out {fn : Func} {R : Ending → World → Prop} {v : Value} {x : Exit} (hx : x = .ret ∨ x = .normal)
    (hr : ∀ a : Act, Fits e a → (results fn a.tmps).run P w = .ok v w) (hR : R (.returned v) w) : SQ (bodyPost P fn R) x N [] e w := by
  intro a _ h2 h3
  rcases hx with rfl | rfl
  · exact ⟨h2, v, hr a h3, hR⟩
  · exact ⟨h2, v, hr a h3, hR⟩
theorem fits_getD {a : Act} (h : Fits e a) {t : Nat} {v : Value} (hl : look e t = some v) : a.tmps.getD t undef = v := by
  have := h _ _ hl; simp [Array.getD_eq_getD_getElem?, this]
theorem res0 {fn : Func} (h : fn.results = #[]) (a : Act) (_ : Fits e a) : (results fn a.tmps).run P w = .ok (.tuple #[]) w := results_none h _ _ _
theorem res1 {fn : Func} {t : Nat} {v : Value} (h : fn.results = #[.tmp t]) (hl : look e t = some v) (a : Act) (hf : Fits e a) : (results fn a.tmps).run P w = .ok v w := by
  rw [results_tmp h, fits_getD hf hl]
theorem res2 {fn : Func} {t u : Nat} {v v' : Value} (h : fn.results = #[.tmp t, .tmp u]) (hl : look e t = some v) (hl' : look e u = some v') (a : Act) (hf : Fits e a) :
    (results fn a.tmps).run P w = .ok (.tuple #[v, v']) w := by
  rw [results_tmp2 h, fits_getD hf hl, fits_getD hf hl']
theorem res3 {fn : Func} {t u x : Nat} {v v' v2 : Value} (h : fn.results = #[.tmp t, .tmp u, .tmp x]) (hl : look e t = some v) (hl' : look e u = some v') (hl2 : look e x = some v2) (a : Act) (hf : Fits e a) :
    (results fn a.tmps).run P w = .ok (.tuple #[v, v', v2]) w := by
  have h0 := hf _ _ hl; have h1 := hf _ _ hl'; have h2 := hf _ _ hl2
  simp [results, h, h0, h1, h2, go_sem]
theorem res4 {fn : Func} {t u x y : Nat} {v v' v2 v3 : Value} (h : fn.results = #[.tmp t, .tmp u, .tmp x, .tmp y]) (hl : look e t = some v) (hl' : look e u = some v') (hl2 : look e x = some v2) (hl3 : look e y = some v3) (a : Act) (hf : Fits e a) :
    (results fn a.tmps).run P w = .ok (.tuple #[v, v', v2, v3]) w := by
  have h0 := hf _ _ hl; have h1 := hf _ _ hl'; have h2 := hf _ _ hl2; have h3 := hf _ _ hl3
  simp [results, h, h0, h1, h2, h3, go_sem]
end Ow
end Go.Proofs.YtclgplkkajfenaaGreatDoor
/- The calculus' operations, one lemma each. -/
  namespace Go.Proofs.YtclgplkkajfenaaGreatDoor
namespace Ow
open Go Go.RowKit
variable {P : Program} {ro : Option Nat} {n : Nat} {ops : Array Oper} {Q : Exit → Act → World → Prop} {N : Nat} {D : List Deferred} {e : Env} {w : World} {o : Oper}

theorem Res.move {x : Operand} {v : Value} (ho : o.op = .move x) (hx : ev e x = some v) : Res P e o w (.ok (.value v) w) := fun a h => by
  unfold execOp; rw [ho]; simp only [ev_eval h hx]; simp
theorem Res.assign {x : Operand} {v : Value} (ho : o.op = .assign x) (hx : ev e x = some v) : Res P e o w (.ok (.value v) w) := fun a h => by
  unfold execOp; rw [ho]; simp only [ev_eval h hx]; simp
theorem Res.pickT {c x y : Operand} {v : Value} (ho : o.op = .pick c x y) (hc : ev e c = some (.bool true)) (hx : ev e x = some v) : Res P e o w (.ok (.value v) w) := fun a h => by
  unfold execOp; rw [ho]; simp only [ev_eval h hx, ev_eval h hc]; simp [asBool, go_sem]
theorem Res.pickF {c x y : Operand} {v : Value} (ho : o.op = .pick c x y) (hc : ev e c = some (.bool false)) (hx : ev e y = some v) : Res P e o w (.ok (.value v) w) := fun a h => by
  unfold execOp; rw [ho]; simp only [ev_eval h hx, ev_eval h hc]; simp [asBool, go_sem]
theorem Res.extract {x : Operand} {i : Nat} {vs : Array Value} {v : Value} (ho : o.op = .extract x i) (hx : ev e x = some (.tuple vs)) (hi : vs[i]? = some v) : Res P e o w (.ok (.value v) w) := fun a h => by
  unfold execOp; rw [ho]; simp only [ev_eval h hx]; simp [Instr.extract, hi, go_sem]
theorem Res.not {x : Operand} {T : TypeId} {b : Bool} (ho : o.op = .unOp .not T x) (hx : ev e x = some (.bool b)) : Res P e o w (.ok (.value (.bool (!b))) w) := fun a h => by
  unfold execOp; rw [ho]; simp only [ev_eval h hx]; simp [Op.unary, go_sem]
theorem Res.nilCheck {x : Operand} {p : Addr} (ho : o.op = .nilCheck x) (hx : ev e x = some (.pointer (some p))) : Res P e o w (.ok (.value (.pointer (some p))) w) := fun a h => by
  unfold execOp; rw [ho]; simp only [ev_eval h hx]; simp [go_sem]

/-! #### numbers -/
theorem Res.bin {op : BinOp} {T yT : TypeId} {x y : Operand} {vx vy v : Value} (ho : o.op = .binOp op T x y yT) (hx : ev e x = some vx) (hy : ev e y = some vy)
    (hg : (eqGuard op T x y vx vy).run P w = .ok () w) (hr : (binOp op T vx vy).run P w = .ok v w) : Res P e o w (.ok (.value v) w) := fun a h => by
  unfold execOp; rw [ho]; simp only [ev_eval h hx, ev_eval h hy]; simp [hg, hr, Sem.run_bind, Result.andThen, go_sem]
theorem guard_int {op : BinOp} {T : TypeId} {x y : Operand} {k j : IntKind} {a b : Int} : (eqGuard op T x y (.int k a) (.int j b)).run P w = .ok () w := by
  cases op <;> simp [eqGuard, go_sem]
theorem guard_str {op : BinOp} {T : TypeId} {x y : Operand} {s t : ByteArray} : (eqGuard op T x y (.string s) (.string t)).run P w = .ok () w := by
  cases op <;> simp [eqGuard, go_sem]
theorem guard_ptr {op : BinOp} {T : TypeId} {x y : Operand} {p q : Option Addr} : (eqGuard op T x y (.pointer p) (.pointer q)).run P w = .ok () w := by
  cases op <;> simp [eqGuard, go_sem]

section
variable {T yT : TypeId} {x y : Operand} {k : IntKind} {a b : Int}
theorem Res.addW (ho : o.op = .binOp .add T x y yT) (hx : ev e x = some (.int k a)) (hy : ev e y = some (.int k b)) : Res P e o w (.ok (.value (.int k (k.wrap (a + b)))) w) :=
  .bin ho hx hy guard_int (by simp [go_sem])
theorem Res.subW (ho : o.op = .binOp .sub T x y yT) (hx : ev e x = some (.int k a)) (hy : ev e y = some (.int k b)) : Res P e o w (.ok (.value (.int k (k.wrap (a - b)))) w) :=
  .bin ho hx hy guard_int (by simp [go_sem])
theorem Res.mulW (ho : o.op = .binOp .mul T x y yT) (hx : ev e x = some (.int k a)) (hy : ev e y = some (.int k b)) : Res P e o w (.ok (.value (.int k (k.wrap (a * b)))) w) :=
  .bin ho hx hy guard_int (by simp [go_sem])
theorem Res.add (ho : o.op = .binOp .add T x y yT) (hx : ev e x = some (.int .i64 a)) (hy : ev e y = some (.int .i64 b)) (hb : -9223372036854775808 ≤ a + b ∧ a + b ≤ 9223372036854775807) : Res P e o w (.ok (.value (.int .i64 (a + b))) w) := by
  have := Res.addW (P := P) (w := w) ho hx hy
  rwa [IntWalk.i64_in _ hb] at this
theorem Res.sub (ho : o.op = .binOp .sub T x y yT) (hx : ev e x = some (.int .i64 a)) (hy : ev e y = some (.int .i64 b)) (hb : -9223372036854775808 ≤ a - b ∧ a - b ≤ 9223372036854775807) : Res P e o w (.ok (.value (.int .i64 (a - b))) w) := by
  have := Res.subW (P := P) (w := w) ho hx hy
  rwa [IntWalk.i64_in _ hb] at this
theorem Res.mul (ho : o.op = .binOp .mul T x y yT) (hx : ev e x = some (.int .i64 a)) (hy : ev e y = some (.int .i64 b)) (hb : -9223372036854775808 ≤ a * b ∧ a * b ≤ 9223372036854775807) : Res P e o w (.ok (.value (.int .i64 (a * b))) w) := by
  have := Res.mulW (P := P) (w := w) ho hx hy
  rwa [IntWalk.i64_in _ hb] at this
theorem Res.lss (ho : o.op = .binOp .lss T x y yT) (hx : ev e x = some (.int k a)) (hy : ev e y = some (.int k b)) : Res P e o w (.ok (.value (.bool (decide (a < b)))) w) :=
  .bin ho hx hy guard_int (by simp [go_sem])
theorem Res.leq (ho : o.op = .binOp .leq T x y yT) (hx : ev e x = some (.int k a)) (hy : ev e y = some (.int k b)) : Res P e o w (.ok (.value (.bool (decide (a ≤ b)))) w) :=
  .bin ho hx hy guard_int (by simp [go_sem])
theorem Res.gtr (ho : o.op = .binOp .gtr T x y yT) (hx : ev e x = some (.int k a)) (hy : ev e y = some (.int k b)) : Res P e o w (.ok (.value (.bool (decide (a > b)))) w) :=
  .bin ho hx hy guard_int (by simp [go_sem])
theorem Res.geq (ho : o.op = .binOp .geq T x y yT) (hx : ev e x = some (.int k a)) (hy : ev e y = some (.int k b)) : Res P e o w (.ok (.value (.bool (decide (a ≥ b)))) w) :=
  .bin ho hx hy guard_int (by simp [go_sem])
theorem Res.eql (ho : o.op = .binOp .eql T x y yT) (hx : ev e x = some (.int k a)) (hy : ev e y = some (.int k b)) : Res P e o w (.ok (.value (.bool (decide (a = b)))) w) :=
  .bin ho hx hy guard_int (by simp [go_sem]; rfl)
theorem Res.neq (ho : o.op = .binOp .neq T x y yT) (hx : ev e x = some (.int k a)) (hy : ev e y = some (.int k b)) : Res P e o w (.ok (.value (.bool (decide (a ≠ b)))) w) :=
  .bin ho hx hy guard_int (by simp [go_sem]; rfl)
theorem decT {p : Prop} [Decidable p] {w' : World} (h : Res P e o w (.ok (.value (.bool (decide p))) w')) (hp : p) : Res P e o w (.ok (.value (.bool true)) w') := by rwa [decide_eq_true hp] at h
theorem decF {p : Prop} [Decidable p] {w' : World} (h : Res P e o w (.ok (.value (.bool (decide p))) w')) (hp : ¬ p) : Res P e o w (.ok (.value (.bool false)) w') := by rwa [decide_eq_false hp] at h
theorem Res.quo (ho : o.op = .binOp .quo T x y yT) (hx : ev e x = some (.int .i64 a)) (hy : ev e y = some (.int .i64 b)) (ha : 0 ≤ a ∧ a ≤ 9223372036854775807) (hb : 1 ≤ b) : Res P e o w (.ok (.value (.int .i64 (a / b))) w) := by
  have hbz : b ≠ 0 := by omega
  have h1 : a.tdiv b = a / b := Int.tdiv_eq_ediv_of_nonneg ha.1
  have h2 : 0 ≤ a / b := Int.ediv_nonneg ha.1 (by omega)
  have h3 : a / b ≤ a := Int.ediv_le_self _ ha.1
  refine .bin ho hx hy guard_int ?_
  have : IntKind.i64.wrap (a.tdiv b) = a / b := by rw [h1]; exact IntWalk.i64_in _ ⟨by omega, by omega⟩
  simp [go_sem, hbz, this]
end

/-! #### strings -/
section
variable {T yT : TypeId} {x y : Operand} {s t : ByteArray}
theorem toList_inj {s t : ByteArray} (h : s.toList = t.toList) : s = t := by
  rw [Lib.toList_data, Lib.toList_data] at h
  cases s; cases t; simp at h; subst h; rfl
theorem Res.strEq (ho : o.op = .binOp .eql T x y yT) (hx : ev e x = some (.string s)) (hy : ev e y = some (.string t)) : Res P e o w (.ok (.value (.bool (decide (s = t)))) w) :=
  .bin ho hx hy guard_str (by
    have : (s.toList == t.toList) = decide (s = t) := by
      by_cases h : s = t
      · subst h; simp
      · rw [decide_eq_false h]; simpa using fun h' => h (toList_inj h')
    simp [binOp, Op.stringOp, this])
theorem Res.strNe (ho : o.op = .binOp .neq T x y yT) (hx : ev e x = some (.string s)) (hy : ev e y = some (.string t)) : Res P e o w (.ok (.value (.bool (decide (s ≠ t)))) w) :=
  .bin ho hx hy guard_str (by
    have : (s.toList == t.toList) = decide (s = t) := by
      by_cases h : s = t
      · subst h; simp
      · rw [decide_eq_false h]; simpa using fun h' => h (toList_inj h')
    simp [binOp, Op.stringOp, this])
theorem Res.strAdd (ho : o.op = .binOp .add T x y yT) (hx : ev e x = some (.string s)) (hy : ev e y = some (.string t)) (hb : s.size + t.size ≤ 9223372036854775807) : Res P e o w (.ok (.value (.string (s ++ t))) w) :=
  .bin ho hx hy guard_str (by
    have : ¬ ((s.size + t.size : Nat) : Int) > IntKind.i64.max := by
      have : IntKind.i64.max = 9223372036854775807 := by decide
      rw [this]; omega
    simp only [binOp, Op.stringOp, if_neg this]; rfl)
end

/-! #### builtins -/
theorem Res.builtin1 {b : Builtin} {x : Operand} {vx v : Value} {ats : Array TypeId} {w' : World} (ho : o.op = .call { callee := .builtin b, args := [x].toArray, argTypes := ats }) (hx : ev e x = some vx)
    (hr : ∀ cs, (builtin b ats o.type cs #[vx]).run P w = .ok (.value v) w') : Res P e o w (.ok (.value v) w') := fun a h => by
  unfold execOp; rw [ho]
  simp only [resolve, List.map_toArray, List.map_cons, List.map_nil, ev_eval h hx, invoke, Sem.run_bind, Sem.run_pure, Result.andThen]
  exact hr _
theorem Res.builtin2 {b : Builtin} {x y : Operand} {vx vy v : Value} {ats : Array TypeId} {w' : World} (ho : o.op = .call { callee := .builtin b, args := [x, y].toArray, argTypes := ats }) (hx : ev e x = some vx) (hy : ev e y = some vy)
    (hr : ∀ cs, (builtin b ats o.type cs #[vx, vy]).run P w = .ok (.value v) w') : Res P e o w (.ok (.value v) w') := fun a h => by
  unfold execOp; rw [ho]
  simp only [resolve, List.map_toArray, List.map_cons, List.map_nil, ev_eval h hx, ev_eval h hy, invoke, Sem.run_bind, Sem.run_pure, Result.andThen]
  exact hr _
theorem Res.lenS {x : Operand} {s : ByteArray} {t : TypeId} (ho : o.op = .call { callee := .builtin .len, args := [x].toArray, argTypes := [t].toArray }) (hx : ev e x = some (.string s)) (hT : P.underlying t = some .string) :
    Res P e o w (.ok (.value (.int .i64 s.size)) w) :=
  .builtin1 ho hx fun cs => by simp [Builtin.len_, run_underlying hT, goInt, go_sem]
theorem Res.lenA {x : Operand} {p : Option Addr} {k c : Nat} {t E : TypeId} (ho : o.op = .call { callee := .builtin .len, args := [x].toArray, argTypes := [t].toArray }) (hx : ev e x = some (.slice p k c)) (hT : P.underlying t = some (.slice E)) :
    Res P e o w (.ok (.value (.int .i64 k)) w) :=
  .builtin1 ho hx fun cs => by simp [Builtin.len_, run_underlying hT, goInt, go_sem]
end Ow
end Go.Proofs.YtclgplkkajfenaaGreatDoor
/- The calculus' operations on memory; slicing; calls. -/
namespace Go.Proofs.YtclgplkkajfenaaGreatDoor
namespace Ow
open Go Go.RowKit
variable {P : Program} {ro : Option Nat} {n : Nat} {ops : Array Oper} {Q : Exit → Act → World → Prop} {N : Nat} {D : List Deferred} {e : Env} {w w0 : World} {o : Oper} {L : List (Nat × Obj)}
example (a b : Int) (h : 0 ≤ a) (h2 : a < b) : max a 0 = a ∧ min a b = a := by omega

theorem Res.maxI {x y : Operand} {k j : IntKind} {a b : Int} {ats : Array TypeId} (ho : o.op = .call { callee := .builtin .max, args := [x, y].toArray, argTypes := ats }) (hx : ev e x = some (.int k a)) (hy : ev e y = some (.int j b)) :
    Res P e o w (.ok (.value (.int k (max a b))) w) :=
  .builtin2 ho hx hy fun cs => by
    have : (if b > a then b else a) = max a b := by split <;> omega
    simp [go_sem, ← this]
theorem Res.minI {x y : Operand} {k j : IntKind} {a b : Int} {ats : Array TypeId} (ho : o.op = .call { callee := .builtin .min, args := [x, y].toArray, argTypes := ats }) (hx : ev e x = some (.int k a)) (hy : ev e y = some (.int j b)) :
    Res P e o w (.ok (.value (.int k (min a b))) w) :=
  .builtin2 ho hx hy fun cs => by
    have : (if b < a then b else a) = min a b := by split <;> omega
    simp [go_sem, ← this]

/-! #### blocks -/
theorem Res.alloc {T : TypeId} {z : Value} (ho : o.op = .alloc T) (hz : ∀ w, (zeroValue T).run P w = .ok z w) : Res P e o w (.ok (.value (.pointer (some ⟨w.heap.size, 0, none⟩))) (w.alloc (.cells z.cells T))) := fun a h => by
  unfold execOp; rw [ho]
  simp [Instr.alloc, hz, newVar, newRow, go_sem]
theorem Res.box {T : TypeId} {x : Operand} {v : Value} (ho : o.op = .box T x) (hx : ev e x = some v) : Res P e o w (.ok (.value (.pointer (some ⟨w.heap.size, 0, none⟩))) (w.alloc (.cells v.cells T))) := fun a h => by
  unfold execOp; rw [ho]; simp only [ev_eval h hx]
  simp [Instr.box, newVar, newRow, go_sem]
theorem SO.alloc {l : List Oper} {d : Nat} {T : TypeId} {z : Value} (hO : Own w0 L w) (hg : gok ops e o = some true) (ho : o.op = .alloc T) (hd : o.dst = some d) (hN : Nat.blt d N = true)
    (hz : ∀ w, (zeroValue T).run P w = .ok z w) (c : List Value) (hc : z.cells = c.toArray)
    (h : ∀ b w', w0.heap.size ≤ b → Own w0 ((b, .cells c.toArray T (0, 0)) :: L) w' → SO P ro n ops l Q N D ((d, .pointer (some ⟨b, 0, none⟩)) :: e) w') : SO P ro n ops (o :: l) Q N D e w :=
  .val hg (by rw [ho]; rfl) hd hN (.alloc ho hz) (h _ _ hO.size (hc ▸ hO.alloc _))
theorem SO.box {l : List Oper} {d : Nat} {T : TypeId} {x : Operand} {v : Value} (hO : Own w0 L w) (hg : gok ops e o = some true) (ho : o.op = .box T x) (hx : ev e x = some v) (hd : o.dst = some d) (hN : Nat.blt d N = true) (c : List Value) (hc : v.cells = c.toArray)
    (h : ∀ b w', w0.heap.size ≤ b → Own w0 ((b, .cells c.toArray T (0, 0)) :: L) w' → SO P ro n ops l Q N D ((d, .pointer (some ⟨b, 0, none⟩)) :: e) w') : SO P ro n ops (o :: l) Q N D e w :=
  .val hg (by rw [ho]; rfl) hd hN (.box ho hx) (h _ _ hO.size (hc ▸ hO.alloc _))

theorem cell_of {b : Nat} {c : Array Value} {T : TypeId} {fz : Nat × Nat} {i : Nat} (h : w.heap[b]? = some (.cells c T fz)) : w.cell? ⟨b, i, none⟩ = c[i]? := by
  simp [World.cell?, h]
theorem cell_of' {b : Nat} {c : Array Value} {T : TypeId} {fz : Nat × Nat} {i : Nat} {v : Value} (h : w.heap[b]? = some (.cells c T fz)) (hv : c[i]? = some v) : w.cell? ⟨b, i, none⟩ = some v := by
  rw [cell_of h, hv]

/-- A plain cell is read. -/
theorem Res.load {T : TypeId} {x : Operand} {p : Addr} {v : Value} (ho : o.op = .load T x) (hx : ev e x = some (.pointer (some p))) (hT : ∀ w, (isAgg T).run P w = .ok false w) (hc : w.cell? p = some v) :
    Res P e o w (.ok (.value v) w) := fun a h => by
  unfold execOp; rw [ho]; simp only [ev_eval h hx]
  simp [Instr.loadAt, Instr.sureAddr, loadVar, hT, hc, go_sem]
theorem run_loadCells (b off : Nat) (cs : List Value) : ∀ (i : Nat) (acc : Array Value) (rest : List Value), rest = cs.drop i → (∀ j v, cs[j]? = some v → w.cell? ⟨b, off + j, none⟩ = some v) →
    (loadCellsFrom ⟨b, off, none⟩ i rest.length acc).run P w = .ok (acc ++ rest.toArray) w := by
  intro i acc rest
  induction rest generalizing i acc with
  | nil => intro _ _; simp [loadCellsFrom]
  | cons v r ih =>
    intro hr hc
    have h0 : cs[i]? = some v := by
      have := congrArg (·[0]?) hr; simpa using this.symm
    have hcell := hc i v h0
    have hadd : w.cell? ((⟨b, off, none⟩ : Addr).add i) = some v := by
      unfold Addr.add; split
      · rename_i e; subst e; exact hcell
      · exact hcell
    have hr' : r = cs.drop (i + 1) := by
      have := congrArg (List.drop 1) hr; simpa using this
    simp only [List.length_cons, loadCellsFrom, Sem.run_bind, Go.load, Sem.run, hadd, Result.andThen]
    rw [ih (i + 1) (acc.push v) hr' hc]
    simp
/-- A struct is read. -/
theorem Res.loadN {T : TypeId} {x : Operand} {b off : Nat} {cs : List Value} (ho : o.op = .load T x) (hx : ev e x = some (.pointer (some ⟨b, off, none⟩))) (hT : ∀ w, (isAgg T).run P w = .ok true w)
    (hs : ∀ w, (sizeOf T).run P w = .ok cs.length w) (hc : ∀ j v, cs[j]? = some v → w.cell? ⟨b, off + j, none⟩ = some v) : Res P e o w (.ok (.value (.agg cs.toArray)) w) := fun a h => by
  unfold execOp; rw [ho]; simp only [ev_eval h hx]
  have := run_loadCells (P := P) b off cs 0 #[] cs (by simp) hc
  simp [Instr.loadAt, Instr.sureAddr, loadVar, hT, hs, loadCells, this, go_sem]
/-- .. out of a block of which all is known. -/
theorem Res.loadB {T E : TypeId} {x : Operand} {b off k : Nat} {c : List Value} {fz : Nat × Nat} (cs : List Value) (ho : o.op = .load T x) (hx : ev e x = some (.pointer (some ⟨b, off, none⟩))) (hT : ∀ w, (isAgg T).run P w = .ok true w)
    (hs : ∀ w, (sizeOf T).run P w = .ok k w) (hb : w.heap[b]? = some (.cells c.toArray E fz)) (hc : (c.drop off).take k = cs) (hk : cs.length = k) : Res P e o w (.ok (.value (.agg cs.toArray)) w) :=
  .loadN ho hx hT (by rw [hk]; exact hs) fun j v hj => by
    rw [cell_of hb]
    have h1 : j < cs.length := by
      rcases Nat.lt_or_ge j cs.length with h' | h'
      · exact h'
      · rw [List.getElem?_eq_none h'] at hj; cases hj
    rw [← hc, List.getElem?_take_of_lt (by omega), List.getElem?_drop] at hj
    simpa using hj

/-- The block's cells behind a store from off on. -/
def setRow : List Value → Nat → List Value → List Value
  | c, _, [] => c
  | c, off, v :: r => setRow (c.set off v) (off + 1) r
theorem setRow_length (vs : List Value) : ∀ c off, (setRow c off vs).length = c.length := by
  induction vs with
  | nil => intro c off; rfl
  | cons v r ih => intro c off; rw [setRow, ih]; simp
def plainV : Value → Bool | .agg _ => false | .tuple _ => false | _ => true
theorem run_store_plain {a : Addr} {v u : Value} (hv : plainV v = true) (hc : w.cell? a = some u) (hf : w.frozen? a = false) (k : Sem Unit) :
    (Sem.store .plain a v k).run P w = k.run P (w.setCell a v) := by
  cases v <;> first | (simp [Sem.run, hc, hf]; done) | (simp [plainV] at hv; done)
theorem run_storeCells (b off : Nat) (T : TypeId) (vs : List Value) : ∀ (i : Nat) (c : List Value) (w : World), w.heap[b]? = some (.cells c.toArray T (0, 0)) → off + i + vs.length ≤ c.length → (∀ v ∈ vs, plainV v = true) →
    ∃ w', (storeCells ⟨b, off, none⟩ vs i).run P w = .ok () w' ∧ w'.os = w.os ∧ w'.tape = w.tape ∧ w'.output = w.output ∧ w'.heap.size = w.heap.size ∧
      w'.heap[b]? = some (.cells (setRow c (off + i) vs).toArray T (0, 0)) ∧ ∀ k, k ≠ b → w'.heap[k]? = w.heap[k]? := by
  induction vs with
  | nil => intro i c w hb _ _; exact ⟨w, by simp [storeCells], rfl, rfl, rfl, rfl, hb, fun _ _ => rfl⟩
  | cons v r ih =>
    intro i c w hb hl hv
    have hlt : off + i < c.length := by simp at hl; omega
    have ha : ((⟨b, off, none⟩ : Addr).add i) = ⟨b, off + i, none⟩ := by
      unfold Addr.add; split
      · rename_i e; subst e; rfl
      · rfl
    have hc : w.cell? ⟨b, off + i, none⟩ = some c[off + i] := by rw [cell_of hb]; simp [hlt]
    have hf : w.frozen? ⟨b, off + i, none⟩ = false := by simp [World.frozen?, hb]
    have hw : (w.setCell ⟨b, off + i, none⟩ v).heap[b]? = some (.cells (c.set (off + i) v).toArray T (0, 0)) := by
      simp [World.setCell, Array.getElem?_modify, hb]
    have hw2 : ∀ k, k ≠ b → (w.setCell ⟨b, off + i, none⟩ v).heap[k]? = w.heap[k]? := fun k hk => by
      simp only [World.setCell, Array.getElem?_modify]; rw [if_neg (Ne.symm hk)]
    obtain ⟨w', h1, h2, h3, h4, h5, h6, h7⟩ := ih (i + 1) (c.set (off + i) v) _ hw (by simp at hl ⊢; omega) (fun u hu => hv u (List.mem_cons_of_mem _ hu))
    refine ⟨w', ?_, h2, h3, h4, by rw [h5]; simp [World.setCell], h6, fun k hk => (h7 k hk).trans (hw2 k hk)⟩
    simp only [storeCells, Go.store, Sem.run_bind, ha]
    rw [run_store_plain (hv v (List.mem_cons_self ..)) hc hf]
    simpa [Result.andThen] using h1
/-- Something is stored into a block of the call's own. -/
theorem SO.store {l : List Oper} {T E : TypeId} {x y : Operand} {b off i : Nat} {c : List Value} {v : Value} (hO : Own w0 L w) (hg : gok ops e o = some true) (ho : o.op = .store T x y) (hd : o.dst = none)
    (hx : ev e x = some (.pointer (some ⟨b, off, none⟩))) (hy : ev e y = some v) (hi : L[i]? = some (b, .cells c.toArray E (0, 0))) (hs : ∀ w, (sizeOf T).run P w = .ok v.cells.size w)
    (hl : Nat.ble (off + v.cells.size) c.length = true) (hv : v.cells.toList.all plainV = true) (L' : List (Nat × Obj)) (hL : L.set i (b, .cells (setRow c off v.cells.toList).toArray E (0, 0)) = L')
    (h : ∀ w', Own w0 L' w' → SO P ro n ops l Q N D e w') : SO P ro n ops (o :: l) Q N D e w := by
  subst hL
  have hb := hO.at hi
  obtain ⟨w', h1, h2, h3, h4, h5, h6, h7⟩ := run_storeCells (P := P) b off E v.cells.toList 0 c w hb (by have := Nat.le_of_ble_eq_true hl; simpa using this)
    (fun u hu => List.all_eq_true.1 hv u hu)
  refine .eff hg (by rw [ho]; rfl) hd (w' := w') ?_ (h w' (hO.set hi h2 h3 h4 h5 (by simpa using h6) h7))
  intro a hf
  unfold execOp; rw [ho]; simp only [ev_eval hf hx, ev_eval hf hy]
  simp only [Instr.storeAt, Instr.sureAddr, storeVar, Sem.run_bind, Sem.run_pure, Result.andThen, hs, ne_eq, not_true_eq_false, if_false, h1]

/-! #### places -/
theorem Res.fieldAddr {S : TypeId} {x : Operand} {f k : Nat} {b off : Nat} (ho : o.op = .fieldAddr S x f) (hx : ev e x = some (.pointer (some ⟨b, off, none⟩)))
    (hk : ∀ a w, (Instr.fieldAt S (.pointer (some a)) f).run P w = .ok (.pointer (some (a.add k))) w) : Res P e o w (.ok (.value (.pointer (some ⟨b, off + k, none⟩))) w) := fun a h => by
  unfold execOp; rw [ho]; simp only [ev_eval h hx]
  have : (⟨b, off, none⟩ : Addr).add k = ⟨b, off + k, none⟩ := by unfold Addr.add; split <;> simp_all
  simp only [Sem.run_bind, hk, this, Result.andThen, Sem.run_pure]
/-- Whatever operation's value is known outright. -/
theorem Res.instr1 {x : Operand} {vx v : Value} {w' : World} {i : Value → Sem Value} (ho : ∀ ρ, execOp ρ o = (do pure (.value (← i (ρ x))))) (hx : ev e x = some vx) (hr : (i vx).run P w = .ok v w') : Res P e o w (.ok (.value v) w') := fun a h => by
  rw [ho, ev_eval h hx]; simp [hr, go_sem]

/-! #### values made of others -/
def evP (e : Env) : List (Nat × Operand) → Option (List (Nat × Value))
  | [] => some []
  | (i, x) :: r => match ev e x, evP e r with | some v, some vs => some ((i, v) :: vs) | _, _ => none
theorem evP_map {a : Act} (h : Fits e a) : ∀ {l : List (Nat × Operand)} {vs : List (Nat × Value)}, evP e l = some vs → (l.map fun (i, x) => (i, a.eval x)) = vs := by
  intro l
  induction l with
  | nil => intro vs hv; simp [evP] at hv; simp [hv]
  | cons x r ih =>
    intro vs hv
    simp only [evP] at hv
    split at hv
    · rename_i v vs' h1 h2
      cases hv
      simp [ev_eval h h1, ih h2]
    · cases hv
theorem Res.build {T : TypeId} {ps : List (Nat × Operand)} {vs : List (Nat × Value)} {v : Value} (ho : o.op = .build T ps.toArray) (hp : evP e ps = some vs) (hr : ∀ w, (Instr.build T vs.toArray).run P w = .ok v w) :
    Res P e o w (.ok (.value v) w) := fun a h => by
  unfold execOp; rw [ho]; simp only [List.map_toArray, evP_map h hp, Sem.run_bind, hr, Result.andThen, Sem.run_pure]
theorem Res.buildSlice {T E : TypeId} {k : Nat} {ps : List (Nat × Operand)} {vs : List (Nat × Value)} {c : List Value} (ho : o.op = .buildSlice T k ps.toArray) (hp : evP e ps = some vs)
    (hr : ∀ w, (Instr.buildSlice T k vs.toArray).run P w = .ok (.slice (some ⟨w.heap.size, 0, none⟩) k k) (w.alloc (.cells c.toArray E))) :
    Res P e o w (.ok (.value (.slice (some ⟨w.heap.size, 0, none⟩) k k)) (w.alloc (.cells c.toArray E))) := fun a h => by
  unfold execOp; rw [ho]; simp only [List.map_toArray, evP_map h hp, Sem.run_bind, hr, Result.andThen, Sem.run_pure]
theorem SO.buildSlice {l : List Oper} {d k : Nat} {T E : TypeId} {ps : List (Nat × Operand)} {vs : List (Nat × Value)} {c : List Value} (hO : Own w0 L w) (hg : gok ops e o = some true) (ho : o.op = .buildSlice T k ps.toArray) (hp : evP e ps = some vs) (hd : o.dst = some d) (hN : Nat.blt d N = true)
    (hr : ∀ w, (Instr.buildSlice T k vs.toArray).run P w = .ok (.slice (some ⟨w.heap.size, 0, none⟩) k k) (w.alloc (.cells c.toArray E)))
    (h : ∀ b w', w0.heap.size ≤ b → Own w0 ((b, .cells c.toArray E (0, 0)) :: L) w' → SO P ro n ops l Q N D ((d, .slice (some ⟨b, 0, none⟩) k k) :: e) w') : SO P ro n ops (o :: l) Q N D e w :=
  .val hg (by rw [ho]; rfl) hd hN (.buildSlice ho hp hr) (h _ _ hO.size (hO.alloc _))
theorem Res.field {T : TypeId} {x : Operand} {f : Nat} {vx v : Value} (ho : o.op = .field T x f) (hx : ev e x = some vx) (hr : ∀ w, (Instr.field T vx f).run P w = .ok v w) :
    Res P e o w (.ok (.value v) w) := fun a h => by
  unfold execOp; rw [ho]; simp only [ev_eval h hx, Sem.run_bind, hr, Result.andThen, Sem.run_pure]
theorem Res.iface {T : TypeId} {x : Operand} {v : Value} (ho : o.op = .makeInterface T x) (hx : ev e x = some v) (hr : ∀ v w, (Instr.makeInterface T v).run P w = .ok (.iface T v) w) :
    Res P e o w (.ok (.value (.iface T v)) w) := fun a h => by
  unfold execOp; rw [ho]; simp only [ev_eval h hx, Sem.run_bind, hr, Result.andThen, Sem.run_pure]
theorem Res.notD {x : Operand} {T : TypeId} {p : Prop} [Decidable p] (ho : o.op = .unOp .not T x) (hx : ev e x = some (.bool (decide p))) : Res P e o w (.ok (.value (.bool (decide (¬ p)))) w) := by
  have := Res.not (P := P) (w := w) ho hx
  rwa [show (!decide p) = decide (¬ p) by by_cases h : p <;> simp [h]] at this

/-! #### pieces of strings -/
theorem Res.sliceLH {T : TypeId} {x lo hi : Operand} {s : ByteArray} {k j : IntKind} {a b : Int} (ho : o.op = .slice T x (some lo) (some hi) none) (hx : ev e x = some (.string s)) (hl : ev e lo = some (.int k a)) (hh : ev e hi = some (.int j b))
    (hT : P.underlying T = some .string) (hb : 0 ≤ a ∧ a ≤ b ∧ b ≤ s.size) : Res P e o w (.ok (.value (.string (s.extract a.toNat b.toNat))) w) := fun q h => by
  unfold execOp; rw [ho]; simp only [ev_eval h hx, Option.map_some, ev_eval h hl, ev_eval h hh, Option.map_none]
  have e1 : (b.toNat : Int) = b := by omega
  simp [Instr.sliceAt, Instr.slice, run_underlying hT, Instr.sliceBounds, run_sliceBound, go_sem, hb, e1, (by omega : 0 ≤ b)]
theorem Res.sliceL {T : TypeId} {x lo : Operand} {s : ByteArray} {k : IntKind} {a : Int} (ho : o.op = .slice T x (some lo) none none) (hx : ev e x = some (.string s)) (hl : ev e lo = some (.int k a))
    (hT : P.underlying T = some .string) (hb : 0 ≤ a ∧ a ≤ s.size) : Res P e o w (.ok (.value (.string (s.extract a.toNat s.size))) w) := fun q h => by
  unfold execOp; rw [ho]; simp only [ev_eval h hx, Option.map_some, ev_eval h hl, Option.map_none]
  simp [Instr.sliceAt, Instr.slice, run_underlying hT, Instr.sliceBounds, run_sliceBound, go_sem, hb]
theorem Res.sliceH {T : TypeId} {x hi : Operand} {s : ByteArray} {k : IntKind} {b : Int} (ho : o.op = .slice T x none (some hi) none) (hx : ev e x = some (.string s)) (hh : ev e hi = some (.int k b))
    (hT : P.underlying T = some .string) (hb : 0 ≤ b ∧ b ≤ s.size) : Res P e o w (.ok (.value (.string (s.extract 0 b.toNat))) w) := fun q h => by
  unfold execOp; rw [ho]; simp only [ev_eval h hx, Option.map_some, ev_eval h hh, Option.map_none]
  simp [Instr.sliceAt, Instr.slice, run_underlying hT, Instr.sliceBounds, run_sliceBound, go_sem, hb]

/-! #### calls -/
def evL (e : Env) : List Operand → Option (List Value)
  | [] => some []
  | x :: r => match ev e x, evL e r with | some v, some vs => some (v :: vs) | _, _ => none
theorem evL_map {a : Act} (h : Fits e a) : ∀ {l : List Operand} {vs : List Value}, evL e l = some vs → l.map a.eval = vs := by
  intro l
  induction l with
  | nil => intro vs hv; simp [evL] at hv; simp [hv]
  | cons x r ih =>
    intro vs hv
    simp only [evL] at hv
    split at hv
    · rename_i v vs' h1 h2
      cases hv
      simp [ev_eval h h1, ih h2]
    · cases hv
/-- A named function is called. -/
theorem Res.callF {f : FuncId} {l : List Operand} {vs : List Value} {ats : Array TypeId} (ho : o.op = .call { callee := .value (.func f), args := l.toArray, argTypes := ats }) (hl : evL e l = some vs)
    (he : ∀ args w, (callFunc f args).run P w = .ok (.enter f args) w) : Res P e o w (.ok (.enter f vs.toArray) w) := fun a h => by
  unfold execOp; rw [ho]
  simp only [resolve, List.map_toArray, evL_map h hl, Act.eval, Deferred.ofValue, invoke, Sem.run_bind, Sem.run_pure, Result.andThen]
  simpa using he _ _
/-- A function value is called. -/
theorem Res.callV {x : Operand} {f : FuncId} {l : List Operand} {vs : List Value} {fs cs : Array Value} {ats : Array TypeId} (ho : o.op = .call { callee := .value x, args := l.toArray, argTypes := ats }) (hx : ev e x = some (.func (.func f) fs cs)) (hl : evL e l = some vs)
    (he : ∀ args w, (callFunc f args).run P w = .ok (.enter f args) w) : Res P e o w (.ok (.enter f (fs ++ vs.toArray ++ cs)) w) := fun a h => by
  unfold execOp; rw [ho]
  simp only [resolve, List.map_toArray, evL_map h hl, ev_eval h hx, Deferred.ofValue, invoke, Sem.run_bind, Sem.run_pure, Result.andThen]
  exact he _ _
/-- A method of an interface value is called: f is the one of its dynamic type. -/
theorem Res.callI {x : Operand} {name : String} {T : TypeId} {v r : Value} {f : FuncId} {l : List Operand} {vs : List Value} {ats : Array TypeId} (ho : o.op = .call { callee := .invoke x name, args := l.toArray, argTypes := ats }) (hx : ev e x = some (.iface T v)) (hl : evL e l = some vs)
    (hm : ∀ w, (method (P.types.size + Made.depth) T v name).run P w = .ok (f, r) w)
    (he : ∀ args w, (callFunc f args).run P w = .ok (.enter f args) w) : Res P e o w (.ok (.enter f (r :: vs).toArray) w) := fun a h => by
  unfold execOp; rw [ho]
  simp only [resolve, List.map_toArray, evL_map h hl, ev_eval h hx, invoke, Sem.run_bind, Sem.run_pure, Result.andThen]
  have := hm w
  rw [show Made.depth = 100 from rfl] at this
  simp [callMethod, program, Sem.run, Sem.run_bind, Result.andThen, go_sem]
  rw [this]
  exact he _ _
end Ow
end Go.Proofs.YtclgplkkajfenaaGreatDoor
/- The calculus' rules for regions that draw their order, and for ways that meet again. -/
  namespace Go.Proofs.YtclgplkkajfenaaGreatDoor
namespace Ow
open Go Go.RowKit
variable {P : Program} {ro : Option Nat} {n : Nat} {ops : Array Oper} {Q : Exit → Act → World → Prop} {N : Nat} {D : List Deferred} {e : Env} {w w0 : World} {o : Oper} {L : List (Nat × Obj)}

/-! ### Ways that meet again -/
def CutK {α : Type} (I : α → Env) (M : α → World → Prop) (N : Nat) (D : List Deferred) : Act → World → Prop :=
  fun a w => ∃ x, Fits (I x) a ∧ a.tmps.size = N ∧ a.defers = D ∧ M x w
theorem SC.cut {α : Type} {x y : Code} (I : α → Env) (M : α → World → Prop) (h1 : SC P ro n x (Exit.then (CutK I M N D) Q) N D e w) (h2 : ∀ u w, M u w → SC P ro n y Q N D (I u) w) : SC P ro n (.seq x y) Q N D e w :=
  SC.seq fun a g1 g2 g3 => wpIn_mono (h1 a g1 g2 g3) fun ex a' w' hq => by
    cases ex with
    | normal => obtain ⟨u, f1, f2, f3, f4⟩ := hq; exact h2 u w' f4 a' f2 f3 f1
    | _ => exact hq
theorem SQ.cut {α : Type} {I : α → Env} {M : α → World → Prop} (u : α) (hc : Cov e (I u)) (hM : M u w) : SQ (Exit.then (CutK I M N D) Q) .normal N D e w :=
  fun _ h1 h2 h3 => ⟨u, h3.cov hc, h1, h2, hM⟩

/-! ### A region that draws its order -/
def SA (P : Program) (ops : Array Oper) (Q : Exit → Act → World → Prop) (S : World → Prop) (fuel : Nat) (listed : Array Bool) (N : Nat) (D : List Deferred) (e : Env) (w : World) : Prop :=
  ∀ a : Act, a.tmps.size = N → a.defers = D → Fits e a → wpAnyH P .any ops Q S fuel listed a w
def SB (P : Program) (ops : Array Oper) (Q : Exit → Act → World → Prop) (S : World → Prop) (i : Nat) (fuel : Nat) (listed : Array Bool) (N : Nat) (D : List Deferred) (e : Env) (w : World) : Prop :=
  ∀ a : Act, a.tmps.size = N → a.defers = D → Fits e a → wpOp P ops Q i (fun a' w' => S w' ∧ wpAnyH P .any ops Q S fuel (listed.setIfInBounds i true) a' w') a w

theorem SC.draw {id : Nat} {l : List Oper} (hm : P.follows .mixedOrders = true) (S : World → Prop) (h : SA P l.toArray Q S l.length (Array.replicate l.length false) N D e w.drew) : SC P none n (.region id l.toArray true) Q N D e w :=
  fun a h1 h2 h3 => (wpIn_wide (n := n)).2 (wp_region_held (S := S) hm (by simpa using h a h1 h2 h3))
theorem SC.drawO {id : Nat} {l : List Oper} (hm : P.follows .mixedOrders = true) (hO : Own w0 L w) (h : Own w0 L w.drew → SA P l.toArray Q (fun v => Own w0 L v) l.length (Array.replicate l.length false) N D e w.drew) : SC P none n (.region id l.toArray true) Q N D e w :=
  SC.draw hm _ (h hO.drew)

variable {S : World → Prop} {fuel i : Nat} {listed : Array Bool}
theorem SA.take {d : Nat} {v : Value} (hs : Region.noSelect ops = true) (i : Nat) (hi : ops[i]? = some o) (hf : Region.free .any ops listed i = true) (hr : (Region.ready .any ops listed).contains i = true)
    (hd : o.dst = some d) (hN : Nat.blt d N = true) (hQ : ∀ c a w, Q (.panic c) (a.put (some d) v) w → Q (.panic c) a w) (hg : gok ops e o = some true) (hS : S w)
    (hv : ∀ w', S w' → Res P e o w' (.ok (.value v) w')) (h : SA P ops Q S fuel (listed.setIfInBounds i true) N D ((d, v) :: e) w) : SA P ops Q S (fuel + 1) listed N D e w := by
  intro a h1 h2 h3
  have hN' : d < N := Nat.le_of_ble_eq_true hN
  refine wpAnyH_take hi hs hf hr (by rw [hd]; exact hQ) (.inl ⟨gok_wanted hg h3, fun w' hw' => hv w' hw' a h3⟩) hS ?_
  rw [hd]
  exact h _ (by rw [size_put]; exact h1) (by rw [defers_put]; exact h2) (h3.put (by omega))
theorem SA.pass {d : Nat} (hs : Region.noSelect ops = true) (i : Nat) (hi : ops[i]? = some o) (hf : Region.free .any ops listed i = true) (hr : (Region.ready .any ops listed).contains i = true)
    (hd : o.dst = some d) (hN : Nat.blt d N = true) (hQ : ∀ c a w, Q (.panic c) (a.put (some d) undef) w → Q (.panic c) a w) (hg : gok ops e o = some false) (hS : S w)
    (h : SA P ops Q S fuel (listed.setIfInBounds i true) N D ((d, undef) :: e) w) : SA P ops Q S (fuel + 1) listed N D e w := by
  intro a h1 h2 h3
  have hN' : d < N := Nat.le_of_ble_eq_true hN
  refine wpAnyH_take (v := undef) hi hs hf hr (by rw [hd]; exact hQ) (.inr ⟨gok_wanted hg h3, rfl⟩) hS ?_
  rw [hd]
  exact h _ (by rw [size_put]; exact h1) (by rw [defers_put]; exact h2) (h3.put (by omega))
theorem SA.one (i : Nat) (hr : Region.ready .any ops listed = [i]) (h : SB P ops Q S i fuel listed N D e w) : SA P ops Q S (fuel + 1) listed N D e w := fun a h1 h2 h3 =>
  wpAnyH_all hr (by simp) fun j hj => by
    simp only [List.mem_cons, List.not_mem_nil, or_false] at hj; subst hj; exact h a h1 h2 h3
theorem SA.two (i j : Nat) (hr : Region.ready .any ops listed = [i, j]) (hi : SB P ops Q S i fuel listed N D e w) (hj : SB P ops Q S j fuel listed N D e w) : SA P ops Q S (fuel + 1) listed N D e w := fun a h1 h2 h3 =>
  wpAnyH_all hr (by simp) fun k hk => by
    simp only [List.mem_cons, List.not_mem_nil, or_false] at hk
    rcases hk with rfl | rfl
    · exact hi a h1 h2 h3
    · exact hj a h1 h2 h3
theorem SA.three (i j k : Nat) (hr : Region.ready .any ops listed = [i, j, k]) (hi : SB P ops Q S i fuel listed N D e w) (hj : SB P ops Q S j fuel listed N D e w) (hk : SB P ops Q S k fuel listed N D e w) : SA P ops Q S (fuel + 1) listed N D e w := fun a h1 h2 h3 =>
  wpAnyH_all hr (by simp) fun m hm => by
    simp only [List.mem_cons, List.not_mem_nil, or_false] at hm
    rcases hm with rfl | rfl | rfl
    · exact hi a h1 h2 h3
    · exact hj a h1 h2 h3
    · exact hk a h1 h2 h3
theorem SA.done (hr : Region.ready .any ops listed = []) (h : SQ Q .normal N D e w) : SA P ops Q S fuel listed N D e w := fun a h1 h2 h3 => wpAnyH_done hr (h a h1 h2 h3) fuel
/-- A bool in a temporary: one way or the other. -/
theorem SA.dec (t : Nat) {p : Prop} [Decidable p] (hl : look e t = some (.bool (decide p))) (h1 : p → SA P ops Q S fuel listed N D ((t, .bool true) :: e) w)
    (h2 : ¬ p → SA P ops Q S fuel listed N D ((t, .bool false) :: e) w) : SA P ops Q S fuel listed N D e w := by
  have key : ∀ b, look e t = some (.bool b) → ∀ a : Act, Fits e a → Fits ((t, .bool b) :: e) a := fun b hb a g3 k v hk => by
    by_cases e' : t = k
    · subst e'; rw [look_same] at hk; cases hk; exact g3 _ _ hb
    · rw [look_other _ _ e'] at hk; exact g3 _ _ hk
  by_cases hp : p
  · exact fun a g1 g2 g3 => h1 hp a g1 g2 (key true (by rw [hl, decide_eq_true hp]) a g3)
  · exact fun a g1 g2 g3 => h2 hp a g1 g2 (key false (by rw [hl, decide_eq_false hp]) a g3)
theorem SA.cov {e' : Env} (hc : Cov e e') (h : SA P ops Q S fuel listed N D e' w) : SA P ops Q S fuel listed N D e w := fun a h1 h2 h3 => h a h1 h2 (h3.cov hc)

theorem SB.val {d : Nat} {v : Value} {w' : World} (hi : ops[i]? = some o) (hg : gok ops e o = some true) (hd : o.dst = some d) (hN : Nat.blt d N = true)
    (hr : Res P e o w (.ok (.value v) w')) (hS : S w') (h : SA P ops Q S fuel (listed.setIfInBounds i true) N D ((d, v) :: e) w') : SB P ops Q S i fuel listed N D e w := by
  intro a h1 h2 h3
  unfold wpOp
  rw [hi]
  simp only [gok_wanted hg h3, if_true]
  refine .inl ?_
  show o.upon P a _ Q ((execOp a.eval o).run P w)
  rw [hr a h3, Oper.upon_value, hd]
  have hN' : d < N := Nat.le_of_ble_eq_true hN
  exact ⟨hS, h _ (by rw [size_put]; exact h1) (by rw [defers_put]; exact h2) (h3.put (by omega))⟩
theorem SB.eff {w' : World} (hi : ops[i]? = some o) (hg : gok ops e o = some true) (hd : o.dst = none)
    (hr : Res P e o w (.ok .skip w')) (hS : S w') (h : SA P ops Q S fuel (listed.setIfInBounds i true) N D e w') : SB P ops Q S i fuel listed N D e w := by
  intro a h1 h2 h3
  unfold wpOp
  rw [hi]
  simp only [gok_wanted hg h3, if_true]
  refine .inl ?_
  show o.upon P a _ Q ((execOp a.eval o).run P w)
  rw [hr a h3, Oper.upon_skip, hd]
  exact ⟨hS, h a h1 h2 h3⟩
theorem SB.pass {d : Nat} (hi : ops[i]? = some o) (hg : gok ops e o = some false) (hd : o.dst = some d) (hN : Nat.blt d N = true) (hS : S w)
    (h : SA P ops Q S fuel (listed.setIfInBounds i true) N D ((d, undef) :: e) w) : SB P ops Q S i fuel listed N D e w := by
  intro a h1 h2 h3
  unfold wpOp
  rw [hi]
  simp only [gok_wanted hg h3, Bool.false_eq_true, if_false]
  rw [hd]
  have hN' : d < N := Nat.le_of_ble_eq_true hN
  exact ⟨hS, h _ (by rw [size_put]; exact h1) (by rw [defers_put]; exact h2) (h3.put (by omega))⟩
theorem SB.call {d f : Nat} {args : Array Value} {w1 : World} {R : Ending → World → Prop} (hi : ops[i]? = some o) (hg : gok ops e o = some true) (hd : o.dst = some d) (hN : Nat.blt d N = true)
    (hr : Res P e o w (.ok (.enter f args) w1)) (hc : Calls P f args w1 R)
    (h : ∀ x w', R x w' → ∃ v, x = .returned v ∧ S w' ∧ SA P ops Q S fuel (listed.setIfInBounds i true) N D ((d, v) :: e) w') : SB P ops Q S i fuel listed N D e w := by
  intro a h1 h2 h3
  unfold wpOp
  rw [hi]
  simp only [gok_wanted hg h3, if_true]
  refine .inl ?_
  show o.upon P a _ Q ((execOp a.eval o).run P w)
  rw [hr a h3, Oper.upon_enter, hd]
  have hN' : d < N := Nat.le_of_ble_eq_true hN
  refine hc.mono fun x w' hx => ?_
  obtain ⟨v, rfl, hS, hk⟩ := h x w' hx
  exact ⟨hS, hk _ (by rw [size_put]; exact h1) (by rw [defers_put]; exact h2) (h3.put (by omega))⟩
theorem SB.alloc {d : Nat} {T : TypeId} {z : Value} (hO : Own w0 L w) (hi : ops[i]? = some o) (hg : gok ops e o = some true) (ho : o.op = .alloc T) (hd : o.dst = some d) (hN : Nat.blt d N = true)
    (hz : ∀ w, (zeroValue T).run P w = .ok z w) (c : List Value) (hc : z.cells = c.toArray)
    (h : ∀ b w', w0.heap.size ≤ b → Own w0 ((b, .cells c.toArray T (0, 0)) :: L) w' → S w' ∧ SA P ops Q S fuel (listed.setIfInBounds i true) N D ((d, .pointer (some ⟨b, 0, none⟩)) :: e) w') : SB P ops Q S i fuel listed N D e w :=
  let k := h _ _ hO.size (hc ▸ hO.alloc _)
  .val hi hg hd hN (.alloc ho hz) k.1 k.2
theorem SB.box {d : Nat} {T : TypeId} {x : Operand} {v : Value} (hO : Own w0 L w) (hi : ops[i]? = some o) (hg : gok ops e o = some true) (ho : o.op = .box T x) (hx : ev e x = some v) (hd : o.dst = some d) (hN : Nat.blt d N = true) (c : List Value) (hc : v.cells = c.toArray)
    (h : ∀ b w', w0.heap.size ≤ b → Own w0 ((b, .cells c.toArray T (0, 0)) :: L) w' → S w' ∧ SA P ops Q S fuel (listed.setIfInBounds i true) N D ((d, .pointer (some ⟨b, 0, none⟩)) :: e) w') : SB P ops Q S i fuel listed N D e w :=
  let k := h _ _ hO.size (hc ▸ hO.alloc _)
  .val hi hg hd hN (.box ho hx) k.1 k.2
theorem SB.store {T E : TypeId} {x y : Operand} {b off j : Nat} {c : List Value} {v : Value} (hO : Own w0 L w) (hi : ops[i]? = some o) (hg : gok ops e o = some true) (ho : o.op = .store T x y) (hd : o.dst = none)
    (hx : ev e x = some (.pointer (some ⟨b, off, none⟩))) (hy : ev e y = some v) (hj : L[j]? = some (b, .cells c.toArray E (0, 0))) (hs : ∀ w, (sizeOf T).run P w = .ok v.cells.size w)
    (hl : Nat.ble (off + v.cells.size) c.length = true) (hv : v.cells.toList.all plainV = true) (L' : List (Nat × Obj)) (hL : L.set j (b, .cells (setRow c off v.cells.toList).toArray E (0, 0)) = L')
    (h : ∀ w', Own w0 L' w' → S w' ∧ SA P ops Q S fuel (listed.setIfInBounds i true) N D e w') : SB P ops Q S i fuel listed N D e w := by
  subst hL
  have hb := hO.at hj
  obtain ⟨w', h1, h2, h3, h4, h5, h6, h7⟩ := run_storeCells (P := P) b off E v.cells.toList 0 c w hb (by have := Nat.le_of_ble_eq_true hl; simpa using this)
    (fun u hu => List.all_eq_true.1 hv u hu)
  have k := h w' (hO.set hj h2 h3 h4 h5 (by simpa using h6) h7)
  refine .eff hi hg hd (w' := w') ?_ k.1 k.2
  intro a hf
  unfold execOp; rw [ho]; simp only [ev_eval hf hx, ev_eval hf hy]
  simp only [Instr.storeAt, Instr.sureAddr, storeVar, Sem.run_bind, Sem.run_pure, Result.andThen, hs, ne_eq, not_true_eq_false, if_false, h1]
theorem SB.buildSlice {d k : Nat} {T E : TypeId} {ps : List (Nat × Operand)} {vs : List (Nat × Value)} {c : List Value} (hO : Own w0 L w) (hi : ops[i]? = some o) (hg : gok ops e o = some true) (ho : o.op = .buildSlice T k ps.toArray) (hp : evP e ps = some vs) (hd : o.dst = some d) (hN : Nat.blt d N = true)
    (hr : ∀ w, (Instr.buildSlice T k vs.toArray).run P w = .ok (.slice (some ⟨w.heap.size, 0, none⟩) k k) (w.alloc (.cells c.toArray E)))
    (h : ∀ b w', w0.heap.size ≤ b → Own w0 ((b, .cells c.toArray E (0, 0)) :: L) w' → S w' ∧ SA P ops Q S fuel (listed.setIfInBounds i true) N D ((d, .slice (some ⟨b, 0, none⟩) k k) :: e) w') : SB P ops Q S i fuel listed N D e w :=
  let k := h _ _ hO.size (hO.alloc _)
  .val hi hg hd hN (.buildSlice ho hp hr) k.1 k.2

/-! ### Nil or not -/
theorem Res.ptrEq {T yT : TypeId} {x y : Operand} {b : Bool} (ho : o.op = .binOp .eql T x y yT) {p : Option Addr} (hx : ev e x = some (.pointer p)) (hy : ev e y = some (.pointer none)) (hT : P.underlying T = some (.pointer (P.pointee T))) (hb : p.isNone = b) :
    Res P e o w (.ok (.value (.bool b)) w) :=
  .bin ho hx hy guard_ptr (by rw [run_eql_pointer_nil _ T p hT, hb])
theorem Res.ptrNe {T yT : TypeId} {x y : Operand} {b : Bool} (ho : o.op = .binOp .neq T x y yT) {p : Option Addr} (hx : ev e x = some (.pointer p)) (hy : ev e y = some (.pointer none)) (hT : P.underlying T = some (.pointer (P.pointee T))) (hb : (!p.isNone) = b) :
    Res P e o w (.ok (.value (.bool b)) w) :=
  .bin ho hx hy guard_ptr (by rw [run_neq_pointer_nil _ T p hT, hb])
theorem Res.ifaceNilT {T yT : TypeId} {x : Operand} (ho : o.op = .binOp .eql T x (.const .nilIface) yT) (hx : ev e x = some .nilIface) (hT : P.underlying T = some (.interface (P.methodsAt T))) :
    Res P e o w (.ok (.value (.bool true)) w) :=
  .bin ho hx rfl (by rw [eqGuard_nil_constR]; rfl) (run_eql_nil_nil _ T hT)
theorem Res.ifaceNilF {T yT t : TypeId} {x : Operand} {v : Value} (ho : o.op = .binOp .eql T x (.const .nilIface) yT) (hx : ev e x = some (.iface t v)) (hT : P.underlying T = some (.interface (P.methodsAt T))) :
    Res P e o w (.ok (.value (.bool false)) w) :=
  .bin ho hx rfl (by simp [eqGuard, go_sem]) (run_eql_held_nil _ T t v hT)

/-! ### A struct as a result -/
theorem run_cell {E : Nat} {b off k : Nat} {c : List Value} {fz : Nat × Nat} (cs : List Value) (hb : w.heap[b]? = some (.cells c.toArray E fz))
    (hc : (c.drop off).take k = cs) (hk : cs.length = k) : (loadCellsFrom (⟨b, off, none⟩ : Addr) 0 k #[]).run P w = .ok cs.toArray w := by
  have := run_loadCells (P := P) (w := w) b off cs 0 #[] cs (by simp) fun j v hj => by
    rw [cell_of hb]
    have h1 : j < cs.length := by
      rcases Nat.lt_or_ge j cs.length with h' | h'
      · exact h'
      · rw [List.getElem?_eq_none h'] at hj; cases hj
    rw [← hc, List.getElem?_take_of_lt (by omega), List.getElem?_drop] at hj
    simpa using hj
  rw [hk] at this
  simpa using this
theorem resC {fn : Func} {t T E b off k : Nat} {c : List Value} {fz : Nat × Nat} (cs : List Value) (h : fn.results = #[.cell t T]) (hl : look e t = some (.pointer (some ⟨b, off, none⟩))) (hT : ∀ w, (isAgg T).run P w = .ok true w) (hs : ∀ w, (sizeOf T).run P w = .ok k w)
    (hb : w.heap[b]? = some (.cells c.toArray E fz)) (hc : (c.drop off).take k = cs) (hk : cs.length = k) (a : Act) (hf : Fits e a) : (results fn a.tmps).run P w = .ok (.agg cs.toArray) w := by
  have h1 := run_cell (P := P) (w := w) cs hb hc hk
  have h2 := hf _ _ hl
  simp [results, h, h2, asAddr, hT, hs, h1, go_sem]
theorem resCT {fn : Func} {t u T E b off k : Nat} {v : Value} {c : List Value} {fz : Nat × Nat} (cs : List Value) (h : fn.results = #[.cell t T, .tmp u]) (hl : look e t = some (.pointer (some ⟨b, off, none⟩))) (hu : look e u = some v) (hT : ∀ w, (isAgg T).run P w = .ok true w) (hs : ∀ w, (sizeOf T).run P w = .ok k w)
    (hb : w.heap[b]? = some (.cells c.toArray E fz)) (hc : (c.drop off).take k = cs) (hk : cs.length = k) (a : Act) (hf : Fits e a) : (results fn a.tmps).run P w = .ok (.tuple #[.agg cs.toArray, v]) w := by
  have h1 := run_cell (P := P) (w := w) cs hb hc hk
  have h2 := hf _ _ hl
  have h3 := hf _ _ hu
  simp [results, h, h2, h3, asAddr, hT, hs, h1, go_sem]
theorem look_int {t : Nat} {k : IntKind} {a b : Int} (h : look e t = some (.int k a)) (hab : a = b) : look e t = some (.int k b) := hab ▸ h
theorem look_str {t : Nat} {a b : ByteArray} (h : look e t = some (.string a)) (hab : a = b) : look e t = some (.string b) := hab ▸ h
theorem Res.makeFunc {f : FuncId} {l : List Operand} {vs : List Value} (ho : o.op = .makeFunc (.func f) [].toArray l.toArray) (hl : evL e l = some vs) : Res P e o w (.ok (.value (.func (.func f) #[] vs.toArray)) w) := fun a h => by
  unfold execOp; rw [ho]; simp only [List.map_toArray, evL_map h hl, Sem.run_bind, Instr.makeFunc]
  simp [Result.andThen, go_sem]
end Ow
end Go.Proofs.YtclgplkkajfenaaGreatDoor
/-! ### the commonest lines, said shortly -/
namespace Go.Proofs.YtclgplkkajfenaaGreatDoor
namespace Ow
open Go Go.RowKit
variable {P : Program} {ro : Option Nat} {n : Nat} {ops : Array Oper} {Q : Exit → Act → World → Prop} {N : Nat} {D : List Deferred} {e : Env} {w : World} {o : Oper} {l : List Oper} {S : World → Prop} {fuel : Nat} {listed : Array Bool}
theorem SO.v {d : Nat} {v : Value} {w' : World} (hr : Res P e o w (.ok (.value v) w')) (h : SO P ro n ops l Q N D ((d, v) :: e) w')
    (hg : gok ops e o = some true := by exact rfl) (hp : plainOp o.op = true := by exact rfl) (hd : o.dst = some d := by exact rfl) (hN : Nat.blt d N = true := by exact rfl) : SO P ro n ops (o :: l) Q N D e w := SO.val hg hp hd hN hr h
theorem SO.mv {d : Nat} {x : Operand} {v : Value} (h : SO P ro n ops l Q N D ((d, v) :: e) w) (ho : o.op = .move x := by exact rfl) (hx : ev e x = some v := by exact rfl)
    (hg : gok ops e o = some true := by exact rfl) (hd : o.dst = some d := by exact rfl) (hN : Nat.blt d N = true := by exact rfl) : SO P ro n ops (o :: l) Q N D e w := SO.val hg (by rw [ho]; rfl) hd hN (.move ho hx) h
theorem SO.as {d : Nat} {x : Operand} {v : Value} (h : SO P ro n ops l Q N D ((d, v) :: e) w) (ho : o.op = .assign x := by exact rfl) (hx : ev e x = some v := by exact rfl)
    (hg : gok ops e o = some true := by exact rfl) (hd : o.dst = some d := by exact rfl) (hN : Nat.blt d N = true := by exact rfl) : SO P ro n ops (o :: l) Q N D e w := SO.val hg (by rw [ho]; rfl) hd hN (.assign ho hx) h
theorem SO.ps {d : Nat} (h : SO P ro n ops l Q N D ((d, undef) :: e) w) (hg : gok ops e o = some false := by exact rfl) (hd : o.dst = some d := by exact rfl) (hN : Nat.blt d N = true := by exact rfl) : SO P ro n ops (o :: l) Q N D e w := SO.pass hg hd hN h
theorem SC.sr {id : Nat} {y : Code} (h : SO P ro n l.toArray l (Exit.then (y.wpIn (Fc ro) n P Q) Q) N D e w) : SC P ro n (.seq (.region id l.toArray false) y) Q N D e w := SC.seq (SC.region h)
theorem SO.nn {y : Code} {Q' : Exit → Act → World → Prop} (h : SC P ro n y Q N D e w) : SO P ro n ops [] (Exit.then (y.wpIn (Fc ro) n P Q) Q') N D e w := SO.nil (SQ.then_normal h)
theorem SA.tk {d : Nat} {v : Value} (i : Nat) (hi : ops[i]? = some o) (hS : S w) (hv : ∀ w', S w' → Res P e o w' (.ok (.value v) w')) (h : SA P ops Q S fuel (listed.setIfInBounds i true) N D ((d, v) :: e) w)
    (hs : Region.noSelect ops = true := by kernel_rfl) (hf : Region.free .any ops listed i = true := by kernel_rfl) (hr : (Region.ready .any ops listed).contains i = true := by kernel_rfl)
    (hd : o.dst = some d := by exact rfl) (hN : Nat.blt d N = true := by exact rfl) (hQ : ∀ c a w, Q (.panic c) (a.put (some d) v) w → Q (.panic c) a w := by exact fun _ _ _ h => h) (hg : gok ops e o = some true := by exact rfl) : SA P ops Q S (fuel + 1) listed N D e w :=
  SA.take hs i hi hf hr hd hN hQ hg hS hv h
theorem SA.tm {d : Nat} {x : Operand} {v : Value} (i : Nat) (hi : ops[i]? = some o) (hS : S w) (h : SA P ops Q S fuel (listed.setIfInBounds i true) N D ((d, v) :: e) w) (ho : o.op = .move x := by exact rfl) (hx : ev e x = some v := by exact rfl)
    (hs : Region.noSelect ops = true := by kernel_rfl) (hf : Region.free .any ops listed i = true := by kernel_rfl) (hr : (Region.ready .any ops listed).contains i = true := by kernel_rfl)
    (hd : o.dst = some d := by exact rfl) (hN : Nat.blt d N = true := by exact rfl) (hQ : ∀ c a w, Q (.panic c) (a.put (some d) v) w → Q (.panic c) a w := by exact fun _ _ _ h => h) (hg : gok ops e o = some true := by exact rfl) : SA P ops Q S (fuel + 1) listed N D e w :=
  SA.take hs i hi hf hr hd hN hQ hg hS (fun _ _ => .move ho hx) h
theorem SA.ta {d : Nat} {x : Operand} {v : Value} (i : Nat) (hi : ops[i]? = some o) (hS : S w) (h : SA P ops Q S fuel (listed.setIfInBounds i true) N D ((d, v) :: e) w) (ho : o.op = .assign x := by exact rfl) (hx : ev e x = some v := by exact rfl)
    (hs : Region.noSelect ops = true := by kernel_rfl) (hf : Region.free .any ops listed i = true := by kernel_rfl) (hr : (Region.ready .any ops listed).contains i = true := by kernel_rfl)
    (hd : o.dst = some d := by exact rfl) (hN : Nat.blt d N = true := by exact rfl) (hQ : ∀ c a w, Q (.panic c) (a.put (some d) v) w → Q (.panic c) a w := by exact fun _ _ _ h => h) (hg : gok ops e o = some true := by exact rfl) : SA P ops Q S (fuel + 1) listed N D e w :=
  SA.take hs i hi hf hr hd hN hQ hg hS (fun _ _ => .assign ho hx) h
theorem SA.pq {d : Nat} (i : Nat) (hi : ops[i]? = some o) (hS : S w) (h : SA P ops Q S fuel (listed.setIfInBounds i true) N D ((d, undef) :: e) w)
    (hs : Region.noSelect ops = true := by kernel_rfl) (hf : Region.free .any ops listed i = true := by kernel_rfl) (hr : (Region.ready .any ops listed).contains i = true := by kernel_rfl)
    (hd : o.dst = some d := by exact rfl) (hN : Nat.blt d N = true := by exact rfl) (hQ : ∀ c a w, Q (.panic c) (a.put (some d) undef) w → Q (.panic c) a w := by exact fun _ _ _ h => h) (hg : gok ops e o = some false := by exact rfl) : SA P ops Q S (fuel + 1) listed N D e w :=
  SA.pass hs i hi hf hr hd hN hQ hg hS h
end Ow
end Go.Proofs.YtclgplkkajfenaaGreatDoor
