/- A small calculus for walks, over the kit's own rules: what the temporaries hold is kept as a list of places and values ('Env'), the memory of the call's own as a list of blocks ('Own'), and each operation is one lemma. -/
import Derived.Test.YtclgplkkajfenaaGreatDoorBase
import Derived.OrdersHeld
import Derived.OrdersIn
import Derived.RangeFuncNested
import Derived.RangeFuncCalls
import Derived.RangeFuncLeaves
namespace Go.Proofs.YtclgplkkajfenaaGreatDoor
namespace Ow
open Go Go.RowKit

/-! ### What the temporaries hold -/
abbrev Env := List (Nat × Value)
def look : Env → Nat → Option Value
  | [], _ => none
  | (k, v) :: r, t => bif Nat.beq k t then some v else look r t
theorem look_same (k : Nat) (v : Value) (r : Env) : look ((k, v) :: r) k = some v := by simp [look]
theorem look_other {k t : Nat} (v : Value) (r : Env) (h : k ≠ t) : look ((k, v) :: r) t = look r t := by
  have : Nat.beq k t = false := Bool.eq_false_iff.2 fun e => h (Nat.eq_of_beq_eq_true e)
  simp [look, this]

def Fits (e : Env) (a : Act) : Prop := ∀ t v, look e t = some v → a.tmps[t]? = some v

theorem Fits.put {e : Env} {a : Act} {d : Nat} {v : Value} (h : Fits e a) (hd : d < a.tmps.size) : Fits ((d, v) :: e) (a.put (some d) v) := by
  intro t u hu
  show (a.tmps.setIfInBounds d v)[t]? = some u
  by_cases e' : d = t
  · subst e'
    rw [look_same] at hu; cases hu
    simp [hd]
  · rw [look_other _ _ e'] at hu
    rw [Array.getElem?_setIfInBounds_ne e']
    exact h t u hu
theorem size_put (a : Act) (d : Option Tmp) (v : Value) : (a.put d v).tmps.size = a.tmps.size := by
  cases d <;> simp [Act.put]
theorem defers_put (a : Act) (d : Option Tmp) (v : Value) : (a.put d v).defers = a.defers := by
  cases d <;> rfl

/-- What an operand holds. -/
def ev (e : Env) : Operand → Option Value
  | .tmp t => look e t
  | .const v => some v
  | .global g => some (.pointer (some ⟨g, 0, none⟩))
  | .func f => some (.func (.func f) #[] #[])
theorem ev_eval {e : Env} {a : Act} (h : Fits e a) {x : Operand} {v : Value} (hx : ev e x = some v) : a.eval x = v := by
  cases x with
  | tmp t => have := h t v hx; simp [Act.eval, Array.getD_eq_getD_getElem?, this]
  | const u => exact Option.some.inj hx
  | global g => exact Option.some.inj hx
  | func f => exact Option.some.inj hx

/-- e' says no more than e does. -/
def Cov (e : Env) : Env → Prop
  | [] => True
  | (t, v) :: r => look e t = some v ∧ Cov e r
theorem Fits.cov {e e' : Env} {a : Act} (h : Fits e a) (hc : Cov e e') : Fits e' a := by
  induction e' with
  | nil => intro t v hv; simp [look] at hv
  | cons p r ih =>
    obtain ⟨k, u⟩ := p
    intro t v hv
    by_cases e1 : k = t
    · subst e1; rw [look_same] at hv; cases hv; exact h _ _ hc.1
    · rw [look_other _ _ e1] at hv; exact ih hc.2 t v hv

/-! ### The memory of the call's own -/
/-- Of w0's memory nothing has turned but the blocks of L, which hold what L says. -/
structure Own (w0 : World) (L : List (Nat × Obj)) (w : World) : Prop where
  os : w.os = w0.os
  tape : w.tape = w0.tape
  output : w.output = w0.output
  size : w0.heap.size ≤ w.heap.size
  old : ∀ k, k < w0.heap.size → (∀ p ∈ L, p.1 ≠ k) → w.heap[k]? = w0.heap[k]?
  own : ∀ p ∈ L, w.heap[p.1]? = some p.2
  nd : (L.map (·.1)).Nodup
  two : ∀ p ∈ L, 2 ≤ p.1
  base : 2 ≤ w0.heap.size

theorem Own.start {w : World} (h : Good w) : Own w [] w := ⟨rfl, rfl, rfl, Nat.le_refl _, fun _ _ _ => rfl, (fun _ h => by cases h), List.nodup_nil, (fun _ h => by cases h), h.two⟩
theorem Own.at {w0 w : World} {L : List (Nat × Obj)} (h : Own w0 L w) {i b : Nat} {o : Obj} (hi : L[i]? = some (b, o)) : w.heap[b]? = some o :=
  h.own _ (List.mem_of_getElem? hi)
theorem lt_of_heap {w : World} {b : Nat} {o : Obj} (h : w.heap[b]? = some o) : b < w.heap.size := (Array.getElem?_eq_some_iff.1 h).1
theorem Own.alloc {w0 w : World} {L : List (Nat × Obj)} (h : Own w0 L w) (o : Obj) : Own w0 ((w.heap.size, o) :: L) (w.alloc o) := by
  have hs : (w.alloc o).heap = w.heap.push o := rfl
  refine ⟨h.os, h.tape, h.output, by rw [hs]; simp; have := h.size; omega, fun k hk hn => ?_, fun p hp => ?_, ?_, fun p hp => ?_, h.base⟩
  · rw [hs, Array.getElem?_push, if_neg (by have := h.size; omega)]
    exact h.old k hk fun p hp => hn p (List.mem_cons_of_mem _ hp)
  · rcases List.mem_cons.1 hp with rfl | hp
    · rw [hs]; simp
    · have := h.own p hp
      rw [hs, Array.getElem?_push, if_neg (by have := lt_of_heap this; omega)]
      exact this
  · simp only [List.map_cons, List.nodup_cons]
    refine ⟨fun hm => ?_, h.nd⟩
    obtain ⟨p, hp, e⟩ := List.mem_map.1 hm
    have := lt_of_heap (h.own p hp)
    omega
  · rcases List.mem_cons.1 hp with rfl | hp
    · exact Nat.le_trans h.base h.size
    · exact h.two p hp
theorem Own.below {w0 w w' : World} {L : List (Nat × Obj)} (h : Own w0 L w) (hb : Below w.heap.size w w') : Own w0 L w' :=
  ⟨hb.os.trans h.os, hb.tape.trans h.tape, hb.output.trans h.output, Nat.le_trans h.size hb.size,
   fun k hk hn => (hb.block k (Nat.lt_of_lt_of_le hk h.size)).trans (h.old k hk hn),
   fun p hp => (hb.block p.1 (lt_of_heap (h.own p hp))).trans (h.own p hp), h.nd, h.two, h.base⟩
theorem Own.drew {w0 w : World} {L : List (Nat × Obj)} (h : Own w0 L w) : Own w0 L w.drew :=
  ⟨h.os, h.tape, h.output, h.size, h.old, h.own, h.nd, h.two, h.base⟩
/-- A block of the call's own holds something else. -/
theorem Own.set {w0 w w' : World} {L : List (Nat × Obj)} (h : Own w0 L w) {i b : Nat} {o o' : Obj} (hi : L[i]? = some (b, o))
    (hos : w'.os = w.os) (htape : w'.tape = w.tape) (hout : w'.output = w.output) (hsz : w'.heap.size = w.heap.size)
    (hb : w'.heap[b]? = some o') (hn : ∀ k, k ≠ b → w'.heap[k]? = w.heap[k]?) : Own w0 (L.set i (b, o')) w' := by
  have hlen : i < L.length := by
    rcases Nat.lt_or_ge i L.length with h' | h'
    · exact h'
    · rw [List.getElem?_eq_none h'] at hi; cases hi
  have hgi : L[i] = (b, o) := by rw [List.getElem?_eq_getElem hlen] at hi; exact Option.some.inj hi
  have hmap : (L.set i (b, o')).map (·.1) = L.map (·.1) := by
    rw [List.map_set]
    refine List.ext_getElem (by simp) fun j h1 h2 => ?_
    simp only [List.getElem_set]
    split
    · rename_i e; subst e; simp [hgi]
    · rfl
  have other : ∀ j (hj : j < L.length), j ≠ i → (L[j]).1 ≠ b := fun j hj hne e => by
    have nd := List.pairwise_iff_getElem.1 h.nd
    rcases Nat.lt_or_gt_of_ne hne with h1 | h1
    · exact nd j i (by simpa using hj) (by simpa using hlen) h1 (by simp [hgi, e])
    · exact nd i j (by simpa using hlen) (by simpa using hj) h1 (by simp [hgi, e])
  refine ⟨hos.trans h.os, htape.trans h.tape, hout.trans h.output, by rw [hsz]; exact h.size, fun k hk hk' => ?_, fun p hp => ?_, by rw [hmap]; exact h.nd, fun p hp => ?_, h.base⟩
  · have hkb : k ≠ b := fun e => by
      refine hk' (b, o') ?_ e.symm
      exact List.mem_iff_getElem.2 ⟨i, by simpa using hlen, by simp⟩
    rw [hn k hkb]
    refine h.old k hk fun p hp => ?_
    obtain ⟨j, hj, rfl⟩ := List.mem_iff_getElem.1 hp
    by_cases e : j = i
    · subst e; rw [hgi]; exact fun e => hkb e.symm
    · refine hk' L[j] ?_
      exact List.mem_iff_getElem.2 ⟨j, by simpa using hj, by simp [Ne.symm e]⟩
  · obtain ⟨j, hj, rfl⟩ := List.mem_iff_getElem.1 hp
    have hj' : j < L.length := by simpa using hj
    by_cases e : j = i
    · subst e; simp [hb]
    · simp only [List.getElem_set, if_neg (Ne.symm e)]
      rw [hn _ (other j hj' e)]
      exact h.own _ (List.getElem_mem hj')
  · obtain ⟨j, hj, rfl⟩ := List.mem_iff_getElem.1 hp
    have hj' : j < L.length := by simpa using hj
    by_cases e : j = i
    · subst e; have := h.two _ (List.getElem_mem hlen); rw [hgi] at this; simpa using this
    · simp only [List.getElem_set, if_neg (Ne.symm e)]; exact h.two _ (List.getElem_mem hj')
/-- Some of the own blocks are passed over. -/
theorem Own.tail {w0 w : World} {L : List (Nat × Obj)} {p : Nat × Obj} (h : Own w0 (p :: L) w) (hp : w0.heap.size ≤ p.1) : Own w0 L w :=
  ⟨h.os, h.tape, h.output, h.size, fun k hk hn => h.old k hk fun q hq => by
    rcases List.mem_cons.1 hq with rfl | hq
    · omega
    · exact hn q hq, fun q hq => h.own q (List.mem_cons_of_mem _ hq), (List.nodup_cons.1 h.nd).2, fun q hq => h.two q (List.mem_cons_of_mem _ hq), h.base⟩
/-- All these blocks are new. -/
def NewL (B : Nat) : List (Nat × Obj) → Prop
  | [] => True
  | p :: r => B ≤ p.1 ∧ NewL B r
theorem NewL.all {B : Nat} : ∀ {L : List (Nat × Obj)}, NewL B L → ∀ p ∈ L, B ≤ p.1
  | [], _, p, hp => by cases hp
  | q :: r, h, p, hp => by
    rcases List.mem_cons.1 hp with rfl | hp
    · exact h.1
    · exact NewL.all h.2 p hp
theorem Own.toBelow' {w0 w : World} {L : List (Nat × Obj)} (h : Own w0 L w) (hL : ∀ p ∈ L, w0.heap.size ≤ p.1) : Below w0.heap.size w0 w :=
  ⟨h.os, h.tape, h.output, h.size, fun k hk => h.old k hk fun p hp => by have := hL p hp; omega⟩
theorem Own.toBelow {w0 w : World} {L : List (Nat × Obj)} (h : Own w0 L w) (hL : NewL w0.heap.size L) : Below w0.heap.size w0 w := h.toBelow' hL.all
theorem Own.cellO {w0 w : World} {L : List (Nat × Obj)} (h : Own w0 L w) (hL : NewL w0.heap.size L) {a : Addr} {v : Value} (hc : w0.cell? a = some v) : w.cell? a = some v :=
  ((h.toBelow hL).cell (World.block_lt_of_cell? _ _ hc)).trans hc
theorem Own.heapO {w0 w : World} {L : List (Nat × Obj)} (h : Own w0 L w) (hL : NewL w0.heap.size L) {b : Nat} {o : Obj} (hc : w0.heap[b]? = some o) : w.heap[b]? = some o :=
  ((h.toBelow hL).block b (lt_of_heap hc)).trans hc
theorem Own.good {w0 w : World} {L : List (Nat × Obj)} (h : Own w0 L w) (hG : Good w0) : Good w := by
  have h0 : w.heap[0]? = w0.heap[0]? := h.old 0 (by have := h.base; omega) fun p hp e => by have := h.two p hp; omega
  have h1 : w.heap[1]? = w0.heap[1]? := h.old 1 (by have := h.base; omega) fun p hp e => by have := h.two p hp; omega
  exact ⟨fun c hc => (World.cell?_of_block (w := w0) h0).trans (hG.1 c hc),
    fun i hi => ⟨(World.cell?_of_block (w := w0) h1).trans (hG.2 i hi).1, (World.cell?_of_block (w := w0) h1).trans (hG.2 i hi).2⟩⟩
end Ow
end Go.Proofs.YtclgplkkajfenaaGreatDoor
