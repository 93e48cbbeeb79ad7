/- cluster.Count, Cells. -/
import Derived.Test.YtclgplkkajfenaaGreatDoorWalk
namespace Go.Proofs.YtclgplkkajfenaaGreatDoor
open Go Go.RowKit Ow
theorem KpW.put {w : World} {bs : Nat} {o : Obj} (hb : bs < w.heap.size) (h2 : 2 ≤ w.heap.size) (W : World) (l : Nat) (o1 o2 : Obj) (hl : w.heap.size ≤ l) (hx : W.heap[l]? = some o1) : KpW bs o W (W.putObj l o2) := by
  have hg := grownBy_putObj' W l o2
  refine ⟨fun h => (hg.block bs (lt_of_heap h) (fun e => by cases e; omega)).trans h, fun h => ?_⟩
  have hW : w.heap.size ≤ W.heap.size := by have := lt_of_heap hx; omega
  exact h.mono (B := 2) ⟨hg.os, hg.tape, hg.output, hg.size, fun k hk => hg.block k (by omega) (fun e => by cases e; omega)⟩ (by omega)
def nCells (l : Bs) (cs : List (Nat × Nat)) : Int := (cs.map fun c => clCells l c.1).sum
theorem nCells_snoc (l : Bs) (cs : List (Nat × Nat)) (c : Nat × Nat) : nCells l (cs ++ [c]) = nCells l cs + clCells l c.1 := by simp [nCells, List.sum_append]
theorem cellsOf_range (c : Int) : 0 ≤ cellsOf c ∧ cellsOf c ≤ 2 := by unfold cellsOf; repeat' split <;> omega
theorem clCells_range (l : Bs) (i : Nat) : 0 ≤ clCells l i ∧ clCells l i ≤ 2 := by
  unfold clCells; split
  · omega
  · exact cellsOf_range _
theorem nCells_range (l : Bs) : ∀ cs : List (Nat × Nat), 0 ≤ nCells l cs ∧ nCells l cs ≤ 2 * cs.length
  | [] => by simp [nCells]
  | c :: cs => by
    have h1 := nCells_range l cs
    have h2 := clCells_range l c.1
    simp only [nCells, List.map_cons, List.sum_cons, List.length_cons] at h1 ⊢
    omega
theorem clF_length (l : Bs) : ∀ f i, (clF l f i).length ≤ f
  | 0, _ => by simp [clF]
  | f + 1, i => by
    rw [clF]; split
    · simp only [List.length_cons]; have := clF_length l f (cNext l i); omega
    · simp
theorem clusters_length (l : Bs) : (clusters l).length ≤ l.length := clF_length l _ _

set_option maxRecDepth 20000 in
set_option maxHeartbeats 400000 in
theorem ccount_any (s : ByteArray) (w : World) (hG : Good w) (hz : s.size ≤ 4611686018427387904) :
    Calls Tryz.prog 218 #[.string s] w fun e w' => e = .returned (.int .i64 ((clusters (bl s)).length : Nat)) ∧ Below w.heap.size w w' := by
  have hcl := clusters_length (bl s)
  rw [bl_length] at hcl
  have hO0 := Own.start hG
  refine enterM Tryz.func218 rfl rfl rfl 5 ?_
  refine SC.seq ?_
  refine SC.region ?_
  refine SO.val rfl rfl rfl rfl (.assign rfl rfl) ?_
  refine SO.nil ?_
  refine SQ.then_normal ?_
  refine SC.seq ?_
  refine SC.region ?_
  refine SO.alloc hO0 rfl rfl rfl rfl zv3 [_] rfl ?_
  intro b1 w1 hb1 hO1
  refine SO.store hO1 (i := 0) rfl rfl rfl rfl rfl rfl sz3 rfl rfl [(_, .cells [_].toArray _ _)] rfl ?_
  intro w2 hO2
  refine SO.nil ?_
  refine SQ.then_normal ?_
  refine SC.seq ?_
  refine SC.seq ?_
  refine SC.region ?_
  refine SO.val rfl rfl rfl rfl (.move rfl rfl) ?_
  refine SO.call rfl rfl rfl rfl (.callF rfl rfl en76) (walk_any _ _ (hO2.good hG)) ?_
  rintro _ w3 ⟨bs, rfl, hbs, hbox, hb3⟩
  have hO3 := hO2.learnB hb3 hbs hbox
  replace hbs := Nat.le_trans hO2.size hbs
  refine ⟨_, rfl, ?_⟩
  refine SO.nil ?_
  refine SQ.then_normal ?_
  refine SC.block ?_
  have hlt4 : ∀ b ∈ [bs, b1], b < w3.heap.size := hO3.ltN
  have hsz4 := hO3.size
  refine SC.range (α := Nat × Nat) (β := Unit) hO3 rfl en136 (encs := fun c => [clV (bl s) c]) (by omega) (walk_stops s bs _ _ (hO3.good hG) hz (hO3.at (i := 0) rfl)) KpW.trans (fun W l o1 o2 hl hx _ _ => KpW.put (lt_of_heap (hO3.at (i := 0) rfl)) (Nat.le_trans hO3.base hO3.size) W l o1 o2 hl hx) (fun _ => rfl) (by decide) (fun pre => [(bs, boxS s), (b1, .cells #[.int .i64 (pre.length : Int)] 3 (0, 0))]) (fun _ _ => False) (fun _ _ => []) rfl (fun _ => rfl) (fun _ _ h => h.elim) (fun _ _ => [(3, .pointer (some ⟨b1, 0, none⟩))]) (fun _ _ _ => True) (fun _ _ _ _ _ _ h _ _ => h) ?_ ?_ ?_ ?_
  · intro l pre x W hI hW
    have hA4 := hI.adopt
    refine SC.skip ?_
    have hE := hA4
    exact SQ.assigned () ⟨rfl, trivial⟩ trivial (hE.keeps (namesLt rfl hlt4)) ⟨fun _ => hE.at (i := 0) rfl, fun h => hE.good h⟩ (hI.comp hE rfl)
  · intro l pre x u W hI hW hM hlen
    have hB4 := hI.adopt
    refine SC.block ?_
    refine SC.region ?_
    refine SO.val rfl rfl rfl rfl (.load rfl rfl ag3 (cell_of' (hB4.at (i := 1) rfl) rfl)) ?_
    refine SO.val rfl rfl rfl rfl (.add rfl rfl rfl (by omega)) ?_
    refine SO.store hB4 (i := 1) rfl rfl rfl rfl rfl rfl sz3 rfl rfl [_, (_, .cells [_].toArray _ _)] rfl ?_
    intro w5 hO5
    refine SO.nil ?_
    refine SQ.block_normal ?_
    have hE := hO5
    rw [show ((pre.length : Int) + 1) = ((pre ++ [x]).length : Nat) by simp] at hE
    exact SQ.goes (hE.keeps (namesLt rfl hlt4)) ⟨fun _ => hE.at (i := 0) rfl, fun h => hE.good h⟩ (hI.comp hE rfl)
  · intro d6 xs W hd6 hS hO6
    subst hS
    refine SQ.block_normal ?_
    refine SQ.then_normal ?_
    refine SC.seq ?_
    refine SC.region ?_
    refine SO.val rfl rfl rfl rfl (.load rfl rfl ag3 (cell_of' (hO6.at (i := 2) rfl) rfl)) ?_
    refine SO.val rfl rfl rfl rfl (.assign rfl rfl) ?_
    refine SO.nil ?_
    refine SQ.then_normal ?_
    refine SC.ret ?_
    refine SQ.outM [d6] hO6 (List.forall_mem_cons.2 ⟨hd6, fun _ h => by cases h⟩) (.inl rfl) (fun w7 hO7 => ⟨_, res1 rfl rfl, ?_⟩)
    exact ⟨rfl, hO7.toBelow ⟨hbs, hb1, trivial⟩⟩
  · intro d c pre W hd hSp hX; exact hX.elim

set_option maxRecDepth 20000 in
set_option maxHeartbeats 400000 in
theorem ccellsum_any (s : ByteArray) (w : World) (hG : Good w) (hz : s.size ≤ 4000000000000000000) :
    Calls Tryz.prog 31 #[.string s] w fun e w' => e = .returned (.int .i64 (nCells (bl s) (clusters (bl s)))) ∧ Below w.heap.size w w' := by
  have hcl := clusters_length (bl s)
  rw [bl_length] at hcl
  have hO0 := Own.start hG
  refine enterM Tryz.func31 rfl rfl rfl 5 ?_
  refine SC.seq ?_
  refine SC.region ?_
  refine SO.val rfl rfl rfl rfl (.assign rfl rfl) ?_
  refine SO.nil ?_
  refine SQ.then_normal ?_
  refine SC.seq ?_
  refine SC.region ?_
  refine SO.alloc hO0 rfl rfl rfl rfl zv3 [_] rfl ?_
  intro b1 w1 hb1 hO1
  refine SO.store hO1 (i := 0) rfl rfl rfl rfl rfl rfl sz3 rfl rfl [(_, .cells [_].toArray _ _)] rfl ?_
  intro w2 hO2
  refine SO.nil ?_
  refine SQ.then_normal ?_
  refine SC.seq ?_
  refine SC.seq ?_
  refine SC.region ?_
  refine SO.val rfl rfl rfl rfl (.move rfl rfl) ?_
  refine SO.call rfl rfl rfl rfl (.callF rfl rfl en76) (walk_any _ _ (hO2.good hG)) ?_
  rintro _ w3 ⟨bs, rfl, hbs, hbox, hb3⟩
  have hO3 := hO2.learnB hb3 hbs hbox
  replace hbs := Nat.le_trans hO2.size hbs
  refine ⟨_, rfl, ?_⟩
  refine SO.nil ?_
  refine SQ.then_normal ?_
  refine SC.block ?_
  have hlt4 : ∀ b ∈ [bs, b1], b < w3.heap.size := hO3.ltN
  have hsz4 := hO3.size
  refine SC.range (α := Nat × Nat) (β := Nat) hO3 rfl en136 (encs := fun c => [clV (bl s) c]) (by omega) (walk_stops s bs _ _ (hO3.good hG) (by omega) (hO3.at (i := 0) rfl)) KpW.trans (fun W l o1 o2 hl hx _ _ => KpW.put (lt_of_heap (hO3.at (i := 0) rfl)) (Nat.le_trans hO3.base hO3.size) W l o1 o2 hl hx) (fun _ => rfl) (by decide) (fun pre => [(bs, boxS s), (b1, .cells #[.int .i64 (nCells (bl s) pre)] 3 (0, 0))]) (fun _ _ => False) (fun _ _ => []) rfl (fun _ => rfl) (fun _ _ h => h.elim) (fun _ u => [(3, .pointer (some ⟨b1, 0, none⟩)), (4, .pointer (some ⟨u, 0, none⟩))]) (fun x u W => w3.heap.size ≤ u ∧ W.heap[u]? = some (.cells #[.int .i64 (x.1 : Int), .int .i64 (x.2 : Int), .int .i64 (clCls (bl s) x.1), .int .i64 (clCells (bl s) x.1)] 138 (0, 0))) (fun _ u => fun _ A B row h hg hr => ⟨h.1, (hg.block u (lt_of_heap h.2) (fun e => by obtain ⟨_, o, ho, hc⟩ := hr u e.symm; rw [h.2] at ho; cases ho; cases hc)).trans h.2⟩) ?_ ?_ ?_ ?_
  · intro l pre x W hI hW
    have hA4 := hI.adopt
    refine SC.region ?_
    refine SO.alloc hA4 rfl rfl rfl rfl zv138 [_, _, _, _] rfl ?_
    intro b5 w5 hb5 hO5
    refine SO.store hO5 (i := 0) rfl rfl rfl rfl rfl rfl sz138 rfl rfl [(_, .cells [_, _, _, _].toArray _ _), _, _] rfl ?_
    intro w6 hO6
    refine SO.nil ?_
    have hE := (hO6.tail hb5)
    exact SQ.assigned b5 ⟨rfl, rfl, trivial⟩ ⟨Nat.le_trans hW hb5, hO6.at (i := 0) rfl⟩ (hE.keeps (namesLt rfl hlt4)) ⟨fun _ => hE.at (i := 0) rfl, fun h => hE.good h⟩ (hI.comp hE rfl)
  · intro l pre x u W hI hW hM hlen
    have hB4 := hI.adopt.know hM.2 (namesNe rfl hlt4 hM.1) (by have := hM.1; have := hO0.base; omega)
    have hr1 := nCells_range (bl s) pre
    have hr2 := clCells_range (bl s) x.1
    refine SC.block ?_
    refine SC.region ?_
    refine SO.val rfl rfl rfl rfl (.load rfl rfl ag3 (cell_of' (hB4.at (i := 2) rfl) rfl)) ?_
    refine SO.val rfl rfl rfl rfl (.fieldAddr rfl rfl fa138_3) ?_
    refine SO.val rfl rfl rfl rfl (.load rfl rfl ag3 (cell_of' (hB4.at (i := 0) rfl) rfl)) ?_
    refine SO.val rfl rfl rfl rfl (.add rfl rfl rfl (by omega)) ?_
    refine SO.store hB4 (i := 2) rfl rfl rfl rfl rfl rfl sz3 rfl rfl [_, _, (_, .cells [_].toArray _ _)] rfl ?_
    intro w7 hO7
    refine SO.nil ?_
    refine SQ.block_normal ?_
    have hE := (hO7.forget hM.2)
    rw [← nCells_snoc] at hE
    exact SQ.goes (hE.keeps (namesLt rfl hlt4)) ⟨fun _ => hE.at (i := 0) rfl, fun h => hE.good h⟩ (hI.comp hE rfl)
  · intro d8 xs W hd8 hS hO8
    subst hS
    refine SQ.block_normal ?_
    refine SQ.then_normal ?_
    refine SC.seq ?_
    refine SC.region ?_
    refine SO.val rfl rfl rfl rfl (.load rfl rfl ag3 (cell_of' (hO8.at (i := 2) rfl) rfl)) ?_
    refine SO.val rfl rfl rfl rfl (.assign rfl rfl) ?_
    refine SO.nil ?_
    refine SQ.then_normal ?_
    refine SC.ret ?_
    refine SQ.outM [d8] hO8 (List.forall_mem_cons.2 ⟨hd8, fun _ h => by cases h⟩) (.inl rfl) (fun w9 hO9 => ⟨_, res1 rfl rfl, ?_⟩)
    exact ⟨rfl, hO9.toBelow ⟨hbs, hb1, trivial⟩⟩
  · intro d c pre W hd hSp hX; exact hX.elim

end Go.Proofs.YtclgplkkajfenaaGreatDoor
