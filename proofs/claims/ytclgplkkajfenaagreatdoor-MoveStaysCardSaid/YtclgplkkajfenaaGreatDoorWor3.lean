/- words: Spans. -/
import Derived.Test.YtclgplkkajfenaaGreatDoorWor2
namespace Go.Proofs.YtclgplkkajfenaaGreatDoor
open Go Go.RowKit Ow
theorem Ow.SQ.outM1 {P : Program} {n N d : Nat} {w0 w : World} {L : List (Nat × Obj)} {e : Env} {fn : Func} {R : Ending → World → Prop} {x : Exit} (hO : Ow.Own w0 ((d, markO) :: L) w) (hd : w0.heap.size ≤ d) (hx : x = .ret ∨ x = .normal)
    (h : ∀ w', Ow.Own w0 L w' → w.grownBy w' (some d) → ∃ v, (∀ a : Act, Fits e a → (results fn a.tmps).run P w' = .ok v w') ∧ R (.returned v) w') : SQ (bodyPostM (Fc none) n P fn R) x N [coll d] e w := by
  intro a _ h2 h3
  have hm : w.heap[d]? = some markO := hO.at (i := 0) rfl
  have hg := grownBy_putObj' w d (.deferred none)
  have hO' : Ow.Own w0 L w := Own.tail hO hd
  have hnd := hO.nd
  simp only [List.map_cons, List.nodup_cons] at hnd
  have hne : ∀ p ∈ L, p.1 ≠ d := fun p hp e => hnd.1 (by rw [← e]; exact List.mem_map_of_mem (f := Prod.fst) hp)
  have hO2 : Ow.Own w0 L (w.putObj d (.deferred none)) := ⟨hg.os.trans hO'.os, hg.tape.trans hO'.tape, hg.output.trans hO'.output, Nat.le_trans hO'.size hg.size,
      fun k hk hn => (hg.block k (Nat.lt_of_lt_of_le hk hO'.size) (fun e => by cases e; omega)).trans (hO'.old k hk hn),
      fun p hp => (hg.block p.1 (lt_of_heap (hO'.own p hp)) (fun e => hne p hp (by cases e; rfl))).trans (hO'.own p hp), hO'.nd, hO'.two, hO'.base⟩
  have key : LeavesInM (Fc none) n P fn a.tmps R a.defers .returning w := by
    rw [h2]
    refine ⟨by simp, .inl ⟨d, _, rfl, run_takeDeferred hm, ?_⟩⟩
    obtain ⟨v, h4, h5⟩ := h _ hO2 hg
    exact ⟨v, h4 a h3, h5⟩
  rcases hx with rfl | rfl <;> exact key
theorem Ow.SQ.spans {N : Nat} {D : List Deferred} {e : Env} {w W wA W' : World} {s : ByteArray} {B bs b1 b2 b3 : Nat} {pre : List (Nat × Nat)} {x : Nat × Nat} {v v' : Value} {b : Bool} {L : List (Nat × Obj)}
    (hO : Ow.Own wA L W') (hc : SpC w s B bs b1 b2 b3 v b wA) (hL : ∀ p ∈ L, p.1 = b2 ∨ p.1 = b3 ∨ wA.heap.size ≤ p.1) (h3 : W'.heap[b3]? = some (.cells [.bool (decide (isW (atCh (bl s) (x.1 : Int)) = true))].toArray 4 (0, 0)))
    (h2 : W'.heap[b2]? = some (.cells [v'].toArray 111 (0, 0))) (hr : Own' encS 41 2 B wA v' (wFold (bl s) (pre ++ [x])).1) (hK : KeepsFrom B W wA) :
    SQ (RoundI B (KpW bs (boxS s)) (fun pre W => SpI w s B bs b1 b2 b3 pre W) (pre ++ [x]) W) .normal N D e W' := by
  have hnow : (wFold (bl s) (pre ++ [x])).2 = isW (atCh (bl s) (x.1 : Int)) := wFold_snd _ _ _
  have ht := hc.turned (v' := v') (b' := decide ((wFold (bl s) (pre ++ [x])).2 = true)) hO hL (by rw [hnow]; exact h3) h2
  have l2 := hc.lt.2.2.2.1.2
  have l3 := hc.lt.2.2.2.2.1.2
  exact SQ.goesI (Ow.KeepsFrom.comp hK (own_keeps hO hL l2 l3)) ⟨fun _ => ht.xs, fun _ => ht.good⟩ ⟨v', ht, row_own hr hO hL l2 l3⟩
theorem SpC.keeps {w W w1 wA : World} {s : ByteArray} {B bs b1 b2 b3 : Nat} {v : Value} {b : Bool} (_ : SpC w s B bs b1 b2 b3 v b W) (h1 : Below W.heap.size W w1) {row : Option Nat} (hg : w1.grownBy wA row) (hr : ∀ r, row = some r → ∃ c T f, w1.heap[r]? = some (.cells c T f)) : KeepsFrom B W wA :=
  Ow.KeepsFrom.comp (KeepsFrom.of_below h1) (KeepsFrom.of_grown hg hr)
theorem SpC.same {w W : World} {s : ByteArray} {B bs b1 b2 b3 : Nat} {v : Value} {b : Bool} (_ : SpC w s B bs b1 b2 b3 v b W) : KeepsFrom B W W := KeepsFrom.of_below (Below.refl _ _)
/-- An old block is taken up among the call's own. -/
theorem Ow.Own.knowOld {w0 w : World} {L : List (Nat × Obj)} {b : Nat} {o : Obj} (h : Ow.Own w0 L w) (hx : w0.heap[b]? = some o) (hn : ∀ p ∈ L, w0.heap.size ≤ p.1) (h2 : 2 ≤ b) : Ow.Own w0 ((b, o) :: L) w := by
  have hb := lt_of_heap hx
  exact h.know ((h.old b hb (fun p hp e => by have := hn p hp; omega)).trans hx) (fun p hp e => by have := hn p hp; omega) h2

theorem bd41_0_1_Wor3 (x0 : Int) (x1 : Int) : ∀ w, (Instr.build 41 [(0, .int .i64 x0), (1, .int .i64 x1)].toArray).run Tryz.prog w = .ok (.agg [.int .i64 x0, .int .i64 x1].toArray) w := fun _ => by kernel_rfl
theorem bs111_1_0_Wor3 (x0 : Int) (x1 : Int) : ∀ w, (Instr.buildSlice 111 1 [(0, .agg [.int .i64 x0, .int .i64 x1].toArray)].toArray).run Tryz.prog w = .ok (.slice (some ⟨w.heap.size, 0, none⟩) 1 1) (w.alloc (.cells [.int .i64 x0, .int .i64 x1].toArray 41)) := fun _ => by kernel_rfl
set_option maxRecDepth 20000 in
set_option maxHeartbeats 400000 in
theorem wspans_any (s : ByteArray) (w : World) (hG : Good w) (hz : s.size ≤ 1099511627776) :
    Calls Tryz.prog 213 #[.string s] w fun e w' => ∃ v, e = .returned v ∧ Own' encS 41 2 w.heap.size w' v (wSpans (bl s)) ∧ Below w.heap.size w w' := by
  have hcl := clusters_length (bl s)
  rw [bl_length] at hcl
  have hO0 := Own.start hG
  refine enterM Tryz.func213 rfl rfl rfl 5 ?_
  refine SC.sr ?_
  refine SO.box hO0 rfl rfl rfl rfl rfl [_] rfl ?_
  intro b1 w1 hb1 hO1
  refine SO.as ?_
  refine SO.nn ?_
  refine SC.sr ?_
  refine SO.alloc hO1 rfl rfl rfl rfl zv111 [_] rfl ?_
  intro b2 w2 hb2 hO2
  refine SO.nn ?_
  refine SC.sr ?_
  refine SO.alloc hO2 rfl rfl rfl rfl zv4 [_] rfl ?_
  intro b3 w3 hb3 hO3
  refine SO.store hO3 (i := 0) rfl rfl rfl rfl rfl rfl sz4 rfl rfl [(_, .cells [_].toArray _ _), _, _] rfl ?_
  intro w4 hO4
  refine SO.nn ?_
  refine SC.seq ?_
  refine SC.sr ?_
  refine SO.v (.load rfl rfl ag9 (cell_of' (hO4.at (i := 2) rfl) rfl)) ?_
  refine SO.call rfl rfl rfl rfl (.callF rfl rfl en76) (walk_any _ _ (hO4.good hG)) ?_
  rintro _ w5 ⟨bs, rfl, hbs, hbox, hb5⟩
  have hO5 := hO4.learnB hb5 hbs hbox
  replace hbs := Nat.le_trans hO4.size hbs
  refine ⟨_, rfl, ?_⟩
  refine SO.nn ?_
  refine SC.block ?_
  have hl1 := lt_of_heap (hO5.at (i := 0) rfl)
  have hl2 := lt_of_heap (hO5.at (i := 1) rfl)
  have hl3 := lt_of_heap (hO5.at (i := 2) rfl)
  have hl4 := lt_of_heap (hO5.at (i := 3) rfl)
  have hlts : (w.heap.size ≤ (w5).heap.size ∧ 2 ≤ w.heap.size) ∧ bs < (w5).heap.size ∧ b1 < (w5).heap.size ∧ (w.heap.size ≤ b2 ∧ b2 < (w5).heap.size) ∧ (w.heap.size ≤ b3 ∧ b3 < (w5).heap.size) ∧ b2 ≠ b3 ∧ bs ≠ b3 ∧ bs ≠ b2 ∧ b1 ≠ b3 ∧ b1 ≠ b2 := ⟨⟨hO5.size, hO5.base⟩, hl1, hl4, ⟨by assumption, hl3⟩, ⟨by assumption, hl2⟩, (fun e => by subst e; have h1 := hO5.at (i := 1) rfl; have h2 := hO5.at (i := 2) rfl; rw [h1] at h2; cases h2), (fun e => by subst e; have h1 := hO5.at (i := 0) rfl; have h2 := hO5.at (i := 1) rfl; rw [h1] at h2; cases h2), (fun e => by subst e; have h1 := hO5.at (i := 0) rfl; have h2 := hO5.at (i := 2) rfl; rw [h1] at h2; cases h2), (fun e => by subst e; have h1 := hO5.at (i := 3) rfl; have h2 := hO5.at (i := 1) rfl; rw [h1] at h2; cases h2), (fun e => by subst e; have h1 := hO5.at (i := 3) rfl; have h2 := hO5.at (i := 2) rfl; rw [h1] at h2; cases h2)⟩
  refine SC.rangeI (α := Nat × Nat) (β := Nat) rfl en136 (encs := fun c => [clV (bl s) c]) (by omega) (walk_stops s bs _ _ (hO5.good hG) (by omega) (hO5.at (i := 0) rfl)) KpW.trans (fun W l o1 o2 hl hx _ _ => KpW.put (lt_of_heap (hO5.at (i := 0) rfl)) (Nat.le_trans hO5.base hO5.size) W l o1 o2 hl hx) (fun _ => rfl) (by decide) (fun pre W => SpI w s w5.heap.size bs b1 b2 b3 pre W) (SpI.from) (⟨.slice none 0 0, ⟨hO5.good hG, hO5.toBelow ⟨hbs, hb3, hb2, hb1, trivial⟩, hO5.at (i := 0) rfl, hO5.at (i := 3) rfl, hO5.at (i := 1) rfl, hO5.at (i := 2) rfl, hlts⟩, Own'.nil⟩) (fun _ u => [(1, .pointer (some ⟨b1, 0, none⟩)), (3, .pointer (some ⟨b2, 0, none⟩)), (4, .pointer (some ⟨b3, 0, none⟩)), (5, .pointer (some ⟨u, 0, none⟩))]) (fun x u W => w5.heap.size ≤ u ∧ W.heap[u]? = some (.cells #[.int .i64 (x.1 : Int), .int .i64 (x.2 : Int), .int .i64 (clCls (bl s) x.1), .int .i64 (clCells (bl s) x.1)] 138 (0, 0))) (fun _ u => fun _ A B row h hg hr => ⟨h.1, (hg.block u (lt_of_heap h.2) (fun e => by obtain ⟨_, o, ho, hc⟩ := hr u e.symm; rw [h.2] at ho; cases ho; cases hc)).trans h.2⟩) ?_ ?_ ?_
  · intro l pre x W hI hW
    obtain ⟨v, hcI, hrow⟩ := id hI
    have hG := hcI.good
    have hxs := hcI.xs
    have hx1 := hcI.x1
    have hx2 := hcI.x2
    have hx3 := hcI.x3
    have hA6 := Own.start hG
    refine SC.region ?_
    refine SO.alloc hA6 rfl rfl rfl rfl zv138 [_, _, _, _] rfl ?_
    intro b7 w7 hb7 hO7
    refine SO.store hO7 (i := 0) rfl rfl rfl rfl rfl rfl sz138 rfl rfl [(_, .cells [_, _, _, _].toArray _ _)] rfl ?_
    intro w8 hO8
    refine SO.nil ?_
    have hE := hO8.toBelow ⟨hb7, trivial⟩
    exact SQ.assignedI b7 ⟨rfl, rfl, rfl, rfl, trivial⟩ ⟨Nat.le_trans hW hb7, hO8.at (i := 0) rfl⟩ (KeepsFrom.of_below hE) ⟨fun hx => (hE.block bs (lt_of_heap hx)).trans hx, fun h => h.ext hE⟩ (hI.below hE)
  · intro l pre x u W hI hW hM hlen
    obtain ⟨v, hcI, hrow⟩ := id hI
    have hG := hcI.good
    have hxs := hcI.xs
    have hx1 := hcI.x1
    have hx2 := hcI.x2
    have hx3 := hcI.x3
    have hx5 := hM.2
    have hB6 := Own.start hG
    refine SC.block ?_
    refine SC.sr ?_
    refine SO.v (.load rfl rfl ag9 (cell_of' (hB6.heapO trivial hx1) rfl)) ?_
    refine SO.v (.fieldAddr rfl rfl fa138_0) ?_
    refine SO.v (.load rfl rfl ag3 (cell_of' (hB6.heapO trivial hx5) rfl)) ?_
    refine SO.call rfl rfl rfl rfl (.callF rfl rfl en131) (at_any s (x.1 : Int) _ (hB6.good hG) (by omega)) ?_
    rintro _ w9 ⟨rfl, hb9⟩
    have hO9 := hB6.below hb9
    refine ⟨_, rfl, ?_⟩
    refine SO.mv ?_
    refine SO.v (.extract rfl rfl rfl) ?_
    refine SO.v (.extract rfl rfl rfl) ?_
    refine SO.alloc hO9 rfl rfl rfl rfl zv177 [_, _] rfl ?_
    intro b10 w10 hb10 hO10
    refine SO.store hO10 (i := 0) rfl rfl rfl rfl rfl rfl sz177 rfl rfl [(_, .cells [_, _].toArray _ _)] rfl ?_
    intro w11 hO11
    refine SO.as ?_
    refine SO.nn ?_
    refine SC.sr ?_
    refine SO.v (.fieldAddr rfl rfl fa177_0) ?_
    refine SO.v (.load rfl rfl ag21 (cell_of' (hO11.at (i := 0) rfl) rfl)) ?_
    refine SO.call rfl rfl rfl rfl (.callF rfl rfl en223) (isword_dec _ _ (hO11.good hG)) ?_
    rintro _ w12 ⟨rfl, hb12⟩
    have hO12 := hO11.below hb12
    refine ⟨_, rfl, ?_⟩
    refine SO.as ?_
    refine SO.nn ?_
    refine SC.seq ?_
    refine SC.block ?_
    refine SC.sr ?_
    refine SO.mv ?_
    refine SO.mv ?_
    refine SO.dec 24 rfl (fun g13 => ?_) (fun g13 => ?_)
    ·
     refine SO.v (.load rfl rfl ag4 (cell_of' (hO12.heapO ⟨hb10, trivial⟩ hx3) rfl)) ?_
     refine SO.v (.pickT rfl rfl rfl) ?_
     refine SO.as ?_
     refine SO.nn ?_
     refine SC.dec rfl (fun c14 => ?_) (fun c14 => ?_)
     ·
      have hin : (wFold (bl s) pre).2 = true := c14
      obtain ⟨xs, y, hxy⟩ := wFold_ne hin
      obtain ⟨g, cap, L, rfl, hL, hgB, hgl⟩ := hrow.sliceL (by rw [hxy]; simp)
      have hLx : L = xs.length + 1 := by rw [hL, hxy]; simp
      have hLb := (wFold_len (bl s) _ pre rfl).1
      refine SC.region ?_
      refine SO.v (.load rfl rfl ag111 (cell_of' (hO12.heapO ⟨hb10, trivial⟩ hx2) rfl)) ?_
      refine SO.v (.load rfl rfl ag111 (cell_of' (hO12.heapO ⟨hb10, trivial⟩ hx2) rfl)) ?_
      refine SO.v (.lenA rfl rfl Tryz.underlying111) ?_
      refine SO.v (.sub rfl rfl rfl (by omega)) ?_
      refine SO.v (.fieldAddr rfl rfl fa138_1) ?_
      refine SO.v (.load rfl rfl ag3 (cell_of' (hO12.heapO ⟨hb10, trivial⟩ hx5) rfl)) ?_
      refine SO.v (.indexAddr rfl rfl rfl Tryz.underlying111 sz41 (by omega) (by omega)) ?_
      refine SO.v (.fieldAddr rfl rfl fa41_1) ?_
      obtain ⟨wA, hsr, hrow2, hgA⟩ := Own'.setTo (w := w12) (a := y.1) (b := y.2) (b' := (x.2 : Int)) (by have h := hrow.below (hO12.toBelow ⟨hb10, trivial⟩); rw [hxy] at h; exact h)
      rw [show xs.length * 2 + 1 = 0 + ((L : Int) - 1).toNat * 2 + 1 by omega] at hsr
      have hcA := (hcI.below (hO12.toBelow ⟨hb10, trivial⟩)).grown hgA (fun r e => by cases e; exact hgB)
      have hKA := hcI.keeps (hO12.toBelow ⟨hb10, trivial⟩) hgA (hrow.below (hO12.toBelow ⟨hb10, trivial⟩)).isCells
      have hw2 : (wFold (bl s) (pre ++ [x])).1 = xs ++ [(y.1, (x.2 : Int))] := by rw [wFold_snoc, wStep, if_pos (show wdAt (bl s) x = true by assumption), if_pos hin, hxy]; simp
      have hOA := (Own.start hcA.good).know hcA.x3 (by simp) (by have := hcA.lt; omega)
      refine SO.eff rfl rfl rfl (w' := wA) (.storeN rfl rfl rfl sz3 hsr) ?_
      refine SO.nil ?_
      refine SQ.block_normal ?_
      refine SQ.then_normal ?_
      refine SC.region ?_
      refine SO.mv ?_
      refine SO.store hOA (i := 0) rfl rfl rfl rfl rfl rfl sz4 rfl rfl [(_, .cells [_].toArray _ _)] rfl ?_
      intro w16 hO16
      refine SO.nil ?_
      refine SQ.block_normal ?_
      exact SQ.spans hO16 hcA (by intro p hp; simp only [List.mem_cons, List.not_mem_nil, or_false] at hp; subst hp; exact .inr (.inl rfl)) (hO16.at (i := 0) rfl) ((hO16.old _ (lt_of_heap hcA.x2) (by have := hcA.lt; intro p hp; simp only [List.mem_cons, List.not_mem_nil, or_false] at hp; subst hp; simp only; omega)).trans hcA.x2) (by rw [hw2]; exact hrow2) hKA
     ·
      refine SC.sr ?_
      refine SO.mv ?_
      refine SO.as ?_
      refine SO.nn ?_
      refine SC.dec rfl (fun c17 => ?_) (fun c17 => ?_)
      ·
       refine SC.region ?_
       refine SO.v (.load rfl rfl ag111 (cell_of' (hO12.heapO ⟨hb10, trivial⟩ hx2) rfl)) ?_
       refine SO.v (.fieldAddr rfl rfl fa138_0) ?_
       refine SO.v (.load rfl rfl ag3 (cell_of' (hO12.heapO ⟨hb10, trivial⟩ hx5) rfl)) ?_
       refine SO.v (.fieldAddr rfl rfl fa138_1) ?_
       refine SO.v (.load rfl rfl ag3 (cell_of' (hO12.heapO ⟨hb10, trivial⟩ hx5) rfl)) ?_
       refine SO.v (.build rfl rfl (bd41_0_1_Wor3 _ _)) ?_
       refine SO.buildSlice hO12 rfl rfl rfl rfl rfl (bs111_1_0_Wor3 _ _) ?_
       intro b18 w18 hb18 hO18
       obtain ⟨v2, wA, happ, hrow2, hbA, hgA⟩ := Own'.push (hrow.below (hO18.toBelow ⟨hb18, hb10, trivial⟩)) encS_len encS_one Tryz.underlying111 inf41_ok inf41_z inf41_s inf41_b rfl (by decide) (by decide) ((x.1 : Int), (x.2 : Int)) (hO18.at (i := 0) rfl) (by have := (wFold_len (bl s) _ pre rfl).1; omega) (Nat.le_trans hW (hO18.toBelow ⟨hb18, hb10, trivial⟩).size) 111
       obtain ⟨g2, cap2, k2, rfl, _, _, _⟩ := hrow2.sliceL (by simp)
       have hrB := hrow.below (hO18.toBelow ⟨hb18, hb10, trivial⟩)
       have hcA := (hcI.below (hO18.toBelow ⟨hb18, hb10, trivial⟩)).grown hgA (fun r e => (World.ownsRow.lt hrB r e).1)
       have hKA := hcI.keeps (hO18.toBelow ⟨hb18, hb10, trivial⟩) hgA hrB.isCells
       have hw2 : (wFold (bl s) (pre ++ [x])).1 = (wFold (bl s) pre).1 ++ [((x.1 : Int), (x.2 : Int))] := by rw [wFold_snoc, wStep, if_pos (show wdAt (bl s) x = true by assumption), if_neg (by assumption)]
       have hOA := ((Own.start hcA.good).know hcA.x3 (by simp) (by have := hcA.lt; omega)).know hcA.x2 (by have := hcA.lt; intro p hp; simp only [List.mem_cons, List.not_mem_nil, or_false] at hp; subst hp; simp only; omega) (by have := hcA.lt; omega)
       refine SO.v (.builtin2 (v := .slice (some ⟨g2, 0, none⟩) k2 cap2) (w' := wA) rfl rfl rfl (fun cs => by simp [builtin, happ, Result.andThen])) ?_
       refine SO.store hOA (i := 0) rfl rfl rfl rfl rfl rfl sz111 rfl rfl [(_, .cells [_].toArray _ _), _] rfl ?_
       intro w19 hO19
       refine SO.nil ?_
       refine SQ.block_normal ?_
       refine SQ.then_normal ?_
       refine SC.region ?_
       refine SO.mv ?_
       refine SO.store hO19 (i := 1) rfl rfl rfl rfl rfl rfl sz4 rfl rfl [_, (_, .cells [_].toArray _ _)] rfl ?_
       intro w20 hO20
       refine SO.nil ?_
       refine SQ.block_normal ?_
       exact SQ.spans hO20 hcA (by intro p hp; simp only [List.mem_cons, List.not_mem_nil, or_false] at hp; rcases hp with rfl | rfl; (· exact .inl rfl); (· exact .inr (.inl rfl))) (hO20.at (i := 1) rfl) (hO20.at (i := 0) rfl) (by rw [hw2]; exact hrow2) hKA
      ·
       have hKA := hcI.same
       have hw2 : (wFold (bl s) (pre ++ [x])).1 = (wFold (bl s) pre).1 := by rw [wFold_snoc, wStep, if_neg (show ¬ wdAt (bl s) x = true by assumption)]
       exact absurd (by assumption) c17
    ·
     refine SO.ps ?_
     refine SO.v (.pickF rfl rfl rfl) ?_
     refine SO.as ?_
     refine SO.nn ?_
     refine SC.no rfl ?_
     refine SC.sr ?_
     refine SO.mv ?_
     refine SO.as ?_
     refine SO.nn ?_
     refine SC.dec rfl (fun c21 => ?_) (fun c21 => ?_)
     ·
      exact absurd c21 (by assumption)
     ·
      have hKA := hcI.same
      have hw2 : (wFold (bl s) (pre ++ [x])).1 = (wFold (bl s) pre).1 := by rw [wFold_snoc, wStep, if_neg (show ¬ wdAt (bl s) x = true by assumption)]
      refine SC.skip ?_
      refine SQ.block_normal ?_
      refine SQ.then_normal ?_
      refine SC.region ?_
      refine SO.mv ?_
      have hOK3 := hO12.knowOld hcI.x3 (by intro p hp; simp only [List.mem_cons, List.not_mem_nil, or_false] at hp; subst hp; assumption) (by have := hcI.lt; omega)
      refine SO.store hOK3 (i := 0) rfl rfl rfl rfl rfl rfl sz4 rfl rfl [(_, .cells [_].toArray _ _), _] rfl ?_
      intro w22 hO22
      refine SO.nil ?_
      refine SQ.block_normal ?_
      exact SQ.spans hO22 hcI (by intro p hp; simp only [List.mem_cons, List.not_mem_nil, or_false] at hp; rcases hp with rfl | rfl; (· exact .inr (.inl rfl)); all_goals exact .inr (.inr (by assumption))) (hO22.at (i := 0) rfl) ((hO22.old _ (lt_of_heap hcI.x2) (by have := hcI.lt; have := lt_of_heap hcI.x2; intro p hp; simp only [List.mem_cons, List.not_mem_nil, or_false] at hp; rcases hp with rfl | rfl <;> simp only <;> omega)).trans hcI.x2) (by rw [hw2]; exact hrow) hKA
  · intro d23 xs W hd23 hS hI hK
    subst hS
    obtain ⟨v, hcI, hrow⟩ := hI
    have hlt9 := hcI.lt
    replace hd23 := Nat.le_trans hcI.lt.1.1 hd23
    have hO23 := (((Ow.Own.start hG).below hcI.base).learn hcI.x2 (by simp) hlt9.2.2.2.1.1).learn hK (by intro p hp e; simp only [List.mem_cons, List.not_mem_nil, or_false] at hp; subst hp; have h1 := hcI.x2; simp only at e; rw [e, hK] at h1; cases h1) hd23
    have hres : Own' encS 41 2 w.heap.size W v (wSpans (bl s)) := hrow.wide hcI.lt.1.1
    refine SQ.block_normal ?_
    refine SQ.then_normal ?_
    refine SC.sr ?_
    refine SO.v (.load rfl rfl ag111 (cell_of' (hO23.at (i := 1) rfl) rfl)) ?_
    refine SO.as ?_
    refine SO.nn ?_
    refine SC.ret ?_
    refine SQ.outM1 hO23 hd23 (.inl rfl) (fun w24 hO24 hgo => ⟨_, res1 (t := 2) rfl rfl, ?_⟩)
    exact ⟨_, rfl, hres.from hgo (fun r e => ⟨markO, by cases e; exact hK, rfl⟩), hO24.toBelow ⟨hb2, trivial⟩⟩

end Go.Proofs.YtclgplkkajfenaaGreatDoor
