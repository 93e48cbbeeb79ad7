/- lines: At. -/
import Derived.Test.YtclgplkkajfenaaGreatDoorLin2
namespace Go.Proofs.YtclgplkkajfenaaGreatDoor
open Go Go.RowKit Ow
/-- The cells of the clusters up to and with the last. -/
def upto (lb : Bs) (q : Int) : List (Nat × Nat) → Int → List (Nat × Nat)
  | [], _ => []
  | c :: cs, n => if n + clCells lb c.1 > q then [] else c :: upto lb q cs (n + clCells lb c.1)
/-- Do all clusters of a beginning lie within a column? -/
def within (lb : Bs) (q : Int) (pre : List (Nat × Nat)) : Prop := ∀ p r, pre = p ++ r → nCells lb p ≤ q ∨ p = []
theorem upto_all {lb : Bs} {q : Int} : ∀ (cs : List (Nat × Nat)) (n : Int), (∀ p x r, cs = p ++ x :: r → ¬ n + nCells lb (p ++ [x]) > q) → upto lb q cs n = cs
  | [], _, _ => rfl
  | c :: cs, n, h => by
    have h0 := h [] c cs rfl
    simp only [nCells, List.nil_append, List.map_cons, List.map_nil, List.sum_cons, List.sum_nil, Int.add_zero] at h0
    rw [upto, if_neg h0, upto_all cs]
    intro p x r e
    have := h (c :: p) x r (by rw [e]; rfl)
    simp only [nCells, List.cons_append, List.map_cons, List.sum_cons] at this ⊢
    omega
theorem upto_stop {lb : Bs} {q : Int} : ∀ (p : List (Nat × Nat)) (x : Nat × Nat) (r : List (Nat × Nat)) (n : Int), (∀ p' y r', p = p' ++ y :: r' → ¬ n + nCells lb (p' ++ [y]) > q) → n + nCells lb (p ++ [x]) > q → upto lb q (p ++ x :: r) n = p
  | [], x, r, n, _, hx => by
    simp only [nCells, List.nil_append, List.map_cons, List.map_nil, List.sum_cons, List.sum_nil, Int.add_zero] at hx
    rw [List.nil_append, upto, if_pos hx]
  | c :: p, x, r, n, h, hx => by
    have h0 := h [] c p rfl
    simp only [nCells, List.nil_append, List.map_cons, List.map_nil, List.sum_cons, List.sum_nil, Int.add_zero] at h0
    rw [List.cons_append, upto, if_neg h0, upto_stop p x r]
    · intro p' y r' e
      have := h (c :: p') y r' (by rw [e]; rfl)
      simp only [nCells, List.cons_append, List.map_cons, List.sum_cons] at this ⊢
      omega
    · simp only [nCells, List.cons_append, List.map_cons, List.sum_cons] at hx ⊢
      omega
/-- Where the last cluster ends. -/
def lastTo (F : Int) : List (Nat × Nat) → Int
  | [] => F
  | [c] => aw F c.2
  | _ :: c :: cs => lastTo F (c :: cs)
theorem lastTo_snoc (F : Int) : ∀ (p : List (Nat × Nat)) (x : Nat × Nat), lastTo F (p ++ [x]) = aw F x.2
  | [], _ => rfl
  | [_], _ => rfl
  | _ :: c :: cs, x => by
    rw [List.cons_append, List.cons_append, lastTo, ← List.cons_append]
    exact lastTo_snoc F (c :: cs) x
def InCol (lb : Bs) (q : Int) (pre : List (Nat × Nat)) : Prop := ∀ p x r, pre = p ++ x :: r → ¬ nCells lb (p ++ [x]) > q
theorem InCol.nil (lb : Bs) (q : Int) : InCol lb q [] := fun p x r h => by simp at h
theorem InCol.snoc {lb : Bs} {q : Int} {pre : List (Nat × Nat)} {x : Nat × Nat} (h : InCol lb q pre) (hx : ¬ nCells lb pre + clCells lb x.1 > q) : InCol lb q (pre ++ [x]) := fun p y r e => by
  rcases List.eq_nil_or_concat r with rfl | ⟨r', z, rfl⟩
  · have h1 := List.append_inj' e rfl
    rw [← h1.1, ← (List.cons.inj h1.2).1, nCells_snoc]; exact hx
  · have e2 : pre ++ [x] = (p ++ y :: r') ++ [z] := by rw [e]; simp
    have h1 := List.append_inj' e2 rfl
    exact h p y r' h1.1
def atR (s : ByteArray) (k q : Int) : Int := if spE (bl s) k ≠ 0 then 0 else lastTo (spF (bl s) k : Nat) (upto (bl (lineB s k)) q (clusters (bl (lineB s k))) 0)

set_option maxRecDepth 20000 in
set_option maxHeartbeats 400000 in
theorem lines_at (v : Value) (s : ByteArray) (k q : Int) (w : World) (hG : Good w) (ht : TextAt w v s) :
    Calls Tryz.prog 25 #[v, .int .i64 k, .int .i64 q] w fun e w' => e = .returned (.tuple #[.int .i64 (atR s k q), .int .i64 (spE (bl s) k)]) ∧ Below w.heap.size w w' := by
  have hsz := ht.size
  obtain ⟨tT, tx, rfl⟩ := ht.iface
  have hsl := slT_size s (spF (bl s) k : Nat) (spT (bl s) k : Nat)
  have hcl := clusters_length (bl (lineB s k))
  rw [bl_length] at hcl
  have hsl2 : ((lineB s k)).size ≤ s.size := hsl
  have hO0 := Own.start hG
  refine enterM Tryz.func25 rfl rfl rfl 5 ?_
  refine SC.seq ?_
  refine SC.region ?_
  refine SO.box hO0 rfl rfl rfl rfl rfl [_] rfl ?_
  intro b1 w1 hb1 hO1
  refine SO.val rfl rfl rfl rfl (.assign rfl rfl) ?_
  refine SO.val rfl rfl rfl rfl (.assign rfl rfl) ?_
  refine SO.nil ?_
  refine SQ.then_normal ?_
  refine SC.seq ?_
  refine SC.region ?_
  refine SO.val rfl rfl rfl rfl (.move rfl rfl) ?_
  refine SO.val rfl rfl rfl rfl (.move rfl rfl) ?_
  refine SO.call rfl rfl rfl rfl (.callF rfl rfl en28) (lines_span _ s _ _ (hO1.good hG) (ht.below (hO1.toBelow ⟨hb1, trivial⟩))) ?_
  rintro _ w2 ⟨rfl, hb2⟩
  have hO2 := hO1.below hb2
  refine ⟨_, rfl, ?_⟩
  refine SO.val rfl rfl rfl rfl (.move rfl rfl) ?_
  refine SO.val rfl rfl rfl rfl (.extract rfl rfl rfl) ?_
  refine SO.val rfl rfl rfl rfl (.extract rfl rfl rfl) ?_
  refine SO.alloc hO2 rfl rfl rfl rfl zv41 [_, _] rfl ?_
  intro b3 w3 hb3 hO3
  refine SO.store hO3 (i := 0) rfl rfl rfl rfl rfl rfl sz41 rfl rfl [(_, .cells [_, _].toArray _ _), _] rfl ?_
  intro w4 hO4
  refine SO.val rfl rfl rfl rfl (.assign rfl rfl) ?_
  refine SO.nil ?_
  refine SQ.then_normal ?_
  refine SC.seq ?_
  refine SC.seq ?_
  refine SC.region ?_
  refine SO.val rfl rfl rfl rfl (.move rfl rfl) ?_
  refine SO.val rfl rfl rfl rfl (.neq rfl rfl rfl) ?_
  refine SO.nil ?_
  refine SQ.then_normal ?_
  refine SC.dec rfl (fun c5 => ?_) (fun c5 => ?_)
  ·
    have hse := c5
    refine SC.seq ?_
    refine SC.region ?_
    refine SO.val rfl rfl rfl rfl (.move rfl rfl) ?_
    refine SO.val rfl rfl rfl rfl (.assign rfl rfl) ?_
    refine SO.val rfl rfl rfl rfl (.assign rfl rfl) ?_
    refine SO.nil ?_
    refine SQ.then_normal ?_
    refine SC.ret ?_
    refine SQ.then_ret ?_
    refine SQ.outM [] hO4 (fun _ h => by cases h) (.inl rfl) (fun w6 hO6 => ⟨_, res2 (t := 6) (u := 7) rfl rfl rfl, ?_⟩)
    first | exact ⟨by unfold atR; rw [if_pos hse]; rfl, hO6.toBelow ⟨hb3, hb1, trivial⟩⟩ | exact ⟨by unfold atR; rw [if_neg (by omega), ← hat, hse]; rfl, hO6.toBelow ⟨hb3, hb1, trivial⟩⟩
  ·
    have hse : spE (bl s) k = 0 := by omega
    refine SC.skip ?_
    refine SQ.then_normal ?_
    refine SC.seq ?_
    refine SC.region ?_
    refine SO.val rfl rfl rfl rfl (.fieldAddr rfl rfl fa41_0) ?_
    refine SO.val rfl rfl rfl rfl (.load rfl rfl ag3 (cell_of' (hO4.at (i := 0) rfl) rfl)) ?_
    refine SO.alloc hO4 rfl rfl rfl rfl zv3 [_] rfl ?_
    intro b7 w7 hb7 hO7
    refine SO.alloc hO7 rfl rfl rfl rfl zv3 [_] rfl ?_
    intro b8 w8 hb8 hO8
    refine SO.store hO8 (i := 1) rfl rfl rfl rfl rfl rfl sz3 rfl rfl [_, (_, .cells [_].toArray _ _), _, _] rfl ?_
    intro w9 hO9
    refine SO.store hO9 (i := 0) rfl rfl rfl rfl rfl rfl sz3 rfl rfl [(_, .cells [_].toArray _ _), _, _, _] rfl ?_
    intro w10 hO10
    refine SO.nil ?_
    refine SQ.then_normal ?_
    refine SC.seq ?_
    refine SC.seq ?_
    refine SC.region ?_
    refine SO.val rfl rfl rfl rfl (.move rfl rfl) ?_
    refine SO.val rfl rfl rfl rfl (.fieldAddr rfl rfl fa41_0) ?_
    refine SO.val rfl rfl rfl rfl (.load rfl rfl ag3 (cell_of' (hO10.at (i := 2) rfl) rfl)) ?_
    refine SO.val rfl rfl rfl rfl (.fieldAddr rfl rfl fa41_1) ?_
    refine SO.val rfl rfl rfl rfl (.load rfl rfl ag3 (cell_of' (hO10.at (i := 2) rfl) rfl)) ?_
    refine SO.call rfl rfl rfl rfl (.callF rfl rfl en77) (lines_slice _ s _ _ _ (hO10.good hG) (ht.below (hO10.toBelow ⟨hb8, hb7, hb3, hb1, trivial⟩))) ?_
    rintro _ w11 ⟨rfl, hb11⟩
    have hO11 := hO10.below hb11
    refine ⟨_, rfl, ?_⟩
    refine SO.call rfl rfl rfl rfl (.callF rfl rfl en76) (walk_any (lineB s k) _ (hO11.good hG)) ?_
    rintro _ w12 ⟨bs, rfl, hbs, hbox, hb12⟩
    have hO12 := hO11.learnB hb12 hbs hbox
    replace hbs := Nat.le_trans hO11.size hbs
    refine ⟨_, rfl, ?_⟩
    refine SO.nil ?_
    refine SQ.then_normal ?_
    refine SC.block ?_
    have hlt13 : ∀ b ∈ [bs, b8, b7, b3, b1], b < w12.heap.size := hO12.ltN
    have hsz13 := hO12.size
    refine SC.rangeP (α := Nat × Nat) (β := Nat) (fun pre => InCol (bl (lineB s k)) q pre) (InCol.nil _ _) hO12 rfl en136 (encs := fun c => [clV (bl (lineB s k)) c]) (by omega) (walk_stops (lineB s k) bs _ _ (hO12.good hG) (by omega) (hO12.at (i := 0) rfl)) KpW.trans (fun W l o1 o2 hl hx _ _ => KpW.put (lt_of_heap (hO12.at (i := 0) rfl)) (Nat.le_trans hO12.base hO12.size) W l o1 o2 hl hx) (fun _ => rfl) (by decide) (fun pre => [(bs, boxS (lineB s k)), (b8, .cells #[.int .i64 (nCells (bl (lineB s k)) pre)] 3 (0, 0)), (b7, .cells #[.int .i64 (lastTo (spF (bl s) k : Nat) pre)] 3 (0, 0)), (b3, .cells #[.int .i64 (spF (bl s) k : Nat), .int .i64 (spT (bl s) k : Nat)] 41 (0, 0)), (b1, .cells #[.int .i64 q] 3 (0, 0))]) (fun c xs => c = .exit 0 ∧ ∃ p x, xs = p ++ [x] ∧ InCol (bl (lineB s k)) q p ∧ nCells (bl (lineB s k)) p + clCells (bl (lineB s k)) x.1 > q) (fun _ xs => [(bs, boxS (lineB s k)), (b8, .cells #[.int .i64 (nCells (bl (lineB s k)) xs)] 3 (0, 0)), (b7, .cells #[.int .i64 (lastTo (spF (bl s) k : Nat) xs.dropLast)] 3 (0, 0)), (b3, .cells #[.int .i64 (spF (bl s) k : Nat), .int .i64 (spT (bl s) k : Nat)] 41 (0, 0)), (b1, .cells #[.int .i64 q] 3 (0, 0))]) rfl (fun _ => rfl) (fun _ _ _ => rfl) (fun _ u => [(8, .pointer (some ⟨b3, 0, none⟩)), (5, .pointer (some ⟨b1, 0, none⟩)), (10, .pointer (some ⟨b7, 0, none⟩)), (11, .pointer (some ⟨b8, 0, none⟩)), (12, .pointer (some ⟨u, 0, none⟩))]) (fun x u W => w12.heap.size ≤ u ∧ W.heap[u]? = some (.cells #[.int .i64 (x.1 : Int), .int .i64 (x.2 : Int), .int .i64 (clCls (bl (lineB s k)) x.1), .int .i64 (clCells (bl (lineB s k)) x.1)] 138 (0, 0))) (fun _ u => fun _ A B row h hg hr => ⟨h.1, (hg.block u (lt_of_heap h.2) (fun e => by obtain ⟨_, o, ho, hc⟩ := hr u e.symm; rw [h.2] at ho; cases ho; cases hc)).trans h.2⟩) ?_ ?_ ?_ ?_
    · intro l pre x W hI hW
      have hA13 := hI.adopt
      refine SC.region ?_
      refine SO.alloc hA13 rfl rfl rfl rfl zv138 [_, _, _, _] rfl ?_
      intro b14 w14 hb14 hO14
      refine SO.store hO14 (i := 0) rfl rfl rfl rfl rfl rfl sz138 rfl rfl [(_, .cells [_, _, _, _].toArray _ _), _, _, _, _, _] rfl ?_
      intro w15 hO15
      refine SO.nil ?_
      have hE := (hO15.tail hb14)
      exact SQ.assigned b14 ⟨rfl, rfl, rfl, rfl, rfl, trivial⟩ ⟨Nat.le_trans hW hb14, hO15.at (i := 0) rfl⟩ (hE.keeps (namesLt rfl hlt13)) ⟨fun _ => hE.at (i := 0) rfl, fun h => hE.good h⟩ (hI.comp hE rfl)
    · intro l pre x u W hP hI hW hM hlen
      have hB13 := hI.adopt.know hM.2 (namesNe rfl hlt13 hM.1) (by have := hM.1; have := hO0.base; omega)
      have hr1 := nCells_range (bl (lineB s k)) pre
      have hr2 := clCells_range (bl (lineB s k)) x.1
      refine SC.block ?_
      refine SC.seq ?_
      refine SC.region ?_
      refine SO.val rfl rfl rfl rfl (.load rfl rfl ag3 (cell_of' (hB13.at (i := 2) rfl) rfl)) ?_
      refine SO.val rfl rfl rfl rfl (.fieldAddr rfl rfl fa138_3) ?_
      refine SO.val rfl rfl rfl rfl (.load rfl rfl ag3 (cell_of' (hB13.at (i := 0) rfl) rfl)) ?_
      refine SO.val rfl rfl rfl rfl (.add rfl rfl rfl (by omega)) ?_
      refine SO.store hB13 (i := 2) rfl rfl rfl rfl rfl rfl sz3 rfl rfl [_, _, (_, .cells [_].toArray _ _), _, _, _] rfl ?_
      intro w16 hO16
      refine SO.nil ?_
      refine SQ.then_normal ?_
      refine SC.seq ?_
      refine SC.seq ?_
      refine SC.region ?_
      refine SO.val rfl rfl rfl rfl (.load rfl rfl ag3 (cell_of' (hO16.at (i := 2) rfl) rfl)) ?_
      refine SO.val rfl rfl rfl rfl (.load rfl rfl ag3 (cell_of' (hO16.at (i := 5) rfl) rfl)) ?_
      refine SO.val rfl rfl rfl rfl (.gtr rfl rfl rfl) ?_
      refine SO.nil ?_
      refine SQ.then_normal ?_
      refine SC.dec rfl (fun c17 => ?_) (fun c17 => ?_)
      ·
        refine SC.exit ?_
        refine SQ.then_exit ?_
        refine SQ.block_pass rfl ?_
        have hE := (hO16.forget hM.2)
        rw [← nCells_snoc] at hE
        have e9 : lastTo (spF (bl s) k : Nat) pre = lastTo (spF (bl s) k : Nat) (pre ++ [x]).dropLast := by rw [List.dropLast_concat]
        rw [e9] at hE
        exact SQ.breaksP (hE.keeps (namesLt rfl hlt13)) ⟨rfl, pre, x, rfl, hP, by assumption⟩ (hI.comp hE rfl)
      ·
        refine SC.skip ?_
        refine SQ.then_normal ?_
        refine SC.region ?_
        refine SO.val rfl rfl rfl rfl (.fieldAddr rfl rfl fa41_0) ?_
        refine SO.val rfl rfl rfl rfl (.load rfl rfl ag3 (cell_of' (hO16.at (i := 4) rfl) rfl)) ?_
        refine SO.val rfl rfl rfl rfl (.fieldAddr rfl rfl fa138_1) ?_
        refine SO.val rfl rfl rfl rfl (.load rfl rfl ag3 (cell_of' (hO16.at (i := 0) rfl) rfl)) ?_
        refine SO.val rfl rfl rfl rfl (.addW rfl rfl rfl) ?_
        refine SO.store hO16 (i := 3) rfl rfl rfl rfl rfl rfl sz3 rfl rfl [_, _, _, (_, .cells [_].toArray _ _), _, _] rfl ?_
        intro w18 hO18
        refine SO.nil ?_
        refine SQ.block_normal ?_
        have hE := (hO18.forget hM.2)
        rw [← nCells_snoc] at hE
        have hPn := hP.snoc (x := x) (by assumption)
        have hE2 := hE
        rw [show IntKind.i64.wrap (((spF (bl s) k : Nat) : Int) + (x.2 : Int)) = lastTo (spF (bl s) k : Nat) (pre ++ [x]) from (lastTo_snoc _ _ _).symm] at hE
        exact SQ.goesP (hE.keeps (namesLt rfl hlt13)) ⟨fun _ => hE.at (i := 0) rfl, fun h => hE.good h⟩ hPn (hI.comp hE rfl)
    · intro d19 xs W hd19 hS hP hO19
      subst hS
      have hat : lastTo (spF (bl s) k : Nat) (clusters (bl (lineB s k))) = lastTo (spF (bl s) k : Nat) (upto (bl (lineB s k)) q (clusters (bl (lineB s k))) 0) := by rw [upto_all _ _ (fun p x r e => by rw [Int.zero_add]; exact hP p x r e)]
      refine SQ.block_normal ?_
      refine SQ.then_normal ?_
      refine SC.seq ?_
      refine SC.region ?_
      refine SO.val rfl rfl rfl rfl (.load rfl rfl ag3 (cell_of' (hO19.at (i := 3) rfl) rfl)) ?_
      refine SO.val rfl rfl rfl rfl (.assign rfl rfl) ?_
      refine SO.val rfl rfl rfl rfl (.assign rfl rfl) ?_
      refine SO.nil ?_
      refine SQ.then_normal ?_
      refine SC.ret ?_
      refine SQ.outM [d19] hO19 (List.forall_mem_cons.2 ⟨hd19, fun _ h => by cases h⟩) (.inl rfl) (fun w20 hO20 => ⟨_, res2 (t := 6) (u := 7) rfl rfl rfl, ?_⟩)
      first | exact ⟨by unfold atR; rw [if_pos hse]; rfl, hO20.toBelow ⟨hbs, hb8, hb7, hb3, hb1, trivial⟩⟩ | exact ⟨by unfold atR; rw [if_neg (by omega), ← hat, hse]; rfl, hO20.toBelow ⟨hbs, hb8, hb7, hb3, hb1, trivial⟩⟩
    · intro d21 c pre W hd21 hSp hX hO21
      obtain ⟨rfl, p, x, rfl, hp1, hp2⟩ := hX
      obtain ⟨r, hr⟩ := hSp
      rw [List.dropLast_concat] at hO21
      have hat : lastTo (spF (bl s) k : Nat) p = lastTo (spF (bl s) k : Nat) (upto (bl (lineB s k)) q (clusters (bl (lineB s k))) 0) := by rw [← hr, List.append_assoc, List.singleton_append, upto_stop p x r 0 (fun p' y r' e => by rw [Int.zero_add]; exact hp1 p' y r' e) (by rw [Int.zero_add, nCells_snoc]; exact hp2)]
      refine SC.exit ?_
      refine SQ.block_exit ?_
      refine SQ.then_normal ?_
      refine SC.seq ?_
      refine SC.region ?_
      refine SO.val rfl rfl rfl rfl (.load rfl rfl ag3 (cell_of' (hO21.at (i := 3) rfl) rfl)) ?_
      refine SO.val rfl rfl rfl rfl (.assign rfl rfl) ?_
      refine SO.val rfl rfl rfl rfl (.assign rfl rfl) ?_
      refine SO.nil ?_
      refine SQ.then_normal ?_
      refine SC.ret ?_
      refine SQ.outM [d21] hO21 (List.forall_mem_cons.2 ⟨hd21, fun _ h => by cases h⟩) (.inl rfl) (fun w22 hO22 => ⟨_, res2 (t := 6) (u := 7) rfl rfl rfl, ?_⟩)
      first | exact ⟨by unfold atR; rw [if_pos hse]; rfl, hO22.toBelow ⟨hbs, hb8, hb7, hb3, hb1, trivial⟩⟩ | exact ⟨by unfold atR; rw [if_neg (by omega), ← hat, hse]; rfl, hO22.toBelow ⟨hbs, hb8, hb7, hb3, hb1, trivial⟩⟩

end Go.Proofs.YtclgplkkajfenaaGreatDoor
