/- The reference: cells, Column, At. -/
import Derived.Test.YtclgplkkajfenaaGreatDoorRef6
namespace Go.Proofs.YtclgplkkajfenaaGreatDoor
open Go Go.RowKit Ow
theorem clFrom_rise {l : Bs} : ∀ n i, i + n = l.length → CB l i → (clFrom l i).Pairwise (fun c d => c.2 < d.2) := by
  intro n
  induction n using Nat.strongRecOn with
  | ind n ih =>
    intro i hi hc
    by_cases h : i < l.length
    · obtain ⟨h1, h2, h3, _⟩ := cNext_spec h
      rw [clFrom_cons h, List.pairwise_cons]
      refine ⟨fun d hd => ?_, ih (l.length - cNext l i) (by omega) _ (by omega) h3⟩
      obtain ⟨_, g2, g3, g4⟩ := clFrom_mem (l := l) (l.length - cNext l i) (cNext l i) (by omega) h3 d hd
      have := (cNext_spec g3).1
      simp only; omega
    · rw [clFrom_nil (by omega)]; exact List.Pairwise.nil
theorem clusters_rise (l : Bs) : (clusters l).Pairwise (fun c d => c.2 < d.2) := clFrom_rise l.length 0 (by omega) (.zero l)
/-- The cells of the clusters that end at a place or ahead of it. -/
def upTo (l : Bs) (a : Int) : List (Nat × Nat) := (clusters l).filter fun c => decide ((c.2 : Int) ≤ a)
theorem filter_take {xs : List (Nat × Nat)} (h : xs.Pairwise (fun c d => c.2 < d.2)) {i : Nat} (hi : i < xs.length) {a : Int} (ha : a = (xs[i].2 : Int)) :
    xs.filter (fun c => decide ((c.2 : Int) ≤ a)) = xs.take (i + 1) := by
  rw [List.pairwise_iff_getElem] at h
  rw [← List.take_append_drop (i + 1) xs, List.filter_append]
  have e1 : (xs.take (i + 1)).filter (fun c => decide ((c.2 : Int) ≤ a)) = xs.take (i + 1) := List.filter_eq_self.2 fun c hc => by
    obtain ⟨j, hj, rfl⟩ := List.mem_iff_getElem.1 hc
    simp only [List.getElem_take, decide_eq_true_eq]
    rw [List.length_take] at hj
    by_cases e : j = i
    · subst e; omega
    · have := h j i (by omega) hi (by omega); omega
  have e2 : (xs.drop (i + 1)).filter (fun c => decide ((c.2 : Int) ≤ a)) = [] := List.filter_eq_nil_iff.2 fun c hc => by
    obtain ⟨j, hj, rfl⟩ := List.mem_iff_getElem.1 hc
    rw [List.length_drop] at hj
    simp only [List.getElem_drop, decide_eq_true_eq]
    have := h i (i + 1 + j) hi (by omega) (by omega)
    omega
  rw [e1, e2, List.append_nil, List.take_append_drop]
theorem filter_while {xs : List (Nat × Nat)} (h : xs.Pairwise (fun c d => c.2 < d.2)) (a : Int) : xs.filter (fun c => decide ((c.2 : Int) ≤ a)) = xs.takeWhile (fun c => decide ((c.2 : Int) ≤ a)) := by
  induction xs with
  | nil => rfl
  | cons x xs ih =>
    rw [List.pairwise_cons] at h
    rw [List.filter_cons, List.takeWhile_cons]
    by_cases e : (x.2 : Int) ≤ a
    · rw [decide_eq_true e, if_pos rfl, if_pos rfl, ih h.2]
    · rw [decide_eq_false e, if_neg (by decide), if_neg (by decide)]
      exact List.filter_eq_nil_iff.2 fun c hc => by have := h.1 c hc; simp only [decide_eq_true_eq]; omega
/-- The reference's sum, cluster by cluster. -/
theorem sum_step (l : Bs) (a : Int) (xs : List (Nat × Nat)) {i : Nat} (hi : i < xs.length) :
    nCells l ((xs.take (i + 1)).filter fun c => decide ((c.2 : Int) ≤ a)) = nCells l ((xs.take i).filter fun c => decide ((c.2 : Int) ≤ a)) + if (xs[i].2 : Int) ≤ a then clCells l xs[i].1 else 0 := by
  rw [List.take_succ_eq_append_getElem hi, List.filter_append, nCells_append]
  congr 1
  by_cases e : (xs[i].2 : Int) ≤ a
  · rw [if_pos e]; simp [e, nCells]
  · rw [if_neg e]; simp [e, nCells]
theorem filter_len {α : Type} (p : α → Bool) (xs : List α) : (xs.filter p).length ≤ xs.length := List.length_filter_le _ _
theorem colW_upTo {s : ByteArray} (hz : s.size ≤ 1099511627775) {k : Int} (h : 0 ≤ k) (hk : k ≤ nlC (bl s)) (a : Int) (_ha : -1 ≤ a ∧ a ≤ s.size) : colW s k a = nCells (bl (lineB s k)) (upTo (bl (lineB s k)) (a - bgn (bl s) k)) := by
  obtain ⟨e0, e1, e2, e3⟩ := lineB_eq (s := s) h hk
  obtain ⟨g1, g2, g3, g4⟩ := lend_spec (l := bl s) h hk
  have hlen := sub_length (F := bgn (bl s) k) g2
  rw [bl_length] at g2
  unfold colW upTo
  congr 1
  rw [filter_while (clusters_rise _)]
  have hw : ∀ (p q : Nat × Nat → Bool) (xs : List (Nat × Nat)), (∀ c ∈ xs, p c = q c) → xs.takeWhile p = xs.takeWhile q := by
    intro p q xs
    induction xs with
    | nil => intro _; rfl
    | cons x xs ih => intro hx; rw [List.takeWhile_cons, List.takeWhile_cons, hx x (by simp), ih fun c hc => hx c (List.mem_cons_of_mem _ hc)]
  refine hw _ _ _ fun c hc => ?_
  obtain ⟨_, h3, h4⟩ := clusters_mem hc
  have h5 := (cNext_spec h3).2.1
  rw [← h4, e0, hlen] at h5
  have e5 : aw ((bgn (bl s) k : Nat) : Int) (c.2 : Int) = ((bgn (bl s) k : Nat) : Int) + (c.2 : Int) := by unfold aw; rw [IntWalk.i64_in _ (by omega)]
  refine decide_eq_decide.2 ?_
  unfold past
  rw [e1, e5]
  omega
theorem upto_snoc {lb : Bs} {q : Int} : ∀ (xs : List (Nat × Nat)) (x : Nat × Nat) (n : Int), n + nCells lb (xs ++ [x]) > q → upto lb q (xs ++ [x]) n = upto lb q xs n
  | [], x, n, h => by
    simp only [nCells, List.nil_append, List.map_cons, List.map_nil, List.sum_cons, List.sum_nil, Int.add_zero] at h
    simp only [List.nil_append, upto, if_pos h]
  | c :: xs, x, n, h => by
    rw [List.cons_append, upto, upto]
    by_cases e : n + clCells lb c.1 > q
    · rw [if_pos e, if_pos e]
    · rw [if_neg e, if_neg e, upto_snoc xs x _ (by rw [List.cons_append, nCells_cons] at h; omega)]
theorem upto_in {lb : Bs} {q : Int} (xs : List (Nat × Nat)) (h : nCells lb xs ≤ q) : upto lb q xs 0 = xs := upto_all _ _ (inCol_of h)
/-- Where the last cluster of a list ends; nought, if there is none. -/
def endOf (xs : List (Nat × Nat)) : Int := match xs.getLast? with | some c => (c.2 : Int) | none => 0
theorem endOf_snoc (xs : List (Nat × Nat)) (x : Nat × Nat) : endOf (xs ++ [x]) = (x.2 : Int) := by unfold endOf; simp
theorem lastTo_end (F : Int) (xs : List (Nat × Nat)) (h : ∀ c ∈ xs, aw F c.2 = F + c.2) : lastTo F xs = F + endOf xs := by
  rcases List.eq_nil_or_concat xs with rfl | ⟨p, x, rfl⟩
  · simp [lastTo, endOf]
  · rw [List.concat_eq_append] at h ⊢
    rw [lastTo_snoc, endOf_snoc]; exact h x (by simp)
theorem upto_sub {lb : Bs} {q : Int} : ∀ (xs : List (Nat × Nat)) (n : Int), ∀ c ∈ upto lb q xs n, c ∈ xs
  | [], _, c, h => by simp [upto] at h
  | x :: xs, n, c, h => by
    rw [upto] at h
    split at h
    · simp at h
    · rcases List.mem_cons.1 h with rfl | h
      · simp
      · exact List.mem_cons_of_mem _ (upto_sub xs _ c h)

set_option maxRecDepth 20000 in
set_option maxHeartbeats 400000 in
theorem refsum_any (s : ByteArray) (a : Int) (w : World) (hG : Good w) (hz : s.size ≤ 1099511627775) :
    Calls Tryz.prog 78 #[.string s, .int .i64 a] w fun e w' => e = .returned (.int .i64 (nCells (bl s) (upTo (bl s) a))) ∧ Below w.heap.size w w' := by
  have hszl := bl_length s
  have hO0 := Own.start hG
  refine enter Tryz.func78 rfl rfl rfl 0 ?_
  refine SC.sr ?_
  refine SO.as ?_
  refine SO.nn ?_
  refine SC.sr ?_
  refine SO.mv ?_
  refine SO.call rfl rfl rfl rfl (.callF rfl rfl en79) (reflist_any s _ (hO0.good hG) (by omega)) ?_
  rintro _ w1 ⟨vQ, rfl, hrQ, hb1⟩
  have hOq := hO0.below hb1
  have hbU := hOq.toBelow trivial
  have hGU := hOq.good hG
  have hlenQ := clusters_length (bl s)
  rw [bl_length] at hlenQ
  obtain ⟨pQ, capQ, hvQ, hcapQ, hlmQ, hcellQ⟩ := hrQ.rows enc4_len (by rw [List.length_map]; omega)
  rw [List.length_map] at hvQ hcapQ hlmQ
  subst hvQ
  have hO1 := Own.start hGU
  refine ⟨_, rfl, ?_⟩
  refine SO.as ?_
  refine SO.nn ?_
  refine SC.sr ?_
  refine SO.as ?_
  refine SO.nn ?_
  refine SC.seq ?_
  refine SC.sr ?_
  refine SO.as ?_
  refine SO.nn ?_
  refine SC.block ?_
  refine SC.loop (α := Nat) (fun x => [(1, .int .i64 a), (5, .slice pQ (clusters (bl s)).length capQ), (6, .int .i64 (nCells (bl s) (((clusters (bl s)).take x).filter fun c => decide ((c.2 : Int) ≤ a)))), (7, .int .i64 (x : Int))]) (fun x v => x ≤ (clusters (bl s)).length ∧ Ow.Own w1 [] v) (fun x => (clusters (bl s)).length - x) 0 ?_ ?_ ?_
  · exact ⟨rfl, rfl, rfl, rfl, trivial⟩
  · exact ⟨Nat.zero_le _, hO1⟩
  rintro x w2 ⟨hx, hO2⟩
  refine SC.seq ?_
  refine SC.sr ?_
  refine SO.mv ?_
  refine SO.mv ?_
  refine SO.v (.lenA rfl rfl Tryz.underlying139) ?_
  refine SO.v (.lss rfl rfl rfl) ?_
  refine SO.nn ?_
  refine SC.dec rfl (fun c3 => ?_) (fun c3 => ?_)
  ·
   have hlt : x < (clusters (bl s)).length := by omega
   obtain ⟨gQ, rfl, hcQ⟩ := hcellQ x _ (by rw [List.getElem?_map, List.getElem?_eq_getElem hlt]; rfl)
   have hcQ1 : World.cell? _ ⟨gQ, 0 + x * 4 + 1, none⟩ = some (.int .i64 (((clusters (bl s))[x].2 : Nat) : Int)) := hcQ 1 _ rfl
   have hcQ3 : World.cell? _ ⟨gQ, 0 + x * 4 + 3, none⟩ = some (.int .i64 (clCells (bl s) (clusters (bl s))[x].1)) := hcQ 3 _ rfl
   have hstep := sum_step (bl s) a (clusters (bl s)) hlt
   have hr1 := nCells_range (bl s) (((clusters (bl s)).take x).filter fun c => decide ((c.2 : Int) ≤ a))
   have hr2 := clCells_range (bl s) ((clusters (bl s))[x]).1
   have hr3 := filter_len (fun c : Nat × Nat => decide ((c.2 : Int) ≤ a)) ((clusters (bl s)).take x)
   rw [List.length_take] at hr3
   refine SC.skip ?_
   refine SQ.then_normal ?_
   refine SC.seq ?_
   refine SC.block ?_
   refine SC.sr ?_
   refine SO.mv ?_
   refine SO.mv ?_
   refine SO.v (.indexAddr rfl rfl rfl Tryz.underlying139 sz138 (by omega) (by omega)) ?_
   refine SO.v (.fieldAddr rfl rfl fa138_1) ?_
   refine SO.v (.load rfl rfl ag3 (hO2.cellO trivial hcQ1)) ?_
   refine SO.mv ?_
   refine SO.v (.leq rfl rfl rfl) ?_
   refine SO.nn ?_
   refine SC.dec rfl (fun c4 => ?_) (fun c4 => ?_)
   ·
    rw [if_pos c4] at hstep
    refine SC.region ?_
    refine SO.mv ?_
    refine SO.mv ?_
    refine SO.mv ?_
    refine SO.v (.indexAddr rfl rfl rfl Tryz.underlying139 sz138 (by omega) (by omega)) ?_
    refine SO.v (.fieldAddr rfl rfl fa138_3) ?_
    refine SO.v (.load rfl rfl ag3 (hO2.cellO trivial hcQ3)) ?_
    refine SO.v (.add rfl rfl rfl (by omega)) ?_
    refine SO.as ?_
    refine SO.nil ?_
    refine SQ.block_normal ?_
    refine SQ.then_normal ?_
    refine SC.region ?_
    refine SO.mv ?_
    refine SO.v (.add rfl rfl rfl (by omega)) ?_
    refine SO.as ?_
    refine SO.nil ?_
    first | exact SQ.round (x + 1) (by omega) ⟨rfl, rfl, (by rw [hstep]; rfl), rfl, trivial⟩ ⟨by omega, hO2⟩
   ·
    rw [if_neg c4, Int.add_zero] at hstep
    refine SC.skip ?_
    refine SQ.block_normal ?_
    refine SQ.then_normal ?_
    refine SC.region ?_
    refine SO.mv ?_
    refine SO.v (.add rfl rfl rfl (by omega)) ?_
    refine SO.as ?_
    refine SO.nil ?_
    first | exact SQ.round (x + 1) (by omega) ⟨rfl, rfl, (by rw [hstep]; rfl), rfl, trivial⟩ ⟨by omega, hO2⟩
  ·
   have hall : (((clusters (bl s)).take x).filter fun c => decide ((c.2 : Int) ≤ a)) = upTo (bl s) a := by unfold upTo; rw [List.take_of_length_le (by omega)]
   refine SC.exit ?_
   refine SQ.then_exit ?_
   refine SQ.then_exit ?_
   refine SQ.block_exit ?_
   refine SQ.then_normal ?_
   refine SC.sr ?_
   refine SO.mv ?_
   refine SO.as ?_
   refine SO.nn ?_
   refine SC.ret ?_
   refine SQ.out (.inl rfl) (res1 rfl rfl) ?_
   exact ⟨by rw [hall], hbU.trans ((hO2.toBelow trivial).mono hbU.size)⟩

set_option maxRecDepth 20000 in
set_option maxHeartbeats 400000 in
theorem refcolumn_any (s : ByteArray) (a : Int) (w : World) (hG : Good w) (hz : s.size ≤ 1099511627775) :
    Calls Tryz.prog 24 #[.string s, .int .i64 a] w fun e w' => e = .returned (.tuple #[.int .i64 (colR s a), .int .i64 (ofE (bl s) a)]) ∧ Below w.heap.size w w' := by
  have hszl := bl_length s
  have hO0 := Own.start hG
  refine enter Tryz.func24 rfl rfl rfl 0 ?_
  refine SC.sr ?_
  refine SO.as ?_
  refine SO.as ?_
  refine SO.nn ?_
  refine SC.sr ?_
  refine SO.mv ?_
  refine SO.mv ?_
  refine SO.call rfl rfl rfl rfl (.callF rfl rfl en33) (refof_any s _ _ (hO0.good hG) (by omega)) ?_
  rintro _ w1 ⟨rfl, hb1⟩
  have hO1 := hO0.below hb1
  refine ⟨_, rfl, ?_⟩
  refine SO.mv ?_
  refine SO.v (.extract rfl rfl rfl) ?_
  refine SO.v (.extract rfl rfl rfl) ?_
  refine SO.as ?_
  refine SO.as ?_
  refine SO.nn ?_
  refine SC.seq ?_
  refine SC.sr ?_
  refine SO.mv ?_
  refine SO.v (.neq rfl rfl rfl) ?_
  refine SO.nn ?_
  refine SC.dec rfl (fun c2 => ?_) (fun c2 => ?_)
  ·
   have hse := c2
   refine SC.sr ?_
   refine SO.mv ?_
   refine SO.as ?_
   refine SO.as ?_
   refine SO.nn ?_
   refine SC.ret ?_
   refine SQ.then_ret ?_
   refine SQ.out (.inl rfl) (res2 rfl rfl rfl) ?_
   exact ⟨by unfold colR; rw [if_pos hse]; first | done | rfl, hO1.toBelow trivial⟩
  ·
   have hse : ofE (bl s) a = 0 := by omega
   have har : 0 ≤ a ∧ a ≤ s.size := by unfold ofE at hse; by_cases e : a < 0 ∨ a > (bl s).length; (· rw [if_pos e] at hse; omega); (· rw [bl_length] at e; omega)
   have hN : (ofN (bl s) a) = nlT (bl s) a.toNat := by unfold ofN; rw [if_neg (by rw [bl_length]; omega)]
   have hk0 : 0 ≤ (ofN (bl s) a) := by omega
   have hk1 : (ofN (bl s) a) ≤ nlC (bl s) := by have := nlT_le_nlC (bl s) a.toNat; omega
   obtain ⟨_, eF, eT, _⟩ := lineB_eq (s := s) hk0 hk1
   obtain ⟨l1, l2, _, _⟩ := lend_spec (l := bl s) hk0 hk1
   rw [bl_length] at l2
   have lF := bgn_le (bl s) (ofN (bl s) a)
   have hln : s.extract ((spF (bl s) (ofN (bl s) a) : Nat) : Int).toNat ((spT (bl s) (ofN (bl s) a) : Nat) : Int).toNat = lineB s (ofN (bl s) a) := by unfold lineB slT; rw [if_neg (by unfold bad; omega)]
   have hcw := colW_upTo (s := s) hz hk0 hk1 a (by omega)
   have hlsz := lineB_size s (ofN (bl s) a)
   refine SC.skip ?_
   refine SQ.then_normal ?_
   refine SC.sr ?_
   refine SO.mv ?_
   refine SO.mv ?_
   refine SO.call rfl rfl rfl rfl (.callF rfl rfl en34) (refspan_any s _ _ (hO1.good hG) (by omega)) ?_
   rintro _ w4 ⟨rfl, hb4⟩
   have hO4 := hO1.below hb4
   refine ⟨_, rfl, ?_⟩
   refine SO.mv ?_
   refine SO.v (.extract rfl rfl rfl) ?_
   refine SO.v (.extract rfl rfl rfl) ?_
   refine SO.alloc hO4 rfl rfl rfl rfl zv41 [_, _] rfl ?_
   intro b5 w5 hb5 hO5
   refine SO.store hO5 (i := 0) rfl rfl rfl rfl rfl rfl sz41 rfl rfl [(_, .cells [_, _].toArray _ _)] rfl ?_
   intro w6 hO6
   refine SO.as ?_
   refine SO.nn ?_
   refine SC.seq ?_
   refine SC.drawO mixed hO6 (fun hO7 => ?_)
   refine SA.tm 0 rfl hO7 ?_
   refine SA.tk 1 rfl hO7 (fun v hv => .fieldAddr rfl rfl fa41_0) ?_
   refine SA.tk 2 rfl hO7 (fun v hv => .load rfl rfl ag3 (cell_of' (hv.at (i := 0) rfl) rfl)) ?_
   refine SA.tk 3 rfl hO7 (fun v hv => .fieldAddr rfl rfl fa41_1) ?_
   refine SA.tk 4 rfl hO7 (fun v hv => .load rfl rfl ag3 (cell_of' (hv.at (i := 0) rfl) rfl)) ?_
   refine SA.tk 5 rfl hO7 (fun v hv => .sliceLH rfl rfl rfl rfl Tryz.underlying9 (by omega)) ?_
   refine SA.tm 6 rfl hO7 ?_
   refine SA.tk 7 rfl hO7 (fun v hv => .fieldAddr rfl rfl fa41_0) ?_
   refine SA.tk 8 rfl hO7 (fun v hv => .load rfl rfl ag3 (cell_of' (hv.at (i := 0) rfl) rfl)) ?_
   refine SA.tk 9 rfl hO7 (fun v hv => .sub rfl rfl rfl (by omega)) ?_
   refine SA.one 10 (by kernel_rfl) ?_
   refine SB.call rfl rfl rfl rfl (.callF rfl rfl en78) ((by have h := refsum_any (lineB s (ofN (bl s) a)) (a - ((spF (bl s) (ofN (bl s) a) : Nat) : Int)) _ (hO7.good hG) (by omega); rw [← hln] at h; exact h)) ?_
   rintro _ w8 ⟨rfl, hb8⟩
   have hO8 := hO7.below hb8
   refine ⟨_, rfl, hO8, ?_⟩
   refine SA.ta 11 rfl hO8 ?_
   refine SA.ta 12 rfl hO8 ?_
   refine SA.done (by kernel_rfl) ?_
   refine SQ.then_normal ?_
   refine SC.ret ?_
   refine SQ.out (.inl rfl) (res2 rfl rfl rfl) ?_
   exact ⟨by unfold colR; rw [if_neg (by omega), hcw, ← eF, hln, hse], hO8.toBelow ⟨hb5, trivial⟩⟩

set_option maxRecDepth 20000 in
set_option maxHeartbeats 400000 in
theorem refat_any (s : ByteArray) (k q : Int) (w : World) (hG : Good w) (hz : s.size ≤ 1099511627775) :
    Calls Tryz.prog 26 #[.string s, .int .i64 k, .int .i64 q] w fun e w' => e = .returned (.tuple #[.int .i64 (atR s k q), .int .i64 (spE (bl s) k)]) ∧ Below w.heap.size w w' := by
  have hszl := bl_length s
  have hO0 := Own.start hG
  refine enter Tryz.func26 rfl rfl rfl 0 ?_
  refine SC.sr ?_
  refine SO.as ?_
  refine SO.as ?_
  refine SO.nn ?_
  refine SC.sr ?_
  refine SO.mv ?_
  refine SO.mv ?_
  refine SO.call rfl rfl rfl rfl (.callF rfl rfl en34) (refspan_any s _ _ (hO0.good hG) (by omega)) ?_
  rintro _ w1 ⟨rfl, hb1⟩
  have hO1 := hO0.below hb1
  refine ⟨_, rfl, ?_⟩
  refine SO.mv ?_
  refine SO.v (.extract rfl rfl rfl) ?_
  refine SO.v (.extract rfl rfl rfl) ?_
  refine SO.alloc hO1 rfl rfl rfl rfl zv41 [_, _] rfl ?_
  intro b2 w2 hb2 hO2
  refine SO.store hO2 (i := 0) rfl rfl rfl rfl rfl rfl sz41 rfl rfl [(_, .cells [_, _].toArray _ _)] rfl ?_
  intro w3 hO3
  refine SO.as ?_
  refine SO.nn ?_
  refine SC.seq ?_
  refine SC.sr ?_
  refine SO.mv ?_
  refine SO.v (.neq rfl rfl rfl) ?_
  refine SO.nn ?_
  refine SC.dec rfl (fun c4 => ?_) (fun c4 => ?_)
  ·
   have hse := c4
   refine SC.sr ?_
   refine SO.mv ?_
   refine SO.as ?_
   refine SO.as ?_
   refine SO.nn ?_
   refine SC.ret ?_
   refine SQ.then_ret ?_
   refine SQ.out (.inl rfl) (res2 rfl rfl rfl) ?_
   exact ⟨by unfold atR; rw [if_pos hse]; first | done | rfl, hO3.toBelow ⟨hb2, trivial⟩⟩
  ·
   have hse : spE (bl s) k = 0 := by omega
   have hno : ¬ noLine (bl s) k := by unfold spE at hse; intro h; rw [if_pos h] at hse; omega
   have hk : 0 ≤ k ∧ k ≤ nlC (bl s) := by unfold noLine at hno; omega
   obtain ⟨_, eF, eT, _⟩ := lineB_eq (s := s) hk.1 hk.2
   obtain ⟨l1, l2, _, _⟩ := lend_spec (l := bl s) hk.1 hk.2
   rw [bl_length] at l2
   have lF := bgn_le (bl s) k
   rw [bl_length] at lF
   obtain ⟨lb, hlb⟩ : ∃ x, x = s.extract ((spF (bl s) k : Nat) : Int).toNat ((spT (bl s) k : Nat) : Int).toNat := ⟨_, rfl⟩
   have hln : lb = lineB s k := by rw [hlb]; unfold lineB slT; rw [if_neg (by unfold bad; omega)]
   have hlsz := lineB_size s k
   rw [← hln] at hlsz
   refine SC.skip ?_
   refine SQ.then_normal ?_
   refine SC.sr ?_
   refine SO.mv ?_
   refine SO.v (.fieldAddr rfl rfl fa41_0) ?_
   refine SO.v (.load rfl rfl ag3 (cell_of' (hO3.at (i := 0) rfl) rfl)) ?_
   refine SO.v (.fieldAddr rfl rfl fa41_1) ?_
   refine SO.v (.load rfl rfl ag3 (cell_of' (hO3.at (i := 0) rfl) rfl)) ?_
   refine SO.v (.sliceLH rfl rfl rfl rfl Tryz.underlying9 (by omega)) ?_
   refine SO.as ?_
   refine SO.nn ?_
   refine SC.seq ?_
   rw [← hlb]
   refine SC.region ?_
   refine SO.mv ?_
   refine SO.call rfl rfl rfl rfl (.callF rfl rfl en79) (reflist_any lb _ (hO3.good hG) (by omega)) ?_
   rintro _ w6 ⟨vQ, rfl, hrQ, hb6⟩
   have hOq := hO3.below hb6
   have q0 := hOq.at (i := 0) rfl
   have hbU := hOq.toBelow ⟨hb2, trivial⟩
   have hGU := hOq.good hG
   have hlenQ := clusters_length (bl lb)
   rw [bl_length] at hlenQ
   obtain ⟨pQ, capQ, hvQ, hcapQ, hlmQ, hcellQ⟩ := hrQ.rows enc4_len (by rw [List.length_map]; omega)
   rw [List.length_map] at hvQ hcapQ hlmQ
   subst hvQ
   have hO6 := Own.start hGU
   refine ⟨_, rfl, ?_⟩
   refine SO.as ?_
   refine SO.nn ?_
   refine SC.sr ?_
   refine SO.as ?_
   refine SO.nn ?_
   refine SC.seq ?_
   refine SC.sr ?_
   refine SO.as ?_
   refine SO.nn ?_
   refine SC.block ?_
   have hend0 : ∀ x, 0 ≤ endOf (upto (bl lb) q ((clusters (bl lb)).take x) 0) ∧ endOf (upto (bl lb) q ((clusters (bl lb)).take x) 0) ≤ lb.size := fun x => by
     unfold endOf
     split
     · rename_i c hc
       have h1 := List.mem_of_getLast? hc
       obtain ⟨_, h3, h4⟩ := clusters_mem (List.mem_of_mem_take (upto_sub _ _ c h1))
       have h5 := (cNext_spec h3).2.1
       rw [← h4, bl_length] at h5
       omega
     · omega
   refine SC.loop (α := Nat) (fun x => [(2, .int .i64 q), (8, .pointer (some ⟨b2, 0, none⟩)), (10, .string lb), (11, .slice pQ (clusters (bl lb)).length capQ), (12, .int .i64 (endOf (upto (bl lb) q ((clusters (bl lb)).take x) 0))), (13, .int .i64 (x : Int))]) (fun x v => x ≤ (clusters (bl lb)).length ∧ Ow.Own w6 [] v) (fun x => (clusters (bl lb)).length - x) 0 ?_ ?_ ?_
   · exact ⟨rfl, rfl, rfl, rfl, (by rw [List.take_zero]; rfl), rfl, trivial⟩
   · exact ⟨Nat.zero_le _, hO6⟩
   rintro x w7 ⟨hx, hO7⟩
   refine SC.seq ?_
   refine SC.sr ?_
   refine SO.mv ?_
   refine SO.mv ?_
   refine SO.v (.lenA rfl rfl Tryz.underlying139) ?_
   refine SO.v (.lss rfl rfl rfl) ?_
   refine SO.nn ?_
   refine SC.dec rfl (fun c8 => ?_) (fun c8 => ?_)
   ·
    have hlt : x < (clusters (bl lb)).length := by omega
    obtain ⟨gQ, rfl, hcQ⟩ := hcellQ x _ (by rw [List.getElem?_map, List.getElem?_eq_getElem hlt]; rfl)
    have hcQ1 : World.cell? _ ⟨gQ, 0 + x * 4 + 1, none⟩ = some (.int .i64 (((clusters (bl lb))[x].2 : Nat) : Int)) := hcQ 1 _ rfl
    have hsum : nCells (bl lb) (upTo (bl lb) (((clusters (bl lb))[x].2 : Nat) : Int)) = nCells (bl lb) ((clusters (bl lb)).take (x + 1)) := by unfold upTo; rw [filter_take (clusters_rise _) hlt rfl]
    have htk := List.take_succ_eq_append_getElem hlt
    refine SC.skip ?_
    refine SQ.then_normal ?_
    refine SC.seq ?_
    refine SC.block ?_
    refine SC.sr ?_
    refine SO.mv ?_
    refine SO.mv ?_
    refine SO.mv ?_
    refine SO.v (.indexAddr rfl rfl rfl Tryz.underlying139 sz138 (by omega) (by omega)) ?_
    refine SO.v (.fieldAddr rfl rfl fa138_1) ?_
    refine SO.v (.load rfl rfl ag3 (hO7.cellO trivial hcQ1)) ?_
    refine SO.call rfl rfl rfl rfl (.callF rfl rfl en78) ((by have h := refsum_any lb (((clusters (bl lb))[x].2 : Nat) : Int) _ (hO7.good hGU) (by omega); rw [hsum] at h; exact h)) ?_
    rintro _ w9 ⟨rfl, hb9⟩
    have hO9 := hO7.below hb9
    refine ⟨_, rfl, ?_⟩
    refine SO.mv ?_
    refine SO.v (.leq rfl rfl rfl) ?_
    refine SO.nn ?_
    refine SC.dec rfl (fun c10 => ?_) (fun c10 => ?_)
    ·
     have hst : upto (bl lb) q ((clusters (bl lb)).take (x + 1)) 0 = (clusters (bl lb)).take (x + 1) := upto_in _ c10
     have hend : endOf (upto (bl lb) q ((clusters (bl lb)).take (x + 1)) 0) = (((clusters (bl lb))[x].2 : Nat) : Int) := by rw [hst, htk, endOf_snoc]
     refine SC.region ?_
     refine SO.mv ?_
     refine SO.mv ?_
     refine SO.v (.indexAddr rfl rfl rfl Tryz.underlying139 sz138 (by omega) (by omega)) ?_
     refine SO.v (.fieldAddr rfl rfl fa138_1) ?_
     refine SO.v (.load rfl rfl ag3 (hO9.cellO trivial hcQ1)) ?_
     refine SO.as ?_
     refine SO.nil ?_
     refine SQ.block_normal ?_
     refine SQ.then_normal ?_
     refine SC.region ?_
     refine SO.mv ?_
     refine SO.v (.add rfl rfl rfl (by omega)) ?_
     refine SO.as ?_
     refine SO.nil ?_
     first | exact SQ.round (x + 1) (by omega) ⟨rfl, rfl, rfl, rfl, (by rw [hend]; rfl), rfl, trivial⟩ ⟨by omega, hO9⟩
    ·
     have hst : upto (bl lb) q ((clusters (bl lb)).take (x + 1)) 0 = upto (bl lb) q ((clusters (bl lb)).take x) 0 := by rw [htk]; exact upto_snoc _ _ _ (by rw [← htk]; omega)
     have hend : endOf (upto (bl lb) q ((clusters (bl lb)).take (x + 1)) 0) = endOf (upto (bl lb) q ((clusters (bl lb)).take x) 0) := by rw [hst]
     refine SC.skip ?_
     refine SQ.block_normal ?_
     refine SQ.then_normal ?_
     refine SC.region ?_
     refine SO.mv ?_
     refine SO.v (.add rfl rfl rfl (by omega)) ?_
     refine SO.as ?_
     refine SO.nil ?_
     first | exact SQ.round (x + 1) (by omega) ⟨rfl, rfl, rfl, rfl, (by rw [hend]; rfl), rfl, trivial⟩ ⟨by omega, hO9⟩
   ·
    have hfin : atR s k q = ((spF (bl s) k : Nat) : Int) + endOf (upto (bl lb) q ((clusters (bl lb)).take x) 0) := by
      unfold atR
      rw [if_neg (by omega), List.take_of_length_le (by omega), hln]
      refine lastTo_end _ _ fun c hc => ?_
      obtain ⟨_, h3, h4⟩ := clusters_mem (upto_sub _ _ c hc)
      have h5 := (cNext_spec h3).2.1
      rw [← h4, bl_length, ← hln] at h5
      unfold aw; rw [IntWalk.i64_in _ (by omega)]
    have hep : 0 ≤ endOf (upto (bl lb) q ((clusters (bl lb)).take x) 0) ∧ endOf (upto (bl lb) q ((clusters (bl lb)).take x) 0) ≤ lb.size := hend0 x
    refine SC.exit ?_
    refine SQ.then_exit ?_
    refine SQ.then_exit ?_
    refine SQ.block_exit ?_
    refine SQ.then_normal ?_
    refine SC.sr ?_
    refine SO.v (.fieldAddr rfl rfl fa41_0) ?_
    refine SO.v (.load rfl rfl ag3 (cell_of' (hO7.heapO trivial q0) rfl)) ?_
    refine SO.mv ?_
    refine SO.v (.add rfl rfl rfl (by omega)) ?_
    refine SO.as ?_
    refine SO.as ?_
    refine SO.nn ?_
    refine SC.ret ?_
    refine SQ.out (.inl rfl) (res2 rfl rfl rfl) ?_
    exact ⟨by rw [hfin, hse, Int.add_comm]; first | done | rfl, hbU.trans ((hO7.toBelow trivial).mono hbU.size)⟩

end Go.Proofs.YtclgplkkajfenaaGreatDoor
