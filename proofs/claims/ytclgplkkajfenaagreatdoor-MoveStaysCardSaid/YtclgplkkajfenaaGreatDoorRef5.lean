/- The reference: List. -/
import Derived.Test.YtclgplkkajfenaaGreatDoorRef4
namespace Go.Proofs.YtclgplkkajfenaaGreatDoor
open Go Go.RowKit Ow
theorem Ow.Res.storeN {P : Program} {e : Env} {w w' : World} {o : Oper} {T : TypeId} {x y : Operand} {b off : Nat} {v : Value} (ho : o.op = .store T x y) (hx : ev e x = some (.pointer (some ⟨b, off, none⟩))) (hy : ev e y = some v) (hs : ∀ w, (sizeOf T).run P w = .ok v.cells.size w)
    (hr : (storeCells ⟨b, off, none⟩ v.cells.toList 0).run P w = .ok () w') : Ow.Res P e o w (.ok .skip w') := fun a h => by
  unfold execOp; rw [ho]; simp only [ev_eval h hx, ev_eval h hy]
  simp only [Instr.storeAt, Instr.sureAddr, storeVar, Sem.run_bind, Sem.run_pure, Result.andThen, hs, ne_eq, not_true_eq_false, if_false, hr]
abbrev Quad := Int × Int × Int × Int
def enc4 (p : Quad) : List Value := [.int .i64 p.1, .int .i64 p.2.1, .int .i64 p.2.2.1, .int .i64 p.2.2.2]
theorem enc4_len (p : Quad) : (enc4 p).length = 4 := rfl
theorem enc4_one (p : Quad) : ∀ u ∈ enc4 p, u.oneCell' = true := fun u h => by
  simp only [enc4, List.mem_cons, List.not_mem_nil, or_false] at h
  rcases h with rfl | rfl | rfl | rfl <;> rfl
theorem enc4_plain (p : Quad) : ∀ u ∈ enc4 p, plainV u = true := fun u h => by
  simp only [enc4, List.mem_cons, List.not_mem_nil, or_false] at h
  rcases h with rfl | rfl | rfl | rfl <;> rfl
noncomputable def inf138 : TypeInfo := (Tryz.prog.info? 138).getD default
theorem inf138_ok : Tryz.prog.info? 138 = some inf138 := by kernel_rfl
theorem inf138_z : inf138.zero = some (.agg #[.int .i64 0, .int .i64 0, .int .i64 0, .int .i64 0]) := by kernel_rfl
theorem inf138_s : inf138.size = 4 := by kernel_rfl
theorem inf138_b : inf138.bytes = 32 := by kernel_rfl
/-- A cluster, as the reference lists it; and one that has come so far. -/
def quad (l : Bs) (c : Nat × Nat) : Quad := ((c.1 : Int), (c.2 : Int), clCls l c.1, clCells l c.1)
def pq (l : Bs) (b a : Nat) : Quad := ((b : Int), (a : Int), if crlf l b ∧ b + 2 ≤ a then 1 else cls (uch (l.drop b)), if crlf l b ∧ b + 2 ≤ a then 0 else cellsOf (uch (l.drop b)))
theorem unit_before {l : Bs} {q a : Nat} (hq : UB l q) (he : q + usz (l.drop q) = a) (ha : a ≤ l.length) : 0 < a ∧ UB l a ∧ uDown l (a - 1) = q := by
  have hp := usz_pos (l.drop q)
  have hql : q < l.length := by omega
  refine ⟨by omega, he ▸ hq.next hql, uDown_unique hq (by omega) (fun _ => by omega) (by omega)⟩
theorem glue_CB {l : Bs} {q a : Nat} (hq : UB l q) (he : q + usz (l.drop q) = a) (ha : a < l.length) : CB l a ↔ ¬ glue (uch (l.drop q)) (uch (l.drop a)) := by
  obtain ⟨h0, hu, hd⟩ := unit_before hq he (Nat.le_of_lt ha)
  unfold CB
  rw [hd]
  constructor
  · rintro (h | h | ⟨_, _, h⟩)
    · omega
    · omega
    · exact h
  · exact fun h => .inr (.inr ⟨ha, uDown_self hu, h⟩)
theorem by_of_uch {l : Bs} {i : Nat} {c : Nat} (h : uch (l.drop i) = (c : Int)) (hc : c < 128) : by' l i = c ∧ usz (l.drop i) = 1 := by
  obtain ⟨h1, h2⟩ := usz_one_of h (by omega) (by omega)
  rw [by_drop] at h1
  simp only [Nat.add_zero] at h1
  exact ⟨by omega, h2⟩
/-- A LF that is joined stands behind a CR that begins the cluster. -/
theorem lf_joined {l : Bs} {b q a : Nat} (hbq : b ≤ q) (_hq : UB l q) (he : q + usz (l.drop q) = a) (ha : a < l.length) (hno : ∀ t, b < t → t < a → ¬ CB l t)
    (hg : glue (uch (l.drop q)) (uch (l.drop a))) (h10 : uch (l.drop a) = 10) : crlf l b ∧ a = b + 1 := by
  rcases hg with ⟨h1, _⟩ | ⟨h1, _⟩
  · obtain ⟨g1, g2⟩ := by_of_uch (c := 13) h1 (by omega)
    obtain ⟨g3, _⟩ := by_of_uch (c := 10) h10 (by omega)
    have hqb : q = b := by
      by_cases e : b = q
      · exact e.symm
      · exact absurd (cr_begins (l := l) (i := q) (by omega) g1) (hno q (by omega) (by omega))
    subst hqb
    rw [g2] at he
    exact ⟨⟨h1, by rw [he]; exact g3⟩, he.symm⟩
  · rw [h10, cls10] at h1; omega
theorem pq_lf {l : Bs} {b q a : Nat} (hbq : b ≤ q) (hq : UB l q) (he : q + usz (l.drop q) = a) (ha : a < l.length) (hno : ∀ t, b < t → t < a → ¬ CB l t)
    (hg : glue (uch (l.drop q)) (uch (l.drop a))) (h10 : uch (l.drop a) = 10) : pq l b (a + usz (l.drop a)) = ((b : Int), (a : Int) + (usz (l.drop a) : Nat), 1, 0) := by
  obtain ⟨h1, h2⟩ := lf_joined hbq hq he ha hno hg h10
  have := usz_pos (l.drop a)
  unfold pq
  rw [if_pos ⟨h1, by omega⟩, if_pos ⟨h1, by omega⟩]
  simp
theorem pq_more {l : Bs} {b q a : Nat} (hbq : b ≤ q) (he : q + usz (l.drop q) = a) (h10 : uch (l.drop a) ≠ 10) :
    pq l b (a + usz (l.drop a)) = ((b : Int), (a : Int) + (usz (l.drop a) : Nat), (pq l b a).2.2.1, (pq l b a).2.2.2) := by
  have hp := usz_pos (l.drop q)
  have hp2 := usz_pos (l.drop a)
  have hiff : (crlf l b ∧ b + 2 ≤ a + usz (l.drop a)) ↔ (crlf l b ∧ b + 2 ≤ a) := by
    refine ⟨fun ⟨h1, _⟩ => ⟨h1, ?_⟩, fun ⟨h1, h2⟩ => ⟨h1, by omega⟩⟩
    by_cases e : b + 2 ≤ a
    · exact e
    · exfalso
      have e2 : a = b + 1 := by omega
      apply h10
      rw [e2, (ascii_unit (by rw [h1.2]; omega)).1, h1.2]; rfl
  unfold pq
  by_cases h : crlf l b ∧ b + 2 ≤ a
  · rw [if_pos h, if_pos h, if_pos (hiff.2 h), if_pos (hiff.2 h)]; simp
  · rw [if_neg h, if_neg h, if_neg (fun h' => h (hiff.1 h')), if_neg (fun h' => h (hiff.1 h'))]; simp
theorem pq_done {l : Bs} {b a : Nat} (hlt : b < a) (ha : CB l a) (hno : ∀ t, b < t → t < a → ¬ CB l t) : pq l b a = quad l (b, a) ∧ clFrom l b = (b, a) :: clFrom l a := by
  have hle := ha.le
  have hn : cNext l b = a := cNext_eq hlt ha hno
  refine ⟨?_, by rw [clFrom_cons (by omega), hn]⟩
  have hiff : (crlf l b ∧ b + 2 ≤ a) ↔ crlf l b := by
    refine ⟨fun h => h.1, fun h => ⟨h, ?_⟩⟩
    by_cases e : b + 2 ≤ a
    · exact e
    · exfalso
      have e2 : a = b + 1 := by omega
      subst e2
      obtain ⟨g1, _⟩ := by_of_uch (c := 13) h.1 (by omega)
      have g2 := h.2
      by_cases e3 : b + 1 < l.length
      · exact crlf_no e3 g1 g2 ha
      · rw [by_out (by omega)] at g2; omega
  unfold pq quad clCls clCells
  by_cases h : crlf l b
  · simp only [if_pos h, if_pos (hiff.2 h)]
  · simp only [if_neg h, if_neg (fun h' => h (hiff.1 h'))]
theorem pq_new {l : Bs} {a : Nat} : pq l a (a + usz (l.drop a)) = ((a : Int), (a : Int) + (usz (l.drop a) : Nat), cls (uch (l.drop a)), cellsOf (uch (l.drop a))) := by
  have hno : ¬ (crlf l a ∧ a + 2 ≤ a + usz (l.drop a)) := fun ⟨h1, h2⟩ => by
    have := (by_of_uch (c := 13) h1.1 (by omega)).2
    omega
  unfold pq
  rw [if_neg hno, if_neg hno]; simp
/-- How far the reference's list has come. -/
def LSt (l : Bs) (P : List Nat) (a : Nat) (xs : List Quad) : Prop :=
  (P = [] ∧ a = 0 ∧ xs = []) ∨ ∃ (A : List (Nat × Nat)) (b q : Nat) (P' : List Nat), P = P' ++ [q] ∧ UB l q ∧ q + usz (l.drop q) = a ∧ CB l b ∧ b ≤ q ∧ (∀ t, b < t → t < a → ¬ CB l t) ∧ A ++ clFrom l b = clusters l ∧ xs = A.map (quad l) ++ [pq l b a]
theorem LSt.done {l : Bs} {P : List Nat} {xs : List Quad} (h : LSt l P l.length xs) : xs = (clusters l).map (quad l) := by
  rcases h with ⟨_, h, rfl⟩ | ⟨A, b, q, P', _, hq, he, hb, hbq, hno, hA, rfl⟩
  · unfold clusters; rw [clFrom_nil (by omega)]; rfl
  · have hp := usz_pos (l.drop q)
    obtain ⟨h1, h2⟩ := pq_done (by omega) (.len l) hno
    rw [← hA, h2, clFrom_nil (Nat.le_refl _), h1]; simp
theorem LSt.push {l : Bs} {P : List Nat} {a : Nat} {xs : List Quad} (h : LSt l P a xs) (ha : a < l.length) (hu : UB l a) (hc : CB l a) : LSt l (P ++ [a]) (a + usz (l.drop a)) (xs ++ [((a : Int), (a : Int) + (usz (l.drop a) : Nat), cls (uch (l.drop a)), cellsOf (uch (l.drop a)))]) := by
  rw [← pq_new]
  have hgap : ∀ t, a < t → t < a + usz (l.drop a) → ¬ CB l t := fun t h1 h2 h3 => by have := hu.gap h3.ub h1; omega
  rcases h with ⟨rfl, rfl, rfl⟩ | ⟨A, b, q, P', rfl, hq, he, hb, hbq, hno, hA, rfl⟩
  · exact .inr ⟨[], 0, 0, [], rfl, hu, rfl, hc, Nat.le_refl _, hgap, rfl, rfl⟩
  · have hp := usz_pos (l.drop q)
    obtain ⟨h1, h2⟩ := pq_done (by omega) hc hno
    exact .inr ⟨A ++ [(b, a)], a, a, _, rfl, hu, rfl, hc, Nat.le_refl _, hgap, by rw [← hA, h2]; simp, by rw [h1]; simp⟩

theorem uF_length (l : Bs) : ∀ f i, (uF l f i).length ≤ f
  | 0, _ => by simp [uF]
  | f + 1, i => by
    rw [uF]; split
    · simp only [List.length_cons]; have := uF_length l f (i + usz (l.drop i)); omega
    · simp
theorem bd138_0_1_2_3_Ref5 (x0 : Int) (x1 : Int) (x2 : Int) (x3 : Int) : ∀ w, (Instr.build 138 [(0, .int .i64 x0), (1, .int .i64 x1), (2, .int .i64 x2), (3, .int .i64 x3)].toArray).run Tryz.prog w = .ok (.agg [.int .i64 x0, .int .i64 x1, .int .i64 x2, .int .i64 x3].toArray) w := fun _ => by kernel_rfl
theorem bs139_1_0_Ref5 (x0 : Int) (x1 : Int) (x2 : Int) (x3 : Int) : ∀ w, (Instr.buildSlice 139 1 [(0, .agg [.int .i64 x0, .int .i64 x1, .int .i64 x2, .int .i64 x3].toArray)].toArray).run Tryz.prog w = .ok (.slice (some ⟨w.heap.size, 0, none⟩) 1 1) (w.alloc (.cells [.int .i64 x0, .int .i64 x1, .int .i64 x2, .int .i64 x3].toArray 138)) := fun _ => by kernel_rfl
set_option maxRecDepth 20000 in
set_option maxHeartbeats 400000 in
theorem reflist_any (s : ByteArray) (w : World) (hG : Good w) (hz : s.size ≤ 1099511627776) :
    Calls Tryz.prog 79 #[.string s] w fun e w' => ∃ v, e = .returned v ∧ Own' enc4 138 4 w.heap.size w' v ((clusters (bl s)).map (quad (bl s))) ∧ Below w.heap.size w w' := by
  have hszl := bl_length s
  have hO0 := Own.start hG
  refine enter Tryz.func79 rfl rfl rfl 0 ?_
  refine SC.sr ?_
  refine SO.as ?_
  refine SO.nn ?_
  refine SC.sr ?_
  refine SO.as ?_
  refine SO.nn ?_
  refine SC.sr ?_
  refine SO.mv ?_
  refine SO.call rfl rfl rfl rfl (.callF rfl rfl en138) (refunits_any s _ (hO0.good hG) hz) ?_
  rintro _ w1 ⟨vU, rfl, hrU, hb1⟩
  have hO1 := hO0.below hb1
  have hbU := hO1.toBelow trivial
  have hGU := hO1.good hG
  have hlenU : (uFrom (bl s) 0).length ≤ (bl s).length := uF_length _ _ _
  obtain ⟨pU, capU, rfl, hcapU, hlmU, hcellU⟩ := hrU.rows (encU_len _) (by omega)
  obtain ⟨wU, hwU⟩ : ∃ x, x = w1 := ⟨_, rfl⟩
  rw [← hwU] at hcellU hbU hGU hO1
  refine ⟨_, rfl, ?_⟩
  refine SO.as ?_
  refine SO.nn ?_
  refine SC.sr ?_
  refine SO.as ?_
  refine SO.nn ?_
  refine SC.seq ?_
  refine SC.sr ?_
  refine SO.as ?_
  refine SO.nn ?_
  refine SC.block ?_
  refine SC.loop (α := Value × List Quad × Int × Int) (fun x => [(3, x.1), (4, .slice pU (uFrom (bl s) 0).length capU), (5, .int .i64 x.2.2.1), (6, .int .i64 x.2.2.2)]) (fun x v => Below wU.heap.size wU v ∧ Own' enc4 138 4 wU.heap.size v x.1 x.2.1 ∧ ∃ (a : Nat) (P : List Nat), x.2.2.1 = (a : Int) ∧ x.2.2.2 = (P.length : Int) ∧ P ++ uFrom (bl s) a = uFrom (bl s) 0 ∧ UB (bl s) a ∧ LSt (bl s) P a x.2.1 ∧ x.2.1.length ≤ a) (fun x => (bl s).length - x.2.2.1.toNat) (.slice none 0 0, [], 0, 0) ?_ ?_ ?_
  · exact ⟨rfl, rfl, rfl, rfl, trivial⟩
  · exact ⟨by rw [hwU]; exact .refl _ _, Own'.nil, 0, [], rfl, rfl, rfl, .zero _, .inl ⟨rfl, rfl, rfl⟩, Nat.le_refl _⟩
  rintro ⟨v, xs, a, i⟩ wL ⟨hbW, hrow, a, P, ha, hi, hfl, hua, hst, hxl⟩
  simp only at hrow ha hi hfl hst hxl
  subst ha
  subst hi
  show SC _ _ _ _ _ _ _ [(3, v), (4, .slice pU (uFrom (bl s) 0).length capU), (5, .int .i64 (a : Int)), (6, .int .i64 (P.length : Int))] _
  have hGL : Good wL := hGU.ext hbW
  have hO2 := Own.start hGL
  have hal := hua.le
  have hbX := hbW
  have hlP := congrArg List.length hfl
  rw [List.length_append] at hlP
  refine SC.seq ?_
  refine SC.sr ?_
  refine SO.mv ?_
  refine SO.mv ?_
  refine SO.v (.lenA rfl rfl Tryz.underlying185) ?_
  refine SO.v (.lss rfl rfl rfl) ?_
  refine SO.nn ?_
  refine SC.dec rfl (fun c3 => ?_) (fun c3 => ?_)
  ·
   have hlt : a < (bl s).length := by
     by_cases e : a < (bl s).length
     · exact e
     · rw [uFrom_nil (by omega)] at hlP; simp only [List.length_nil] at hlP; omega
   rw [uFrom_cons hlt] at hfl
   have hup := usz_pos ((bl s).drop a)
   have hul := usz_drop_le hlt
   have hga : (uFrom (bl s) 0)[P.length]? = some a := by rw [← hfl]; simp
   obtain ⟨gU, rfl, hca⟩ := hcellU _ _ hga
   have hca0 := hca 0 _ rfl
   have hca1 := hca 1 _ rfl
   rw [← Int.toNat_natCast P.length] at hca hca0 hca1
   refine SC.skip ?_
   refine SQ.then_normal ?_
   refine SC.seq ?_
   refine SC.block ?_
   refine SC.seq ?_
   refine SC.seq ?_
   refine SC.draw mixed (fun v => Below wU.heap.size wU v) ?_
   have hO4 := Own.drew hO2
   refine SA.tm 0 rfl (hbX.trans ((hO4.toBelow trivial).mono hbX.size)) ?_
   refine SA.tk 1 rfl (hbX.trans ((hO4.toBelow trivial).mono hbX.size)) (fun v hv => .gtr rfl rfl rfl) ?_
   refine SA.tm 2 rfl (hbX.trans ((hO4.toBelow trivial).mono hbX.size)) ?_
   refine SA.dec 19 rfl (fun g5 => ?_) (fun g5 => ?_)
   ·
    obtain ⟨A, b, q, P', hP, hq, he, hb, hbq, hno, hA, hxs⟩ : ∃ (A : List (Nat × Nat)) (b q : Nat) (P' : List Nat), P = P' ++ [q] ∧ UB (bl s) q ∧ q + usz ((bl s).drop q) = a ∧ CB (bl s) b ∧ b ≤ q ∧ (∀ t, b < t → t < a → ¬ CB (bl s) t) ∧ A ++ clFrom (bl s) b = clusters (bl s) ∧ xs = A.map (quad (bl s)) ++ [pq (bl s) b a] := by
      rcases hst with h | h
      · rw [h.1] at g5; simp at g5
      · exact h
    have hgq : (uFrom (bl s) 0)[P'.length]? = some q := by rw [← hfl, hP]; simp
    obtain ⟨gq, hgq2, hcq⟩ := hcellU _ _ hgq
    cases hgq2
    have hPl : ((P.length : Int) - 1).toNat = P'.length := by rw [hP]; simp
    rw [← hPl] at hcq
    have hCBi := glue_CB hq he hlt
    refine SA.tm 3 rfl (hbX.trans ((hO4.toBelow trivial).mono hbX.size)) ?_
    refine SA.tm 4 rfl (hbX.trans ((hO4.toBelow trivial).mono hbX.size)) ?_
    refine SA.tk 5 rfl (hbX.trans ((hO4.toBelow trivial).mono hbX.size)) (fun v hv => .sub rfl rfl rfl (by omega)) ?_
    refine SA.tk 6 rfl (hbX.trans ((hO4.toBelow trivial).mono hbX.size)) (fun v hv => .indexAddr rfl rfl rfl Tryz.underlying185 sz177 (by omega) (by omega)) ?_
    refine SA.tk 7 rfl (hbX.trans ((hO4.toBelow trivial).mono hbX.size)) (fun v hv => .loadN (cs := [_, _]) rfl rfl ag177 sz177 (fun j u hj => (hv.cell (World.block_lt_of_cell? _ _ (hcq j u hj))).trans (hcq j u hj))) ?_
    refine SA.tm 8 rfl (hbX.trans ((hO4.toBelow trivial).mono hbX.size)) ?_
    refine SA.tm 9 rfl (hbX.trans ((hO4.toBelow trivial).mono hbX.size)) ?_
    refine SA.tk 10 rfl (hbX.trans ((hO4.toBelow trivial).mono hbX.size)) (fun v hv => .indexAddr rfl rfl rfl Tryz.underlying185 sz177 (by omega) (by omega)) ?_
    refine SA.tk 11 rfl (hbX.trans ((hO4.toBelow trivial).mono hbX.size)) (fun v hv => .loadN (cs := [_, _]) rfl rfl ag177 sz177 (fun j u hj => (hv.cell (World.block_lt_of_cell? _ _ (hca j u hj))).trans (hca j u hj))) ?_
    refine SA.one 12 (by kernel_rfl) ?_
    refine SB.call rfl rfl rfl rfl (.callF rfl rfl en139) (refjoined_any _ _ _ _ _ (hO4.good hGL)) ?_
    rintro _ w6 ⟨rfl, hb6⟩
    have hO6 := hO4.below hb6
    refine ⟨_, rfl, (hbX.trans ((hO6.toBelow trivial).mono hbX.size)), ?_⟩
    refine SA.tk 13 rfl (hbX.trans ((hO6.toBelow trivial).mono hbX.size)) (fun v hv => .pickT rfl rfl rfl) ?_
    refine SA.done (by kernel_rfl) ?_
    refine SQ.then_normal ?_
    refine SC.dec rfl (fun c7 => ?_) (fun c7 => ?_)
    ·
     have hglue := c7
     subst hxs
     obtain ⟨p1, cap1, hv1, hcap1, hlm1, hcell1⟩ := (hrow.below (hO6.toBelow trivial)).rows enc4_len (by omega)
     subst hv1
     obtain ⟨gv, hgv, hcl⟩ := hcell1 (A.map (quad (bl s))).length (pq (bl s) b a) (by simp)
     subst hgv
     have hil : ((((A.map (quad (bl s))) ++ [pq (bl s) b a]).length : Int) - 1).toNat = (A.map (quad (bl s))).length := by simp
     have hll : 1 ≤ ((A.map (quad (bl s))) ++ [pq (bl s) b a]).length := by simp
     rw [← hil] at hcl
     have hclb := fun j u hj => World.block_lt_of_cell? _ _ (hcl j u hj)
     refine SC.sr ?_
     refine SO.mv ?_
     refine SO.mv ?_
     refine SO.v (.lenA rfl rfl Tryz.underlying139) ?_
     refine SO.v (.sub rfl rfl rfl (by omega)) ?_
     refine SO.v (.indexAddr rfl rfl rfl Tryz.underlying139 sz138 (by omega) (by omega)) ?_
     refine SO.v (.loadN (cs := [_, _, _, _]) rfl rfl ag138 sz138 hcl) ?_
     refine SO.alloc hO6 rfl rfl rfl rfl zv138 [_, _, _, _] rfl ?_
     intro b8 w8 hb8 hO8
     refine SO.store hO8 (i := 0) rfl rfl rfl rfl rfl rfl sz138 rfl rfl [(_, .cells [_, _, _, _].toArray _ _)] rfl ?_
     intro w9 hO9
     refine SO.nn ?_
     refine SC.sr ?_
     refine SO.mv ?_
     refine SO.mv ?_
     refine SO.mv ?_
     refine SO.v (.indexAddr rfl rfl rfl Tryz.underlying185 sz177 (by omega) (by omega)) ?_
     refine SO.v (.fieldAddr rfl rfl fa177_1) ?_
     refine SO.v (.load rfl rfl ag3 ((hbW.trans ((hO9.toBelow ⟨hb8, trivial⟩).mono hbW.size)).cell (World.block_lt_of_cell? _ _ hca1) |>.trans hca1)) ?_
     refine SO.v (.add rfl rfl rfl (by omega)) ?_
     refine SO.v (.fieldAddr rfl rfl fa138_1) ?_
     refine SO.store hO9 (i := 0) rfl rfl rfl rfl rfl rfl sz3 rfl rfl [(_, .cells [_, _, _, _].toArray _ _)] rfl ?_
     intro w10 hO10
     refine SO.nn ?_
     refine SC.seq ?_
     refine SC.sr ?_
     refine SO.mv ?_
     refine SO.mv ?_
     refine SO.v (.indexAddr rfl rfl rfl Tryz.underlying185 sz177 (by omega) (by omega)) ?_
     refine SO.v (.fieldAddr rfl rfl fa177_0) ?_
     refine SO.v (.load rfl rfl ag21 ((hbW.trans ((hO10.toBelow ⟨hb8, trivial⟩).mono hbW.size)).cell (World.block_lt_of_cell? _ _ hca0) |>.trans hca0)) ?_
     refine SO.v (.eql rfl rfl rfl) ?_
     refine SO.nn ?_
     refine SC.dec rfl (fun c11 => ?_) (fun c11 => ?_)
     ·
      have hst2 : LSt (bl s) (P ++ [a]) (a + usz ((bl s).drop a)) (A.map (quad (bl s)) ++ [((b : Int), (a : Int) + (usz ((bl s).drop a) : Nat), 1, 0)]) := .inr ⟨A, b, a, P, rfl, hua, rfl, hb, by omega, fun t h1 h2 h3 => by
        by_cases e : t < a
        · exact hno t h1 e h3
        · by_cases e2 : t = a
          · subst e2; exact hCBi.1 h3 hglue
          · have := hua.gap h3.ub (by omega); omega
      , hA, by rw [pq_lf hbq hq he hlt hno hglue c11]⟩
      refine SC.sr ?_
      refine SO.v (.fieldAddr rfl rfl fa138_2) ?_
      refine SO.store hO10 (i := 0) rfl rfl rfl rfl rfl rfl sz136 rfl rfl [(_, .cells [_, _, _, _].toArray _ _)] rfl ?_
      intro w12 hO12
      refine SO.nn ?_
      refine SC.region ?_
      refine SO.v (.fieldAddr rfl rfl fa138_3) ?_
      refine SO.store hO12 (i := 0) rfl rfl rfl rfl rfl rfl sz3 rfl rfl [(_, .cells [_, _, _, _].toArray _ _)] rfl ?_
      intro w13 hO13
      refine SO.nn ?_
      refine SC.region ?_
      refine SO.mv ?_
      refine SO.mv ?_
      refine SO.v (.lenA rfl rfl Tryz.underlying139) ?_
      refine SO.v (.sub rfl rfl rfl (by omega)) ?_
      refine SO.v (.loadB [_, _, _, _] rfl rfl ag138 sz138 (hO13.at (i := 0) rfl) rfl rfl) ?_
      refine SO.v (.indexAddr rfl rfl rfl Tryz.underlying139 sz138 (by omega) (by omega)) ?_
      obtain ⟨wA, hsr, hrow2, hbA⟩ := Own'.setLast (x := pq (bl s) b a) (y := ((b : Int), (a : Int) + (usz ((bl s).drop a) : Nat), 1, 0)) (hrow.below (hO13.toBelow ⟨hb8, trivial⟩)) enc4_len (Nat.le_trans hbW.size (hO13.toBelow ⟨hb8, trivial⟩).size) (enc4_plain _)
      rw [show (A.map (quad (bl s))).length * 4 = 0 + (((((A.map (quad (bl s))) ++ [pq (bl s) b a]).length : Nat) : Int) - 1).toNat * 4 by rw [List.length_append, List.length_singleton]; omega] at hsr
      have hbA2 := (hbW.trans ((hO13.toBelow ⟨hb8, trivial⟩).mono hbW.size)).trans hbA
      have hGA : Good wA := hGU.ext hbA2
      have hOA := Own.start hGA
      refine SO.eff rfl rfl rfl (w' := wA) (.storeN rfl rfl rfl sz138 hsr) ?_
      refine SO.nn ?_
      refine SC.region ?_
      refine SO.mv ?_
      refine SO.mv ?_
      refine SO.mv ?_
      refine SO.v (.indexAddr rfl rfl rfl Tryz.underlying185 sz177 (by omega) (by omega)) ?_
      refine SO.v (.fieldAddr rfl rfl fa177_1) ?_
      refine SO.v (.load rfl rfl ag3 (hbA2.cell (World.block_lt_of_cell? _ _ hca1) |>.trans hca1)) ?_
      refine SO.v (.add rfl rfl rfl (by omega)) ?_
      refine SO.as ?_
      refine SO.nil ?_
      refine SQ.block_normal ?_
      refine SQ.then_normal ?_
      refine SC.region ?_
      refine SO.mv ?_
      refine SO.v (.add rfl rfl rfl (by omega)) ?_
      refine SO.as ?_
      refine SO.nil ?_
      exact SQ.round (.slice (some ⟨gv, 0, none⟩) _ cap1, _, _, (P.length : Int) + 1) (by simp only; omega) ⟨rfl, rfl, rfl, rfl, trivial⟩ ⟨hbA2, hrow2, a + usz ((bl s).drop a), P ++ [a], by simp, by simp, by simpa using hfl, hua.next hlt, hst2, by simp only [List.length_append, List.length_singleton] at hxl ⊢; omega⟩
     ·
      have hst2 : LSt (bl s) (P ++ [a]) (a + usz ((bl s).drop a)) (A.map (quad (bl s)) ++ [((b : Int), (a : Int) + (usz ((bl s).drop a) : Nat), (pq (bl s) b a).2.2.1, (pq (bl s) b a).2.2.2)]) := .inr ⟨A, b, a, P, rfl, hua, rfl, hb, by omega, fun t h1 h2 h3 => by
        by_cases e : t < a
        · exact hno t h1 e h3
        · by_cases e2 : t = a
          · subst e2; exact hCBi.1 h3 hglue
          · have := hua.gap h3.ub (by omega); omega
      , hA, by rw [pq_more hbq he c11]⟩
      refine SC.skip ?_
      refine SQ.then_normal ?_
      refine SC.region ?_
      refine SO.mv ?_
      refine SO.mv ?_
      refine SO.v (.lenA rfl rfl Tryz.underlying139) ?_
      refine SO.v (.sub rfl rfl rfl (by omega)) ?_
      refine SO.v (.loadB [_, _, _, _] rfl rfl ag138 sz138 (hO10.at (i := 0) rfl) rfl rfl) ?_
      refine SO.v (.indexAddr rfl rfl rfl Tryz.underlying139 sz138 (by omega) (by omega)) ?_
      obtain ⟨wA, hsr, hrow2, hbA⟩ := Own'.setLast (x := pq (bl s) b a) (y := ((b : Int), (a : Int) + (usz ((bl s).drop a) : Nat), (pq (bl s) b a).2.2.1, (pq (bl s) b a).2.2.2)) (hrow.below (hO10.toBelow ⟨hb8, trivial⟩)) enc4_len (Nat.le_trans hbW.size (hO10.toBelow ⟨hb8, trivial⟩).size) (enc4_plain _)
      rw [show (A.map (quad (bl s))).length * 4 = 0 + (((((A.map (quad (bl s))) ++ [pq (bl s) b a]).length : Nat) : Int) - 1).toNat * 4 by rw [List.length_append, List.length_singleton]; omega] at hsr
      have hbA2 := (hbW.trans ((hO10.toBelow ⟨hb8, trivial⟩).mono hbW.size)).trans hbA
      have hGA : Good wA := hGU.ext hbA2
      have hOA := Own.start hGA
      refine SO.eff rfl rfl rfl (w' := wA) (.storeN rfl rfl rfl sz138 hsr) ?_
      refine SO.nn ?_
      refine SC.region ?_
      refine SO.mv ?_
      refine SO.mv ?_
      refine SO.mv ?_
      refine SO.v (.indexAddr rfl rfl rfl Tryz.underlying185 sz177 (by omega) (by omega)) ?_
      refine SO.v (.fieldAddr rfl rfl fa177_1) ?_
      refine SO.v (.load rfl rfl ag3 (hbA2.cell (World.block_lt_of_cell? _ _ hca1) |>.trans hca1)) ?_
      refine SO.v (.add rfl rfl rfl (by omega)) ?_
      refine SO.as ?_
      refine SO.nil ?_
      refine SQ.block_normal ?_
      refine SQ.then_normal ?_
      refine SC.region ?_
      refine SO.mv ?_
      refine SO.v (.add rfl rfl rfl (by omega)) ?_
      refine SO.as ?_
      refine SO.nil ?_
      exact SQ.round (.slice (some ⟨gv, 0, none⟩) _ cap1, _, _, (P.length : Int) + 1) (by simp only; omega) ⟨rfl, rfl, rfl, rfl, trivial⟩ ⟨hbA2, hrow2, a + usz ((bl s).drop a), P ++ [a], by simp, by simp, by simpa using hfl, hua.next hlt, hst2, by simp only [List.length_append, List.length_singleton] at hxl ⊢; omega⟩
    ·
     have hCB : CB (bl s) a := hCBi.2 c7
     refine SC.sr ?_
     refine SO.mv ?_
     refine SO.mv ?_
     refine SO.v (.indexAddr rfl rfl rfl Tryz.underlying185 sz177 (by omega) (by omega)) ?_
     refine SO.v (.fieldAddr rfl rfl fa177_0) ?_
     refine SO.v (.load rfl rfl ag21 ((hbW.trans ((hO6.toBelow trivial).mono hbW.size)).cell (World.block_lt_of_cell? _ _ hca0) |>.trans hca0)) ?_
     refine SO.as ?_
     refine SO.nn ?_
     refine SC.draw mixed (fun v => Below wU.heap.size wU v) ?_
     have hO16 := Own.drew hO6
     refine SA.tm 0 rfl (hbX.trans ((hO16.toBelow trivial).mono hbX.size)) ?_
     refine SA.tm 1 rfl (hbX.trans ((hO16.toBelow trivial).mono hbX.size)) ?_
     refine SA.tm 2 rfl (hbX.trans ((hO16.toBelow trivial).mono hbX.size)) ?_
     refine SA.tm 3 rfl (hbX.trans ((hO16.toBelow trivial).mono hbX.size)) ?_
     refine SA.tm 4 rfl (hbX.trans ((hO16.toBelow trivial).mono hbX.size)) ?_
     refine SA.tk 5 rfl (hbX.trans ((hO16.toBelow trivial).mono hbX.size)) (fun v hv => .indexAddr rfl rfl rfl Tryz.underlying185 sz177 (by omega) (by omega)) ?_
     refine SA.tk 6 rfl (hbX.trans ((hO16.toBelow trivial).mono hbX.size)) (fun v hv => .fieldAddr rfl rfl fa177_1) ?_
     refine SA.tk 7 rfl (hbX.trans ((hO16.toBelow trivial).mono hbX.size)) (fun v hv => .load rfl rfl ag3 ((hv.cell (World.block_lt_of_cell? _ _ hca1)).trans hca1)) ?_
     refine SA.tk 8 rfl (hbX.trans ((hO16.toBelow trivial).mono hbX.size)) (fun v hv => .add rfl rfl rfl (by omega)) ?_
     refine SA.tm 9 rfl (hbX.trans ((hO16.toBelow trivial).mono hbX.size)) ?_
     refine SA.tm 11 rfl (hbX.trans ((hO16.toBelow trivial).mono hbX.size)) ?_
     refine SA.one 10 (by kernel_rfl) ?_
     refine SB.call rfl rfl rfl rfl (.callF rfl rfl en140) (refclass_any _ _ (hO16.good hGL)) ?_
     rintro _ w17 ⟨rfl, hb17⟩
     have hO17 := hO16.below hb17
     refine ⟨_, rfl, (hbX.trans ((hO17.toBelow trivial).mono hbX.size)), ?_⟩
     refine SA.one 12 (by kernel_rfl) ?_
     refine SB.call rfl rfl rfl rfl (.callF rfl rfl en141) (refcells_any _ _ (hO17.good hGL)) ?_
     rintro _ w18 ⟨rfl, hb18⟩
     have hO18 := hO17.below hb18
     refine ⟨_, rfl, (hbX.trans ((hO18.toBelow trivial).mono hbX.size)), ?_⟩
     refine SA.tk 13 rfl (hbX.trans ((hO18.toBelow trivial).mono hbX.size)) (fun v hv => .build rfl rfl (bd138_0_1_2_3_Ref5 _ _ _ _)) ?_
     refine SA.one 14 (by kernel_rfl) ?_
     refine SB.buildSlice hO18 rfl rfl rfl rfl rfl rfl (bs139_1_0_Ref5 _ _ _ _) ?_
     intro b19 w19 hb19 hO19
     refine ⟨(hbX.trans ((hO19.toBelow ⟨hb19, trivial⟩).mono hbX.size)), ?_⟩
     refine SA.one 15 (by kernel_rfl) ?_
     obtain ⟨v2, wA, happ, hrow2, hbA, hgA⟩ := Own'.push (hrow.below (hO19.toBelow ⟨hb19, trivial⟩)) enc4_len enc4_one Tryz.underlying139 inf138_ok inf138_z inf138_s inf138_b rfl (by decide) (by decide) ((a : Int), (a : Int) + (usz ((bl s).drop a) : Nat), cls (uch ((bl s).drop a)), cellsOf (uch ((bl s).drop a))) (hO19.at (i := 0) rfl) (by omega) (Nat.le_trans hbW.size (hO19.toBelow ⟨hb19, trivial⟩).size) 139
     have hbA2 := (hbW.trans ((hO19.toBelow ⟨hb19, trivial⟩).mono hbW.size)).trans hbA
     have hGA : Good wA := hGU.ext hbA2
     have hOA := Own.start hGA
     have hbX := hbA2
     refine SB.val rfl rfl rfl rfl (.builtin2 (v := v2) (w' := wA) rfl rfl rfl (fun cs => by simp [builtin, happ, Result.andThen])) (hbX.trans ((hOA.toBelow trivial).mono hbX.size)) ?_
     refine SA.ta 16 rfl (hbX.trans ((hOA.toBelow trivial).mono hbX.size)) ?_
     refine SA.done (by kernel_rfl) ?_
     refine SQ.then_normal ?_
     refine SC.region ?_
     refine SO.mv ?_
     refine SO.mv ?_
     refine SO.mv ?_
     refine SO.v (.indexAddr rfl rfl rfl Tryz.underlying185 sz177 (by omega) (by omega)) ?_
     refine SO.v (.fieldAddr rfl rfl fa177_1) ?_
     refine SO.v (.load rfl rfl ag3 (hbA2.cell (World.block_lt_of_cell? _ _ hca1) |>.trans hca1)) ?_
     refine SO.v (.add rfl rfl rfl (by omega)) ?_
     refine SO.as ?_
     refine SO.nil ?_
     refine SQ.block_normal ?_
     refine SQ.then_normal ?_
     refine SC.region ?_
     refine SO.mv ?_
     refine SO.v (.add rfl rfl rfl (by omega)) ?_
     refine SO.as ?_
     refine SO.nil ?_
     exact SQ.round (v2, _, _, (P.length : Int) + 1) (by simp only; omega) ⟨rfl, rfl, rfl, rfl, trivial⟩ ⟨hbA2, hrow2, a + usz ((bl s).drop a), P ++ [a], by simp, by simp, by simpa using hfl, hua.next hlt, hst.push hlt hua hCB, by simp only [List.length_append, List.length_singleton]; omega⟩
   ·
    have hCB : CB (bl s) a := by
      rcases hst with ⟨_, h, _⟩ | ⟨_, _, _, P', h, _⟩
      · rw [h]; exact .zero _
      · exfalso; rw [h] at g5; simp at g5
    refine SA.pq 3 rfl (hbX.trans ((hO4.toBelow trivial).mono hbX.size)) ?_
    refine SA.pq 4 rfl (hbX.trans ((hO4.toBelow trivial).mono hbX.size)) ?_
    refine SA.pq 5 rfl (hbX.trans ((hO4.toBelow trivial).mono hbX.size)) ?_
    refine SA.pq 6 rfl (hbX.trans ((hO4.toBelow trivial).mono hbX.size)) ?_
    refine SA.pq 7 rfl (hbX.trans ((hO4.toBelow trivial).mono hbX.size)) ?_
    refine SA.pq 8 rfl (hbX.trans ((hO4.toBelow trivial).mono hbX.size)) ?_
    refine SA.pq 9 rfl (hbX.trans ((hO4.toBelow trivial).mono hbX.size)) ?_
    refine SA.pq 10 rfl (hbX.trans ((hO4.toBelow trivial).mono hbX.size)) ?_
    refine SA.pq 11 rfl (hbX.trans ((hO4.toBelow trivial).mono hbX.size)) ?_
    refine SA.one 12 (by kernel_rfl) ?_
    refine SB.pass rfl rfl rfl rfl (hbX.trans ((hO4.toBelow trivial).mono hbX.size)) ?_
    refine SA.tk 13 rfl (hbX.trans ((hO4.toBelow trivial).mono hbX.size)) (fun v hv => .pickF rfl rfl rfl) ?_
    refine SA.done (by kernel_rfl) ?_
    refine SQ.then_normal ?_
    refine SC.no rfl ?_
    refine SC.sr ?_
    refine SO.mv ?_
    refine SO.mv ?_
    refine SO.v (.indexAddr rfl rfl rfl Tryz.underlying185 sz177 (by omega) (by omega)) ?_
    refine SO.v (.fieldAddr rfl rfl fa177_0) ?_
    refine SO.v (.load rfl rfl ag21 ((hbW.trans ((hO4.toBelow trivial).mono hbW.size)).cell (World.block_lt_of_cell? _ _ hca0) |>.trans hca0)) ?_
    refine SO.as ?_
    refine SO.nn ?_
    refine SC.draw mixed (fun v => Below wU.heap.size wU v) ?_
    have hO20 := Own.drew hO4
    refine SA.tm 0 rfl (hbX.trans ((hO20.toBelow trivial).mono hbX.size)) ?_
    refine SA.tm 1 rfl (hbX.trans ((hO20.toBelow trivial).mono hbX.size)) ?_
    refine SA.tm 2 rfl (hbX.trans ((hO20.toBelow trivial).mono hbX.size)) ?_
    refine SA.tm 3 rfl (hbX.trans ((hO20.toBelow trivial).mono hbX.size)) ?_
    refine SA.tm 4 rfl (hbX.trans ((hO20.toBelow trivial).mono hbX.size)) ?_
    refine SA.tk 5 rfl (hbX.trans ((hO20.toBelow trivial).mono hbX.size)) (fun v hv => .indexAddr rfl rfl rfl Tryz.underlying185 sz177 (by omega) (by omega)) ?_
    refine SA.tk 6 rfl (hbX.trans ((hO20.toBelow trivial).mono hbX.size)) (fun v hv => .fieldAddr rfl rfl fa177_1) ?_
    refine SA.tk 7 rfl (hbX.trans ((hO20.toBelow trivial).mono hbX.size)) (fun v hv => .load rfl rfl ag3 ((hv.cell (World.block_lt_of_cell? _ _ hca1)).trans hca1)) ?_
    refine SA.tk 8 rfl (hbX.trans ((hO20.toBelow trivial).mono hbX.size)) (fun v hv => .add rfl rfl rfl (by omega)) ?_
    refine SA.tm 9 rfl (hbX.trans ((hO20.toBelow trivial).mono hbX.size)) ?_
    refine SA.tm 11 rfl (hbX.trans ((hO20.toBelow trivial).mono hbX.size)) ?_
    refine SA.one 10 (by kernel_rfl) ?_
    refine SB.call rfl rfl rfl rfl (.callF rfl rfl en140) (refclass_any _ _ (hO20.good hGL)) ?_
    rintro _ w21 ⟨rfl, hb21⟩
    have hO21 := hO20.below hb21
    refine ⟨_, rfl, (hbX.trans ((hO21.toBelow trivial).mono hbX.size)), ?_⟩
    refine SA.one 12 (by kernel_rfl) ?_
    refine SB.call rfl rfl rfl rfl (.callF rfl rfl en141) (refcells_any _ _ (hO21.good hGL)) ?_
    rintro _ w22 ⟨rfl, hb22⟩
    have hO22 := hO21.below hb22
    refine ⟨_, rfl, (hbX.trans ((hO22.toBelow trivial).mono hbX.size)), ?_⟩
    refine SA.tk 13 rfl (hbX.trans ((hO22.toBelow trivial).mono hbX.size)) (fun v hv => .build rfl rfl (bd138_0_1_2_3_Ref5 _ _ _ _)) ?_
    refine SA.one 14 (by kernel_rfl) ?_
    refine SB.buildSlice hO22 rfl rfl rfl rfl rfl rfl (bs139_1_0_Ref5 _ _ _ _) ?_
    intro b23 w23 hb23 hO23
    refine ⟨(hbX.trans ((hO23.toBelow ⟨hb23, trivial⟩).mono hbX.size)), ?_⟩
    refine SA.one 15 (by kernel_rfl) ?_
    obtain ⟨v2, wA, happ, hrow2, hbA, hgA⟩ := Own'.push (hrow.below (hO23.toBelow ⟨hb23, trivial⟩)) enc4_len enc4_one Tryz.underlying139 inf138_ok inf138_z inf138_s inf138_b rfl (by decide) (by decide) ((a : Int), (a : Int) + (usz ((bl s).drop a) : Nat), cls (uch ((bl s).drop a)), cellsOf (uch ((bl s).drop a))) (hO23.at (i := 0) rfl) (by omega) (Nat.le_trans hbW.size (hO23.toBelow ⟨hb23, trivial⟩).size) 139
    have hbA2 := (hbW.trans ((hO23.toBelow ⟨hb23, trivial⟩).mono hbW.size)).trans hbA
    have hGA : Good wA := hGU.ext hbA2
    have hOA := Own.start hGA
    have hbX := hbA2
    refine SB.val rfl rfl rfl rfl (.builtin2 (v := v2) (w' := wA) rfl rfl rfl (fun cs => by simp [builtin, happ, Result.andThen])) (hbX.trans ((hOA.toBelow trivial).mono hbX.size)) ?_
    refine SA.ta 16 rfl (hbX.trans ((hOA.toBelow trivial).mono hbX.size)) ?_
    refine SA.done (by kernel_rfl) ?_
    refine SQ.then_normal ?_
    refine SC.region ?_
    refine SO.mv ?_
    refine SO.mv ?_
    refine SO.mv ?_
    refine SO.v (.indexAddr rfl rfl rfl Tryz.underlying185 sz177 (by omega) (by omega)) ?_
    refine SO.v (.fieldAddr rfl rfl fa177_1) ?_
    refine SO.v (.load rfl rfl ag3 (hbA2.cell (World.block_lt_of_cell? _ _ hca1) |>.trans hca1)) ?_
    refine SO.v (.add rfl rfl rfl (by omega)) ?_
    refine SO.as ?_
    refine SO.nil ?_
    refine SQ.block_normal ?_
    refine SQ.then_normal ?_
    refine SC.region ?_
    refine SO.mv ?_
    refine SO.v (.add rfl rfl rfl (by omega)) ?_
    refine SO.as ?_
    refine SO.nil ?_
    exact SQ.round (v2, _, _, (P.length : Int) + 1) (by simp only; omega) ⟨rfl, rfl, rfl, rfl, trivial⟩ ⟨hbA2, hrow2, a + usz ((bl s).drop a), P ++ [a], by simp, by simp, by simpa using hfl, hua.next hlt, hst.push hlt hua hCB, by simp only [List.length_append, List.length_singleton]; omega⟩
  ·
   have hfin : a = (bl s).length := by
     by_cases e : a < (bl s).length
     · rw [uFrom_cons e] at hlP; simp only [List.length_cons] at hlP; omega
     · omega
   rw [hfin] at hst
   have hall := hst.done
   refine SC.exit ?_
   refine SQ.then_exit ?_
   refine SQ.then_exit ?_
   refine SQ.block_exit ?_
   refine SQ.then_normal ?_
   refine SC.sr ?_
   refine SO.mv ?_
   refine SO.as ?_
   refine SO.nn ?_
   refine SC.ret ?_
   refine SQ.out (.inl rfl) (res1 rfl rfl) ?_
   exact ⟨v, rfl, by rw [← hall]; exact (hrow.below (hO2.toBelow trivial)).wide hbU.size, hbU.trans ((hbW.trans ((hO2.toBelow trivial).mono hbW.size)).mono hbU.size)⟩

end Go.Proofs.YtclgplkkajfenaaGreatDoor
