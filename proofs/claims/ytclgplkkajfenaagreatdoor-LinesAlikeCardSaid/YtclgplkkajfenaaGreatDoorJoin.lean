/- metric.Join. -/
import Derived.Test.YtclgplkkajfenaaGreatDoorMetp
import Derived.Test.YtclgplkkajfenaaGreatDoorWEqStruct
namespace Go.Proofs.YtclgplkkajfenaaGreatDoor
open Go Go.RowKit Ow
open YtclgplkkajfenaaGreatDoorW.PrintWords in
theorem eq91 (a b : Smy) (w : World) : (binOp .eql 91 (smV a) (smV b)).run Tryz.prog w = .ok (.bool (decide (a = b))) w := by
  rw [run_eql_struct, show (10000 : Nat) = 9999 + 1 from rfl]
  have key : (Op.equalIn (9999 + 1) 91 (smV a) (smV b)).run Tryz.prog w = .ok (a.b == b.b && (a.u == b.u && (a.c == b.c && (a.k == b.k && (a.nl == b.nl && (a.h.toList == b.h.toList && a.t.toList == b.t.toList)))))) w := by
    refine eqA_of Tryz.underlying91 (by kernel_rfl) ?_
    refine eqf_cons rfl (a := .int .i64 a.b) (b := .int .i64 b.b) (by kernel_rfl) (by kernel_rfl) (run_equalIn_int w _ _ _ _ _ _ Tryz.underlying3) ?_
    refine eqf_cons rfl (a := .int .i64 a.u) (b := .int .i64 b.u) (by kernel_rfl) (by kernel_rfl) (run_equalIn_int w _ _ _ _ _ _ Tryz.underlying3) ?_
    refine eqf_cons rfl (a := .int .i64 a.c) (b := .int .i64 b.c) (by kernel_rfl) (by kernel_rfl) (run_equalIn_int w _ _ _ _ _ _ Tryz.underlying3) ?_
    refine eqf_cons rfl (a := .int .i64 a.k) (b := .int .i64 b.k) (by kernel_rfl) (by kernel_rfl) (run_equalIn_int w _ _ _ _ _ _ Tryz.underlying3) ?_
    refine eqf_cons rfl (a := .int .i64 a.nl) (b := .int .i64 b.nl) (by kernel_rfl) (by kernel_rfl) (run_equalIn_int w _ _ _ _ _ _ Tryz.underlying3) ?_
    refine eqf_cons rfl (a := .string a.h) (b := .string b.h) (by kernel_rfl) (by kernel_rfl) (run_equalIn_string w _ _ _ _ Tryz.underlying9) ?_
    exact eqf_last rfl (a := .string a.t) (b := .string b.t) (by kernel_rfl) (by kernel_rfl) (run_equalIn_string w _ _ _ _ Tryz.underlying9)
  have e0 : ∀ r : Bool, (Result.ok r w : Result Bool).andThen (fun b w' => Result.ok (Value.bool b) w') = Result.ok (Value.bool r) w := fun _ => rfl
  refine (congrArg (fun r : Result Bool => r.andThen (fun b w' => Result.ok (Value.bool b) w')) key).trans ((e0 _).trans ?_)
  refine congrArg (fun r => Result.ok (Value.bool r) w) ?_
  clear key e0
  obtain ⟨a1, a2, a3, a4, a5, a6, a7⟩ := a
  obtain ⟨b1, b2, b3, b4, b5, b6, b7⟩ := b
  simp only [Smy.mk.injEq]
  have hs : ∀ s t : ByteArray, (s.toList == t.toList) = decide (s = t) := fun s t => by
    by_cases h : s = t
    · subst h; simp
    · rw [decide_eq_false h]; simpa using fun h' => h (toList_inj h')
  simp only [hs]
  simp only [Bool.decide_and]
  rfl
theorem Res.eql91 {e : Env} {o : Oper} {w : World} {x y : Operand} {a b : Smy} (ho : o.op = .binOp .eql 91 x y 91) (hx : ev e x = some (smV a)) (hy : ev e y = some (smV b)) : Res Tryz.prog e o w (.ok (.value (.bool (decide (a = b)))) w) :=
  .bin ho hx hy (run_eqGuard_agg w _ _ _ _ _ _ (by kernel_rfl)) (eq91 a b w)
def joinL (m : Smy) (ps : List Smy) : Smy := ps.foldl (fun m p => if m = zS then p else pairS m p) m
theorem joinL_snoc (ps : List Smy) (p m : Smy) : joinL m (ps ++ [p]) = if joinL m ps = zS then p else pairS (joinL m ps) p := by
  unfold joinL; rw [List.foldl_append]; rfl
theorem joinL_ok : ∀ (ps : List Smy) (m : Smy), SOk m → (∀ p ∈ ps, SOk p) → SOk (joinL m ps)
  | [], _, h, _ => h
  | p :: ps, m, h, hp => by
    refine joinL_ok ps _ ?_ fun q hq => hp q (List.mem_cons_of_mem _ hq)
    simp only
    split
    · exact hp p (by simp)
    · exact h.pair (hp p (by simp))
def rows (ps : List Smy) : List Value := (ps.map smC).flatten
theorem rows_get : ∀ (ps : List Smy) (i : Nat) (p : Smy), ps[i]? = some p → ∀ j v, (smC p)[j]? = some v → (rows ps)[i * 7 + j]? = some v
  | [], i, p, h, _, _, _ => by simp at h
  | q :: ps, 0, p, h, j, v, hj => by
    simp at h; subst h
    have : j < 7 := by have := (List.getElem?_eq_some_iff.1 hj).1; simpa using this
    simp only [rows, List.map_cons, List.flatten_cons, Nat.zero_mul, Nat.zero_add]
    rw [List.getElem?_append_left (by simpa using this)]; exact hj
  | q :: ps, i + 1, p, h, j, v, hj => by
    simp only [rows, List.map_cons, List.flatten_cons]
    rw [List.getElem?_append_right (by simp; omega)]
    have := rows_get ps i p (by simpa using h) j v hj
    rw [show (i + 1) * 7 + j - (smC q).length = i * 7 + j by simp; omega]
    exact this
theorem row_cell {w : World} {bp : Nat} {ps : List Smy} {i : Nat} {p : Smy} (h : w.heap[bp]? = some (.cells (rows ps).toArray 91 (0, 0))) (hp : ps[i]? = some p) :
    ∀ j v, (smC p)[j]? = some v → w.cell? ⟨bp, 0 + ((i : Nat) : Int).toNat * 7 + j, none⟩ = some v := fun j v hv =>
  cell_of' h (by simpa using rows_get ps i p hp j v hv)

theorem bd91_z_Join  : ∀ w, (Instr.build 91 [].toArray).run Tryz.prog w = .ok (.agg [.int .i64 0, .int .i64 0, .int .i64 0, .int .i64 0, .int .i64 0, .string ⟨#[]⟩, .string ⟨#[]⟩].toArray) w := fun _ => by kernel_rfl
set_option maxRecDepth 40000 in
set_option maxHeartbeats 400000 in
theorem join_any (ps : List Smy) (bp : Nat) (w : World) (hG : Good w) (hl : ps.length ≤ 1000) (hok : ∀ p ∈ ps, SOk p) (hp : w.heap[bp]? = some (.cells (rows ps).toArray 91 (0, 0))) :
    Calls Tryz.prog 216 #[.slice (some ⟨bp, 0, none⟩) ps.length ps.length] w fun e w' => e = .returned (smV (joinL zS ps)) ∧ Below w.heap.size w w' := by
  have hO0 := Own.start hG
  refine enter Tryz.func216 rfl rfl rfl 0 ?_
  refine SC.seq ?_
  refine SC.region ?_
  refine SO.alloc hO0 rfl rfl rfl rfl zv91 [_, _, _, _, _, _, _] rfl ?_
  intro b1 w1 hb1 hO1
  refine SO.nil ?_
  refine SQ.then_normal ?_
  refine SC.seq ?_
  refine SC.region ?_
  refine SO.alloc hO1 rfl rfl rfl rfl zv91 [_, _, _, _, _, _, _] rfl ?_
  intro b2 w2 hb2 hO2
  refine SO.nil ?_
  refine SQ.then_normal ?_
  refine SC.seq ?_
  refine SC.seq ?_
  refine SC.region ?_
  refine SO.val rfl rfl rfl rfl (.move rfl rfl) ?_
  refine SO.val rfl rfl rfl rfl (.lenA rfl rfl Tryz.underlying246) ?_
  refine SO.val rfl rfl rfl rfl (.move rfl rfl) ?_
  refine SO.nil ?_
  refine SQ.then_normal ?_
  refine SC.block ?_
  refine SC.loop (α := Nat × Smy) (fun x => [(2, .pointer (some ⟨b1, 0, none⟩)), (3, .pointer (some ⟨b2, 0, none⟩)), (6, .slice (some ⟨bp, 0, none⟩) ps.length ps.length), (7, .int .i64 (ps.length : Int)), (8, .int .i64 (x.1 : Int))]) (fun x v => x.1 ≤ ps.length ∧ x.2 = joinL zS (ps.take x.1) ∧ Ow.Own w [(b2, .cells (smC x.2).toArray 91 (0, 0)), (b1, .cells (smC zS).toArray 91 (0, 0))] v) (fun x => ps.length - x.1) (0, zS) ?_ ?_ ?_
  · exact ⟨rfl, rfl, rfl, rfl, rfl, trivial⟩
  · exact ⟨by simp, rfl, hO2⟩
  rintro ⟨i, m⟩ w3 ⟨hi, hm, hO3⟩
  simp only at hi hm hO3
  refine SC.seq ?_
  refine SC.region ?_
  refine SO.val rfl rfl rfl rfl (.lss rfl rfl rfl) ?_
  refine SO.nil ?_
  refine SQ.then_normal ?_
  refine SC.seq ?_
  refine SC.dec rfl (fun c4 => ?_) (fun c4 => ?_)
  ·
    obtain ⟨p, hpi⟩ : ∃ p, ps[i]? = some p := ⟨ps[i]'(by omega), List.getElem?_eq_getElem (by omega)⟩
    have hstep : joinL zS (ps.take (i + 1)) = if m = zS then p else pairS m p := by
      rw [List.take_add_one, hpi, hm]; exact joinL_snoc _ _ _
    have hpok : SOk p := hok p (List.mem_of_getElem? hpi)
    have hmok : SOk m := by rw [hm]; exact joinL_ok _ _ SOk.zero (fun q hq => hok q (List.mem_of_mem_take hq))
    refine SC.skip ?_
    refine SQ.then_normal ?_
    refine SC.seq ?_
    refine SC.block ?_
    refine SC.seq ?_
    refine SC.region ?_
    refine SO.val rfl rfl rfl rfl (.indexAddr rfl rfl rfl Tryz.underlying246 sz91 (by omega) (by omega)) ?_
    refine SO.val rfl rfl rfl rfl (.loadN (cs := smC p) rfl rfl ag91 sz91 (row_cell (hO3.heapO (by exact ⟨hb2, hb1, trivial⟩) hp) hpi)) ?_
    refine SO.alloc hO3 rfl rfl rfl rfl zv91 [_, _, _, _, _, _, _] rfl ?_
    intro b5 w5 hb5 hO5
    refine SO.store hO5 (i := 0) rfl rfl rfl rfl rfl rfl sz91 rfl rfl [(_, .cells [_, _, _, _, _, _, _].toArray _ _), _, _] rfl ?_
    intro w6 hO6
    refine SO.nil ?_
    refine SQ.then_normal ?_
    refine SC.seq ?_
    refine SC.seq ?_
    refine SC.region ?_
    refine SO.val rfl rfl rfl rfl (.loadB [_, _, _, _, _, _, _] rfl rfl ag91 sz91 (hO6.at (i := 1) rfl) rfl rfl) ?_
    refine SO.val rfl rfl rfl rfl (.build rfl rfl (bd91_z_Join)) ?_
    refine SO.val rfl rfl rfl rfl (Res.eql91 (a := m) (b := zS) rfl rfl rfl) ?_
    refine SO.nil ?_
    refine SQ.then_normal ?_
    refine SC.dec rfl (fun c7 => ?_) (fun c7 => ?_)
    ·
      have hz0 : m = zS := c7
      refine SC.seq ?_
      refine SC.region ?_
      refine SO.val rfl rfl rfl rfl (.loadB [_, _, _, _, _, _, _] rfl rfl ag91 sz91 (hO6.at (i := 0) rfl) rfl rfl) ?_
      refine SO.store hO6 (i := 1) rfl rfl rfl rfl rfl rfl sz91 rfl rfl [_, (_, .cells [_, _, _, _, _, _, _].toArray _ _), _] rfl ?_
      intro w8 hO8
      refine SO.nil ?_
      refine SQ.then_normal ?_
      refine SC.exit ?_
      refine SQ.then_exit ?_
      refine SQ.block_exit ?_
      refine SQ.then_normal ?_
      refine SC.region ?_
      refine SO.val rfl rfl rfl rfl (.add rfl rfl rfl (by omega)) ?_
      refine SO.val rfl rfl rfl rfl (.move rfl rfl) ?_
      refine SO.nil ?_
      first | exact SQ.round (i + 1, p) (by simp only; omega) ⟨rfl, rfl, rfl, rfl, look_int rfl (by simp), trivial⟩ ⟨by simp only; omega, by simp only; rw [hstep, if_pos hz0], (hO8.tail hb5)⟩ | exact SQ.round (i + 1, pairS m p) (by simp only; omega) ⟨rfl, rfl, rfl, rfl, look_int rfl (by simp), trivial⟩ ⟨by simp only; omega, by simp only; rw [hstep, if_neg hz0], (hO8.tail hb5)⟩
    ·
      have hz0 : ¬ m = zS := c7
      refine SC.skip ?_
      refine SQ.then_normal ?_
      refine SC.region ?_
      refine SO.val rfl rfl rfl rfl (.loadB [_, _, _, _, _, _, _] rfl rfl ag91 sz91 (hO6.at (i := 1) rfl) rfl rfl) ?_
      refine SO.val rfl rfl rfl rfl (.loadB [_, _, _, _, _, _, _] rfl rfl ag91 sz91 (hO6.at (i := 0) rfl) rfl rfl) ?_
      refine SO.call rfl rfl rfl rfl (.callF rfl rfl en224) (pair_any m p _ (hO6.good hG) hmok hpok) ?_
      rintro _ w9 ⟨rfl, hb9⟩
      have hO9 := hO6.below hb9
      refine ⟨_, rfl, ?_⟩
      refine SO.store hO9 (i := 1) rfl rfl rfl rfl rfl rfl sz91 rfl rfl [_, (_, .cells [_, _, _, _, _, _, _].toArray _ _), _] rfl ?_
      intro w10 hO10
      refine SO.nil ?_
      refine SQ.block_normal ?_
      refine SQ.then_normal ?_
      refine SC.region ?_
      refine SO.val rfl rfl rfl rfl (.add rfl rfl rfl (by omega)) ?_
      refine SO.val rfl rfl rfl rfl (.move rfl rfl) ?_
      refine SO.nil ?_
      first | exact SQ.round (i + 1, p) (by simp only; omega) ⟨rfl, rfl, rfl, rfl, look_int rfl (by simp), trivial⟩ ⟨by simp only; omega, by simp only; rw [hstep, if_pos hz0], (hO10.tail hb5)⟩ | exact SQ.round (i + 1, pairS m p) (by simp only; omega) ⟨rfl, rfl, rfl, rfl, look_int rfl (by simp), trivial⟩ ⟨by simp only; omega, by simp only; rw [hstep, if_neg hz0], (hO10.tail hb5)⟩
  ·
    have hfin : m = joinL zS ps := by rw [hm, List.take_of_length_le (by omega)]
    refine SC.exit ?_
    refine SQ.then_exit ?_
    refine SQ.then_exit ?_
    refine SQ.block_exit ?_
    refine SQ.then_normal ?_
    refine SC.seq ?_
    refine SC.region ?_
    refine SO.val rfl rfl rfl rfl (.loadB [_, _, _, _, _, _, _] rfl rfl ag91 sz91 (hO3.at (i := 0) rfl) rfl rfl) ?_
    refine SO.store hO3 (i := 1) rfl rfl rfl rfl rfl rfl sz91 rfl rfl [_, (_, .cells [_, _, _, _, _, _, _].toArray _ _)] rfl ?_
    intro w11 hO11
    refine SO.nil ?_
    refine SQ.then_normal ?_
    refine SC.ret ?_
    refine SQ.out (.inl rfl) (resC [_, _, _, _, _, _, _] rfl rfl ag91 sz91 (hO11.at (i := 1) rfl) rfl rfl) ?_
    subst hfin
    exact ⟨rfl, hO11.toBelow ⟨hb2, hb1, trivial⟩⟩

end Go.Proofs.YtclgplkkajfenaaGreatDoor
