/- strings.Builder.WriteString. -/
import Derived.Test.YtclgplkkajfenaaGreatDoorRopn
import Derived.Test.YtclgplkkajfenaaGreatDoorShelf
import Derived.Lib.AppendStr
namespace Go.Proofs.YtclgplkkajfenaaGreatDoor
open Go Go.RowKit Ow
theorem Ow.Res.conv {P : Program} {e : Env} {w : World} {o : Oper} {S T : TypeId} {x : Operand} {v u : Value} (ho : o.op = .convert S T x) (hx : ev e x = some v) (hr : (convert S T v).run P w = .ok u w) : Ow.Res P e o w (.ok (.value u) w) := fun a h => by
  unfold execOp; rw [ho]; simp only [ev_eval h hx, Sem.run_bind, hr, Result.andThen, Sem.run_pure]
theorem Ow.Res.extF {P : Program} {e : Env} {w : World} {o : Oper} {f : FuncId} {l : List Operand} {vs : List Value} {v : Value} {ats : Array TypeId} (ho : o.op = .call { callee := .value (.func f), args := l.toArray, argTypes := ats }) (hl : evL e l = some vs)
    (he : ∀ w, (callFunc f vs.toArray).run P w = .ok (.value v) w) : Ow.Res P e o w (.ok (.value v) w) := fun a h => by
  unfold execOp; rw [ho]
  simp only [resolve, List.map_toArray, evL_map h hl, Act.eval, Deferred.ofValue, invoke, Sem.run_bind, Sem.run_pure, Result.andThen]
  simpa using he _
theorem Ow.Res.ptrSame {P : Program} {e : Env} {w : World} {o : Oper} {T t yT : TypeId} {x y : Operand} {a : Addr} {j : TypeInfo} (ho : o.op = .binOp .neq T x y yT) (hx : ev e x = some (.pointer (some a))) (hy : ev e y = some (.pointer (some a))) (hT : P.underlying T = some (.pointer t)) (hj : P.info? t = some j) :
    Ow.Res P e o w (.ok (.value (.bool false)) w) :=
  .bin ho hx hy guard_ptr (Lib.run_neq_ptr_same w _ hT hj)
noncomputable def inf274 : TypeInfo := (Tryz.prog.info? 274).getD default
theorem inf274_ok : Tryz.prog.info? 274 = some inf274 := by kernel_rfl
theorem inf274_s : (inf274.size == 0) = false := by kernel_rfl
theorem lies274 : liesAt Tryz.prog Tryz.prog.depth 274 (2 / Tryz.prog.cellsOf 274) 0 274 1 = true := by kernel_rfl
theorem noesc (v : Value) : ∀ w, (callFunc 277 #[v]).run Tryz.prog w = .ok (.value v) w := fun w => by
  rw [run_callFunc_extern Tryz.func277 (by kernel_rfl) (by kernel_rfl) (by kernel_rfl) (e := Extern.AbiNoEscape.same) (by kernel_rfl), Lib.run_noEscape]
  rfl
theorem shape_of {w : World} {b : Nat} {p v : Value} (h : w.heap[b]? = some (.cells [p, v].toArray 274 (0, 0))) : w.shape? b = some (274, 2) := by simp [World.shape?, h]
def selfP (b : Nat) : Value := .pointer (some ⟨b, 0, none⟩)
theorem Ow.Own.belowB {w w' : World} {b B : Nat} {o : Obj} (h : Ow.Own w [(b, o)] w') (hB : B ≤ b) (hBw : B ≤ w.heap.size) : Below B w w' :=
  ⟨h.os, h.tape, h.output, h.size, fun k hk => h.old k (by omega) fun p hp => by simp only [List.mem_singleton] at hp; subst hp; simp only; omega⟩
theorem Ow.Own.growsB {w w' : World} {b : Nat} {o : Obj} (h : Ow.Own w [(b, o)] w') : w.grownBy w' (some b) :=
  ⟨h.os, h.tape, h.output, h.size, fun k hk hne => h.old k hk fun p hp => by simp only [List.mem_singleton] at hp; subst hp; exact fun e => hne (congrArg some (show k = b from e.symm))⟩
theorem slice_of {w : World} {base e size n : Nat} {v : Value} {xs : List Value} (h : w.ownsRow base e size v n xs) : ∃ ao cap, v = .slice ao n cap := by
  rcases h.2 with ⟨rfl, rfl⟩ | ⟨g, cap, cur, rfl, _⟩
  · exact ⟨_, _, rfl⟩
  · exact ⟨_, _, rfl⟩
theorem append_str {w : World} {base : Nat} {v : Value} {l : Bs} {s : ByteArray} (hown : w.ownsRow base 5 1 v l.length (Lib.byteCells l)) (hl : l.length + s.size ≤ 140737488355328) (hB : base ≤ w.heap.size) (ty : TypeId) :
    ∃ v' w', (Builtin.append_ #[116, 9] ty #[v, .string s]).run Tryz.prog w = .ok v' w' ∧ w'.ownsRow base 5 1 v' (l ++ bl s).length (Lib.byteCells (l ++ bl s)) ∧ w.grownBy w' v.ownBlock := by
  obtain ⟨v', w', h1, h2, h3, _⟩ := Lib.run_append_own_string (P := Tryz.prog) w base 116 9 ty 5 inf5 Tryz.underlying116 Tryz.underlying9 inf5_ok inf5_z inf5_s inf5_b v l.length (Lib.byteCells l) hown s (by simp only [maxLen]; omega) hl hB
  refine ⟨v', w', h1, ?_, h3⟩
  rw [List.length_append, bl_length, byteCells_append]
  exact h2

set_option maxRecDepth 20000 in
set_option maxHeartbeats 400000 in
theorem cc_fresh (b : Nat) (v : Value) (w : World) (hG : Good w) (h2b : 2 ≤ b) (hb : w.heap[b]? = some (.cells [.pointer none, v].toArray 274 (0, 0))) :
    Calls Tryz.prog 276 #[.pointer (some ⟨b, 0, none⟩)] w fun e w' => e = .returned (.tuple #[]) ∧ Ow.Own w [(b, .cells [.pointer (some ⟨b, 0, none⟩), v].toArray 274 (0, 0))] w' := by
  have hO0 := (Own.start hG).know hb (by simp) h2b
  refine enter Tryz.func276 rfl rfl rfl 0 ?_
  refine SC.seq ?_
  refine SC.region ?_
  refine SO.val rfl rfl rfl rfl (.move rfl rfl) ?_
  refine SO.val rfl rfl rfl rfl (.nilCheck rfl rfl) ?_
  refine SO.val rfl rfl rfl rfl (.fieldAddr rfl rfl fa274_0) ?_
  refine SO.val rfl rfl rfl rfl (.load rfl rfl ag272 (cell_of' (hO0.at (i := 0) rfl) rfl)) ?_
  refine SO.val rfl rfl rfl rfl (.ptrEq (b := true) rfl rfl rfl Tryz.underlying272 rfl) ?_
  refine SO.nil ?_
  refine SQ.then_normal ?_
  refine SC.yes rfl ?_
  refine SC.region ?_
  refine SO.val rfl rfl rfl rfl (.move rfl rfl) ?_
  refine SO.val rfl rfl rfl rfl (.move rfl rfl) ?_
  refine SO.val rfl rfl rfl rfl (.conv rfl rfl (Lib.run_to_unsafe _ ⟨b, 0, none⟩ Tryz.underlying272 Tryz.underlying280 inf274_ok (by have := inf274_s; simpa using this) (shape_of (hO0.at (i := 0) rfl)) (Nat.zero_lt_succ 1))) ?_
  refine SO.val rfl rfl rfl rfl (.extF rfl rfl (noesc _)) ?_
  refine SO.val rfl rfl rfl rfl (.conv rfl rfl (Lib.run_from_unsafe _ ⟨b, 0, none⟩ Tryz.underlying280 Tryz.underlying272 inf274_ok (shape_of (hO0.at (i := 0) rfl)) lies274)) ?_
  refine SO.val rfl rfl rfl rfl (.nilCheck rfl rfl) ?_
  refine SO.val rfl rfl rfl rfl (.fieldAddr rfl rfl fa274_0) ?_
  refine SO.store hO0 (i := 0) rfl rfl rfl rfl rfl rfl sz272 rfl rfl [(_, .cells [_, _].toArray _ _)] rfl ?_
  intro w1 hO1
  refine SO.nil ?_
  refine SQ.out (.inr rfl) (res0 rfl) ?_
  exact ⟨rfl, hO1⟩

set_option maxRecDepth 20000 in
set_option maxHeartbeats 400000 in
theorem cc_used (b : Nat) (v : Value) (w : World) (hG : Good w) (h2b : 2 ≤ b) (hb : w.heap[b]? = some (.cells [.pointer (some ⟨b, 0, none⟩), v].toArray 274 (0, 0))) :
    Calls Tryz.prog 276 #[.pointer (some ⟨b, 0, none⟩)] w fun e w' => e = .returned (.tuple #[]) ∧ Ow.Own w [(b, .cells [.pointer (some ⟨b, 0, none⟩), v].toArray 274 (0, 0))] w' := by
  have hO0 := (Own.start hG).know hb (by simp) h2b
  refine enter Tryz.func276 rfl rfl rfl 0 ?_
  refine SC.seq ?_
  refine SC.region ?_
  refine SO.val rfl rfl rfl rfl (.move rfl rfl) ?_
  refine SO.val rfl rfl rfl rfl (.nilCheck rfl rfl) ?_
  refine SO.val rfl rfl rfl rfl (.fieldAddr rfl rfl fa274_0) ?_
  refine SO.val rfl rfl rfl rfl (.load rfl rfl ag272 (cell_of' (hO0.at (i := 0) rfl) rfl)) ?_
  refine SO.val rfl rfl rfl rfl (.ptrEq (b := false) rfl rfl rfl Tryz.underlying272 rfl) ?_
  refine SO.nil ?_
  refine SQ.then_normal ?_
  refine SC.no rfl ?_
  refine SC.seq ?_
  refine SC.region ?_
  refine SO.val rfl rfl rfl rfl (.move rfl rfl) ?_
  refine SO.val rfl rfl rfl rfl (.nilCheck rfl rfl) ?_
  refine SO.val rfl rfl rfl rfl (.fieldAddr rfl rfl fa274_0) ?_
  refine SO.val rfl rfl rfl rfl (.load rfl rfl ag272 (cell_of' (hO0.at (i := 0) rfl) rfl)) ?_
  refine SO.val rfl rfl rfl rfl (.move rfl rfl) ?_
  refine SO.val rfl rfl rfl rfl (.ptrSame rfl rfl rfl Tryz.underlying272 inf274_ok) ?_
  refine SO.nil ?_
  refine SQ.then_normal ?_
  refine SC.no rfl ?_
  refine SC.skip ?_
  refine SQ.out (.inr rfl) (res0 rfl) ?_
  exact ⟨rfl, hO0⟩

theorem cc_any (b : Nat) (p v : Value) (w : World) (hG : Good w) (h2b : 2 ≤ b) (hp : p = .pointer none ∨ p = .pointer (some ⟨b, 0, none⟩)) (hb : w.heap[b]? = some (.cells [p, v].toArray 274 (0, 0))) :
    Calls Tryz.prog 276 #[.pointer (some ⟨b, 0, none⟩)] w fun e w' => e = .returned (.tuple #[]) ∧ Ow.Own w [(b, .cells [.pointer (some ⟨b, 0, none⟩), v].toArray 274 (0, 0))] w' := by
  rcases hp with rfl | rfl
  · exact cc_fresh b v w hG h2b hb
  · exact cc_used b v w hG h2b hb
theorem isB_open {B b : Nat} {bs : List Value} {w : World} (h : Lib.IsBuilder 274 5 B b bs w) : ∃ p v, (p = .pointer none ∨ p = .pointer (some ⟨b, 0, none⟩)) ∧ B ≤ b ∧ w.heap[b]? = some (.cells [p, v].toArray 274 (0, 0)) ∧ w.ownsRow B 5 1 v bs.length bs ∧ v.ownBlock ≠ some b := by
  rcases h with ⟨h1, v, h2, h3, h4⟩ | ⟨h1, v, h2, h3, h4⟩
  · exact ⟨_, v, .inl rfl, h1, h2, h3, h4⟩
  · exact ⟨_, v, .inr rfl, h1, h2, h3, h4⟩

set_option maxRecDepth 20000 in
set_option maxHeartbeats 400000 in
theorem writeString_any (B b : Nat) (l : Bs) (s : ByteArray) (w : World) (hG : Good w) (hB2 : 2 ≤ B) (hBw : B ≤ w.heap.size) (hb : Lib.IsBuilder 274 5 B b (Lib.byteCells l) w) (hl : l.length + s.size ≤ 140737488355328) :
    Calls Tryz.prog 275 #[.pointer (some ⟨b, 0, none⟩), .string s] w fun e w' => e = .returned (.tuple #[.int .i64 (s.size : Int), .nilIface]) ∧ Lib.IsBuilder 274 5 B b (Lib.byteCells (l ++ bl s)) w' ∧ Below B w w' := by
  obtain ⟨p, v, hp, hBb, hbk, hrow, hne⟩ := isB_open hb
  rw [Lib.byteCells_length] at hrow
  have hO0 := (Own.start hG).know hbk (by simp) (Nat.le_trans hB2 hBb)
  refine enter Tryz.func275 rfl rfl rfl 0 ?_
  refine SC.seq ?_
  refine SC.region ?_
  refine SO.val rfl rfl rfl rfl (.assign rfl rfl) ?_
  refine SO.val rfl rfl rfl rfl (.assign rfl rfl) ?_
  refine SO.nil ?_
  refine SQ.then_normal ?_
  refine SC.seq ?_
  refine SC.region ?_
  refine SO.val rfl rfl rfl rfl (.move rfl rfl) ?_
  refine SO.call rfl rfl rfl rfl (.callF rfl rfl en276) (cc_any b p v _ (hO0.good hG) (Nat.le_trans hB2 hBb) hp (hO0.at (i := 0) rfl)) ?_
  rintro _ w1 ⟨rfl, hcc⟩
  have hO1 := hO0.comp hcc rfl
  have hrow1 := hrow.kept hO1.growsB (.inr hne)
  have hbl1 := hO1.belowB hBb hBw
  refine ⟨_, rfl, ?_⟩
  refine SO.nil ?_
  refine SQ.then_normal ?_
  refine SC.seq ?_
  refine SC.region ?_
  refine SO.val rfl rfl rfl rfl (.move rfl rfl) ?_
  refine SO.val rfl rfl rfl rfl (.move rfl rfl) ?_
  refine SO.val rfl rfl rfl rfl (.nilCheck rfl rfl) ?_
  refine SO.val rfl rfl rfl rfl (.fieldAddr rfl rfl fa274_1) ?_
  refine SO.val rfl rfl rfl rfl (.load rfl rfl ag116 (cell_of' (hO1.at (i := 0) rfl) rfl)) ?_
  refine SO.val rfl rfl rfl rfl (.move rfl rfl) ?_
  obtain ⟨v2, wA, happ, hrow2, hgA⟩ := append_str (s := s) hrow1 hl (Nat.le_trans hBw hO1.size) 116
  obtain ⟨ao2, cap2, rfl⟩ := slice_of hrow2
  have hbA : wA.heap[b]? = some (.cells [.pointer (some ⟨b, 0, none⟩), v].toArray 274 (0, 0)) := (hgA.block b (lt_of_heap (hO1.at (i := 0) rfl)) (fun e => hne e.symm)).trans (hO1.at (i := 0) rfl)
  have hblA := hbl1.trans (grows_below hgA (fun k hk => (hrow1.lt k hk).1) (Nat.le_trans hBw hO1.size))
  have hGA : Good wA := hG.mono hblA hB2
  have hOA := (Own.start hGA).know hbA (by simp) (Nat.le_trans hB2 hBb)
  have hne2 := Lib.ownBlock_ne hrow2 hbA (by decide)
  refine SO.val rfl rfl rfl rfl (.builtin2 (v := .slice ao2 (l ++ bl s).length cap2) (w' := wA) rfl rfl rfl (fun cs => by simp [builtin, happ, Result.andThen])) ?_
  refine SO.val rfl rfl rfl rfl (.nilCheck rfl rfl) ?_
  refine SO.val rfl rfl rfl rfl (.fieldAddr rfl rfl fa274_1) ?_
  refine SO.store hOA (i := 0) rfl rfl rfl rfl rfl rfl sz116 rfl rfl [(_, .cells [_, _].toArray _ _)] rfl ?_
  intro w2 hO2
  refine SO.nil ?_
  refine SQ.then_normal ?_
  refine SC.seq ?_
  refine SC.region ?_
  refine SO.val rfl rfl rfl rfl (.move rfl rfl) ?_
  refine SO.val rfl rfl rfl rfl (.lenS rfl rfl Tryz.underlying9) ?_
  refine SO.val rfl rfl rfl rfl (.assign rfl rfl) ?_
  refine SO.val rfl rfl rfl rfl (.assign rfl rfl) ?_
  refine SO.nil ?_
  refine SQ.then_normal ?_
  refine SC.ret ?_
  refine SQ.out (.inl rfl) (res2 rfl rfl rfl) ?_
  have hblE := hblA.trans (hO2.belowB hBb (Nat.le_trans hBw hblA.size))
  exact ⟨rfl, .inr ⟨hBb, _, hO2.at (i := 0) rfl, by rw [Lib.byteCells_length]; exact hrow2.kept hO2.growsB (.inr hne2), hne2⟩, hblE⟩

end Go.Proofs.YtclgplkkajfenaaGreatDoor
