/- lines.Lines, an iterator. -/
import Derived.Test.YtclgplkkajfenaaGreatDoorRef7
namespace Go.Proofs.YtclgplkkajfenaaGreatDoor
open Go Go.RowKit Ow
/-- What a round must keep: all rows and boxes from a place on. -/
def KpB (B0 : Nat) (A B : World) : Prop := (∀ (k : Nat) (cs : Array Value) (T : Nat) (fz : Nat × Nat), B0 ≤ k → A.heap[k]? = some (.cells cs T fz) → B.heap[k]? = some (.cells cs T fz)) ∧ (Good A → Good B)
theorem KpB.trans {B0 : Nat} {A B C : World} (h : KpB B0 A B) (k : KpB B0 B C) : KpB B0 A C := ⟨fun i cs T fz hi hA => k.1 i cs T fz hi (h.1 i cs T fz hi hA), fun hA => k.2 (h.2 hA)⟩
theorem KpB.put {w : World} {B0 : Nat} (h2 : 2 ≤ w.heap.size) (W : World) (l : Nat) (o1 o2 : Obj) (hl : w.heap.size ≤ l) (hx : W.heap[l]? = some o1) (hc : o1.isCells = false) : KpB B0 W (W.putObj l o2) := by
  have hg := grownBy_putObj' W l o2
  refine ⟨fun k cs T fz _ hk => (hg.block k (lt_of_heap hk) (fun e => by cases e; rw [hk] at hx; cases hx; cases hc)).trans hk, fun h => ?_⟩
  have hW : w.heap.size ≤ W.heap.size := by have := lt_of_heap hx; omega
  exact h.mono (B := 2) ⟨hg.os, hg.tape, hg.output, hg.size, fun k hk => hg.block k (by omega) (fun e => by cases e; omega)⟩ (by omega)
theorem KpB.of_own {W W' : World} {L : List (Nat × Obj)} {B0 : Nat} (h : Ow.Own W L W') (hL : ∀ p ∈ L, p.1 < B0) : KpB B0 W W' :=
  ⟨fun k _ _ _ hk hx => (h.old k (lt_of_heap hx) (fun p hp e => by have := hL p hp; omega)).trans hx, fun hG => h.good hG⟩
theorem setRow_app (ys : List Value) : ∀ (a b : List Value) (old : List Value), old.length = ys.length → setRow (a ++ old ++ b) a.length ys = a ++ ys ++ b := by
  induction ys with
  | nil => intro a b old h; simp at h; subst h; simp [setRow]
  | cons y ys ih =>
    intro a b old h
    match old, h with
    | o :: old, h =>
      rw [setRow]
      have e : (a ++ o :: old ++ b).set a.length y = (a ++ [y]) ++ old ++ b := by
        rw [List.append_assoc, List.set_append_right _ _ (Nat.le_refl _)]; simp
      rw [e]
      have := ih (a ++ [y]) b old (by simpa using h)
      rw [List.length_append, List.length_singleton] at this
      rw [this]; simp
/-- The element at a place holds something else. -/
theorem Own'.setAt {α : Type} {enc : α → List Value} {E sz B : Nat} {w : World} {g len cap : Nat} {xs zs : List α} {x y : α} (h : Own' enc E sz B w (.slice (some ⟨g, 0, none⟩) len cap) (xs ++ x :: zs)) (hs : ∀ x, (enc x).length = sz) (_hB : B ≤ w.heap.size)
    (hp : ∀ u ∈ enc y, plainV u = true) :
    ∃ w', (storeCells ⟨g, xs.length * sz, none⟩ (enc y) 0).run Tryz.prog w = .ok () w' ∧ Own' enc E sz B w' (.slice (some ⟨g, 0, none⟩) len cap) (xs ++ y :: zs) ∧ Below B w w' := by
  obtain ⟨h1, h2 | ⟨g', cap', cur, hv, hg0, hg, hcap, hmx, hsz, htk⟩⟩ := h
  · exact absurd h2.1 (by intro e; cases e)
  cases hv
  obtain ⟨c⟩ := cur
  simp only [List.size_toArray] at hsz
  have hmul : (xs ++ x :: zs).length * sz ≤ cap * sz := Nat.mul_le_mul_right _ hcap
  have hl0 : (xs ++ x :: zs).length = xs.length + 1 + zs.length := by simp; omega
  have hexp : (xs ++ x :: zs).length * sz = xs.length * sz + sz + zs.length * sz := by rw [hl0, Nat.add_mul, Nat.succ_mul]
  have hflat : (List.map enc (xs ++ x :: zs)).flatten = (xs.map enc).flatten ++ enc x ++ (zs.map enc).flatten := by simp
  rw [hflat] at htk
  have hcs : c = (xs.map enc).flatten ++ enc x ++ ((zs.map enc).flatten ++ c.drop ((xs ++ x :: zs).length * sz)) := by
    rw [← List.append_assoc, ← htk]; simp
  obtain ⟨w', r1, r2, r3, r4, r5, r6, r7⟩ := run_storeCells (P := Tryz.prog) g (xs.length * sz) E (enc y) 0 c w hg (by rw [hs]; omega) hp
  refine ⟨w', r1, ?_, ⟨r2, r3, r4, by omega, fun k hk => r7 k (by omega)⟩⟩
  refine ⟨flat_len hs _, .inr ⟨g, cap, _, by simp, hg0, by rw [Nat.add_zero] at r6; exact r6, by simpa using hcap, hmx, by rw [List.size_toArray, setRow_length, hsz], ?_⟩⟩
  have e2 : setRow c (xs.length * sz) (enc y) = (xs.map enc).flatten ++ enc y ++ ((zs.map enc).flatten ++ c.drop ((xs ++ x :: zs).length * sz)) := by
    have := setRow_app (enc y) (xs.map enc).flatten ((zs.map enc).flatten ++ c.drop ((xs ++ x :: zs).length * sz)) (enc x) (by rw [hs, hs])
    rw [flat_len hs, ← hcs] at this
    exact this
  have e3 : (xs ++ y :: zs).length = (xs ++ x :: zs).length := by simp
  rw [e3]
  show (setRow c (xs.length * sz) (enc y)).take _ = _
  have hk : ((xs.map enc).flatten ++ enc y ++ (zs.map enc).flatten).length = (xs ++ x :: zs).length * sz := by
    rw [List.length_append, List.length_append, flat_len hs, flat_len hs, hs, hexp]
  rw [e2, ← List.append_assoc, List.take_append_of_le_length (by rw [hk]; exact Nat.le_refl _), List.take_of_length_le (by rw [hk]; exact Nat.le_refl _)]
  simp
/-- make([]T, n). -/
theorem made_own {α : Type} {enc : α → List Value} {E sz : Nat} {w : World} {z : Value} {x0 : α} (hs : ∀ x, (enc x).length = sz) (h0 : 0 < sz) (hz : z.cells.toList = enc x0) (n : Nat) (hn : n ≤ maxLen) :
    Own' enc E sz w.heap.size (w.alloc (.cells (madeCells z.cells (n * sz)) E)) (.slice (some ⟨w.heap.size, 0, none⟩) n n) (List.replicate n x0) := by
  refine ⟨by rw [flat_len hs], .inr ⟨w.heap.size, n, madeCells z.cells (n * sz), by simp, Nat.le_refl _, by show (w.heap.push _)[_]? = _; simp, by simp, hn, size_madeCells _ _, ?_⟩⟩
  rw [List.length_replicate]
  refine List.ext_getElem? fun i => ?_
  rw [List.take_of_length_le (by rw [Array.length_toList, size_madeCells]; exact Nat.le_refl _)]
  by_cases hi : i < n * sz
  · have hd : i / sz < n := (Nat.div_lt_iff_lt_mul h0).2 hi
    have hm : i % sz < sz := Nat.mod_lt _ h0
    have h2 := flat_get hs (List.replicate n x0) (i / sz) x0 (by simp [hd]) (i % sz) ((enc x0)[i % sz]'(by rw [hs]; exact hm)) (List.getElem?_eq_getElem _)
    rw [show i / sz * sz + i % sz = i from by rw [Nat.mul_comm]; exact Nat.div_add_mod i sz] at h2
    rw [h2]
    have hzs : z.cells.size = sz := by rw [← Array.length_toList, hz, hs]
    have hget : z.cells[i % sz]? = some ((enc x0)[i % sz]'(by rw [hs]; exact hm)) := by rw [← Array.getElem?_toList, hz]; exact List.getElem?_eq_getElem _
    rw [Array.getElem?_toList]
    have hgb : z.cells[i % sz]! = (enc x0)[i % sz]'(by rw [hs]; exact hm) := by rw [Array.getElem!_eq_getD, Array.getD_eq_getD_getElem?, hget]; rfl
    simp [madeCells, hi, hzs, hgb]
  · rw [List.getElem?_eq_none (by rw [Array.length_toList, size_madeCells]; omega), List.getElem?_eq_none (by rw [flat_len hs, List.length_replicate]; omega)]
theorem Ow.Res.makeR {P : Program} {e : Env} {w : World} {o : Oper} {x y : Operand} {c : Int} {T E sz bytes : Nat} {inf : TypeInfo} {z : Value} (hT : P.underlying T = some (.slice E)) (hI : P.info? E = some inf) (hz : inf.zero = some z) (hs : inf.size = sz) (hby : inf.bytes = bytes)
    (ho : o.op = .makeSlice T x y) (hx : ev e x = some (.int .i64 c)) (hy : ev e y = some (.int .i64 c)) (h0 : 0 ≤ c) (h1 : (bytes : Int) * c ≤ 281474976710656) (h2 : c ≤ 9223372036854775807) :
    Ow.Res P e o w (.ok (.value (.slice (some ⟨w.heap.size, 0, none⟩) c.toNat c.toNat)) (w.alloc (.cells (madeCells z.cells (c.toNat * sz)) E))) := fun a h => by
  unfold execOp; rw [ho]; simp only [ev_eval h hx, ev_eval h hy]
  have := run_make (P := P) w T E inf z hT hI hz .i64 .i64 c c h0 (Int.le_refl _) (by rw [hby]; exact h1) h2
  rw [Sem.run_bind, this, hs]
  rfl
theorem eqIn_funcNil (w : World) (d : Nat) (f : Fn) (fs cs : Array Value) : (Op.equalIn (d + 1) 78 (.func f fs cs) .nilFunc).run Tryz.prog w = .ok false w := by simp [Op.equalIn, run_underlying Tryz.underlying78]
theorem Ow.Res.funcNil {e : Env} {w : World} {o : Oper} {x y : Operand} {f : Fn} {fs cs : Array Value} (ho : o.op = .binOp .eql 78 x y 78) (hx : ev e x = some (.func f fs cs)) (hy : ev e y = some .nilFunc) : Ow.Res Tryz.prog e o w (.ok (.value (.bool false)) w) :=
  .bin ho hx hy (by simp [eqGuard, go_sem]) (by
    have e1 : (Op.equal 78 (.func f fs cs) .nilFunc).run Tryz.prog w = _ := eqIn_funcNil w 9999 f fs cs
    simp only [binOp]; simp [e1])
/-- The lines with their numbers. -/
def linesL (l : Bs) : List (Int × Int × Int) := (List.range (nlC l + 1)).map fun (k : Nat) => ((k : Int), spI l k)
theorem linesL_get {l : Bs} {k : Nat} (h : k < nlC l + 1) : (linesL l)[k]? = some ((k : Int), spI l k) := by simp [linesL, h]
theorem linesL_len (l : Bs) : (linesL l).length = nlC l + 1 := by simp [linesL]
theorem linesL_take {l : Bs} {k : Nat} (h : k < nlC l + 1) : (linesL l).take (k + 1) = (linesL l).take k ++ [((k : Int), spI l k)] := by
  have h1 : k < (linesL l).length := by rw [linesL_len]; exact h
  rw [List.take_succ_eq_append_getElem h1]
  congr 2
  have := linesL_get h
  rw [List.getElem?_eq_getElem h1] at this
  exact Option.some.inj this
def encL (c : Int × Int × Int) : List Value := [.int .i64 c.1, .agg #[.int .i64 c.2.1, .int .i64 c.2.2]]

set_option maxRecDepth 20000 in
set_option maxHeartbeats 400000 in
theorem lines_lines (v : Value) (s : ByteArray) (w : World) (hG : Good w) (ht : TextAt w v s) :
    Calls Tryz.prog 46 #[v] w fun e w' => ∃ b : Nat, e = .returned (.func (.func 94) #[] #[.pointer (some ⟨b, 0, none⟩)]) ∧ w.heap.size ≤ b ∧ w'.heap[b]? = some (.cells [v].toArray 28 (0, 0)) ∧ Below w.heap.size w w' := by
  obtain ⟨tT, tx, rfl⟩ := ht.iface
  have hO0 := Own.start hG
  refine enter Tryz.func46 rfl rfl rfl 0 ?_
  refine SC.sr ?_
  refine SO.box hO0 rfl rfl rfl rfl rfl [_] rfl ?_
  intro b1 w1 hb1 hO1
  refine SO.as ?_
  refine SO.nn ?_
  refine SC.sr ?_
  refine SO.v (.makeFunc rfl rfl) ?_
  refine SO.as ?_
  refine SO.nn ?_
  refine SC.ret ?_
  refine SQ.out (.inl rfl) (res1 rfl rfl) ?_
  exact ⟨b1, rfl, hb1, hO1.at (i := 0) rfl, hO1.toBelow ⟨hb1, trivial⟩⟩

set_option maxRecDepth 20000 in
set_option maxHeartbeats 400000 in
theorem lines_stops (v : Value) (s : ByteArray) (bs n : Nat) (w : World) (hG0 : Good w) (hB0 : w.heap[bs]? = some (.cells [v].toArray 28 (0, 0))) (ht : TextAt w v s) :
    SeqStopsK (Fc none) n Tryz.prog 94 #[.pointer (some ⟨bs, 0, none⟩)] (fun c => (encL c).toArray) (KpB w.heap.size) (fun xs => xs = linesL (bl s)) (fun pre => ∃ r, pre ++ r = linesL (bl s)) (linesL (bl s)).length w := by
  intro l J Jx W hbW hJ hJx hY h0
  have hG : Good W := hG0.ext hbW
  have hB : W.heap[bs]? = _ := (hbW.block bs (lt_of_heap hB0)).trans hB0
  have htW := ht.below hbW
  have hsz := ht.size
  have hnl := nlC_le (bl s)
  rw [bl_length] at hnl
  obtain ⟨tT, tx, rfl⟩ := ht.iface
  have hO0 := Own.start hG
  refine enterIn (args := [.func (.yield l) #[] #[], .pointer (some ⟨bs, 0, none⟩)]) Tryz.func94 rfl rfl rfl ?_
  refine SC.sr ?_
  refine SO.v (.load rfl rfl ag28 (cell_of' (hO0.heapO trivial hB) rfl)) ?_
  refine SO.call rfl rfl rfl rfl (.callF rfl rfl en29) (lines_count (.iface tT tx) s _ (hO0.good hG) (htW.below (hO0.toBelow trivial))) ?_
  rintro _ w1 ⟨rfl, hb1⟩
  have hO1 := hO0.below hb1
  refine ⟨_, rfl, ?_⟩
  have hmk := made_own (E := 41) (w := w1) (z := .agg #[.int .i64 0, .int .i64 0]) (x0 := ((0 : Int), (0 : Int))) encS_len (by decide) rfl (nlC (bl s) + 1) (by simp only [maxLen]; omega)
  have hbm := (hO1.toBelow trivial).trans ((Below.refl _ _).alloc (hO1.toBelow trivial).size (.cells (madeCells (Value.agg #[.int .i64 0, .int .i64 0]).cells ((nlC (bl s) + 1) * 2)) 41))
  have hrow0 := hmk.wide (hO1.toBelow trivial).size
  obtain ⟨g, hg⟩ : ∃ g, g = (w1).heap.size := ⟨_, rfl⟩
  have hGm := hG.ext hbm
  have hOM := Own.start hGm
  rw [← hg] at hrow0
  refine SO.v (.makeR (w := w1) (z := .agg #[.int .i64 0, .int .i64 0]) Tryz.underlying111 inf41_ok inf41_z inf41_s inf41_b rfl rfl rfl (by omega) (by omega) (by omega)) ?_
  rw [← hg, Int.toNat_natCast]
  refine SO.as ?_
  refine SO.nn ?_
  refine SC.seq ?_
  refine SC.sr ?_
  refine SO.mv ?_
  refine SO.v (.lenA rfl rfl Tryz.underlying111) ?_
  refine SO.mv ?_
  refine SO.nn ?_
  refine SC.block ?_
  refine SC.loop (α := Nat) (fun x => [(0, .func (.yield l) #[] #[]), (1, .pointer (some ⟨bs, 0, none⟩)), (3, (.slice (some ⟨g, 0, none⟩) (nlC (bl s) + 1) (nlC (bl s) + 1))), (11, .int .i64 ((nlC (bl s) + 1 : Nat) : Int)), (12, .int .i64 (x : Int))]) (fun x v => Below W.heap.size W v ∧ Own' encS 41 2 W.heap.size v (.slice (some ⟨g, 0, none⟩) (nlC (bl s) + 1) (nlC (bl s) + 1)) (spansN (bl s) x ++ List.replicate (nlC (bl s) + 1 - x) (0, 0)) ∧ x ≤ nlC (bl s) + 1) (fun x => nlC (bl s) + 1 - x) 0 ?_ ?_ ?_
  · exact ⟨rfl, rfl, rfl, rfl, rfl, trivial⟩
  · exact ⟨hbm, by simpa [spansN] using hrow0, Nat.zero_le _⟩
  rintro i wL ⟨hbv, hrow, hil⟩
  have hGv : Good wL := hG.ext hbv
  have hO2 := Own.start hGv
  replace hB := (hbv.block bs (lt_of_heap hB)).trans hB
  refine SC.sr ?_
  refine SO.v (.lss rfl rfl rfl) ?_
  refine SO.nn ?_
  refine SC.seq ?_
  refine SC.dec rfl (fun c3 => ?_) (fun c3 => ?_)
  ·
   have hi2 : i < nlC (bl s) + 1 := by omega
   have hno : ¬ noLine (bl s) ((i : Nat) : Int) := by unfold noLine; omega
   have heF : spF (bl s) ((i : Nat) : Int) = bgn (bl s) ((i : Nat) : Int) := by unfold spF; rw [if_neg hno]
   have heT : spT (bl s) ((i : Nat) : Int) = lend (bl s) ((i : Nat) : Int) := by unfold spT; rw [if_neg hno]
   have hsplit : spansN (bl s) i ++ List.replicate (nlC (bl s) + 1 - i) ((0 : Int), (0 : Int)) = spansN (bl s) i ++ (0, 0) :: List.replicate (nlC (bl s) - i) (0, 0) := by rw [show nlC (bl s) + 1 - i = (nlC (bl s) - i) + 1 by omega, List.replicate_succ]
   refine SC.skip ?_
   refine SQ.then_normal ?_
   refine SC.seq ?_
   refine SC.block ?_
   refine SC.sr ?_
   refine SO.mv ?_
   refine SO.as ?_
   refine SO.nn ?_
   refine SC.region ?_
   refine SO.mv ?_
   refine SO.mv ?_
   refine SO.v (.load rfl rfl ag28 (cell_of' (hO2.heapO trivial hB) rfl)) ?_
   refine SO.mv ?_
   refine SO.call rfl rfl rfl rfl (.callF rfl rfl en28) ((by have h := lines_span (.iface tT tx) s ((i : Nat) : Int) _ (hO2.good hGv) (htW.below (hbv.trans ((hO2.toBelow trivial).mono hbv.size))); rw [heF, heT] at h; exact h)) ?_
   rintro _ w4 ⟨rfl, hb4⟩
   have hO4 := hO2.below hb4
   refine ⟨_, rfl, ?_⟩
   refine SO.mv ?_
   refine SO.v (.extract rfl rfl rfl) ?_
   refine SO.v (.extract rfl rfl rfl) ?_
   refine SO.v (.indexAddr rfl rfl rfl Tryz.underlying111 sz41 (by omega) (by omega)) ?_
   obtain ⟨wA, hsr, hrow2, hbA⟩ := Own'.setAt (xs := spansN (bl s) i) (x := (0, 0)) (y := spI (bl s) i) (zs := List.replicate (nlC (bl s) - i) (0, 0)) (by have h := hrow.below (hO4.toBelow trivial); rw [hsplit] at h; exact h) encS_len (Nat.le_trans hbv.size (hO4.toBelow trivial).size) (fun u hu => by simp only [encS, List.mem_cons, List.not_mem_nil, or_false] at hu; rcases hu with rfl | rfl <;> rfl)
   rw [show (spansN (bl s) i).length * 2 = 0 + ((i : Nat) : Int).toNat * 2 by rw [spansN_len, Int.toNat_natCast]; omega] at hsr
   have hbA2 := (hbv.trans ((hO4.toBelow trivial).mono hbv.size)).trans hbA
   have hGA : Good wA := hG.ext hbA2
   have hOA := Own.start hGA
   refine SO.eff rfl rfl rfl (w' := wA) (.storeN rfl rfl rfl sz41 hsr) ?_
   refine SO.nil ?_
   refine SQ.block_normal ?_
   refine SQ.then_normal ?_
   refine SC.region ?_
   refine SO.v (.add rfl rfl rfl (by omega)) ?_
   refine SO.mv ?_
   refine SO.nil ?_
   first | exact SQ.round (i + 1) (by omega) ⟨rfl, rfl, rfl, rfl, rfl, trivial⟩ ⟨hbA2, by rw [spansN_succ, List.append_assoc, List.singleton_append, show nlC (bl s) + 1 - (i + 1) = nlC (bl s) - i by omega]; exact hrow2, by omega⟩
  ·
   refine SC.exit ?_
   refine SQ.then_exit ?_
   refine SQ.then_exit ?_
   refine SQ.block_exit ?_
   refine SQ.then_normal ?_
   refine SC.sr ?_
   refine SO.mv ?_
   refine SO.v (.lenA rfl rfl Tryz.underlying111) ?_
   refine SO.mv ?_
   refine SO.nn ?_
   refine SC.block ?_
   have hx9 : i = nlC (bl s) + 1 := by omega
   subst hx9
   have hfin : Own' encS 41 2 W.heap.size wL (.slice (some ⟨g, 0, none⟩) (nlC (bl s) + 1) (nlC (bl s) + 1)) (spansL (bl s)) := by have h := hrow.below (hO2.toBelow trivial); rw [Nat.sub_self, List.replicate_zero, List.append_nil] at h; exact h
   have hbf := hbv.trans ((hO2.toBelow trivial).mono hbv.size)
   have hGf := hO2.good hGv
   obtain ⟨_, hr2 | ⟨g2, cap2, cur, hv2, hg2, hcur, _, _, _, htk⟩⟩ := hfin
   · exact absurd hr2.1 (by intro e; cases e)
   have eg : g = g2 := congrArg (fun v => match v with | Value.slice (some a) _ _ => a.block | _ => 0) hv2
   subst eg
   have hcell : ∀ k, k < nlC (bl s) + 1 → ∀ j u, (encS (spI (bl s) k))[j]? = some u → cur[0 + k * 2 + j]? = some u := fun k hk j u hu => by
     have h4 := flat_get encS_len (spansL (bl s)) k _ (spansL_get hk) j u hu
     rw [← htk] at h4
     rw [Nat.zero_add, ← Array.getElem?_toList]
     rw [List.getElem?_take] at h4
     split at h4
     · exact h4
     · cases h4
   refine SC.loop (α := Nat) (fun x => [(0, .func (.yield l) #[] #[]), (25, (.slice (some ⟨g, 0, none⟩) (nlC (bl s) + 1) (nlC (bl s) + 1))), (26, .int .i64 ((nlC (bl s) + 1 : Nat) : Int)), (27, .int .i64 (x : Int))]) (fun x v => J ((linesL (bl s)).take x) v ∧ Good v ∧ v.heap[g]? = some (.cells cur 41 (0, 0)) ∧ x ≤ nlC (bl s) + 1) (fun x => nlC (bl s) + 1 - x) 0 ?_ ?_ ?_
   · exact ⟨rfl, rfl, rfl, rfl, trivial⟩
   · exact ⟨abides_below hJ h0 hbf, hGf, hcur, Nat.zero_le _⟩
   rintro k wM ⟨hJp, hGk, hRv, hkl⟩
   have hO6 := Own.start hGk
   refine SC.sr ?_
   refine SO.v (.lss rfl rfl rfl) ?_
   refine SO.nn ?_
   refine SC.seq ?_
   refine SC.dec rfl (fun c7 => ?_) (fun c7 => ?_)
   ·
    have hk2 : k < nlC (bl s) + 1 := by omega
    have hck := hcell k hk2
    rw [← Int.toNat_natCast k] at hck
    have hcw := fun j u hu => cell_of (w := wM) (b := g) (c := cur) (i := 0 + ((k : Int).toNat) * 2 + j) hRv |>.trans (hck j u hu)
    refine SC.skip ?_
    refine SQ.then_normal ?_
    refine SC.seq ?_
    refine SC.block ?_
    refine SC.sr ?_
    refine SO.mv ?_
    refine SO.v (.indexAddr rfl rfl rfl Tryz.underlying111 sz41 (by omega) (by omega)) ?_
    refine SO.v (.loadN (cs := [_, _]) rfl rfl ag41 sz41 (fun j u hj => (hO6.cellO trivial (hcw j u hj)))) ?_
    refine SO.alloc hO6 rfl rfl rfl rfl zv41 [_, _] rfl ?_
    intro b8 w8 hb8 hO8
    refine SO.as ?_
    refine SO.store hO8 (i := 0) rfl rfl rfl rfl rfl rfl sz41 rfl rfl [(_, .cells [_, _].toArray _ _)] rfl ?_
    intro w9 hO9
    refine SO.nn ?_
    refine SC.sr ?_
    refine SO.mv ?_
    refine SO.mv ?_
    refine SO.v (.loadB [_, _] rfl rfl ag41 sz41 (hO9.at (i := 0) rfl) rfl rfl) ?_
    have hJn := abides_below hJ hJp (hO9.toBelow ⟨hb8, trivial⟩)
    have hGn := hO9.good hGk
    have hBn := hO9.heapO ⟨hb8, trivial⟩ hRv
    refine SO.yield rfl rfl rfl rfl rfl rfl (hY ((linesL (bl s)).take k) ((k : Int), spI (bl s) k) _ hJn (by rw [List.length_take, linesL_len]; omega)) ?_
    rintro _ w10 (⟨rfl, hJ2, hK2⟩ | ⟨rfl, hJ2⟩)
    ·
     refine ⟨_, rfl, ?_⟩
     have hG2 := hK2.2 hGn
     have hB2 := hK2.1 _ _ _ _ (Nat.le_trans hbW.size hg2) hBn
     have hO10 := Own.start hG2
     refine SO.v (.not rfl rfl) ?_
     refine SO.nn ?_
     refine SC.no rfl ?_
     refine SC.skip ?_
     refine SQ.block_normal ?_
     refine SQ.then_normal ?_
     refine SC.region ?_
     refine SO.v (.add rfl rfl rfl (by omega)) ?_
     refine SO.mv ?_
     refine SO.nil ?_
     first | exact SQ.round (k + 1) (by omega) ⟨rfl, rfl, rfl, rfl, trivial⟩ ⟨by rw [linesL_take hk2]; exact abides_below hJ hJ2 (hO10.toBelow trivial), hO10.good hG2, hO10.heapO trivial hB2, by omega⟩
    ·
     refine ⟨_, rfl, ?_⟩
     refine SO.v (.not rfl rfl) ?_
     refine SO.nn ?_
     refine SC.yes rfl ?_
     refine SC.ret ?_
     refine SQ.block_ret ?_
     refine SQ.then_ret ?_
     refine SQ.then_ret ?_
     refine SQ.block_ret ?_
     refine SQ.out (.inl rfl) (res0 rfl) ?_
     exact ⟨⟨_, rfl⟩, .inr ⟨_, ⟨_, by rw [← linesL_take hk2]; exact List.take_append_drop _ _⟩, hJ2⟩⟩
   ·
    have hall : (linesL (bl s)).take k = linesL (bl s) := List.take_of_length_le (by rw [linesL_len]; omega)
    refine SC.exit ?_
    refine SQ.then_exit ?_
    refine SQ.then_exit ?_
    refine SQ.block_exit ?_
    refine SQ.out (.inr rfl) (res0 rfl) ?_
    exact ⟨⟨_, rfl⟩, .inl ⟨_, hall, hJp⟩⟩

end Go.Proofs.YtclgplkkajfenaaGreatDoor
