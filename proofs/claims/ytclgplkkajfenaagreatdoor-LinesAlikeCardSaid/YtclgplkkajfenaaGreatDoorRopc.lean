/- rope.place, cutUp. -/
import Derived.Test.YtclgplkkajfenaaGreatDoorRope
namespace Go.Proofs.YtclgplkkajfenaaGreatDoor
open Go Go.RowKit Ow
theorem Ow.Res.sliceGL {P : Program} {e : Env} {w : World} {o : Oper} {x lo : Operand} {b of len cap : Nat} {k : IntKind} {a : Int} {T E : TypeId} (ho : o.op = .slice T x (some lo) none none) (hx : ev e x = some (.slice (some ⟨b, of, none⟩) len cap)) (hl : ev e lo = some (.int k a)) (hT : P.underlying T = some (.slice E)) (hs : ∀ w, (sizeOf E).run P w = .ok 1 w)
    (hb : 0 ≤ a ∧ a ≤ len) (hc : a.toNat < cap) : Ow.Res P e o w (.ok (.value (.slice (some ⟨b, of + a.toNat, none⟩) (len - a.toNat) (cap - a.toNat))) w) := fun q h => by
  have he : P.elem T = E := by simp [Program.elem, hT]
  unfold execOp; rw [ho]; simp only [ev_eval h hx, Option.map_some, ev_eval h hl, Option.map_none]
  rw [Sem.run_bind, run_sliceAt_slice w T _ _ _ _ (by rw [he]; exact hT), run_slice_l w T _ len cap (by rw [he]; exact hT) k a hb.1 hb.2, he, hs]
  simp only [Result.andThen, sliced, Sem.run_pure]
  rw [if_neg (by omega)]
  simp [Addr.add]
theorem Ow.Res.sliceGH {P : Program} {e : Env} {w : World} {o : Oper} {x hi : Operand} {b of len cap : Nat} {j : IntKind} {c : Int} {T E : TypeId} (ho : o.op = .slice T x none (some hi) none) (hx : ev e x = some (.slice (some ⟨b, of, none⟩) len cap)) (hh : ev e hi = some (.int j c)) (hT : P.underlying T = some (.slice E)) (hs : ∀ w, (sizeOf E).run P w = .ok 1 w)
    (hb : 0 ≤ c ∧ c ≤ cap) : Ow.Res P e o w (.ok (.value (.slice (some ⟨b, of, none⟩) c.toNat cap)) w) := fun q h => by
  have he : P.elem T = E := by simp [Program.elem, hT]
  unfold execOp; rw [ho]; simp only [ev_eval h hx, Option.map_some, ev_eval h hh, Option.map_none]
  rw [Sem.run_bind, run_sliceAt_slice w T _ _ _ _ (by rw [he]; exact hT), run_slice_h w T _ len cap (by rw [he]; exact hT) j c hb.1 hb.2, he, hs]
  simp only [Result.andThen, sliced, Sem.run_pure]
  simp [Addr.add]
noncomputable def inf9 : TypeInfo := (Tryz.prog.info? 9).getD default
theorem inf9_ok : Tryz.prog.info? 9 = some inf9 := by kernel_rfl
theorem inf9_z : inf9.zero = some (.string ⟨#[]⟩) := by kernel_rfl
theorem inf9_s : inf9.size = 1 := by kernel_rfl
theorem inf9_b : inf9.bytes = 16 := by kernel_rfl
theorem below_grows {w w' : World} (hb : Below w.heap.size w w') : w.grownBy w' none := ⟨hb.os, hb.tape, hb.output, hb.size, fun k hk _ => hb.block k hk⟩
theorem grows_below {w w' : World} {row : Option Nat} {B : Nat} (hg : w.grownBy w' row) (hr : ∀ k, row = some k → B ≤ k) (hB : B ≤ w.heap.size) : Below B w w' :=
  ⟨hg.os, hg.tape, hg.output, hg.size, fun k hk => hg.block k (by omega) (fun e => by have := hr k e.symm; omega)⟩
theorem row_below {w w' : World} {base e size : Nat} {v : Value} {n : Nat} {xs : List Value} (h : w.ownsRow base e size v n xs) (hb : Below w.heap.size w w') : w'.ownsRow base e size v n xs :=
  h.kept (below_grows hb) (by cases v.ownBlock <;> simp)
/-- The strings of a row. -/
def strsV (xs : List ByteArray) : List Value := xs.map Value.string
/-- One more string. -/
theorem append_one {w : World} {base : Nat} {v : Value} {xs : List ByteArray} {s : ByteArray} {b : Nat} (hown : w.ownsRow base 9 1 v xs.length (strsV xs)) (hb : w.heap[b]? = some (.cells [Value.string s].toArray 9 (0, 0))) (hl : xs.length ≤ 1099511627776) (hB : base ≤ w.heap.size) (ty : TypeId) :
    ∃ v' w', (Builtin.append_ #[234, 234] ty #[v, .slice (some ⟨b, 0, none⟩) 1 1]).run Tryz.prog w = .ok v' w' ∧ w'.ownsRow base 9 1 v' (xs ++ [s]).length (strsV (xs ++ [s])) ∧ Below base w w' := by
  obtain ⟨v', w', h1, h2, h3, _⟩ := run_append_own (P := Tryz.prog) w base 234 ty 9 inf9 (.string ⟨#[]⟩) 1 16 Tryz.underlying234 inf9_ok inf9_z inf9_s inf9_b rfl (by decide) v xs.length (strsV xs) hown ⟨b, 0, none⟩ 1 1 [.string s] rfl
    (fun j u hj => by
      have hj0 : j = 0 := by have := (List.getElem?_eq_some_iff.1 hj).1; simp at this; exact this
      subst hj0
      exact cell_of' hb hj) (fun u hu => by simp at hu; subst hu; rfl) (by simp only [maxLen]; omega) (by omega) hB
  refine ⟨v', w', h1, by simpa [strsV] using h2, grows_below h3 (fun k hk => (hown.lt k hk).1) hB⟩
/-- Where a text is cut. -/
def plc (l : Bs) : Int :=
  if 32 ≤ (cPrevI l (min ((l.length : Int) - 32) 64 + 1) : Int) then cPrevI l (min ((l.length : Int) - 32) 64 + 1) else if (cSnapI l 32 : Int) ≤ (l.length : Int) - 32 then cSnapI l 32 else -1
theorem cPrevI_lt {l : Bs} {i : Int} (h : 0 < i) (h2 : i ≤ l.length) : (cPrevI l i : Int) < i := by
  unfold cPrevI; rw [if_neg (by omega)]
  have := (cPrev_spec (l := l) i.toNat (by omega)).1
  omega
theorem cSnapI_ge {l : Bs} (h : 32 < l.length) : 32 ≤ cSnapI l 32 := by
  unfold cSnapI; rw [if_neg (by omega)]
  split
  · decide
  · have := (cNext_spec (l := l) (i := (32 : Int).toNat) (by simpa using h)).1
    simp at this; simp; omega
theorem plc_range {l : Bs} (h : 64 < l.length) : plc l < 0 ∨ (32 ≤ plc l ∧ plc l ≤ (l.length : Int) - 32) := by
  unfold plc
  have h1 := cPrevI_lt (l := l) (i := min ((l.length : Int) - 32) 64 + 1) (by omega) (by omega)
  have h2 := cSnapI_ge (l := l) (by omega)
  split
  · right; omega
  · split
    · right; omega
    · left; omega

set_option maxRecDepth 20000 in
set_option maxHeartbeats 400000 in
theorem place_any (m : ByteArray) (w : World) (hG : Good w) (hz : m.size ≤ 1099511627776) :
    Calls Tryz.prog 212 #[.string m] w fun e w' => e = .returned (.int .i64 (plc (bl m))) ∧ Below w.heap.size w w' := by
  have hO0 := Own.start hG
  refine enter Tryz.func212 rfl rfl rfl 0 ?_
  refine SC.seq ?_
  refine SC.region ?_
  refine SO.val rfl rfl rfl rfl (.assign rfl rfl) ?_
  refine SO.nil ?_
  refine SQ.then_normal ?_
  refine SC.seq ?_
  refine SC.region ?_
  refine SO.val rfl rfl rfl rfl (.move rfl rfl) ?_
  refine SO.val rfl rfl rfl rfl (.lenS rfl rfl Tryz.underlying9) ?_
  refine SO.val rfl rfl rfl rfl (.sub rfl rfl rfl (by omega)) ?_
  refine SO.val rfl rfl rfl rfl (.assign rfl rfl) ?_
  refine SO.nil ?_
  refine SQ.then_normal ?_
  refine SC.seq ?_
  refine SC.seq ?_
  refine SC.region ?_
  refine SO.val rfl rfl rfl rfl (.move rfl rfl) ?_
  refine SO.val rfl rfl rfl rfl (.move rfl rfl) ?_
  refine SO.val rfl rfl rfl rfl (.minI rfl rfl rfl) ?_
  refine SO.val rfl rfl rfl rfl (.add rfl rfl rfl (by omega)) ?_
  refine SO.call rfl rfl rfl rfl (.callF rfl rfl en222) (cprev_any _ _ _ (hO0.good hG) (by omega)) ?_
  rintro _ w1 ⟨rfl, hb1⟩
  have hO1 := hO0.below hb1
  refine ⟨_, rfl, ?_⟩
  refine SO.val rfl rfl rfl rfl (.assign rfl rfl) ?_
  refine SO.nil ?_
  refine SQ.then_normal ?_
  refine SC.seq ?_
  refine SC.region ?_
  refine SO.val rfl rfl rfl rfl (.move rfl rfl) ?_
  refine SO.val rfl rfl rfl rfl (.geq rfl rfl rfl) ?_
  refine SO.nil ?_
  refine SQ.then_normal ?_
  refine SC.dec rfl (fun c2 => ?_) (fun c2 => ?_)
  ·
    refine SC.seq ?_
    refine SC.region ?_
    refine SO.val rfl rfl rfl rfl (.move rfl rfl) ?_
    refine SO.val rfl rfl rfl rfl (.assign rfl rfl) ?_
    refine SO.nil ?_
    refine SQ.then_normal ?_
    refine SC.ret ?_
    refine SQ.then_ret ?_
    refine SQ.out (.inl rfl) (res1 rfl rfl) ?_
    refine ⟨?_, hO1.toBelow trivial⟩
    unfold plc
    rw [bl_length] at *
    first | (rw [if_pos (by omega)]; done) | (rw [if_neg (by omega), if_pos (by omega)]; done) | (rw [if_neg (by omega), if_neg (by omega)])
  ·
    refine SC.skip ?_
    refine SQ.then_normal ?_
    refine SC.seq ?_
    refine SC.seq ?_
    refine SC.region ?_
    refine SO.val rfl rfl rfl rfl (.move rfl rfl) ?_
    refine SO.call rfl rfl rfl rfl (.callF rfl rfl en65) (csnap_any _ _ _ (hO1.good hG) (by omega)) ?_
    rintro _ w4 ⟨rfl, hb4⟩
    have hO4 := hO1.below hb4
    refine ⟨_, rfl, ?_⟩
    refine SO.val rfl rfl rfl rfl (.assign rfl rfl) ?_
    refine SO.nil ?_
    refine SQ.then_normal ?_
    refine SC.seq ?_
    refine SC.region ?_
    refine SO.val rfl rfl rfl rfl (.move rfl rfl) ?_
    refine SO.val rfl rfl rfl rfl (.move rfl rfl) ?_
    refine SO.val rfl rfl rfl rfl (.leq rfl rfl rfl) ?_
    refine SO.nil ?_
    refine SQ.then_normal ?_
    refine SC.dec rfl (fun c5 => ?_) (fun c5 => ?_)
    ·
      refine SC.seq ?_
      refine SC.region ?_
      refine SO.val rfl rfl rfl rfl (.move rfl rfl) ?_
      refine SO.val rfl rfl rfl rfl (.assign rfl rfl) ?_
      refine SO.nil ?_
      refine SQ.then_normal ?_
      refine SC.ret ?_
      refine SQ.then_ret ?_
      refine SQ.out (.inl rfl) (res1 rfl rfl) ?_
      refine ⟨?_, hO4.toBelow trivial⟩
      unfold plc
      rw [bl_length] at *
      first | (rw [if_pos (by omega)]; done) | (rw [if_neg (by omega), if_pos (by omega)]; done) | (rw [if_neg (by omega), if_neg (by omega)])
    ·
      refine SC.skip ?_
      refine SQ.then_normal ?_
      refine SC.seq ?_
      refine SC.region ?_
      refine SO.val rfl rfl rfl rfl (.assign rfl rfl) ?_
      refine SO.nil ?_
      refine SQ.then_normal ?_
      refine SC.ret ?_
      refine SQ.out (.inl rfl) (res1 rfl rfl) ?_
      refine ⟨?_, hO4.toBelow trivial⟩
      unfold plc
      rw [bl_length] at *
      first | (rw [if_pos (by omega)]; done) | (rw [if_neg (by omega), if_pos (by omega)]; done) | (rw [if_neg (by omega), if_neg (by omega)])

theorem bs234_1_0_Ropc (x0 : ByteArray) : ∀ w, (Instr.buildSlice 234 1 [(0, .string x0)].toArray).run Tryz.prog w = .ok (.slice (some ⟨w.heap.size, 0, none⟩) 1 1) (w.alloc (.cells [.string x0].toArray 9)) := fun _ => by kernel_rfl
set_option maxRecDepth 20000 in
set_option maxHeartbeats 400000 in
theorem cutUp_any (m : ByteArray) (w : World) (hG : Good w) (hz : m.size ≤ 34359738368) :
    Calls Tryz.prog 198 #[.string m] w fun e w' => ∃ (v : Value) (xs : List ByteArray), e = .returned v ∧ w'.ownsRow w.heap.size 9 1 v xs.length (strsV xs) ∧ (xs.map bl).flatten = bl m ∧ xs ≠ [] ∧ (xs.length = 1 ∨ ∀ x ∈ xs, 32 ≤ x.size) ∧ xs.length ≤ m.size + 1 ∧ Below w.heap.size w w' := by
  have hO0 := Own.start hG
  refine enter Tryz.func198 rfl rfl rfl 0 ?_
  refine SC.seq ?_
  refine SC.region ?_
  refine SO.val rfl rfl rfl rfl (.assign rfl rfl) ?_
  refine SO.nil ?_
  refine SQ.then_normal ?_
  refine SC.seq ?_
  refine SC.region ?_
  refine SO.val rfl rfl rfl rfl (.assign rfl rfl) ?_
  refine SO.nil ?_
  refine SQ.then_normal ?_
  refine SC.seq ?_
  refine SC.block ?_
  refine SC.loop (α := Value × List ByteArray × ByteArray) (fun x => [(0, .string x.2.2), (3, x.1)]) (fun x v => Below w.heap.size w v ∧ v.ownsRow w.heap.size 9 1 x.1 x.2.1.length (strsV x.2.1) ∧ (x.2.1.map bl).flatten ++ bl x.2.2 = bl m ∧ (∀ y ∈ x.2.1, 32 ≤ y.size) ∧ (x.2.1 ≠ [] → 32 ≤ x.2.2.size) ∧ x.2.1.length + x.2.2.size ≤ m.size) (fun x => x.2.2.size) (.slice none 0 0, [], m) ?_ ?_ ?_
  · exact ⟨rfl, rfl, trivial⟩
  · exact ⟨hO0.toBelow trivial, World.ownsRow_nil _ _ _ _, by simp, by simp, by simp, by simp⟩
  rintro ⟨v, xs, r⟩ w1 ⟨hbW, hrow, hfl, h32, hr32, hlen⟩
  simp only at hrow hfl h32 hr32 hlen
  show SC _ _ _ _ _ _ _ [(0, .string r), (3, v)] _
  have hGv : Good w1 := hG.ext hbW
  have hO1 := Own.start hGv
  refine SC.seq ?_
  refine SC.seq ?_
  refine SC.region ?_
  refine SO.val rfl rfl rfl rfl (.move rfl rfl) ?_
  refine SO.val rfl rfl rfl rfl (.lenS rfl rfl Tryz.underlying9) ?_
  refine SO.val rfl rfl rfl rfl (.gtr rfl rfl rfl) ?_
  refine SO.nil ?_
  refine SQ.then_normal ?_
  refine SC.dec rfl (fun c2 => ?_) (fun c2 => ?_)
  ·
    have hplc := plc_range (l := bl r) (by rw [bl_length]; omega)
    rw [bl_length] at hplc
    refine SC.skip ?_
    refine SQ.then_normal ?_
    refine SC.block ?_
    refine SC.seq ?_
    refine SC.region ?_
    refine SO.val rfl rfl rfl rfl (.move rfl rfl) ?_
    refine SO.call rfl rfl rfl rfl (.callF rfl rfl en212) (place_any _ _ (hO1.good hGv) (by omega)) ?_
    rintro _ w3 ⟨rfl, hb3⟩
    have hO3 := hO1.below hb3
    refine ⟨_, rfl, ?_⟩
    refine SO.val rfl rfl rfl rfl (.assign rfl rfl) ?_
    refine SO.nil ?_
    refine SQ.then_normal ?_
    refine SC.seq ?_
    refine SC.seq ?_
    refine SC.region ?_
    refine SO.val rfl rfl rfl rfl (.move rfl rfl) ?_
    refine SO.val rfl rfl rfl rfl (.lss rfl rfl rfl) ?_
    refine SO.nil ?_
    refine SQ.then_normal ?_
    refine SC.dec rfl (fun c4 => ?_) (fun c4 => ?_)
    ·
      refine SC.exit ?_
      refine SQ.then_exit ?_
      refine SQ.block_pass rfl ?_
      refine SQ.then_exit ?_
      refine SQ.block_exit ?_
      refine SQ.then_normal ?_
      refine SC.seq ?_
      refine SC.region ?_
      refine SO.val rfl rfl rfl rfl (.move rfl rfl) ?_
      refine SO.val rfl rfl rfl rfl (.move rfl rfl) ?_
      refine SO.buildSlice hO3 rfl rfl rfl rfl rfl (bs234_1_0_Ropc _) ?_
      intro b5 w5 hb5 hO5
      obtain ⟨v2, wA, happ, hrow2, hbA⟩ := append_one (s := r) (row_below hrow (hO5.toBelow ⟨hb5, trivial⟩)) (hO5.at (i := 0) rfl) (by omega) (Nat.le_trans hbW.size (hO5.toBelow ⟨hb5, trivial⟩).size) 234
      have hbA2 := (hbW.trans ((hO5.toBelow ⟨hb5, trivial⟩).mono hbW.size)).trans hbA
      have hGA : Good wA := hG.ext hbA2
      have hOA := Own.start hGA
      refine SO.val rfl rfl rfl rfl (.builtin2 (v := v2) (w' := wA) rfl rfl rfl (fun cs => by simp [builtin, happ, Result.andThen])) ?_
      refine SO.val rfl rfl rfl rfl (.assign rfl rfl) ?_
      refine SO.nil ?_
      refine SQ.then_normal ?_
      refine SC.ret ?_
      refine SQ.out (.inl rfl) (res1 rfl rfl) ?_
      refine ⟨v2, xs ++ [r], rfl, hrow2, by simpa using hfl, by simp, ?_, by simp; omega, hbA2⟩
      by_cases hx : xs = []
      · subst hx; exact .inl rfl
      · refine .inr fun y hy => ?_
        rcases List.mem_append.1 hy with h | h
        · exact h32 y h
        · simp only [List.mem_singleton] at h; subst h; exact hr32 hx
    ·
      have hkr : 32 ≤ (plc (bl r)).toNat ∧ (plc (bl r)).toNat + 32 ≤ r.size := by omega
      have hnew1 : ((xs ++ [r.extract 0 (plc (bl r)).toNat]).map bl).flatten ++ bl (r.extract (plc (bl r)).toNat r.size) = bl m := by
        rw [List.map_append, List.flatten_append, List.append_assoc, ← hfl, bl_tail]
        simp only [List.map_cons, List.map_nil, List.flatten_cons, List.flatten_nil, List.append_nil]
        rw [bl_extract, List.drop_zero, List.take_append_drop]
      have hnew2 : ∀ y ∈ xs ++ [r.extract 0 (plc (bl r)).toNat], 32 ≤ y.size := fun y hy => by
        rcases List.mem_append.1 hy with h | h
        · exact h32 y h
        · simp only [List.mem_singleton] at h; subst h; simp only [ByteArray.size_extract]; omega
      refine SC.skip ?_
      refine SQ.then_normal ?_
      refine SC.seq ?_
      refine SC.region ?_
      refine SO.val rfl rfl rfl rfl (.move rfl rfl) ?_
      refine SO.val rfl rfl rfl rfl (.move rfl rfl) ?_
      refine SO.val rfl rfl rfl rfl (.move rfl rfl) ?_
      refine SO.val rfl rfl rfl rfl (.sliceH rfl rfl rfl Tryz.underlying9 (by omega)) ?_
      refine SO.buildSlice hO3 rfl rfl rfl rfl rfl (bs234_1_0_Ropc _) ?_
      intro b7 w7 hb7 hO7
      obtain ⟨v2, wA, happ, hrow2, hbA⟩ := append_one (s := r.extract 0 (plc (bl r)).toNat) (row_below hrow (hO7.toBelow ⟨hb7, trivial⟩)) (hO7.at (i := 0) rfl) (by omega) (Nat.le_trans hbW.size (hO7.toBelow ⟨hb7, trivial⟩).size) 234
      have hbA2 := (hbW.trans ((hO7.toBelow ⟨hb7, trivial⟩).mono hbW.size)).trans hbA
      have hGA : Good wA := hG.ext hbA2
      have hOA := Own.start hGA
      refine SO.val rfl rfl rfl rfl (.builtin2 (v := v2) (w' := wA) rfl rfl rfl (fun cs => by simp [builtin, happ, Result.andThen])) ?_
      refine SO.val rfl rfl rfl rfl (.assign rfl rfl) ?_
      refine SO.nil ?_
      refine SQ.then_normal ?_
      refine SC.region ?_
      refine SO.val rfl rfl rfl rfl (.move rfl rfl) ?_
      refine SO.val rfl rfl rfl rfl (.move rfl rfl) ?_
      refine SO.val rfl rfl rfl rfl (.sliceL rfl rfl rfl Tryz.underlying9 (by omega)) ?_
      refine SO.val rfl rfl rfl rfl (.assign rfl rfl) ?_
      refine SO.nil ?_
      refine SQ.block_normal ?_
      first | exact SQ.round (v2, xs ++ [r.extract 0 (plc (bl r)).toNat], r.extract (plc (bl r)).toNat r.size) (by simp only [ByteArray.size_extract]; omega) ⟨rfl, rfl, trivial⟩ ⟨hbA2, hrow2, hnew1, hnew2, fun _ => by simp only [ByteArray.size_extract]; omega, by simp only [ByteArray.size_extract, List.length_append, List.length_singleton]; omega⟩
  ·
    refine SC.exit ?_
    refine SQ.then_exit ?_
    refine SQ.then_exit ?_
    refine SQ.block_exit ?_
    refine SQ.then_normal ?_
    refine SC.seq ?_
    refine SC.region ?_
    refine SO.val rfl rfl rfl rfl (.move rfl rfl) ?_
    refine SO.val rfl rfl rfl rfl (.move rfl rfl) ?_
    refine SO.buildSlice hO1 rfl rfl rfl rfl rfl (bs234_1_0_Ropc _) ?_
    intro b8 w8 hb8 hO8
    obtain ⟨v2, wA, happ, hrow2, hbA⟩ := append_one (s := r) (row_below hrow (hO8.toBelow ⟨hb8, trivial⟩)) (hO8.at (i := 0) rfl) (by omega) (Nat.le_trans hbW.size (hO8.toBelow ⟨hb8, trivial⟩).size) 234
    have hbA2 := (hbW.trans ((hO8.toBelow ⟨hb8, trivial⟩).mono hbW.size)).trans hbA
    have hGA : Good wA := hG.ext hbA2
    have hOA := Own.start hGA
    refine SO.val rfl rfl rfl rfl (.builtin2 (v := v2) (w' := wA) rfl rfl rfl (fun cs => by simp [builtin, happ, Result.andThen])) ?_
    refine SO.val rfl rfl rfl rfl (.assign rfl rfl) ?_
    refine SO.nil ?_
    refine SQ.then_normal ?_
    refine SC.ret ?_
    refine SQ.out (.inl rfl) (res1 rfl rfl) ?_
    refine ⟨v2, xs ++ [r], rfl, hrow2, by simpa using hfl, by simp, ?_, by simp; omega, hbA2⟩
    by_cases hx : xs = []
    · subst hx; exact .inl rfl
    · refine .inr fun y hy => ?_
      rcases List.mem_append.1 hy with h | h
      · exact h32 y h
      · simp only [List.mem_singleton] at h; subst h; exact hr32 hx

end Go.Proofs.YtclgplkkajfenaaGreatDoor
