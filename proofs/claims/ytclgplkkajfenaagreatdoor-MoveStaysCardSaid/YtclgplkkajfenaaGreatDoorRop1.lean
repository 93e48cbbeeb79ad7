/- The rope: leaf, knot, cutUp, grown, balanced, join. -/
import Derived.Test.YtclgplkkajfenaaGreatDoorGaps
/- rope.leaf, knot. -/
namespace Go.Proofs.YtclgplkkajfenaaGreatDoor
open Go Go.RowKit Ow
/-! Ropes -/
inductive RT where
  | leaf (s : ByteArray)
  | knot (l r : RT)
def RT.ht : RT → Nat
  | .leaf _ => 0
  | .knot l r => max l.ht r.ht + 1
def RT.sm : RT → Smy
  | .leaf s => measS s
  | .knot l r => joinL zS [l.sm, r.sm]
def RT.txt : RT → Bs
  | .leaf s => bl s
  | .knot l r => l.txt ++ r.txt
def RT.leaves : RT → List ByteArray
  | .leaf s => [s]
  | .knot l r => l.leaves ++ r.leaves
theorem RT.leaves_pos : ∀ t : RT, 0 < t.leaves.length
  | .leaf _ => by simp [RT.leaves]
  | .knot l r => by have := l.leaves_pos; simp [RT.leaves]; omega
theorem RT.ht_lt : ∀ t : RT, t.ht < t.leaves.length
  | .leaf _ => by simp [RT.leaves, RT.ht]
  | .knot l r => by
    have h1 := l.ht_lt; have h2 := r.ht_lt
    have h3 := l.leaves_pos; have h4 := r.leaves_pos
    simp only [RT.leaves, RT.ht, List.length_append]; omega
theorem RT.sm_ok : ∀ t : RT, SOk t.sm
  | .leaf s => SOk.meas s
  | .knot l r => joinL_ok _ _ SOk.zero (fun p hp => by
    simp only [List.mem_cons, List.not_mem_nil, or_false] at hp
    rcases hp with rfl | rfl
    · exact l.sm_ok
    · exact r.sm_ok)
theorem RT.txt_leaves : ∀ t : RT, t.txt = (t.leaves.map bl).flatten
  | .leaf s => by simp [RT.txt, RT.leaves]
  | .knot l r => by simp [RT.txt, RT.leaves, l.txt_leaves, r.txt_leaves]
/-- Little enough for the machine's numbers. -/
def RT.Fit (t : RT) : Prop := t.leaves.length ≤ 1099511627776 ∧ t.txt.length ≤ 1099511627776
abbrev ndC (p q : Option Addr) (h : Nat) (m : Smy) (s : ByteArray) : List Value := [.pointer p, .pointer q, .int .i64 (h : Int), .int .i64 m.b, .int .i64 m.u, .int .i64 m.c, .int .i64 m.k, .int .i64 m.nl, .string m.h, .string m.t, .string s]
def ptr (b : Nat) : Option Addr := some ⟨b, 0, none⟩
def RT.At (w : World) : RT → Nat → Prop
  | .leaf s, b => w.heap[b]? = some (.cells (ndC none none 0 (measS s) s).toArray 228 (0, 0))
  | .knot l r, b => ∃ bl br, w.heap[b]? = some (.cells (ndC (some ⟨bl, 0, none⟩) (some ⟨br, 0, none⟩) (RT.knot l r).ht (RT.knot l r).sm ⟨#[]⟩).toArray 228 (0, 0)) ∧ l.At w bl ∧ r.At w br
theorem RT.At.below {w w' : World} : ∀ {t : RT} {b : Nat}, t.At w b → Below w.heap.size w w' → t.At w' b
  | .leaf _, b, h, hb => (hb.block b (lt_of_heap h)).trans h
  | .knot _ _, b, ⟨x, y, h, h1, h2⟩, hb => ⟨x, y, (hb.block b (lt_of_heap h)).trans h, h1.below hb, h2.below hb⟩
theorem RT.At.obj {w : World} : ∀ {t : RT} {b : Nat}, t.At w b → ∃ p q s, w.heap[b]? = some (.cells (ndC p q t.ht t.sm s).toArray 228 (0, 0))
  | .leaf s, _, h => ⟨none, none, s, h⟩
  | .knot _ _, _, ⟨_x, _y, h, _⟩ => ⟨_, _, _, h⟩

theorem bd228_4_3_Rope (x0 : ByteArray) (x1 : Int) (x2 : Int) (x3 : Int) (x4 : Int) (x5 : Int) (x6 : ByteArray) (x7 : ByteArray) : ∀ w, (Instr.build 228 [(4, .string x0), (3, .agg [.int .i64 x1, .int .i64 x2, .int .i64 x3, .int .i64 x4, .int .i64 x5, .string x6, .string x7].toArray)].toArray).run Tryz.prog w = .ok (.agg [.pointer none, .pointer none, .int .i64 0, .int .i64 x1, .int .i64 x2, .int .i64 x3, .int .i64 x4, .int .i64 x5, .string x6, .string x7, .string x0].toArray) w := fun _ => by kernel_rfl
set_option maxRecDepth 20000 in
set_option maxHeartbeats 400000 in
theorem leaf_any (s : ByteArray) (w : World) (hG : Good w) (hz : s.size ≤ 4000000000000000000) :
    Calls Tryz.prog 195 #[.string s] w fun e w' => ∃ b : Nat, e = .returned (.pointer (some ⟨b, 0, none⟩)) ∧ w.heap.size ≤ b ∧ (RT.leaf s).At w' b ∧ Below w.heap.size w w' := by
  have hO0 := Own.start hG
  refine enter Tryz.func195 rfl rfl rfl 0 ?_
  refine SC.sr ?_
  refine SO.as ?_
  refine SO.nn ?_
  refine SC.sr ?_
  refine SO.mv ?_
  refine SO.mv ?_
  refine SO.call rfl rfl rfl rfl (.callF rfl rfl en211) (measure_any _ _ (hO0.good hG) (by omega)) ?_
  rintro _ w1 ⟨rfl, hb1⟩
  have hO1 := hO0.below hb1
  refine ⟨_, rfl, ?_⟩
  refine SO.v (.build rfl rfl (bd228_4_3_Rope _ _ _ _ _ _ _ _)) ?_
  refine SO.box hO1 rfl rfl rfl rfl rfl [_, _, _, _, _, _, _, _, _, _, _] rfl ?_
  intro b2 w2 hb2 hO2
  refine SO.as ?_
  refine SO.nn ?_
  refine SC.ret ?_
  refine SQ.out (.inl rfl) (res1 rfl rfl) ?_
  exact ⟨_, rfl, by assumption, hO2.at (i := 0) rfl, hO2.toBelow ⟨hb2, trivial⟩⟩

theorem bd228_0_1_2_3_Rope (x0 : Option Addr) (x1 : Option Addr) (x2 : Int) (x3 : Int) (x4 : Int) (x5 : Int) (x6 : Int) (x7 : Int) (x8 : ByteArray) (x9 : ByteArray) : ∀ w, (Instr.build 228 [(0, .pointer x0), (1, .pointer x1), (2, .int .i64 x2), (3, .agg [.int .i64 x3, .int .i64 x4, .int .i64 x5, .int .i64 x6, .int .i64 x7, .string x8, .string x9].toArray)].toArray).run Tryz.prog w = .ok (.agg [.pointer x0, .pointer x1, .int .i64 x2, .int .i64 x3, .int .i64 x4, .int .i64 x5, .int .i64 x6, .int .i64 x7, .string x8, .string x9, .string ⟨#[]⟩].toArray) w := fun _ => by kernel_rfl
theorem bs246_2_0_1_Rope (x0 : Int) (x1 : Int) (x2 : Int) (x3 : Int) (x4 : Int) (x5 : ByteArray) (x6 : ByteArray) (x7 : Int) (x8 : Int) (x9 : Int) (x10 : Int) (x11 : Int) (x12 : ByteArray) (x13 : ByteArray) : ∀ w, (Instr.buildSlice 246 2 [(0, .agg [.int .i64 x0, .int .i64 x1, .int .i64 x2, .int .i64 x3, .int .i64 x4, .string x5, .string x6].toArray), (1, .agg [.int .i64 x7, .int .i64 x8, .int .i64 x9, .int .i64 x10, .int .i64 x11, .string x12, .string x13].toArray)].toArray).run Tryz.prog w = .ok (.slice (some ⟨w.heap.size, 0, none⟩) 2 2) (w.alloc (.cells [.int .i64 x0, .int .i64 x1, .int .i64 x2, .int .i64 x3, .int .i64 x4, .string x5, .string x6, .int .i64 x7, .int .i64 x8, .int .i64 x9, .int .i64 x10, .int .i64 x11, .string x12, .string x13].toArray 91)) := fun _ => by kernel_rfl
set_option maxRecDepth 20000 in
set_option maxHeartbeats 400000 in
theorem knot_any (l r : RT) (y1 y2 : Nat) (w : World) (hG : Good w) (hl : l.At w y1) (hr : r.At w y2) (h1 : l.ht ≤ 4611686018427387904) (h2 : r.ht ≤ 4611686018427387904) :
    Calls Tryz.prog 210 #[.pointer (some ⟨y1, 0, none⟩), .pointer (some ⟨y2, 0, none⟩)] w fun e w' => ∃ b : Nat, e = .returned (.pointer (some ⟨b, 0, none⟩)) ∧ w.heap.size ≤ b ∧ (RT.knot l r).At w' b ∧ Below w.heap.size w w' := by
  obtain ⟨p1, q1, s1, o1⟩ := hl.obj
  obtain ⟨p2, q2, s2, o2⟩ := hr.obj
  have hjr : rows [l.sm, r.sm] = smC l.sm ++ smC r.sm := by simp [rows]
  have hO0 := Own.start hG
  refine enter Tryz.func210 rfl rfl rfl 0 ?_
  refine SC.sr ?_
  refine SO.as ?_
  refine SO.nn ?_
  refine SC.seq ?_
  refine SC.drawO mixed hO0 (fun hO1 => ?_)
  refine SA.tm 0 rfl hO1 ?_
  refine SA.tm 1 rfl hO1 ?_
  refine SA.tm 2 rfl hO1 ?_
  refine SA.tk 3 rfl hO1 (fun v hv => .nilCheck rfl rfl) ?_
  refine SA.tk 4 rfl hO1 (fun v hv => .fieldAddr rfl rfl fa228_2) ?_
  refine SA.tk 5 rfl hO1 (fun v hv => .load rfl rfl ag3 (cell_of' (hv.heapO trivial o1) rfl)) ?_
  refine SA.tm 6 rfl hO1 ?_
  refine SA.tk 7 rfl hO1 (fun v hv => .nilCheck rfl rfl) ?_
  refine SA.tk 8 rfl hO1 (fun v hv => .fieldAddr rfl rfl fa228_2) ?_
  refine SA.tk 9 rfl hO1 (fun v hv => .load rfl rfl ag3 (cell_of' (hv.heapO trivial o2) rfl)) ?_
  refine SA.tk 10 rfl hO1 (fun v hv => .maxI rfl rfl rfl) ?_
  refine SA.tk 11 rfl hO1 (fun v hv => .add rfl rfl rfl (by omega)) ?_
  refine SA.tm 12 rfl hO1 ?_
  refine SA.tk 13 rfl hO1 (fun v hv => .nilCheck rfl rfl) ?_
  refine SA.tk 14 rfl hO1 (fun v hv => .fieldAddr rfl rfl fa228_3) ?_
  refine SA.tk 15 rfl hO1 (fun v hv => .loadB [_, _, _, _, _, _, _] rfl rfl ag91 sz91 (hv.heapO trivial o1) rfl rfl) ?_
  refine SA.tm 16 rfl hO1 ?_
  refine SA.tk 17 rfl hO1 (fun v hv => .nilCheck rfl rfl) ?_
  refine SA.tk 18 rfl hO1 (fun v hv => .fieldAddr rfl rfl fa228_3) ?_
  refine SA.tk 19 rfl hO1 (fun v hv => .loadB [_, _, _, _, _, _, _] rfl rfl ag91 sz91 (hv.heapO trivial o2) rfl rfl) ?_
  refine SA.one 20 (by kernel_rfl) ?_
  refine SB.buildSlice hO1 rfl rfl rfl rfl rfl rfl (bs246_2_0_1_Rope _ _ _ _ _ _ _ _ _ _ _ _ _ _) ?_
  intro b2 w2 hb2 hO2
  refine ⟨(hO2.tail hb2), ?_⟩
  refine SA.one 21 (by kernel_rfl) ?_
  refine SB.call rfl rfl rfl rfl (.callF rfl rfl en216) (join_any [l.sm, r.sm] _ _ (hO2.good hG) (by simp) (fun p hp => by simp only [List.mem_cons, List.not_mem_nil, or_false] at hp; rcases hp with rfl | rfl; exact l.sm_ok; exact r.sm_ok) (by rw [hjr]; exact hO2.at (i := 0) rfl)) ?_
  rintro _ w3 ⟨rfl, hb3⟩
  have hO3 := hO2.below hb3
  refine ⟨_, rfl, (hO3.tail hb2), ?_⟩
  refine SA.tk 22 rfl (hO3.tail hb2) (fun v hv => .build rfl rfl (bd228_0_1_2_3_Rope _ _ _ _ _ _ _ _ _ _)) ?_
  refine SA.one 23 (by kernel_rfl) ?_
  refine SB.box hO3 rfl rfl rfl rfl rfl rfl [_, _, _, _, _, _, _, _, _, _, _] rfl ?_
  intro b4 w4 hb4 hO4
  refine ⟨((hO4.tail hb4).tail hb2), ?_⟩
  refine SA.ta 24 rfl ((hO4.tail hb4).tail hb2) ?_
  refine SA.done (by kernel_rfl) ?_
  refine SQ.then_normal ?_
  refine SC.ret ?_
  refine SQ.out (.inl rfl) (res1 rfl rfl) ?_
  have ht : (max (l.ht : Int) (r.ht : Int) + 1) = (((RT.knot l r).ht : Nat) : Int) := by simp only [RT.ht]; omega
  rw [ht] at hO4
  exact ⟨_, rfl, by assumption, ⟨y1, y2, hO4.at (i := 0) rfl, hl.below (hO4.toBelow ⟨hb4, hb2, trivial⟩), hr.below (hO4.toBelow ⟨hb4, hb2, trivial⟩)⟩, hO4.toBelow ⟨hb4, hb2, trivial⟩⟩

end Go.Proofs.YtclgplkkajfenaaGreatDoor
/- rope.place, cutUp. -/
namespace Go.Proofs.YtclgplkkajfenaaGreatDoor
open Go Go.RowKit Ow
theorem Ow.Res.sliceGL {P : Program} {e : Env} {w : World} {o : Oper} {x lo : Operand} {b of len cap : Nat} {k : IntKind} {a : Int} {T E : TypeId} (ho : o.op = .slice T x (some lo) none none) (hx : ev e x = some (.slice (some ⟨b, of, none⟩) len cap)) (hl : ev e lo = some (.int k a)) (hT : P.underlying T = some (.slice E)) (hs : ∀ w, (sizeOf E).run P w = .ok 1 w)
    (hb : 0 ≤ a ∧ a ≤ len) (hc : a.toNat < cap) : Ow.Res P e o w (.ok (.value (.slice (some ⟨b, of + a.toNat, none⟩) (len - a.toNat) (cap - a.toNat))) w) := fun q h => by
  have he : P.elem T = E := by simp [Program.elem, hT]
  unfold execOp; rw [ho]; simp only [ev_eval h hx, Option.map_some, ev_eval h hl, Option.map_none]
  rw [Sem.run_bind, run_sliceAt_slice w T _ _ _ _ (by rw [he]; exact hT), run_slice_l w T _ len cap (by rw [he]; exact hT) k a hb.1 hb.2, he, hs]
  simp only [Result.andThen, sliced, Sem.run_pure]
  rw [if_neg (by omega)]
  simp [Addr.add]
theorem Ow.Res.sliceGH {P : Program} {e : Env} {w : World} {o : Oper} {x hi : Operand} {b of len cap : Nat} {j : IntKind} {c : Int} {T E : TypeId} (ho : o.op = .slice T x none (some hi) none) (hx : ev e x = some (.slice (some ⟨b, of, none⟩) len cap)) (hh : ev e hi = some (.int j c)) (hT : P.underlying T = some (.slice E)) (hs : ∀ w, (sizeOf E).run P w = .ok 1 w)
    (hb : 0 ≤ c ∧ c ≤ cap) : Ow.Res P e o w (.ok (.value (.slice (some ⟨b, of, none⟩) c.toNat cap)) w) := fun q h => by
  have he : P.elem T = E := by simp [Program.elem, hT]
  unfold execOp; rw [ho]; simp only [ev_eval h hx, Option.map_some, ev_eval h hh, Option.map_none]
  rw [Sem.run_bind, run_sliceAt_slice w T _ _ _ _ (by rw [he]; exact hT), run_slice_h w T _ len cap (by rw [he]; exact hT) j c hb.1 hb.2, he, hs]
  simp only [Result.andThen, sliced, Sem.run_pure]
  simp [Addr.add]
noncomputable def inf9 : TypeInfo := (Tryz.prog.info? 9).getD default
theorem inf9_ok : Tryz.prog.info? 9 = some inf9 := by kernel_rfl
theorem inf9_z : inf9.zero = some (.string ⟨#[]⟩) := by kernel_rfl
theorem inf9_s : inf9.size = 1 := by kernel_rfl
theorem inf9_b : inf9.bytes = 16 := by kernel_rfl
theorem below_grows {w w' : World} (hb : Below w.heap.size w w') : w.grownBy w' none := ⟨hb.os, hb.tape, hb.output, hb.size, fun k hk _ => hb.block k hk⟩
theorem grows_below {w w' : World} {row : Option Nat} {B : Nat} (hg : w.grownBy w' row) (hr : ∀ k, row = some k → B ≤ k) (hB : B ≤ w.heap.size) : Below B w w' :=
  ⟨hg.os, hg.tape, hg.output, hg.size, fun k hk => hg.block k (by omega) (fun e => by have := hr k e.symm; omega)⟩
theorem row_below {w w' : World} {base e size : Nat} {v : Value} {n : Nat} {xs : List Value} (h : w.ownsRow base e size v n xs) (hb : Below w.heap.size w w') : w'.ownsRow base e size v n xs :=
  h.kept (below_grows hb) (by cases v.ownBlock <;> simp)
/-- The strings of a row. -/
def strsV (xs : List ByteArray) : List Value := xs.map Value.string
/-- One more string. -/
theorem append_one {w : World} {base : Nat} {v : Value} {xs : List ByteArray} {s : ByteArray} {b : Nat} (hown : w.ownsRow base 9 1 v xs.length (strsV xs)) (hb : w.heap[b]? = some (.cells [Value.string s].toArray 9 (0, 0))) (hl : xs.length ≤ 1099511627776) (hB : base ≤ w.heap.size) (ty : TypeId) :
    ∃ v' w', (Builtin.append_ #[234, 234] ty #[v, .slice (some ⟨b, 0, none⟩) 1 1]).run Tryz.prog w = .ok v' w' ∧ w'.ownsRow base 9 1 v' (xs ++ [s]).length (strsV (xs ++ [s])) ∧ Below base w w' := by
  obtain ⟨v', w', h1, h2, h3, _⟩ := run_append_own (P := Tryz.prog) w base 234 ty 9 inf9 (.string ⟨#[]⟩) 1 16 Tryz.underlying234 inf9_ok inf9_z inf9_s inf9_b rfl (by decide) v xs.length (strsV xs) hown ⟨b, 0, none⟩ 1 1 [.string s] rfl
    (fun j u hj => by
      have hj0 : j = 0 := by have := (List.getElem?_eq_some_iff.1 hj).1; simp at this; exact this
      subst hj0
      exact cell_of' hb hj) (fun u hu => by simp at hu; subst hu; rfl) (by simp only [maxLen]; omega) (by omega) hB
  refine ⟨v', w', h1, by simpa [strsV] using h2, grows_below h3 (fun k hk => (hown.lt k hk).1) hB⟩
/-- Where a text is cut. -/
def plc (l : Bs) : Int :=
  if 32 ≤ (cPrevI l (min ((l.length : Int) - 32) 64 + 1) : Int) then cPrevI l (min ((l.length : Int) - 32) 64 + 1) else if (cSnapI l 32 : Int) ≤ (l.length : Int) - 32 then cSnapI l 32 else -1
theorem cPrevI_lt {l : Bs} {i : Int} (h : 0 < i) (h2 : i ≤ l.length) : (cPrevI l i : Int) < i := by
  unfold cPrevI; rw [if_neg (by omega)]
  have := (cPrev_spec (l := l) i.toNat (by omega)).1
  omega
theorem cSnapI_ge {l : Bs} (h : 32 < l.length) : 32 ≤ cSnapI l 32 := by
  unfold cSnapI; rw [if_neg (by omega)]
  split
  · decide
  · have := (cNext_spec (l := l) (i := (32 : Int).toNat) (by simpa using h)).1
    simp at this; simp; omega
theorem plc_range {l : Bs} (h : 64 < l.length) : plc l < 0 ∨ (32 ≤ plc l ∧ plc l ≤ (l.length : Int) - 32) := by
  unfold plc
  have h1 := cPrevI_lt (l := l) (i := min ((l.length : Int) - 32) 64 + 1) (by omega) (by omega)
  have h2 := cSnapI_ge (l := l) (by omega)
  split
  · right; omega
  · split
    · right; omega
    · left; omega

set_option maxRecDepth 20000 in
set_option maxHeartbeats 400000 in
theorem place_any (m : ByteArray) (w : World) (hG : Good w) (hz : m.size ≤ 1099511627776) :
    Calls Tryz.prog 212 #[.string m] w fun e w' => e = .returned (.int .i64 (plc (bl m))) ∧ Below w.heap.size w w' := by
  have hO0 := Own.start hG
  refine enter Tryz.func212 rfl rfl rfl 0 ?_
  refine SC.sr ?_
  refine SO.as ?_
  refine SO.nn ?_
  refine SC.sr ?_
  refine SO.mv ?_
  refine SO.v (.lenS rfl rfl Tryz.underlying9) ?_
  refine SO.v (.sub rfl rfl rfl (by omega)) ?_
  refine SO.as ?_
  refine SO.nn ?_
  refine SC.seq ?_
  refine SC.sr ?_
  refine SO.mv ?_
  refine SO.mv ?_
  refine SO.v (.minI rfl rfl rfl) ?_
  refine SO.v (.add rfl rfl rfl (by omega)) ?_
  refine SO.call rfl rfl rfl rfl (.callF rfl rfl en222) (cprev_any _ _ _ (hO0.good hG) (by omega)) ?_
  rintro _ w1 ⟨rfl, hb1⟩
  have hO1 := hO0.below hb1
  refine ⟨_, rfl, ?_⟩
  refine SO.as ?_
  refine SO.nn ?_
  refine SC.sr ?_
  refine SO.mv ?_
  refine SO.v (.geq rfl rfl rfl) ?_
  refine SO.nn ?_
  refine SC.dec rfl (fun c2 => ?_) (fun c2 => ?_)
  ·
   refine SC.sr ?_
   refine SO.mv ?_
   refine SO.as ?_
   refine SO.nn ?_
   refine SC.ret ?_
   refine SQ.then_ret ?_
   refine SQ.out (.inl rfl) (res1 rfl rfl) ?_
   refine ⟨?_, hO1.toBelow trivial⟩
   unfold plc
   rw [bl_length] at *
   rw [if_pos (by omega)]
  ·
   refine SC.skip ?_
   refine SQ.then_normal ?_
   refine SC.seq ?_
   refine SC.sr ?_
   refine SO.mv ?_
   refine SO.call rfl rfl rfl rfl (.callF rfl rfl en65) (csnap_any _ _ _ (hO1.good hG) (by omega)) ?_
   rintro _ w4 ⟨rfl, hb4⟩
   have hO4 := hO1.below hb4
   refine ⟨_, rfl, ?_⟩
   refine SO.as ?_
   refine SO.nn ?_
   refine SC.sr ?_
   refine SO.mv ?_
   refine SO.mv ?_
   refine SO.v (.leq rfl rfl rfl) ?_
   refine SO.nn ?_
   refine SC.dec rfl (fun c5 => ?_) (fun c5 => ?_)
   ·
    refine SC.sr ?_
    refine SO.mv ?_
    refine SO.as ?_
    refine SO.nn ?_
    refine SC.ret ?_
    refine SQ.then_ret ?_
    refine SQ.out (.inl rfl) (res1 rfl rfl) ?_
    refine ⟨?_, hO4.toBelow trivial⟩
    unfold plc
    rw [bl_length] at *
    rw [if_neg (by omega), if_pos (by omega)]
   ·
    refine SC.skip ?_
    refine SQ.then_normal ?_
    refine SC.sr ?_
    refine SO.as ?_
    refine SO.nn ?_
    refine SC.ret ?_
    refine SQ.out (.inl rfl) (res1 rfl rfl) ?_
    refine ⟨?_, hO4.toBelow trivial⟩
    unfold plc
    rw [bl_length] at *
    rw [if_neg (by omega), if_neg (by omega)]

theorem bs234_1_0_Ropc (x0 : ByteArray) : ∀ w, (Instr.buildSlice 234 1 [(0, .string x0)].toArray).run Tryz.prog w = .ok (.slice (some ⟨w.heap.size, 0, none⟩) 1 1) (w.alloc (.cells [.string x0].toArray 9)) := fun _ => by kernel_rfl
set_option maxRecDepth 20000 in
set_option maxHeartbeats 400000 in
theorem cutUp_any (m : ByteArray) (w : World) (hG : Good w) (hz : m.size ≤ 34359738368) :
    Calls Tryz.prog 198 #[.string m] w fun e w' => ∃ (v : Value) (xs : List ByteArray), e = .returned v ∧ w'.ownsRow w.heap.size 9 1 v xs.length (strsV xs) ∧ (xs.map bl).flatten = bl m ∧ xs ≠ [] ∧ (xs.length = 1 ∨ ∀ x ∈ xs, 32 ≤ x.size) ∧ xs.length ≤ m.size + 1 ∧ Below w.heap.size w w' := by
  have hO0 := Own.start hG
  refine enter Tryz.func198 rfl rfl rfl 0 ?_
  refine SC.sr ?_
  refine SO.as ?_
  refine SO.nn ?_
  refine SC.sr ?_
  refine SO.as ?_
  refine SO.nn ?_
  refine SC.seq ?_
  refine SC.block ?_
  refine SC.loop (α := Value × List ByteArray × ByteArray) (fun x => [(0, .string x.2.2), (3, x.1)]) (fun x v => Below w.heap.size w v ∧ v.ownsRow w.heap.size 9 1 x.1 x.2.1.length (strsV x.2.1) ∧ (x.2.1.map bl).flatten ++ bl x.2.2 = bl m ∧ (∀ y ∈ x.2.1, 32 ≤ y.size) ∧ (x.2.1 ≠ [] → 32 ≤ x.2.2.size) ∧ x.2.1.length + x.2.2.size ≤ m.size) (fun x => x.2.2.size) (.slice none 0 0, [], m) ?_ ?_ ?_
  · exact ⟨rfl, rfl, trivial⟩
  · exact ⟨hO0.toBelow trivial, World.ownsRow_nil _ _ _ _, by simp, by simp, by simp, by simp⟩
  rintro ⟨v, xs, r⟩ w1 ⟨hbW, hrow, hfl, h32, hr32, hlen⟩
  simp only at hrow hfl h32 hr32 hlen
  show SC _ _ _ _ _ _ _ [(0, .string r), (3, v)] _
  have hGv : Good w1 := hG.ext hbW
  have hO1 := Own.start hGv
  refine SC.seq ?_
  refine SC.sr ?_
  refine SO.mv ?_
  refine SO.v (.lenS rfl rfl Tryz.underlying9) ?_
  refine SO.v (.gtr rfl rfl rfl) ?_
  refine SO.nn ?_
  refine SC.dec rfl (fun c2 => ?_) (fun c2 => ?_)
  ·
   have hplc := plc_range (l := bl r) (by rw [bl_length]; omega)
   rw [bl_length] at hplc
   refine SC.skip ?_
   refine SQ.then_normal ?_
   refine SC.block ?_
   refine SC.sr ?_
   refine SO.mv ?_
   refine SO.call rfl rfl rfl rfl (.callF rfl rfl en212) (place_any _ _ (hO1.good hGv) (by omega)) ?_
   rintro _ w3 ⟨rfl, hb3⟩
   have hO3 := hO1.below hb3
   refine ⟨_, rfl, ?_⟩
   refine SO.as ?_
   refine SO.nn ?_
   refine SC.seq ?_
   refine SC.sr ?_
   refine SO.mv ?_
   refine SO.v (.lss rfl rfl rfl) ?_
   refine SO.nn ?_
   refine SC.dec rfl (fun c4 => ?_) (fun c4 => ?_)
   ·
    refine SC.exit ?_
    refine SQ.then_exit ?_
    refine SQ.block_pass rfl ?_
    refine SQ.then_exit ?_
    refine SQ.block_exit ?_
    refine SQ.then_normal ?_
    refine SC.sr ?_
    refine SO.mv ?_
    refine SO.mv ?_
    refine SO.buildSlice hO3 rfl rfl rfl rfl rfl (bs234_1_0_Ropc _) ?_
    intro b5 w5 hb5 hO5
    obtain ⟨v2, wA, happ, hrow2, hbA⟩ := append_one (s := r) (row_below hrow (hO5.toBelow ⟨hb5, trivial⟩)) (hO5.at (i := 0) rfl) (by omega) (Nat.le_trans hbW.size (hO5.toBelow ⟨hb5, trivial⟩).size) 234
    have hbA2 := (hbW.trans ((hO5.toBelow ⟨hb5, trivial⟩).mono hbW.size)).trans hbA
    have hGA : Good wA := hG.ext hbA2
    have hOA := Own.start hGA
    refine SO.v (.builtin2 (v := v2) (w' := wA) rfl rfl rfl (fun cs => by simp [builtin, happ, Result.andThen])) ?_
    refine SO.as ?_
    refine SO.nn ?_
    refine SC.ret ?_
    refine SQ.out (.inl rfl) (res1 rfl rfl) ?_
    refine ⟨v2, xs ++ [r], rfl, hrow2, by simpa using hfl, by simp, ?_, by simp; omega, hbA2⟩
    by_cases hx : xs = []
    · subst hx; exact .inl rfl
    · refine .inr fun y hy => ?_
      rcases List.mem_append.1 hy with h | h
      · exact h32 y h
      · simp only [List.mem_singleton] at h; subst h; exact hr32 hx
   ·
    have hkr : 32 ≤ (plc (bl r)).toNat ∧ (plc (bl r)).toNat + 32 ≤ r.size := by omega
    have hnew1 : ((xs ++ [r.extract 0 (plc (bl r)).toNat]).map bl).flatten ++ bl (r.extract (plc (bl r)).toNat r.size) = bl m := by
      rw [List.map_append, List.flatten_append, List.append_assoc, ← hfl, bl_tail]
      simp only [List.map_cons, List.map_nil, List.flatten_cons, List.flatten_nil, List.append_nil]
      rw [bl_extract, List.drop_zero, List.take_append_drop]
    have hnew2 : ∀ y ∈ xs ++ [r.extract 0 (plc (bl r)).toNat], 32 ≤ y.size := fun y hy => by
      rcases List.mem_append.1 hy with h | h
      · exact h32 y h
      · simp only [List.mem_singleton] at h; subst h; simp only [ByteArray.size_extract]; omega
    refine SC.skip ?_
    refine SQ.then_normal ?_
    refine SC.sr ?_
    refine SO.mv ?_
    refine SO.mv ?_
    refine SO.mv ?_
    refine SO.v (.sliceH rfl rfl rfl Tryz.underlying9 (by omega)) ?_
    refine SO.buildSlice hO3 rfl rfl rfl rfl rfl (bs234_1_0_Ropc _) ?_
    intro b7 w7 hb7 hO7
    obtain ⟨v2, wA, happ, hrow2, hbA⟩ := append_one (s := r.extract 0 (plc (bl r)).toNat) (row_below hrow (hO7.toBelow ⟨hb7, trivial⟩)) (hO7.at (i := 0) rfl) (by omega) (Nat.le_trans hbW.size (hO7.toBelow ⟨hb7, trivial⟩).size) 234
    have hbA2 := (hbW.trans ((hO7.toBelow ⟨hb7, trivial⟩).mono hbW.size)).trans hbA
    have hGA : Good wA := hG.ext hbA2
    have hOA := Own.start hGA
    refine SO.v (.builtin2 (v := v2) (w' := wA) rfl rfl rfl (fun cs => by simp [builtin, happ, Result.andThen])) ?_
    refine SO.as ?_
    refine SO.nn ?_
    refine SC.region ?_
    refine SO.mv ?_
    refine SO.mv ?_
    refine SO.v (.sliceL rfl rfl rfl Tryz.underlying9 (by omega)) ?_
    refine SO.as ?_
    refine SO.nil ?_
    refine SQ.block_normal ?_
    first | exact SQ.round (v2, xs ++ [r.extract 0 (plc (bl r)).toNat], r.extract (plc (bl r)).toNat r.size) (by simp only [ByteArray.size_extract]; omega) ⟨rfl, rfl, trivial⟩ ⟨hbA2, hrow2, hnew1, hnew2, fun _ => by simp only [ByteArray.size_extract]; omega, by simp only [ByteArray.size_extract, List.length_append, List.length_singleton]; omega⟩
  ·
   refine SC.exit ?_
   refine SQ.then_exit ?_
   refine SQ.then_exit ?_
   refine SQ.block_exit ?_
   refine SQ.then_normal ?_
   refine SC.sr ?_
   refine SO.mv ?_
   refine SO.mv ?_
   refine SO.buildSlice hO1 rfl rfl rfl rfl rfl (bs234_1_0_Ropc _) ?_
   intro b8 w8 hb8 hO8
   obtain ⟨v2, wA, happ, hrow2, hbA⟩ := append_one (s := r) (row_below hrow (hO8.toBelow ⟨hb8, trivial⟩)) (hO8.at (i := 0) rfl) (by omega) (Nat.le_trans hbW.size (hO8.toBelow ⟨hb8, trivial⟩).size) 234
   have hbA2 := (hbW.trans ((hO8.toBelow ⟨hb8, trivial⟩).mono hbW.size)).trans hbA
   have hGA : Good wA := hG.ext hbA2
   have hOA := Own.start hGA
   refine SO.v (.builtin2 (v := v2) (w' := wA) rfl rfl rfl (fun cs => by simp [builtin, happ, Result.andThen])) ?_
   refine SO.as ?_
   refine SO.nn ?_
   refine SC.ret ?_
   refine SQ.out (.inl rfl) (res1 rfl rfl) ?_
   refine ⟨v2, xs ++ [r], rfl, hrow2, by simpa using hfl, by simp, ?_, by simp; omega, hbA2⟩
   by_cases hx : xs = []
   · subst hx; exact .inl rfl
   · refine .inr fun y hy => ?_
     rcases List.mem_append.1 hy with h | h
     · exact h32 y h
     · simp only [List.mem_singleton] at h; subst h; exact hr32 hx

end Go.Proofs.YtclgplkkajfenaaGreatDoor
/- rope.grown. -/
namespace Go.Proofs.YtclgplkkajfenaaGreatDoor
open Go Go.RowKit Ow
theorem leaves_ht {t : RT} {xs : List ByteArray} (h : t.leaves = xs) (hb : xs.length ≤ 1099511627776) : t.ht ≤ 4611686018427387904 := by
  have := t.ht_lt; rw [h] at this; omega

theorem calls_args {f : FuncId} {a a' : Array Value} {w : World} {R : Ending → World → Prop} (h : a = a') (hc : Calls Tryz.prog f a' w R) : Calls Tryz.prog f a w R := h ▸ hc

set_option maxRecDepth 20000 in
set_option maxHeartbeats 400000 in
theorem grown_step (xs : List ByteArray) (g of cap : Nat) (w : World) (hG : Good w) (hl : 1 ≤ xs.length) (hc : xs.length ≤ cap) (hm : cap ≤ 9223372036854775807) (hb : xs.length ≤ 1099511627776) (hz : ∀ x ∈ xs, x.size ≤ 4000000000000000000) (hx : ∀ i x, xs[i]? = some x → w.cell? ⟨g, of + i, none⟩ = some (.string x))
    (ih : ∀ (xs' : List ByteArray) (g of cap : Nat) (w : World), xs'.length < xs.length → Good w → 1 ≤ xs'.length → xs'.length ≤ cap → cap ≤ 9223372036854775807 → xs'.length ≤ 1099511627776 → (∀ x ∈ xs', x.size ≤ 4000000000000000000) → (∀ i x, xs'[i]? = some x → w.cell? ⟨g, of + i, none⟩ = some (.string x)) →
      Calls Tryz.prog 197 #[.slice (some ⟨g, of, none⟩) xs'.length cap] w fun e w' => ∃ (b : Nat) (t : RT), e = .returned (.pointer (some ⟨b, 0, none⟩)) ∧ t.At w' b ∧ t.leaves = xs' ∧ Below w.heap.size w w') :
    Calls Tryz.prog 197 #[.slice (some ⟨g, of, none⟩) xs.length cap] w fun e w' => ∃ (b : Nat) (t : RT), e = .returned (.pointer (some ⟨b, 0, none⟩)) ∧ t.At w' b ∧ t.leaves = xs ∧ Below w.heap.size w w' := by
  have hO0 := Own.start hG
  refine enter Tryz.func197 rfl rfl rfl 0 ?_
  refine SC.sr ?_
  refine SO.as ?_
  refine SO.nn ?_
  refine SC.seq ?_
  refine SC.sr ?_
  refine SO.mv ?_
  refine SO.v (.lenA rfl rfl Tryz.underlying234) ?_
  refine SO.v (.eql rfl rfl rfl) ?_
  refine SO.nn ?_
  refine SC.dec rfl (fun c1 => ?_) (fun c1 => ?_)
  ·
   obtain ⟨x, rfl⟩ : ∃ x, xs = [x] := List.length_eq_one_iff.1 (by omega)
   have hx0 := hx 0 x rfl
   have hzx := hz x (by simp)
   refine SC.sr ?_
   refine SO.mv ?_
   refine SO.v (.indexAddr rfl rfl rfl Tryz.underlying234 sz9 (by omega) (by simp)) ?_
   refine SO.v (.load rfl rfl ag9 (hO0.cellO trivial hx0)) ?_
   refine SO.call rfl rfl rfl rfl (.callF rfl rfl en195) (leaf_any _ _ (hO0.good hG) (by omega)) ?_
   rintro _ w2 ⟨bf2, rfl, hbf2, hnd2, hb2⟩
   have hO2 := hO0.below hb2
   refine ⟨_, rfl, ?_⟩
   refine SO.as ?_
   refine SO.nn ?_
   refine SC.ret ?_
   refine SQ.then_ret ?_
   refine SQ.out (.inl rfl) (res1 rfl rfl) ?_
   exact ⟨_, .leaf x, rfl, by assumption, rfl, hO2.toBelow trivial⟩
  ·
   obtain ⟨hf, hhf⟩ : ∃ hf : Nat, (xs.length : Int) / 2 = hf := ⟨xs.length / 2, by omega⟩
   have hfr : 1 ≤ hf ∧ hf < xs.length := by omega
   have hl1 : (xs.take hf).length = hf := by simp; omega
   have hl2 : (xs.drop hf).length = xs.length - hf := by simp
   refine SC.skip ?_
   refine SQ.then_normal ?_
   refine SC.sr ?_
   refine SO.mv ?_
   refine SO.v (.lenA rfl rfl Tryz.underlying234) ?_
   refine SO.v (.quo rfl rfl rfl (by omega) (by omega)) ?_
   refine SO.as ?_
   refine SO.nn ?_
   refine SC.seq ?_
   refine SC.drawO mixed hO0 (fun hO4 => ?_)
   refine SA.tm 0 rfl hO4 ?_
   refine SA.tm 1 rfl hO4 ?_
   refine SA.tk 2 rfl hO4 (fun v hv => .sliceGH (c := (hf : Int)) rfl rfl (by rw [← hhf]; rfl) Tryz.underlying234 sz9 (by omega)) ?_
   refine SA.tm 4 rfl hO4 ?_
   refine SA.tm 5 rfl hO4 ?_
   refine SA.tk 6 rfl hO4 (fun v hv => .sliceGL (a := (hf : Int)) rfl rfl (by rw [← hhf]; rfl) Tryz.underlying234 sz9 (by omega) (by omega)) ?_
   refine SA.one 3 (by kernel_rfl) ?_
   refine SB.call rfl rfl rfl rfl (.callF rfl rfl en197) (calls_args (by rw [Int.toNat_natCast, hl1]) (ih (xs.take hf) g of cap _ (by omega) (hO4.good hG) (by omega) (by omega) hm (by omega) (fun x hx' => hz x (List.mem_of_mem_take hx')) (fun i x hi => hO4.cellO trivial (hx i x (by rw [List.getElem?_take] at hi; split at hi; exact hi; cases hi))))) ?_
   rintro _ w5 ⟨ba, ta, rfl, hta, hla, hb5⟩
   have hO5 := hO4.below hb5
   refine ⟨_, rfl, hO5, ?_⟩
   refine SA.one 7 (by kernel_rfl) ?_
   refine SB.call rfl rfl rfl rfl (.callF rfl rfl en197) (calls_args (by rw [Int.toNat_natCast, hl2]) (ih (xs.drop hf) g (of + hf) (cap - hf) _ (by omega) (hO5.good hG) (by omega) (by omega) (by omega) (by omega) (fun x hx' => hz x (List.mem_of_mem_drop hx')) (fun i x hi => by rw [Nat.add_assoc]; exact hO5.cellO trivial (hx (hf + i) x (by rw [List.getElem?_drop] at hi; exact hi))))) ?_
   rintro _ w6 ⟨bb, tb, rfl, htb, hlb, hb6⟩
   have hO6 := hO5.below hb6
   refine ⟨_, rfl, hO6, ?_⟩
   have hta2 := hta.below hb6
   refine SA.one 8 (by kernel_rfl) ?_
   refine SB.call rfl rfl rfl rfl (.callF rfl rfl en210) (knot_any ta tb _ _ _ (hO6.good hG) hta2 htb (leaves_ht hla (by omega)) (leaves_ht hlb (by omega))) ?_
   rintro _ w7 ⟨bk, rfl, hbk, hnk, hb7⟩
   have hO7 := hO6.below hb7
   refine ⟨_, rfl, hO7, ?_⟩
   refine SA.ta 9 rfl hO7 ?_
   refine SA.done (by kernel_rfl) ?_
   refine SQ.then_normal ?_
   refine SC.ret ?_
   refine SQ.out (.inl rfl) (res1 rfl rfl) ?_
   exact ⟨bk, .knot ta tb, rfl, hnk, by simp only [RT.leaves]; rw [hla, hlb, List.take_append_drop], hO7.toBelow trivial⟩

theorem grown_all : ∀ (n : Nat) (xs : List ByteArray) (g of cap : Nat) (w : World), xs.length ≤ n → Good w → 1 ≤ xs.length → xs.length ≤ cap → cap ≤ 9223372036854775807 → xs.length ≤ 1099511627776 → (∀ x ∈ xs, x.size ≤ 4000000000000000000) → (∀ i x, xs[i]? = some x → w.cell? ⟨g, of + i, none⟩ = some (.string x)) →
      Calls Tryz.prog 197 #[.slice (some ⟨g, of, none⟩) xs.length cap] w fun e w' => ∃ (b : Nat) (t : RT), e = .returned (.pointer (some ⟨b, 0, none⟩)) ∧ t.At w' b ∧ t.leaves = xs ∧ Below w.heap.size w w'
  | 0, xs, _, _, _, _, h, _, h1, _, _, _, _, _ => by omega
  | n + 1, xs, g, of, cap, w, h, hG, h1, h2, h3, h4, h5, h6 => grown_step xs g of cap w hG h1 h2 h3 h4 h5 h6 fun xs' g' of' cap' w' hlt => grown_all n xs' g' of' cap' w' (by omega)

end Go.Proofs.YtclgplkkajfenaaGreatDoor
/- rope.balanced. -/
namespace Go.Proofs.YtclgplkkajfenaaGreatDoor
open Go Go.RowKit Ow
/-- A tree, or none. -/
def OAt (w : World) : Option RT → Option Addr → Prop
  | none, p => p = none
  | some t, p => ∃ b, p = some ⟨b, 0, none⟩ ∧ t.At w b
def oL : Option RT → List ByteArray
  | none => []
  | some t => t.leaves
theorem OAt.below {w w' : World} : ∀ {t : Option RT} {p : Option Addr}, OAt w t p → Below w.heap.size w w' → OAt w' t p
  | none, _, h, _ => h
  | some _, _, ⟨b, e, h⟩, hb => ⟨b, e, h.below hb⟩
theorem ht_le {t : RT} (h : t.leaves.length ≤ 1099511627776) : t.ht ≤ 1099511627776 := by have := t.ht_lt; omega
theorem of_high {t : RT} (h : 0 < t.ht) : ∃ l r, t = .knot l r := by
  cases t with
  | leaf s => simp [RT.ht] at h
  | knot l r => exact ⟨l, r, rfl⟩

set_option maxRecDepth 20000 in
set_option maxHeartbeats 400000 in
theorem balanced_any (l r : RT) (y1 y2 : Nat) (w : World) (hG : Good w) (hl : l.At w y1) (hr : r.At w y2) (h1 : l.leaves.length + r.leaves.length ≤ 1099511627776) :
    Calls Tryz.prog 209 #[.pointer (some ⟨y1, 0, none⟩), .pointer (some ⟨y2, 0, none⟩)] w fun e w' => ∃ (b : Nat) (t : RT), e = .returned (.pointer (some ⟨b, 0, none⟩)) ∧ t.At w' b ∧ t.leaves = l.leaves ++ r.leaves ∧ Below w.heap.size w w' := by
  obtain ⟨p1, q1, s1, o1⟩ := hl.obj
  obtain ⟨p2, q2, s2, o2⟩ := hr.obj
  have hh1 := ht_le (t := l) (by omega)
  have hh2 := ht_le (t := r) (by omega)
  have hO0 := Own.start hG
  refine enter Tryz.func209 rfl rfl rfl 0 ?_
  refine SC.sr ?_
  refine SO.as ?_
  refine SO.nn ?_
  refine SC.seq ?_
  refine SC.block ?_
  refine SC.seq ?_
  refine SC.drawO mixed hO0 (fun hO1 => ?_)
  refine SA.tm 0 rfl hO1 ?_
  refine SA.tk 1 rfl hO1 (fun v hv => .nilCheck rfl rfl) ?_
  refine SA.tk 2 rfl hO1 (fun v hv => .fieldAddr rfl rfl fa228_2) ?_
  refine SA.tk 3 rfl hO1 (fun v hv => .load rfl rfl ag3 (cell_of' (hv.heapO trivial o1) rfl)) ?_
  refine SA.tm 4 rfl hO1 ?_
  refine SA.tk 5 rfl hO1 (fun v hv => .nilCheck rfl rfl) ?_
  refine SA.tk 6 rfl hO1 (fun v hv => .fieldAddr rfl rfl fa228_2) ?_
  refine SA.tk 7 rfl hO1 (fun v hv => .load rfl rfl ag3 (cell_of' (hv.heapO trivial o2) rfl)) ?_
  refine SA.tk 8 rfl hO1 (fun v hv => .add rfl rfl rfl (by omega)) ?_
  refine SA.tk 9 rfl hO1 (fun v hv => .gtr rfl rfl rfl) ?_
  refine SA.tm 10 rfl hO1 ?_
  refine SA.dec 16 rfl (fun g2 => ?_) (fun g2 => ?_)
  ·
   obtain ⟨ll, lr, rfl⟩ := of_high (t := l) (by omega)
   obtain ⟨xl, xr, ol, hll, hlr⟩ := hl
   obtain ⟨pl, ql, sl1, oll⟩ := hll.obj
   obtain ⟨pr, qr, sr1, olr⟩ := hlr.obj
   simp only [RT.leaves, List.length_append] at h1
   have e1 := ht_le (t := ll) (by omega)
   have e2 := ht_le (t := lr) (by omega)
   refine SA.tm 11 rfl hO1 ?_
   refine SA.tk 12 rfl hO1 (fun v hv => .nilCheck rfl rfl) ?_
   refine SA.tk 13 rfl hO1 (fun v hv => .fieldAddr rfl rfl fa228_0) ?_
   refine SA.tk 14 rfl hO1 (fun v hv => .load rfl rfl ag208 (cell_of' (hv.heapO trivial ol) rfl)) ?_
   refine SA.tk 15 rfl hO1 (fun v hv => .nilCheck rfl rfl) ?_
   refine SA.tk 16 rfl hO1 (fun v hv => .fieldAddr rfl rfl fa228_2) ?_
   refine SA.tk 17 rfl hO1 (fun v hv => .load rfl rfl ag3 (cell_of' (hv.heapO trivial oll) rfl)) ?_
   refine SA.tm 18 rfl hO1 ?_
   refine SA.tk 19 rfl hO1 (fun v hv => .nilCheck rfl rfl) ?_
   refine SA.tk 20 rfl hO1 (fun v hv => .fieldAddr rfl rfl fa228_1) ?_
   refine SA.tk 21 rfl hO1 (fun v hv => .load rfl rfl ag208 (cell_of' (hv.heapO trivial ol) rfl)) ?_
   refine SA.tk 22 rfl hO1 (fun v hv => .nilCheck rfl rfl) ?_
   refine SA.tk 23 rfl hO1 (fun v hv => .fieldAddr rfl rfl fa228_2) ?_
   refine SA.tk 24 rfl hO1 (fun v hv => .load rfl rfl ag3 (cell_of' (hv.heapO trivial olr) rfl)) ?_
   refine SA.tk 25 rfl hO1 (fun v hv => .geq rfl rfl rfl) ?_
   refine SA.tk 26 rfl hO1 (fun v hv => .pickT rfl rfl rfl) ?_
   refine SA.ta 27 rfl hO1 ?_
   refine SA.done (by kernel_rfl) ?_
   refine SQ.then_normal ?_
   refine SC.dec rfl (fun c3 => ?_) (fun c3 => ?_)
   ·
    refine SC.seq ?_
    refine SC.drawO mixed hO1 (fun hO4 => ?_)
    refine SA.tm 0 rfl hO4 ?_
    refine SA.tk 1 rfl hO4 (fun v hv => .nilCheck rfl rfl) ?_
    refine SA.tk 2 rfl hO4 (fun v hv => .fieldAddr rfl rfl fa228_0) ?_
    refine SA.tk 3 rfl hO4 (fun v hv => .load rfl rfl ag208 (cell_of' (hv.heapO trivial ol) rfl)) ?_
    refine SA.tm 4 rfl hO4 ?_
    refine SA.tk 5 rfl hO4 (fun v hv => .nilCheck rfl rfl) ?_
    refine SA.tk 6 rfl hO4 (fun v hv => .fieldAddr rfl rfl fa228_1) ?_
    refine SA.tk 7 rfl hO4 (fun v hv => .load rfl rfl ag208 (cell_of' (hv.heapO trivial ol) rfl)) ?_
    refine SA.tm 8 rfl hO4 ?_
    refine SA.one 9 (by kernel_rfl) ?_
    refine SB.call rfl rfl rfl rfl (.callF rfl rfl en210) (knot_any (lr) (r) _ _ _ (hO4.good hG) (hlr.below (hO4.toBelow trivial)) (hr.below (hO4.toBelow trivial)) (by first | omega | (simp only [RT.ht]; omega)) (by first | omega | (simp only [RT.ht]; omega))) ?_
    rintro _ w5 ⟨k1, rfl, hk1, hnk1, hb5⟩
    have hO5 := hO4.below hb5
    refine ⟨_, rfl, hO5, ?_⟩
    refine SA.one 10 (by kernel_rfl) ?_
    refine SB.call rfl rfl rfl rfl (.callF rfl rfl en210) (knot_any (ll) (RT.knot lr r) _ _ _ (hO5.good hG) (hll.below (hO5.toBelow trivial)) (hnk1) (by first | omega | (simp only [RT.ht]; omega)) (by first | omega | (simp only [RT.ht]; omega))) ?_
    rintro _ w6 ⟨k2, rfl, hk2, hnk2, hb6⟩
    have hO6 := hO5.below hb6
    refine ⟨_, rfl, hO6, ?_⟩
    refine SA.ta 11 rfl hO6 ?_
    refine SA.done (by kernel_rfl) ?_
    refine SQ.then_normal ?_
    refine SC.ret ?_
    refine SQ.block_ret ?_
    refine SQ.then_ret ?_
    refine SQ.out (.inl rfl) (res1 rfl rfl) ?_
    exact ⟨_, _, rfl, hnk2, by simp only [RT.leaves, List.append_assoc], hO6.toBelow trivial⟩
   ·
    have hlk := c3
    obtain ⟨la, lb, rfl⟩ := of_high (t := lr) (by omega)
    obtain ⟨xa, xb, olr2, hla, hlb⟩ := hlr
    simp only [RT.leaves, List.length_append] at h1
    have e3 := ht_le (t := la) (by omega)
    have e4 := ht_le (t := lb) (by omega)
    refine SC.seq ?_
    refine SC.drawO mixed hO1 (fun hO8 => ?_)
    refine SA.tm 0 rfl hO8 ?_
    refine SA.tk 1 rfl hO8 (fun v hv => .nilCheck rfl rfl) ?_
    refine SA.tk 2 rfl hO8 (fun v hv => .fieldAddr rfl rfl fa228_2) ?_
    refine SA.tk 3 rfl hO8 (fun v hv => .load rfl rfl ag3 (cell_of' (hv.heapO trivial ol) rfl)) ?_
    refine SA.tm 4 rfl hO8 ?_
    refine SA.tk 5 rfl hO8 (fun v hv => .nilCheck rfl rfl) ?_
    refine SA.tk 6 rfl hO8 (fun v hv => .fieldAddr rfl rfl fa228_2) ?_
    refine SA.tk 7 rfl hO8 (fun v hv => .load rfl rfl ag3 (cell_of' (hv.heapO trivial o2) rfl)) ?_
    refine SA.tk 8 rfl hO8 (fun v hv => .add rfl rfl rfl (by omega)) ?_
    refine SA.tk 9 rfl hO8 (fun v hv => .gtr rfl rfl rfl) ?_
    refine SA.ta 10 rfl hO8 ?_
    refine SA.done (by kernel_rfl) ?_
    refine SQ.then_normal ?_
    refine SC.dec rfl (fun c9 => ?_) (fun c9 => ?_)
    ·
     refine SC.seq ?_
     refine SC.drawO mixed hO8 (fun hO10 => ?_)
     refine SA.tm 0 rfl hO10 ?_
     refine SA.tk 1 rfl hO10 (fun v hv => .nilCheck rfl rfl) ?_
     refine SA.tk 2 rfl hO10 (fun v hv => .fieldAddr rfl rfl fa228_0) ?_
     refine SA.tk 3 rfl hO10 (fun v hv => .load rfl rfl ag208 (cell_of' (hv.heapO trivial ol) rfl)) ?_
     refine SA.tm 4 rfl hO10 ?_
     refine SA.tk 5 rfl hO10 (fun v hv => .nilCheck rfl rfl) ?_
     refine SA.tk 6 rfl hO10 (fun v hv => .fieldAddr rfl rfl fa228_1) ?_
     refine SA.tk 7 rfl hO10 (fun v hv => .load rfl rfl ag208 (cell_of' (hv.heapO trivial ol) rfl)) ?_
     refine SA.tk 8 rfl hO10 (fun v hv => .nilCheck rfl rfl) ?_
     refine SA.tk 9 rfl hO10 (fun v hv => .fieldAddr rfl rfl fa228_0) ?_
     refine SA.tk 10 rfl hO10 (fun v hv => .load rfl rfl ag208 (cell_of' (hv.heapO trivial olr2) rfl)) ?_
     refine SA.tm 12 rfl hO10 ?_
     refine SA.tk 13 rfl hO10 (fun v hv => .nilCheck rfl rfl) ?_
     refine SA.tk 14 rfl hO10 (fun v hv => .fieldAddr rfl rfl fa228_1) ?_
     refine SA.tk 15 rfl hO10 (fun v hv => .load rfl rfl ag208 (cell_of' (hv.heapO trivial ol) rfl)) ?_
     refine SA.tk 16 rfl hO10 (fun v hv => .nilCheck rfl rfl) ?_
     refine SA.tk 17 rfl hO10 (fun v hv => .fieldAddr rfl rfl fa228_1) ?_
     refine SA.tk 18 rfl hO10 (fun v hv => .load rfl rfl ag208 (cell_of' (hv.heapO trivial olr2) rfl)) ?_
     refine SA.tm 19 rfl hO10 ?_
     refine SA.one 11 (by kernel_rfl) ?_
     refine SB.call rfl rfl rfl rfl (.callF rfl rfl en210) (knot_any (ll) (la) _ _ _ (hO10.good hG) (hll.below (hO10.toBelow trivial)) (hla.below (hO10.toBelow trivial)) (by first | omega | (simp only [RT.ht]; omega)) (by first | omega | (simp only [RT.ht]; omega))) ?_
     rintro _ w11 ⟨k1, rfl, hk1, hnk1, hb11⟩
     have hO11 := hO10.below hb11
     refine ⟨_, rfl, hO11, ?_⟩
     refine SA.one 20 (by kernel_rfl) ?_
     refine SB.call rfl rfl rfl rfl (.callF rfl rfl en210) (knot_any (lb) (r) _ _ _ (hO11.good hG) (hlb.below (hO11.toBelow trivial)) (hr.below (hO11.toBelow trivial)) (by first | omega | (simp only [RT.ht]; omega)) (by first | omega | (simp only [RT.ht]; omega))) ?_
     rintro _ w12 ⟨k2, rfl, hk2, hnk2, hb12⟩
     have hO12 := hO11.below hb12
     refine ⟨_, rfl, hO12, ?_⟩
     have hnk3 := hnk1.below hb12
     refine SA.one 21 (by kernel_rfl) ?_
     refine SB.call rfl rfl rfl rfl (.callF rfl rfl en210) (knot_any (RT.knot ll la) (RT.knot lb r) _ _ _ (hO12.good hG) (hnk3) (hnk2) (by first | omega | (simp only [RT.ht]; omega)) (by first | omega | (simp only [RT.ht]; omega))) ?_
     rintro _ w13 ⟨k4, rfl, hk4, hnk4, hb13⟩
     have hO13 := hO12.below hb13
     refine ⟨_, rfl, hO13, ?_⟩
     refine SA.ta 22 rfl hO13 ?_
     refine SA.done (by kernel_rfl) ?_
     refine SQ.then_normal ?_
     refine SC.ret ?_
     refine SQ.block_ret ?_
     refine SQ.then_ret ?_
     refine SQ.out (.inl rfl) (res1 rfl rfl) ?_
     exact ⟨_, _, rfl, hnk4, by simp only [RT.leaves, List.append_assoc], hO13.toBelow trivial⟩
    ·
     exfalso; omega
  ·
   refine SA.pq 11 rfl hO1 ?_
   refine SA.pq 12 rfl hO1 ?_
   refine SA.pq 13 rfl hO1 ?_
   refine SA.pq 14 rfl hO1 ?_
   refine SA.pq 15 rfl hO1 ?_
   refine SA.pq 16 rfl hO1 ?_
   refine SA.pq 17 rfl hO1 ?_
   refine SA.pq 18 rfl hO1 ?_
   refine SA.pq 19 rfl hO1 ?_
   refine SA.pq 20 rfl hO1 ?_
   refine SA.pq 21 rfl hO1 ?_
   refine SA.pq 22 rfl hO1 ?_
   refine SA.pq 23 rfl hO1 ?_
   refine SA.pq 24 rfl hO1 ?_
   refine SA.pq 25 rfl hO1 ?_
   refine SA.tk 26 rfl hO1 (fun v hv => .pickF rfl rfl rfl) ?_
   refine SA.ta 27 rfl hO1 ?_
   refine SA.done (by kernel_rfl) ?_
   refine SQ.then_normal ?_
   refine SC.no rfl ?_
   refine SC.seq ?_
   refine SC.drawO mixed hO1 (fun hO15 => ?_)
   refine SA.tm 0 rfl hO15 ?_
   refine SA.tk 1 rfl hO15 (fun v hv => .nilCheck rfl rfl) ?_
   refine SA.tk 2 rfl hO15 (fun v hv => .fieldAddr rfl rfl fa228_2) ?_
   refine SA.tk 3 rfl hO15 (fun v hv => .load rfl rfl ag3 (cell_of' (hv.heapO trivial o1) rfl)) ?_
   refine SA.tm 4 rfl hO15 ?_
   refine SA.tk 5 rfl hO15 (fun v hv => .nilCheck rfl rfl) ?_
   refine SA.tk 6 rfl hO15 (fun v hv => .fieldAddr rfl rfl fa228_2) ?_
   refine SA.tk 7 rfl hO15 (fun v hv => .load rfl rfl ag3 (cell_of' (hv.heapO trivial o2) rfl)) ?_
   refine SA.tk 8 rfl hO15 (fun v hv => .add rfl rfl rfl (by omega)) ?_
   refine SA.tk 9 rfl hO15 (fun v hv => .gtr rfl rfl rfl) ?_
   refine SA.ta 10 rfl hO15 ?_
   refine SA.done (by kernel_rfl) ?_
   refine SQ.then_normal ?_
   refine SC.dec rfl (fun c16 => ?_) (fun c16 => ?_)
   ·
    exfalso; omega
   ·
    refine SC.seq ?_
    refine SC.drawO mixed hO15 (fun hO17 => ?_)
    refine SA.tm 0 rfl hO17 ?_
    refine SA.tk 1 rfl hO17 (fun v hv => .nilCheck rfl rfl) ?_
    refine SA.tk 2 rfl hO17 (fun v hv => .fieldAddr rfl rfl fa228_2) ?_
    refine SA.tk 3 rfl hO17 (fun v hv => .load rfl rfl ag3 (cell_of' (hv.heapO trivial o2) rfl)) ?_
    refine SA.tm 4 rfl hO17 ?_
    refine SA.tk 5 rfl hO17 (fun v hv => .nilCheck rfl rfl) ?_
    refine SA.tk 6 rfl hO17 (fun v hv => .fieldAddr rfl rfl fa228_2) ?_
    refine SA.tk 7 rfl hO17 (fun v hv => .load rfl rfl ag3 (cell_of' (hv.heapO trivial o1) rfl)) ?_
    refine SA.tk 8 rfl hO17 (fun v hv => .add rfl rfl rfl (by omega)) ?_
    refine SA.tk 9 rfl hO17 (fun v hv => .gtr rfl rfl rfl) ?_
    refine SA.tm 10 rfl hO17 ?_
    refine SA.dec 88 rfl (fun g18 => ?_) (fun g18 => ?_)
    ·
     obtain ⟨rl, rr, rfl⟩ := of_high (t := r) (by omega)
     obtain ⟨zl, zr, or_, hrl, hrr⟩ := hr
     obtain ⟨pl, ql, sl1, orl⟩ := hrl.obj
     obtain ⟨pr, qr, sr1, orr⟩ := hrr.obj
     simp only [RT.leaves, List.length_append] at h1
     have e1 := ht_le (t := rl) (by omega)
     have e2 := ht_le (t := rr) (by omega)
     refine SA.tm 11 rfl hO17 ?_
     refine SA.tk 12 rfl hO17 (fun v hv => .nilCheck rfl rfl) ?_
     refine SA.tk 13 rfl hO17 (fun v hv => .fieldAddr rfl rfl fa228_1) ?_
     refine SA.tk 14 rfl hO17 (fun v hv => .load rfl rfl ag208 (cell_of' (hv.heapO trivial or_) rfl)) ?_
     refine SA.tk 15 rfl hO17 (fun v hv => .nilCheck rfl rfl) ?_
     refine SA.tk 16 rfl hO17 (fun v hv => .fieldAddr rfl rfl fa228_2) ?_
     refine SA.tk 17 rfl hO17 (fun v hv => .load rfl rfl ag3 (cell_of' (hv.heapO trivial orr) rfl)) ?_
     refine SA.tm 18 rfl hO17 ?_
     refine SA.tk 19 rfl hO17 (fun v hv => .nilCheck rfl rfl) ?_
     refine SA.tk 20 rfl hO17 (fun v hv => .fieldAddr rfl rfl fa228_0) ?_
     refine SA.tk 21 rfl hO17 (fun v hv => .load rfl rfl ag208 (cell_of' (hv.heapO trivial or_) rfl)) ?_
     refine SA.tk 22 rfl hO17 (fun v hv => .nilCheck rfl rfl) ?_
     refine SA.tk 23 rfl hO17 (fun v hv => .fieldAddr rfl rfl fa228_2) ?_
     refine SA.tk 24 rfl hO17 (fun v hv => .load rfl rfl ag3 (cell_of' (hv.heapO trivial orl) rfl)) ?_
     refine SA.tk 25 rfl hO17 (fun v hv => .geq rfl rfl rfl) ?_
     refine SA.tk 26 rfl hO17 (fun v hv => .pickT rfl rfl rfl) ?_
     refine SA.ta 27 rfl hO17 ?_
     refine SA.done (by kernel_rfl) ?_
     refine SQ.then_normal ?_
     refine SC.dec rfl (fun c19 => ?_) (fun c19 => ?_)
     ·
      refine SC.seq ?_
      refine SC.drawO mixed hO17 (fun hO20 => ?_)
      refine SA.tm 0 rfl hO20 ?_
      refine SA.tm 1 rfl hO20 ?_
      refine SA.tk 2 rfl hO20 (fun v hv => .nilCheck rfl rfl) ?_
      refine SA.tk 3 rfl hO20 (fun v hv => .fieldAddr rfl rfl fa228_0) ?_
      refine SA.tk 4 rfl hO20 (fun v hv => .load rfl rfl ag208 (cell_of' (hv.heapO trivial or_) rfl)) ?_
      refine SA.tm 6 rfl hO20 ?_
      refine SA.tk 7 rfl hO20 (fun v hv => .nilCheck rfl rfl) ?_
      refine SA.tk 8 rfl hO20 (fun v hv => .fieldAddr rfl rfl fa228_1) ?_
      refine SA.tk 9 rfl hO20 (fun v hv => .load rfl rfl ag208 (cell_of' (hv.heapO trivial or_) rfl)) ?_
      refine SA.one 5 (by kernel_rfl) ?_
      refine SB.call rfl rfl rfl rfl (.callF rfl rfl en210) (knot_any (l) (rl) _ _ _ (hO20.good hG) (hl.below (hO20.toBelow trivial)) (hrl.below (hO20.toBelow trivial)) (by first | omega | (simp only [RT.ht]; omega)) (by first | omega | (simp only [RT.ht]; omega))) ?_
      rintro _ w21 ⟨k1, rfl, hk1, hnk1, hb21⟩
      have hO21 := hO20.below hb21
      refine ⟨_, rfl, hO21, ?_⟩
      refine SA.one 10 (by kernel_rfl) ?_
      refine SB.call rfl rfl rfl rfl (.callF rfl rfl en210) (knot_any (RT.knot l rl) (rr) _ _ _ (hO21.good hG) (hnk1) (hrr.below (hO21.toBelow trivial)) (by first | omega | (simp only [RT.ht]; omega)) (by first | omega | (simp only [RT.ht]; omega))) ?_
      rintro _ w22 ⟨k2, rfl, hk2, hnk2, hb22⟩
      have hO22 := hO21.below hb22
      refine ⟨_, rfl, hO22, ?_⟩
      refine SA.ta 11 rfl hO22 ?_
      refine SA.done (by kernel_rfl) ?_
      refine SQ.then_normal ?_
      refine SC.ret ?_
      refine SQ.block_ret ?_
      refine SQ.then_ret ?_
      refine SQ.out (.inl rfl) (res1 rfl rfl) ?_
      exact ⟨_, _, rfl, hnk2, by simp only [RT.leaves, List.append_assoc], hO22.toBelow trivial⟩
     ·
      obtain ⟨ra, rb2, rfl⟩ := of_high (t := rl) (by omega)
      obtain ⟨za, zb, orl2, hra, hrb⟩ := hrl
      simp only [RT.leaves, List.length_append] at h1
      have e3 := ht_le (t := ra) (by omega)
      have e4 := ht_le (t := rb2) (by omega)
      refine SC.seq ?_
      refine SC.drawO mixed hO17 (fun hO24 => ?_)
      refine SA.tm 0 rfl hO24 ?_
      refine SA.tk 1 rfl hO24 (fun v hv => .nilCheck rfl rfl) ?_
      refine SA.tk 2 rfl hO24 (fun v hv => .fieldAddr rfl rfl fa228_2) ?_
      refine SA.tk 3 rfl hO24 (fun v hv => .load rfl rfl ag3 (cell_of' (hv.heapO trivial or_) rfl)) ?_
      refine SA.tm 4 rfl hO24 ?_
      refine SA.tk 5 rfl hO24 (fun v hv => .nilCheck rfl rfl) ?_
      refine SA.tk 6 rfl hO24 (fun v hv => .fieldAddr rfl rfl fa228_2) ?_
      refine SA.tk 7 rfl hO24 (fun v hv => .load rfl rfl ag3 (cell_of' (hv.heapO trivial o1) rfl)) ?_
      refine SA.tk 8 rfl hO24 (fun v hv => .add rfl rfl rfl (by omega)) ?_
      refine SA.tk 9 rfl hO24 (fun v hv => .gtr rfl rfl rfl) ?_
      refine SA.ta 10 rfl hO24 ?_
      refine SA.done (by kernel_rfl) ?_
      refine SQ.then_normal ?_
      refine SC.dec rfl (fun c25 => ?_) (fun c25 => ?_)
      ·
       refine SC.seq ?_
       refine SC.drawO mixed hO24 (fun hO26 => ?_)
       refine SA.tm 0 rfl hO26 ?_
       refine SA.tm 1 rfl hO26 ?_
       refine SA.tk 2 rfl hO26 (fun v hv => .nilCheck rfl rfl) ?_
       refine SA.tk 3 rfl hO26 (fun v hv => .fieldAddr rfl rfl fa228_0) ?_
       refine SA.tk 4 rfl hO26 (fun v hv => .load rfl rfl ag208 (cell_of' (hv.heapO trivial or_) rfl)) ?_
       refine SA.tk 5 rfl hO26 (fun v hv => .nilCheck rfl rfl) ?_
       refine SA.tk 6 rfl hO26 (fun v hv => .fieldAddr rfl rfl fa228_0) ?_
       refine SA.tk 7 rfl hO26 (fun v hv => .load rfl rfl ag208 (cell_of' (hv.heapO trivial orl2) rfl)) ?_
       refine SA.tm 9 rfl hO26 ?_
       refine SA.tk 10 rfl hO26 (fun v hv => .nilCheck rfl rfl) ?_
       refine SA.tk 11 rfl hO26 (fun v hv => .fieldAddr rfl rfl fa228_0) ?_
       refine SA.tk 12 rfl hO26 (fun v hv => .load rfl rfl ag208 (cell_of' (hv.heapO trivial or_) rfl)) ?_
       refine SA.tk 13 rfl hO26 (fun v hv => .nilCheck rfl rfl) ?_
       refine SA.tk 14 rfl hO26 (fun v hv => .fieldAddr rfl rfl fa228_1) ?_
       refine SA.tk 15 rfl hO26 (fun v hv => .load rfl rfl ag208 (cell_of' (hv.heapO trivial orl2) rfl)) ?_
       refine SA.tm 16 rfl hO26 ?_
       refine SA.tk 17 rfl hO26 (fun v hv => .nilCheck rfl rfl) ?_
       refine SA.tk 18 rfl hO26 (fun v hv => .fieldAddr rfl rfl fa228_1) ?_
       refine SA.tk 19 rfl hO26 (fun v hv => .load rfl rfl ag208 (cell_of' (hv.heapO trivial or_) rfl)) ?_
       refine SA.one 8 (by kernel_rfl) ?_
       refine SB.call rfl rfl rfl rfl (.callF rfl rfl en210) (knot_any (l) (ra) _ _ _ (hO26.good hG) (hl.below (hO26.toBelow trivial)) (hra.below (hO26.toBelow trivial)) (by first | omega | (simp only [RT.ht]; omega)) (by first | omega | (simp only [RT.ht]; omega))) ?_
       rintro _ w27 ⟨k1, rfl, hk1, hnk1, hb27⟩
       have hO27 := hO26.below hb27
       refine ⟨_, rfl, hO27, ?_⟩
       refine SA.one 20 (by kernel_rfl) ?_
       refine SB.call rfl rfl rfl rfl (.callF rfl rfl en210) (knot_any (rb2) (rr) _ _ _ (hO27.good hG) (hrb.below (hO27.toBelow trivial)) (hrr.below (hO27.toBelow trivial)) (by first | omega | (simp only [RT.ht]; omega)) (by first | omega | (simp only [RT.ht]; omega))) ?_
       rintro _ w28 ⟨k2, rfl, hk2, hnk2, hb28⟩
       have hO28 := hO27.below hb28
       refine ⟨_, rfl, hO28, ?_⟩
       have hnk3 := hnk1.below hb28
       refine SA.one 21 (by kernel_rfl) ?_
       refine SB.call rfl rfl rfl rfl (.callF rfl rfl en210) (knot_any (RT.knot l ra) (RT.knot rb2 rr) _ _ _ (hO28.good hG) (hnk3) (hnk2) (by first | omega | (simp only [RT.ht]; omega)) (by first | omega | (simp only [RT.ht]; omega))) ?_
       rintro _ w29 ⟨k4, rfl, hk4, hnk4, hb29⟩
       have hO29 := hO28.below hb29
       refine ⟨_, rfl, hO29, ?_⟩
       refine SA.ta 22 rfl hO29 ?_
       refine SA.done (by kernel_rfl) ?_
       refine SQ.then_normal ?_
       refine SC.ret ?_
       refine SQ.block_ret ?_
       refine SQ.then_ret ?_
       refine SQ.out (.inl rfl) (res1 rfl rfl) ?_
       exact ⟨_, _, rfl, hnk4, by simp only [RT.leaves, List.append_assoc], hO29.toBelow trivial⟩
      ·
       exfalso; omega
    ·
     refine SA.pq 11 rfl hO17 ?_
     refine SA.pq 12 rfl hO17 ?_
     refine SA.pq 13 rfl hO17 ?_
     refine SA.pq 14 rfl hO17 ?_
     refine SA.pq 15 rfl hO17 ?_
     refine SA.pq 16 rfl hO17 ?_
     refine SA.pq 17 rfl hO17 ?_
     refine SA.pq 18 rfl hO17 ?_
     refine SA.pq 19 rfl hO17 ?_
     refine SA.pq 20 rfl hO17 ?_
     refine SA.pq 21 rfl hO17 ?_
     refine SA.pq 22 rfl hO17 ?_
     refine SA.pq 23 rfl hO17 ?_
     refine SA.pq 24 rfl hO17 ?_
     refine SA.pq 25 rfl hO17 ?_
     refine SA.tk 26 rfl hO17 (fun v hv => .pickF rfl rfl rfl) ?_
     refine SA.ta 27 rfl hO17 ?_
     refine SA.done (by kernel_rfl) ?_
     refine SQ.then_normal ?_
     refine SC.no rfl ?_
     refine SC.seq ?_
     refine SC.drawO mixed hO17 (fun hO31 => ?_)
     refine SA.tm 0 rfl hO31 ?_
     refine SA.tk 1 rfl hO31 (fun v hv => .nilCheck rfl rfl) ?_
     refine SA.tk 2 rfl hO31 (fun v hv => .fieldAddr rfl rfl fa228_2) ?_
     refine SA.tk 3 rfl hO31 (fun v hv => .load rfl rfl ag3 (cell_of' (hv.heapO trivial o2) rfl)) ?_
     refine SA.tm 4 rfl hO31 ?_
     refine SA.tk 5 rfl hO31 (fun v hv => .nilCheck rfl rfl) ?_
     refine SA.tk 6 rfl hO31 (fun v hv => .fieldAddr rfl rfl fa228_2) ?_
     refine SA.tk 7 rfl hO31 (fun v hv => .load rfl rfl ag3 (cell_of' (hv.heapO trivial o1) rfl)) ?_
     refine SA.tk 8 rfl hO31 (fun v hv => .add rfl rfl rfl (by omega)) ?_
     refine SA.tk 9 rfl hO31 (fun v hv => .gtr rfl rfl rfl) ?_
     refine SA.ta 10 rfl hO31 ?_
     refine SA.done (by kernel_rfl) ?_
     refine SQ.then_normal ?_
     refine SC.dec rfl (fun c32 => ?_) (fun c32 => ?_)
     ·
      exfalso; omega
     ·
      refine SC.skip ?_
      refine SQ.block_normal ?_
      refine SQ.then_normal ?_
      refine SC.sr ?_
      refine SO.mv ?_
      refine SO.mv ?_
      refine SO.call rfl rfl rfl rfl (.callF rfl rfl en210) (knot_any (l) (r) _ _ _ (hO31.good hG) (hl.below (hO31.toBelow trivial)) (hr.below (hO31.toBelow trivial)) (by first | omega | (simp only [RT.ht]; omega)) (by first | omega | (simp only [RT.ht]; omega))) ?_
      rintro _ w33 ⟨k1, rfl, hk1, hnk1, hb33⟩
      have hO33 := hO31.below hb33
      refine ⟨_, rfl, ?_⟩
      refine SO.as ?_
      refine SO.nn ?_
      refine SC.ret ?_
      refine SQ.out (.inl rfl) (res1 rfl rfl) ?_
      exact ⟨_, _, rfl, hnk1, by simp only [RT.leaves], hO33.toBelow trivial⟩

end Go.Proofs.YtclgplkkajfenaaGreatDoor
/- rope.join. -/
namespace Go.Proofs.YtclgplkkajfenaaGreatDoor
open Go Go.RowKit Ow
set_option maxRecDepth 20000 in
set_option maxHeartbeats 400000 in
theorem join_step (l r : RT) (y1 y2 : Nat) (w : World) (hG : Good w) (hl : l.At w y1) (hr : r.At w y2) (h1 : l.leaves.length + r.leaves.length ≤ 1099511627776) (ih : ∀ (l' r' : RT) (y1 y2 : Nat) (w : World), l'.leaves.length + r'.leaves.length < l.leaves.length + r.leaves.length → Good w → l'.At w y1 → r'.At w y2 →
      Calls Tryz.prog 194 #[.pointer (some ⟨y1, 0, none⟩), .pointer (some ⟨y2, 0, none⟩)] w fun e w' => ∃ (b : Nat) (t : RT), e = .returned (.pointer (some ⟨b, 0, none⟩)) ∧ t.At w' b ∧ t.leaves = l'.leaves ++ r'.leaves ∧ Below w.heap.size w w') :
    Calls Tryz.prog 194 #[.pointer (some ⟨y1, 0, none⟩), .pointer (some ⟨y2, 0, none⟩)] w fun e w' => ∃ (b : Nat) (t : RT), e = .returned (.pointer (some ⟨b, 0, none⟩)) ∧ t.At w' b ∧ t.leaves = l.leaves ++ r.leaves ∧ Below w.heap.size w w' := by
  obtain ⟨p1, q1, s1, o1⟩ := hl.obj
  obtain ⟨p2, q2, s2, o2⟩ := hr.obj
  have hh1 := ht_le (t := l) (by omega)
  have hh2 := ht_le (t := r) (by omega)
  have hO0 := Own.start hG
  refine enter Tryz.func194 rfl rfl rfl 0 ?_
  refine SC.sr ?_
  refine SO.as ?_
  refine SO.nn ?_
  refine SC.seq ?_
  refine SC.block ?_
  refine SC.sr ?_
  refine SO.mv ?_
  refine SO.v (.ptrEq (b := false) rfl rfl rfl Tryz.underlying208 rfl) ?_
  refine SO.as ?_
  refine SO.nn ?_
  refine SC.no rfl ?_
  refine SC.sr ?_
  refine SO.mv ?_
  refine SO.v (.ptrEq (b := false) rfl rfl rfl Tryz.underlying208 rfl) ?_
  refine SO.as ?_
  refine SO.nn ?_
  refine SC.no rfl ?_
  refine SC.seq ?_
  refine SC.drawO mixed hO0 (fun hO1 => ?_)
  refine SA.tm 0 rfl hO1 ?_
  refine SA.tk 1 rfl hO1 (fun v hv => .nilCheck rfl rfl) ?_
  refine SA.tk 2 rfl hO1 (fun v hv => .fieldAddr rfl rfl fa228_2) ?_
  refine SA.tk 3 rfl hO1 (fun v hv => .load rfl rfl ag3 (cell_of' (hv.heapO trivial o1) rfl)) ?_
  refine SA.tm 4 rfl hO1 ?_
  refine SA.tk 5 rfl hO1 (fun v hv => .nilCheck rfl rfl) ?_
  refine SA.tk 6 rfl hO1 (fun v hv => .fieldAddr rfl rfl fa228_2) ?_
  refine SA.tk 7 rfl hO1 (fun v hv => .load rfl rfl ag3 (cell_of' (hv.heapO trivial o2) rfl)) ?_
  refine SA.tk 8 rfl hO1 (fun v hv => .add rfl rfl rfl (by omega)) ?_
  refine SA.tk 9 rfl hO1 (fun v hv => .gtr rfl rfl rfl) ?_
  refine SA.ta 10 rfl hO1 ?_
  refine SA.done (by kernel_rfl) ?_
  refine SQ.then_normal ?_
  refine SC.dec rfl (fun c2 => ?_) (fun c2 => ?_)
  ·
   obtain ⟨ll, lr, rfl⟩ := of_high (t := l) (by omega)
   obtain ⟨xl, xr, ol, hll, hlr⟩ := hl
   obtain ⟨pl, ql, sl1, oll⟩ := hll.obj
   obtain ⟨pr, qr, sr1, olr⟩ := hlr.obj
   simp only [RT.leaves, List.length_append] at h1
   have e1 := ht_le (t := ll) (by omega)
   have e2 := ht_le (t := lr) (by omega)
   have q1 := ll.leaves_pos
   refine SC.seq ?_
   refine SC.drawO mixed hO1 (fun hO3 => ?_)
   refine SA.tm 0 rfl hO3 ?_
   refine SA.tk 1 rfl hO3 (fun v hv => .nilCheck rfl rfl) ?_
   refine SA.tk 2 rfl hO3 (fun v hv => .fieldAddr rfl rfl fa228_0) ?_
   refine SA.tk 3 rfl hO3 (fun v hv => .load rfl rfl ag208 (cell_of' (hv.heapO trivial ol) rfl)) ?_
   refine SA.tm 4 rfl hO3 ?_
   refine SA.tk 5 rfl hO3 (fun v hv => .nilCheck rfl rfl) ?_
   refine SA.tk 6 rfl hO3 (fun v hv => .fieldAddr rfl rfl fa228_1) ?_
   refine SA.tk 7 rfl hO3 (fun v hv => .load rfl rfl ag208 (cell_of' (hv.heapO trivial ol) rfl)) ?_
   refine SA.tm 8 rfl hO3 ?_
   refine SA.one 9 (by kernel_rfl) ?_
   refine SB.call rfl rfl rfl rfl (.callF rfl rfl en194) (ih lr r _ _ _ (by simp only [RT.leaves, List.length_append]; omega) (hO3.good hG) (hlr.below (hO3.toBelow trivial)) (hr.below (hO3.toBelow trivial))) ?_
   rintro _ w4 ⟨bj, tj, rfl, htj, hlj, hb4⟩
   have hO4 := hO3.below hb4
   refine ⟨_, rfl, hO4, ?_⟩
   have e5 : tj.leaves.length = lr.leaves.length + r.leaves.length := by rw [hlj, List.length_append]
   refine SA.one 10 (by kernel_rfl) ?_
   refine SB.call rfl rfl rfl rfl (.callF rfl rfl en209) (balanced_any ll tj _ _ _ (hO4.good hG) (hll.below (hO4.toBelow trivial)) htj (by omega)) ?_
   rintro _ w5 ⟨bk, tk, rfl, htk, hlk, hb5⟩
   have hO5 := hO4.below hb5
   refine ⟨_, rfl, hO5, ?_⟩
   refine SA.ta 11 rfl hO5 ?_
   refine SA.done (by kernel_rfl) ?_
   refine SQ.then_normal ?_
   refine SC.ret ?_
   refine SQ.block_ret ?_
   refine SQ.then_ret ?_
   refine SQ.out (.inl rfl) (res1 rfl rfl) ?_
   exact ⟨_, _, rfl, htk, by rw [hlk, hlj]; simp only [RT.leaves, List.append_assoc], hO5.toBelow trivial⟩
  ·
   refine SC.seq ?_
   refine SC.drawO mixed hO1 (fun hO7 => ?_)
   refine SA.tm 0 rfl hO7 ?_
   refine SA.tk 1 rfl hO7 (fun v hv => .nilCheck rfl rfl) ?_
   refine SA.tk 2 rfl hO7 (fun v hv => .fieldAddr rfl rfl fa228_2) ?_
   refine SA.tk 3 rfl hO7 (fun v hv => .load rfl rfl ag3 (cell_of' (hv.heapO trivial o2) rfl)) ?_
   refine SA.tm 4 rfl hO7 ?_
   refine SA.tk 5 rfl hO7 (fun v hv => .nilCheck rfl rfl) ?_
   refine SA.tk 6 rfl hO7 (fun v hv => .fieldAddr rfl rfl fa228_2) ?_
   refine SA.tk 7 rfl hO7 (fun v hv => .load rfl rfl ag3 (cell_of' (hv.heapO trivial o1) rfl)) ?_
   refine SA.tk 8 rfl hO7 (fun v hv => .add rfl rfl rfl (by omega)) ?_
   refine SA.tk 9 rfl hO7 (fun v hv => .gtr rfl rfl rfl) ?_
   refine SA.ta 10 rfl hO7 ?_
   refine SA.done (by kernel_rfl) ?_
   refine SQ.then_normal ?_
   refine SC.dec rfl (fun c8 => ?_) (fun c8 => ?_)
   ·
    obtain ⟨rl, rr, rfl⟩ := of_high (t := r) (by omega)
    obtain ⟨zl, zr, or_, hrl, hrr⟩ := hr
    obtain ⟨pl, ql, sl1, orl⟩ := hrl.obj
    obtain ⟨pr, qr, sr1, orr⟩ := hrr.obj
    simp only [RT.leaves, List.length_append] at h1
    have e1 := ht_le (t := rl) (by omega)
    have e2 := ht_le (t := rr) (by omega)
    have q2 := rr.leaves_pos
    refine SC.seq ?_
    refine SC.drawO mixed hO7 (fun hO9 => ?_)
    refine SA.tm 0 rfl hO9 ?_
    refine SA.tm 1 rfl hO9 ?_
    refine SA.tk 2 rfl hO9 (fun v hv => .nilCheck rfl rfl) ?_
    refine SA.tk 3 rfl hO9 (fun v hv => .fieldAddr rfl rfl fa228_0) ?_
    refine SA.tk 4 rfl hO9 (fun v hv => .load rfl rfl ag208 (cell_of' (hv.heapO trivial or_) rfl)) ?_
    refine SA.tm 6 rfl hO9 ?_
    refine SA.tk 7 rfl hO9 (fun v hv => .nilCheck rfl rfl) ?_
    refine SA.tk 8 rfl hO9 (fun v hv => .fieldAddr rfl rfl fa228_1) ?_
    refine SA.tk 9 rfl hO9 (fun v hv => .load rfl rfl ag208 (cell_of' (hv.heapO trivial or_) rfl)) ?_
    refine SA.one 5 (by kernel_rfl) ?_
    refine SB.call rfl rfl rfl rfl (.callF rfl rfl en194) (ih l rl _ _ _ (by simp only [RT.leaves, List.length_append]; omega) (hO9.good hG) (hl.below (hO9.toBelow trivial)) (hrl.below (hO9.toBelow trivial))) ?_
    rintro _ w10 ⟨bj, tj, rfl, htj, hlj, hb10⟩
    have hO10 := hO9.below hb10
    refine ⟨_, rfl, hO10, ?_⟩
    have e5 : tj.leaves.length = l.leaves.length + rl.leaves.length := by rw [hlj, List.length_append]
    refine SA.one 10 (by kernel_rfl) ?_
    refine SB.call rfl rfl rfl rfl (.callF rfl rfl en209) (balanced_any tj rr _ _ _ (hO10.good hG) htj (hrr.below (hO10.toBelow trivial)) (by omega)) ?_
    rintro _ w11 ⟨bk, tk, rfl, htk, hlk, hb11⟩
    have hO11 := hO10.below hb11
    refine ⟨_, rfl, hO11, ?_⟩
    refine SA.ta 11 rfl hO11 ?_
    refine SA.done (by kernel_rfl) ?_
    refine SQ.then_normal ?_
    refine SC.ret ?_
    refine SQ.block_ret ?_
    refine SQ.then_ret ?_
    refine SQ.out (.inl rfl) (res1 rfl rfl) ?_
    exact ⟨_, _, rfl, htk, by rw [hlk, hlj]; simp only [RT.leaves, List.append_assoc], hO11.toBelow trivial⟩
   ·
    refine SC.skip ?_
    refine SQ.block_normal ?_
    refine SQ.then_normal ?_
    refine SC.sr ?_
    refine SO.mv ?_
    refine SO.mv ?_
    refine SO.call rfl rfl rfl rfl (.callF rfl rfl en210) (knot_any (l) (r) _ _ _ (hO7.good hG) (hl.below (hO7.toBelow trivial)) (hr.below (hO7.toBelow trivial)) (by first | omega | (simp only [RT.ht]; omega)) (by first | omega | (simp only [RT.ht]; omega))) ?_
    rintro _ w13 ⟨k1, rfl, hk1, hnk1, hb13⟩
    have hO13 := hO7.below hb13
    refine ⟨_, rfl, ?_⟩
    refine SO.as ?_
    refine SO.nn ?_
    refine SC.ret ?_
    refine SQ.out (.inl rfl) (res1 rfl rfl) ?_
    exact ⟨_, _, rfl, hnk1, by simp only [RT.leaves], hO13.toBelow trivial⟩

set_option maxRecDepth 20000 in
set_option maxHeartbeats 400000 in
theorem join_nl (p : Option Addr) (w : World) (hG : Good w) :
    Calls Tryz.prog 194 #[.pointer none, .pointer p] w fun e w' => e = .returned (.pointer p) ∧ Below w.heap.size w w' := by
  have hO0 := Own.start hG
  refine enter Tryz.func194 rfl rfl rfl 0 ?_
  refine SC.sr ?_
  refine SO.as ?_
  refine SO.nn ?_
  refine SC.seq ?_
  refine SC.block ?_
  refine SC.sr ?_
  refine SO.mv ?_
  refine SO.v (.ptrEq (b := true) rfl rfl rfl Tryz.underlying208 rfl) ?_
  refine SO.as ?_
  refine SO.nn ?_
  refine SC.yes rfl ?_
  refine SC.sr ?_
  refine SO.mv ?_
  refine SO.as ?_
  refine SO.nn ?_
  refine SC.ret ?_
  refine SQ.block_ret ?_
  refine SQ.then_ret ?_
  refine SQ.out (.inl rfl) (res1 rfl rfl) ?_
  exact ⟨rfl, hO0.toBelow trivial⟩

set_option maxRecDepth 20000 in
set_option maxHeartbeats 400000 in
theorem join_nr (y : Nat) (w : World) (hG : Good w) :
    Calls Tryz.prog 194 #[.pointer (some ⟨y, 0, none⟩), .pointer none] w fun e w' => e = .returned (.pointer (some ⟨y, 0, none⟩)) ∧ Below w.heap.size w w' := by
  have hO0 := Own.start hG
  refine enter Tryz.func194 rfl rfl rfl 0 ?_
  refine SC.sr ?_
  refine SO.as ?_
  refine SO.nn ?_
  refine SC.seq ?_
  refine SC.block ?_
  refine SC.sr ?_
  refine SO.mv ?_
  refine SO.v (.ptrEq (b := false) rfl rfl rfl Tryz.underlying208 rfl) ?_
  refine SO.as ?_
  refine SO.nn ?_
  refine SC.no rfl ?_
  refine SC.sr ?_
  refine SO.mv ?_
  refine SO.v (.ptrEq (b := true) rfl rfl rfl Tryz.underlying208 rfl) ?_
  refine SO.as ?_
  refine SO.nn ?_
  refine SC.yes rfl ?_
  refine SC.sr ?_
  refine SO.mv ?_
  refine SO.as ?_
  refine SO.nn ?_
  refine SC.ret ?_
  refine SQ.block_ret ?_
  refine SQ.then_ret ?_
  refine SQ.out (.inl rfl) (res1 rfl rfl) ?_
  exact ⟨rfl, hO0.toBelow trivial⟩

theorem join_all : ∀ (n : Nat) (l r : RT) (y1 y2 : Nat) (w : World), l.leaves.length + r.leaves.length ≤ n → n ≤ 1099511627776 → Good w → l.At w y1 → r.At w y2 →
      Calls Tryz.prog 194 #[.pointer (some ⟨y1, 0, none⟩), .pointer (some ⟨y2, 0, none⟩)] w fun e w' => ∃ (b : Nat) (t : RT), e = .returned (.pointer (some ⟨b, 0, none⟩)) ∧ t.At w' b ∧ t.leaves = l.leaves ++ r.leaves ∧ Below w.heap.size w w'
  | 0, l, r, _, _, _, h, _, _, _, _ => by have := l.leaves_pos; omega
  | n + 1, l, r, y1, y2, w, h, hn, hG, hl, hr => join_step l r y1 y2 w hG hl hr (by omega) fun l' r' y1' y2' w' hlt hG' hl' hr' => join_all n l' r' y1' y2' w' (by omega) (by omega) hG' hl' hr'
theorem join_o (l r : Option RT) (p q : Option Addr) (w : World) (hG : Good w) (hl : OAt w l p) (hr : OAt w r q) (hn : (oL l).length + (oL r).length ≤ 1099511627776) :
    Calls Tryz.prog 194 #[.pointer p, .pointer q] w fun e w' => ∃ (p' : Option Addr) (t' : Option RT), e = .returned (.pointer p') ∧ OAt w' t' p' ∧ oL t' = oL l ++ oL r ∧ (r.isSome = true → t'.isSome = true) ∧ Below w.heap.size w w' := by
  cases l with
  | none =>
    cases hl
    refine (join_nl q w hG).mono ?_
    rintro e w' ⟨rfl, hb⟩
    exact ⟨q, r, rfl, hr.below hb, rfl, fun h => h, hb⟩
  | some l =>
    obtain ⟨b, rfl, hl⟩ := hl
    cases r with
    | none =>
      cases hr
      refine (join_nr b w hG).mono ?_
      rintro e w' ⟨rfl, hb⟩
      exact ⟨_, some l, rfl, ⟨b, rfl, hl.below hb⟩, by simp [oL], fun _ => rfl, hb⟩
    | some r =>
      obtain ⟨c, rfl, hr⟩ := hr
      refine (join_all _ l r b c w (Nat.le_refl _) hn hG hl hr).mono ?_
      rintro e w' ⟨d, t, rfl, h1, h2, hb⟩
      exact ⟨_, some t, rfl, ⟨d, rfl, h1⟩, h2, fun _ => rfl, hb⟩
/-! What the numbers of a tree say -/
theorem aw_in {x y : Int} (h : -9223372036854775808 ≤ x + y ∧ x + y ≤ 9223372036854775807) : aw x y = x + y := by unfold aw; exact IntWalk.i64_in _ h
theorem join2_b {a b : Smy} (h : -9223372036854775808 ≤ a.b + b.b ∧ a.b + b.b ≤ 9223372036854775807) : (joinL zS [a, b]).b = a.b + b.b := by
  show (if (if zS = zS then a else pairS zS a) = zS then b else pairS (if zS = zS then a else pairS zS a) b).b = _
  rw [if_pos rfl]
  split
  · rename_i e; rw [e]; simp [zS]
  · exact aw_in h
theorem join2_nl {a b : Smy} (h : -9223372036854775808 ≤ a.nl + b.nl ∧ a.nl + b.nl ≤ 9223372036854775807) : (joinL zS [a, b]).nl = a.nl + b.nl := by
  show (if (if zS = zS then a else pairS zS a) = zS then b else pairS (if zS = zS then a else pairS zS a) b).nl = _
  rw [if_pos rfl]
  split
  · rename_i e; rw [e]; simp [zS]
  · exact aw_in h
theorem nlC_append (a b : Bs) : nlC (a ++ b) = nlC a + nlC b := by simp [nlC, Lib.countByte, List.count_append]
theorem nlC_le (a : Bs) : nlC a ≤ a.length := by simp only [nlC, Lib.countByte]; exact List.count_le_length
theorem RT.sm_b : ∀ t : RT, t.txt.length ≤ 4611686018427387904 → t.sm.b = t.txt.length
  | .leaf s, _ => rfl
  | .knot l r, h => by
    simp only [RT.txt, List.length_append] at h ⊢
    have h1 := l.sm_b (by omega); have h2 := r.sm_b (by omega)
    rw [RT.sm, join2_b (by omega), h1, h2]; omega
theorem RT.sm_nl : ∀ t : RT, t.txt.length ≤ 4611686018427387904 → t.sm.nl = nlC t.txt
  | .leaf s, _ => rfl
  | .knot l r, h => by
    simp only [RT.txt, List.length_append] at h ⊢
    have h1 := l.sm_nl (by omega); have h2 := r.sm_nl (by omega)
    have h3 := nlC_le l.txt; have h4 := nlC_le r.txt
    rw [RT.sm, join2_nl (by omega), h1, h2, nlC_append]; omega

end Go.Proofs.YtclgplkkajfenaaGreatDoor
