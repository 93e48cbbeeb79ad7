/- LinesKeeps, the walk. -/
import Derived.Test.YtclgplkkajfenaaGreatDoorItr
namespace Go.Proofs.YtclgplkkajfenaaGreatDoor
open Go Go.RowKit Ow
/-- A region that does not panic. -/
def NP (Q : Exit → Act → World → Prop) : Exit → Act → World → Prop
  | .panic _, _, _ => False
  | x, a, w => Q x a w
theorem Ow.SC.np {P : Program} {ro : Option Nat} {n N : Nat} {c : Code} {Q : Exit → Act → World → Prop} {D : List Deferred} {e : Env} {w : World} (h : SC P ro n c (NP Q) N D e w) : SC P ro n c Q N D e w := fun a h1 h2 h3 =>
  wpIn_mono (h a h1 h2 h3) (fun x a w hx => by cases x <;> first | exact hx.elim | exact hx)
theorem Ow.SQ.np {N : Nat} {Q : Exit → Act → World → Prop} {D : List Deferred} {e : Env} {w : World} (h : SQ Q .normal N D e w) : SQ (NP Q) .normal N D e w := h
theorem ta28 {w : World} {u : Value} {s : ByteArray} {lim : Nat} (h : UnderAt w u s lim) : ∃ x : Value, ∀ w', (Instr.typeAssert u 28 152 true).run Tryz.prog w' = .ok (.tuple #[x, .bool (decide (bkV u = 2))]) w' := by
  rcases h with ⟨b, rfl, _⟩ | ⟨b, rfl, _⟩
  · exact ⟨.pointer none, fun w' => by kernel_rfl⟩
  · exact ⟨.pointer (some ⟨b, 0, none⟩), fun w' => by kernel_rfl⟩
theorem bkV_two {w : World} {u : Value} {s : ByteArray} {lim : Nat} (h : UnderAt w u s lim) : bkV u = 1 ∨ bkV u = 2 := by
  rcases h with ⟨b, rfl, _⟩ | ⟨b, rfl, _⟩
  · exact .inl rfl
  · exact .inr rfl
theorem Ow.Res.typeAssert {P : Program} {e : Env} {w : World} {o : Oper} {x : Operand} {vx v : Value} {T A : TypeId} {c : Bool} (ho : o.op = .typeAssert x T A c) (hx : ev e x = some vx) (hr : ∀ w', (Instr.typeAssert vx T A c).run P w' = .ok v w') : Ow.Res P e o w (.ok (.value v) w) := fun a h => by
  unfold execOp; rw [ho]; simp only [ev_eval h hx, Sem.run_bind, hr, Result.andThen, Sem.run_pure]
theorem eqi75 (a b c : Int) (w : World) : (Op.equalIn (9999 + 1) 75 (.agg #[.int .i64 a, .int .i64 b, .int .i64 c]) (.agg #[.int .i64 a, .int .i64 b, .int .i64 c])).run Tryz.prog w = .ok true w := by
  rw [show true = (a == a && (b == b && c == c)) by simp]
  refine eqA_of Tryz.underlying75 (by kernel_rfl) ?_
  refine eqf_cons rfl (a := .int .i64 a) (b := .int .i64 a) (by kernel_rfl) (by kernel_rfl) (run_equalIn_int w _ _ _ _ _ _ Tryz.underlying3) ?_
  refine eqf_cons rfl (a := .int .i64 b) (b := .int .i64 b) (by kernel_rfl) (by kernel_rfl) (run_equalIn_int w _ _ _ _ _ _ Tryz.underlying3) ?_
  exact eqf_last rfl (a := .int .i64 c) (b := .int .i64 c) (by kernel_rfl) (by kernel_rfl) (run_equalIn_int w _ _ _ _ _ _ Tryz.underlying3)
theorem Ow.Res.eql75 {e : Env} {o : Oper} {w : World} {x y : Operand} {a b c : Int} (ho : o.op = .binOp .eql 75 x y 75) (hx : ev e x = some (.agg #[.int .i64 a, .int .i64 b, .int .i64 c])) (hy : ev e y = some (.agg #[.int .i64 a, .int .i64 b, .int .i64 c])) : Ow.Res Tryz.prog e o w (.ok (.value (.bool true)) w) :=
  .bin ho hx hy (run_eqGuard_agg w _ _ _ _ _ _ (by kernel_rfl)) (by
    rw [run_eql_struct, show (10000 : Nat) = 9999 + 1 from rfl]
    exact (congrArg (fun r : Result Bool => r.andThen (fun b w' => Result.ok (Value.bool b) w')) (eqi75 a b c w)).trans rfl)

set_option maxRecDepth 20000 in
set_option maxHeartbeats 400000 in
theorem store_backend (b : Nat) (u : Value) (k lo tp mv fo ed : Int) (lim : Nat) (s : ByteArray) (w : World) (hG : Good w) (on : w.heap[b]? = some (stO u k lo tp lim mv fo ed)) (hu : UnderAt w u s lim) :
    Calls Tryz.prog 44 #[.pointer (some ⟨b, 0, none⟩)] w fun e w' => e = .returned (.int .i64 (bkV u)) ∧ Below w.heap.size w w' := by
  obtain ⟨tx, htx⟩ := ta28 hu
  have hb2 := bkV_two hu
  have hO0 := Own.start hG
  refine enter Tryz.func44 rfl rfl rfl 0 ?_
  refine SC.sr ?_
  refine SO.as ?_
  refine SO.nn ?_
  refine SC.seq ?_
  refine SC.sr ?_
  refine SO.mv ?_
  refine SO.call rfl rfl rfl rfl (.callF rfl rfl en93) (under_any b u k lo tp mv fo ed lim s _ (hO0.good hG) (hO0.heapO trivial on) (hu.below (hO0.toBelow trivial))) ?_
  rintro _ w1 ⟨rfl, hb1⟩
  have hO1 := hO0.below hb1
  refine ⟨_, rfl, ?_⟩
  refine SO.nn ?_
  refine SC.block ?_
  refine SC.sr ?_
  refine SO.v (.typeAssert rfl rfl htx) ?_
  refine SO.v (.extract rfl rfl rfl) ?_
  refine SO.v (.extract rfl rfl rfl) ?_
  refine SO.nn ?_
  refine SC.dec rfl (fun c2 => ?_) (fun c2 => ?_)
  ·
   have hbv : bkV u = 2 := c2
   refine SC.sr ?_
   refine SO.as ?_
   refine SO.nn ?_
   refine SC.ret ?_
   refine SQ.block_ret ?_
   refine SQ.then_ret ?_
   refine SQ.out (.inl rfl) (res1 rfl rfl) ?_
   rw [hbv]
   exact ⟨rfl, hO1.toBelow trivial⟩
  ·
   have hbv : bkV u = 1 := by omega
   refine SC.skip ?_
   refine SQ.block_normal ?_
   refine SQ.then_normal ?_
   refine SC.sr ?_
   refine SO.as ?_
   refine SO.nn ?_
   refine SC.ret ?_
   refine SQ.out (.inl rfl) (res1 rfl rfl) ?_
   rw [hbv]
   exact ⟨rfl, hO1.toBelow trivial⟩

set_option maxRecDepth 20000 in
set_option maxHeartbeats 400000 in
theorem store_counts (b : Nat) (u : Value) (k lo tp mv fo ed : Int) (lim : Nat) (_s : ByteArray) (w : World) (hG : Good w) (on : w.heap[b]? = some (stO u k lo tp lim mv fo ed)) :
    Calls Tryz.prog 45 #[.pointer (some ⟨b, 0, none⟩)] w fun e w' => e = .returned (.agg #[.int .i64 mv, .int .i64 fo, .int .i64 ed]) ∧ Below w.heap.size w w' := by
  have hO0 := Own.start hG
  refine enter Tryz.func45 rfl rfl rfl 0 ?_
  refine SC.sr ?_
  refine SO.alloc hO0 rfl rfl rfl rfl zv75 [_, _, _] rfl ?_
  intro b1 w1 hb1 hO1
  refine SO.nn ?_
  refine SC.seq ?_
  refine SC.sr ?_
  refine SO.mv ?_
  refine SO.v (.ptrEq (b := false) rfl rfl rfl Tryz.underlying56 rfl) ?_
  refine SO.nn ?_
  refine SC.no rfl ?_
  refine SC.skip ?_
  refine SQ.then_normal ?_
  refine SC.sr ?_
  refine SO.mv ?_
  refine SO.v (.nilCheck rfl rfl) ?_
  refine SO.v (.fieldAddr rfl rfl fa103_5) ?_
  refine SO.v (.loadB [_, _, _] rfl rfl ag75 sz75 (hO1.heapO ⟨hb1, trivial⟩ on) rfl rfl) ?_
  refine SO.store hO1 (i := 0) rfl rfl rfl rfl rfl rfl sz75 rfl rfl [(_, .cells [_, _, _].toArray _ _)] rfl ?_
  intro w2 hO2
  refine SO.nn ?_
  refine SC.ret ?_
  refine SQ.out (.inl rfl) (resC [_, _, _] rfl rfl ag75 sz75 (hO2.at (i := 0) rfl) rfl rfl) ?_
  exact ⟨rfl, hO2.toBelow ⟨hb1, trivial⟩⟩

theorem mi56_Keep : ∀ v w, (Instr.makeInterface 56 v).run Tryz.prog w = .ok (.iface 56 v) w := fun _ _ => by kernel_rfl
set_option maxRecDepth 20000 in
set_option maxHeartbeats 400000 in
theorem keeps_any (s : ByteArray) (k n ln cl : Int) (w : World) (hG : Good w) :
    Calls Tryz.prog 10 #[.agg #[.string s, .int .i64 k], .int .i64 n, .agg #[.int .i64 ln, .int .i64 cl]] w fun e w' => e = .returned (.bool true) ∧ Below w.heap.size w w' := by
  have hh : held 1073741824 = 1073741824 := by decide
  have hO0 := Own.start hG
  refine enterM Tryz.func10 rfl rfl rfl 5 ?_
  refine SC.sr ?_
  refine SO.box hO0 rfl rfl rfl rfl rfl [_, _] rfl ?_
  intro b1 w1 hb1 hO1
  refine SO.box hO1 rfl rfl rfl rfl rfl [_, _] rfl ?_
  intro b2 w2 hb2 hO2
  refine SO.as ?_
  refine SO.nn ?_
  refine SC.seq ?_
  refine SC.sr ?_
  refine SO.call rfl rfl rfl rfl (.callF rfl rfl en21) (awake_any _ (hO2.good hG)) ?_
  rintro _ w3 ⟨rfl, hb3⟩
  have hO3 := hO2.below hb3
  refine ⟨_, rfl, ?_⟩
  refine SO.v (.not rfl rfl) ?_
  refine SO.nn ?_
  refine SC.no rfl ?_
  refine SC.skip ?_
  refine SQ.then_normal ?_
  refine SC.seq ?_
  refine SC.sr ?_
  refine SO.v (.fieldAddr rfl rfl fa23_0) ?_
  refine SO.v (.load rfl rfl ag9 (cell_of' (hO3.at (i := 1) rfl) rfl)) ?_
  refine SO.v (.lenS rfl rfl Tryz.underlying9) ?_
  refine SO.v (.gtr rfl rfl rfl) ?_
  refine SO.nn ?_
  refine SC.dec rfl (fun c4 => ?_) (fun c4 => ?_)
  ·
   refine SC.sr ?_
   refine SO.as ?_
   refine SO.nn ?_
   refine SC.ret ?_
   refine SQ.then_ret ?_
   refine SQ.outM [] hO3 (fun _ h => by cases h) (.inl rfl) (fun w5 hO5 => ⟨_, res1 (t := 6) rfl rfl, ?_⟩)
   have hEE := hO5.toBelow ⟨hb2, hb1, trivial⟩
   exact ⟨rfl, hEE⟩
  ·
   refine SC.skip ?_
   refine SQ.then_normal ?_
   refine SC.sr ?_
   refine SO.v (.fieldAddr rfl rfl fa23_1) ?_
   refine SO.v (.load rfl rfl ag3 (cell_of' (hO3.at (i := 1) rfl) rfl)) ?_
   refine SO.v (.fieldAddr rfl rfl fa23_0) ?_
   refine SO.v (.load rfl rfl ag9 (cell_of' (hO3.at (i := 1) rfl) rfl)) ?_
   refine SO.call rfl rfl rfl rfl (.callF rfl rfl en43) (store_new _ _ _ _ s _ (hO3.good hG) (by omega)) ?_
   rintro _ w6 hsn
   rw [hh] at hsn
   rcases hsn with ⟨_, hlt, _⟩ | ⟨bs, u, kd, tp, rfl, hbs, hle, hst0, hu, _, _, _, hb6⟩
   · omega
   have hOb := hO3.below hb6
   have q0 := hOb.at (i := 0) rfl
   have q1 := hOb.at (i := 1) rfl
   have hGb := hOb.good hG
   have hBb := hOb.toBelow ⟨hb2, hb1, trivial⟩
   have hsa : TextAt _ (.iface 56 (.pointer (some ⟨bs, 0, none⟩))) s := .inr ⟨bs, 1073741824, rfl, u, kd, _, tp, 0, 0, 0, hst0, hu⟩
   have hO6 := Own.start hGb
   refine ⟨_, rfl, ?_⟩
   refine SO.mv ?_
   refine SO.v (.extract rfl rfl rfl) ?_
   refine SO.v (.extract rfl rfl rfl) ?_
   refine SO.as ?_
   refine SO.as ?_
   refine SO.nn ?_
   refine SC.seq ?_
   refine SC.sr ?_
   refine SO.mv ?_
   refine SO.v (decF (.neq rfl rfl rfl) (by omega)) ?_
   refine SO.mv ?_
   refine SO.mv ?_
   refine SO.v (.ptrEq (b := false) rfl rfl rfl Tryz.underlying56 rfl) ?_
   refine SO.v (.pickF rfl rfl rfl) ?_
   refine SO.nn ?_
   refine SC.no rfl ?_
   refine SC.skip ?_
   refine SQ.then_normal ?_
   refine SC.sr ?_
   refine SO.mv ?_
   refine SO.call rfl rfl rfl rfl (.callF rfl rfl en44) (store_backend bs u _ _ _ _ _ _ _ s _ (hO6.good hGb) (hO6.heapO trivial hst0) (hu.below (hO6.toBelow trivial))) ?_
   rintro _ w7 ⟨rfl, hb7⟩
   have hO7 := hO6.below hb7
   refine ⟨_, rfl, ?_⟩
   refine SO.as ?_
   refine SO.nn ?_
   refine SC.sr ?_
   refine SO.mv ?_
   refine SO.call rfl rfl rfl rfl (.callF rfl rfl en45) (store_counts bs u _ _ _ _ _ _ _ s _ (hO7.good hGb) (hO7.heapO trivial hst0)) ?_
   rintro _ w8 ⟨rfl, hb8⟩
   have hO8 := hO7.below hb8
   refine ⟨_, rfl, ?_⟩
   refine SO.alloc hO8 rfl rfl rfl rfl zv75 [_, _, _] rfl ?_
   intro b9 w9 hb9 hO9
   refine SO.store hO9 (i := 0) rfl rfl rfl rfl rfl rfl sz75 rfl rfl [(_, .cells [_, _, _].toArray _ _)] rfl ?_
   intro w10 hO10
   refine SO.nn ?_
   refine SC.sr ?_
   refine SO.mv ?_
   refine SO.v (.iface rfl rfl mi56_Keep) ?_
   refine SO.call rfl rfl rfl rfl (.callF rfl rfl en29) (lines_count (.iface 56 (.pointer (some ⟨bs, 0, none⟩))) s  _ (hO10.good hGb) (hsa.below (hO10.toBelow ⟨hb9, trivial⟩))) ?_
   rintro _ w11 ⟨rfl, hb11⟩
   have hO11 := hO10.below hb11
   refine ⟨_, rfl, ?_⟩
   refine SO.nn ?_
   refine SC.sr ?_
   refine SO.mv ?_
   refine SO.v (.iface rfl rfl mi56_Keep) ?_
   refine SO.mv ?_
   refine SO.call rfl rfl rfl rfl (.callF rfl rfl en27) (lines_of (.iface 56 (.pointer (some ⟨bs, 0, none⟩))) s _ _ (hO11.good hGb) (hsa.below (hO11.toBelow ⟨hb9, trivial⟩))) ?_
   rintro _ w12 ⟨rfl, hb12⟩
   have hO12 := hO11.below hb12
   refine ⟨_, rfl, ?_⟩
   refine SO.nn ?_
   refine SC.sr ?_
   refine SO.mv ?_
   refine SO.v (.iface rfl rfl mi56_Keep) ?_
   refine SO.mv ?_
   refine SO.call rfl rfl rfl rfl (.callF rfl rfl en28) (lines_span (.iface 56 (.pointer (some ⟨bs, 0, none⟩))) s _ _ (hO12.good hGb) (hsa.below (hO12.toBelow ⟨hb9, trivial⟩))) ?_
   rintro _ w13 ⟨rfl, hb13⟩
   have hO13 := hO12.below hb13
   refine ⟨_, rfl, ?_⟩
   refine SO.nn ?_
   refine SC.sr ?_
   refine SO.mv ?_
   refine SO.v (.iface rfl rfl mi56_Keep) ?_
   refine SO.mv ?_
   refine SO.call rfl rfl rfl rfl (.callF rfl rfl en35) (lines_line (.iface 56 (.pointer (some ⟨bs, 0, none⟩))) s _ _ (hO13.good hGb) (hsa.below (hO13.toBelow ⟨hb9, trivial⟩))) ?_
   rintro _ w14 ⟨rfl, hb14⟩
   have hO14 := hO13.below hb14
   refine ⟨_, rfl, ?_⟩
   refine SO.nn ?_
   refine SC.sr ?_
   refine SO.mv ?_
   refine SO.v (.iface rfl rfl mi56_Keep) ?_
   refine SO.mv ?_
   refine SO.call rfl rfl rfl rfl (.callF rfl rfl en23) (lines_column (.iface 56 (.pointer (some ⟨bs, 0, none⟩))) s _ _ (hO14.good hGb) (hsa.below (hO14.toBelow ⟨hb9, trivial⟩))) ?_
   rintro _ w15 ⟨rfl, hb15⟩
   have hO15 := hO14.below hb15
   refine ⟨_, rfl, ?_⟩
   refine SO.nn ?_
   refine SC.sr ?_
   refine SO.mv ?_
   refine SO.v (.iface rfl rfl mi56_Keep) ?_
   refine SO.v (.fieldAddr rfl rfl fa37_0) ?_
   refine SO.v (.load rfl rfl ag3 (cell_of' (hO15.heapO ⟨hb9, trivial⟩ q0) rfl)) ?_
   refine SO.v (.fieldAddr rfl rfl fa37_1) ?_
   refine SO.v (.load rfl rfl ag3 (cell_of' (hO15.heapO ⟨hb9, trivial⟩ q0) rfl)) ?_
   refine SO.call rfl rfl rfl rfl (.callF rfl rfl en25) (lines_at (.iface 56 (.pointer (some ⟨bs, 0, none⟩))) s _ _ _ (hO15.good hGb) (hsa.below (hO15.toBelow ⟨hb9, trivial⟩))) ?_
   rintro _ w16 ⟨rfl, hb16⟩
   have hO16 := hO15.below hb16
   refine ⟨_, rfl, ?_⟩
   refine SO.nn ?_
   refine SC.sr ?_
   refine SO.mv ?_
   refine SO.v (.iface rfl rfl mi56_Keep) ?_
   refine SO.call rfl rfl rfl rfl (.callF rfl rfl en46) (lines_lines (.iface 56 (.pointer (some ⟨bs, 0, none⟩))) s _ (hO16.good hGb) (hsa.below (hO16.toBelow ⟨hb9, trivial⟩))) ?_
   rintro _ w17 ⟨bi, rfl, hbi, hcap, hb17⟩
   have hO17 := hO16.below hb17
   refine ⟨_, rfl, ?_⟩
   refine SO.as ?_
   refine SO.nn ?_
   refine SC.seq ?_
   refine SC.sr ?_
   refine SO.mv ?_
   refine SO.v (.funcNil rfl rfl rfl) ?_
   refine SO.nn ?_
   refine SC.no rfl ?_
   refine SC.skip ?_
   refine SQ.then_normal ?_
   refine SC.seq ?_
   refine SC.sr ?_
   refine SO.mv ?_
   refine SO.nn ?_
   refine SC.block ?_
   have hlt18 : ∀ b ∈ [b9], b < w17.heap.size := hO17.ltN
   have hsz18 := hO17.size
   refine SC.range (α := Int × Int × Int) (β := Unit) hO17 rfl en94 (encs := encL) (by omega) (lines_stops (.iface 56 (.pointer (some ⟨bs, 0, none⟩))) s bi _ _ (hO17.good hGb) hcap (hsa.below (hO17.toBelow ⟨hb9, trivial⟩))) KpB.trans (fun W l o1 o2 hl hx hc _ => KpB.put (Nat.le_trans hO17.base hO17.size) W l o1 o2 hl hx hc) (fun _ => rfl) (by decide) (fun _ => [(b9, .cells #[.int .i64 0, .int .i64 0, .int .i64 0] 75 (0, 0))]) (fun c _ => c = .exit 0) (fun _ _ => [(b9, .cells #[.int .i64 0, .int .i64 0, .int .i64 0] 75 (0, 0))]) rfl (fun _ => rfl) (fun _ _ _ => rfl) (fun _ _ => []) (fun _ _ _ => True) (fun _ _ _ _ _ _ h _ _ => h) ?_ ?_ ?_ ?_
   · intro l pre x W hI hW
     have hA18 := hI.adopt
     refine SC.skip ?_
     have hE := hA18
     exact SQ.assigned () trivial trivial (hE.keeps (namesLt rfl hlt18)) (KpB.of_own hE (namesLt rfl hlt18)) (hI.comp hE rfl)
   · intro l pre x u W hI hW hM hlen
     have hB18 := hI.adopt
     refine SC.block ?_
     refine SC.exit ?_
     refine SQ.block_pass rfl ?_
     have hE := hB18
     exact SQ.breaks (hE.keeps (namesLt rfl hlt18)) rfl (hI.comp hE rfl)
   · intro d19 xs W hd19 hS hO19
     subst hS
     refine SQ.block_normal ?_
     refine SQ.then_normal ?_
     refine SC.seq ?_
     refine SC.np ?_
     refine SC.drawO mixed hO19 (fun hO20 => ?_)
     refine SA.tm 0 rfl hO20 ?_
     refine SA.tk 2 rfl hO20 (fun v hv => .fieldAddr rfl rfl fa23_0) ?_
     refine SA.tk 3 rfl hO20 (fun v hv => .load rfl rfl ag9 (cell_of' (hv.heapO ⟨hd19, hb9, trivial⟩ q1) rfl)) ?_
     refine SA.one 1 (by kernel_rfl) ?_
     refine SB.call rfl rfl rfl rfl (.callF rfl rfl en47) (store_text bs s 1073741824 _ (hO20.good hGb) (StoreAt.below ⟨u, kd, _, tp, 0, 0, 0, hst0, hu⟩ (hO20.toBelow ⟨hd19, hb9, trivial⟩))) ?_
     rintro _ w21 ⟨rfl, hb21⟩
     have hO21 := hO20.below hb21
     refine ⟨_, rfl, hO21, ?_⟩
     refine SA.tk 4 rfl hO21 (fun v hv => decT (.strEq rfl rfl rfl) rfl) ?_
     refine SA.tm 5 rfl hO21 ?_
     refine SA.tm 6 rfl hO21 ?_
     refine SA.tm 8 rfl hO21 ?_
     refine SA.one 7 (by kernel_rfl) ?_
     refine SB.call rfl rfl rfl rfl (.callF rfl rfl en44) (store_backend bs u _ _ _ _ _ _ _ s _ (hO21.good hGb) (hO21.heapO ⟨hd19, hb9, trivial⟩ hst0) (hu.below (hO21.toBelow ⟨hd19, hb9, trivial⟩))) ?_
     rintro _ w22 ⟨rfl, hb22⟩
     have hO22 := hO21.below hb22
     refine ⟨_, rfl, hO22, ?_⟩
     refine SA.tk 9 rfl hO22 (fun v hv => decT (.eql rfl rfl rfl) rfl) ?_
     refine SA.tk 10 rfl hO22 (fun v hv => .pickT rfl rfl rfl) ?_
     refine SA.tm 11 rfl hO22 ?_
     refine SA.tm 12 rfl hO22 ?_
     refine SA.tk 14 rfl hO22 (fun v hv => .loadB [_, _, _] rfl rfl ag75 sz75 (hv.at (i := 1) rfl) rfl rfl) ?_
     refine SA.one 13 (by kernel_rfl) ?_
     refine SB.call rfl rfl rfl rfl (.callF rfl rfl en45) (store_counts bs u _ _ _ _ _ _ _ s _ (hO22.good hGb) (hO22.heapO ⟨hd19, hb9, trivial⟩ hst0)) ?_
     rintro _ w23 ⟨rfl, hb23⟩
     have hO23 := hO22.below hb23
     refine ⟨_, rfl, hO23, ?_⟩
     refine SA.tk 15 rfl hO23 (fun v hv => .eql75 rfl rfl rfl) ?_
     refine SA.tk 16 rfl hO23 (fun v hv => .pickT rfl rfl rfl) ?_
     refine SA.ta 17 rfl hO23 ?_
     refine SA.done (by kernel_rfl) (SQ.np ?_)
     refine SQ.then_normal ?_
     refine SC.ret ?_
     refine SQ.outM [d19] hO23 (List.forall_mem_cons.2 ⟨hd19, fun _ h => by cases h⟩) (.inl rfl) (fun w24 hO24 => ⟨_, res1 (t := 6) rfl rfl, ?_⟩)
     have hEE := hO24.toBelow ⟨hb9, trivial⟩
     exact ⟨rfl, hBb.trans (hEE.mono hBb.size)⟩
   · intro d25 c pre W hd25 hSp hX hO25
     subst hX
     refine SC.exit ?_
     refine SQ.block_exit ?_
     refine SQ.then_normal ?_
     refine SC.seq ?_
     refine SC.np ?_
     refine SC.drawO mixed hO25 (fun hO26 => ?_)
     refine SA.tm 0 rfl hO26 ?_
     refine SA.tk 2 rfl hO26 (fun v hv => .fieldAddr rfl rfl fa23_0) ?_
     refine SA.tk 3 rfl hO26 (fun v hv => .load rfl rfl ag9 (cell_of' (hv.heapO ⟨hd25, hb9, trivial⟩ q1) rfl)) ?_
     refine SA.one 1 (by kernel_rfl) ?_
     refine SB.call rfl rfl rfl rfl (.callF rfl rfl en47) (store_text bs s 1073741824 _ (hO26.good hGb) (StoreAt.below ⟨u, kd, _, tp, 0, 0, 0, hst0, hu⟩ (hO26.toBelow ⟨hd25, hb9, trivial⟩))) ?_
     rintro _ w27 ⟨rfl, hb27⟩
     have hO27 := hO26.below hb27
     refine ⟨_, rfl, hO27, ?_⟩
     refine SA.tk 4 rfl hO27 (fun v hv => decT (.strEq rfl rfl rfl) rfl) ?_
     refine SA.tm 5 rfl hO27 ?_
     refine SA.tm 6 rfl hO27 ?_
     refine SA.tm 8 rfl hO27 ?_
     refine SA.one 7 (by kernel_rfl) ?_
     refine SB.call rfl rfl rfl rfl (.callF rfl rfl en44) (store_backend bs u _ _ _ _ _ _ _ s _ (hO27.good hGb) (hO27.heapO ⟨hd25, hb9, trivial⟩ hst0) (hu.below (hO27.toBelow ⟨hd25, hb9, trivial⟩))) ?_
     rintro _ w28 ⟨rfl, hb28⟩
     have hO28 := hO27.below hb28
     refine ⟨_, rfl, hO28, ?_⟩
     refine SA.tk 9 rfl hO28 (fun v hv => decT (.eql rfl rfl rfl) rfl) ?_
     refine SA.tk 10 rfl hO28 (fun v hv => .pickT rfl rfl rfl) ?_
     refine SA.tm 11 rfl hO28 ?_
     refine SA.tm 12 rfl hO28 ?_
     refine SA.tk 14 rfl hO28 (fun v hv => .loadB [_, _, _] rfl rfl ag75 sz75 (hv.at (i := 1) rfl) rfl rfl) ?_
     refine SA.one 13 (by kernel_rfl) ?_
     refine SB.call rfl rfl rfl rfl (.callF rfl rfl en45) (store_counts bs u _ _ _ _ _ _ _ s _ (hO28.good hGb) (hO28.heapO ⟨hd25, hb9, trivial⟩ hst0)) ?_
     rintro _ w29 ⟨rfl, hb29⟩
     have hO29 := hO28.below hb29
     refine ⟨_, rfl, hO29, ?_⟩
     refine SA.tk 15 rfl hO29 (fun v hv => .eql75 rfl rfl rfl) ?_
     refine SA.tk 16 rfl hO29 (fun v hv => .pickT rfl rfl rfl) ?_
     refine SA.ta 17 rfl hO29 ?_
     refine SA.done (by kernel_rfl) (SQ.np ?_)
     refine SQ.then_normal ?_
     refine SC.ret ?_
     refine SQ.outM [d25] hO29 (List.forall_mem_cons.2 ⟨hd25, fun _ h => by cases h⟩) (.inl rfl) (fun w30 hO30 => ⟨_, res1 (t := 6) rfl rfl, ?_⟩)
     have hEE := hO30.toBelow ⟨hb9, trivial⟩
     exact ⟨rfl, hBb.trans (hEE.mono hBb.size)⟩

end Go.Proofs.YtclgplkkajfenaaGreatDoor
