/- keep, awake; pieces of texts, lines, columns. -/
import Derived.Test.YtclgplkkajfenaaGreatDoorLins
import Derived.Test.YtclgplkkajfenaaGreatDoorUnits
/- keep. -/
namespace Go.Proofs.YtclgplkkajfenaaGreatDoor
open Go Go.RowKit Ow
theorem mi56_Law : ∀ v w, (Instr.makeInterface 56 v).run Tryz.prog w = .ok (.iface 56 v) w := fun _ _ => by kernel_rfl
theorem mi57_Law : ∀ v w, (Instr.makeInterface 57 v).run Tryz.prog w = .ok (.iface 57 v) w := fun _ _ => by kernel_rfl
set_option maxRecDepth 20000 in
set_option maxHeartbeats 400000 in
theorem keep_any (s : ByteArray) (k : Int) (w : World) (hG : Good w) (hz : s.size ≤ 1073741824) :
    Calls Tryz.prog 22 #[.agg #[.string s, .int .i64 k]] w fun e w' => ∃ v, e = .returned (.tuple #[v, .bool true]) ∧ TextAt w' v s ∧ Below w.heap.size w w' := by
  have hh : held 1073741824 = 1073741824 := by decide
  have hO0 := Own.start hG
  refine enter Tryz.func22 rfl rfl rfl 0 ?_
  refine SC.sr ?_
  refine SO.box hO0 rfl rfl rfl rfl rfl [_, _] rfl ?_
  intro b1 w1 hb1 hO1
  refine SO.as ?_
  refine SO.as ?_
  refine SO.nn ?_
  refine SC.seq ?_
  refine SC.sr ?_
  refine SO.v (.fieldAddr rfl rfl fa23_1) ?_
  refine SO.v (.load rfl rfl ag3 (cell_of' (hO1.at (i := 0) rfl) rfl)) ?_
  refine SO.v (.eql rfl rfl rfl) ?_
  refine SO.nn ?_
  refine SC.dec rfl (fun c2 => ?_) (fun c2 => ?_)
  ·
   refine SC.sr ?_
   refine SO.v (.fieldAddr rfl rfl fa23_0) ?_
   refine SO.v (.load rfl rfl ag9 (cell_of' (hO1.at (i := 0) rfl) rfl)) ?_
   refine SO.call rfl rfl rfl rfl (.callF rfl rfl en40) (gap_new _ _ _ (hO1.good hG)) ?_
   rintro _ w3 hgn
   rw [hh] at hgn
   rcases hgn with ⟨_, hlt, _⟩ | ⟨bg, rfl, hbg, hga, _, hb3⟩
   · omega
   have hOb := hO1.below hb3
   have hbx := hOb.at (i := 0) rfl
   have hGb := hOb.good hG
   have hBb := hOb.toBelow ⟨hb1, trivial⟩
   have hO3 := Own.start hGb
   refine ⟨_, rfl, ?_⟩
   refine SO.mv ?_
   refine SO.v (.extract rfl rfl rfl) ?_
   refine SO.v (.extract rfl rfl rfl) ?_
   refine SO.as ?_
   refine SO.as ?_
   refine SO.nn ?_
   refine SC.seq ?_
   refine SC.seq ?_
   refine SC.drawO mixed hO3 (fun hO4 => ?_)
   refine SA.tm 0 rfl hO4 ?_
   refine SA.tk 1 rfl hO4 (fun v hv => decF (.neq rfl rfl rfl) (by omega)) ?_
   refine SA.tm 2 rfl hO4 ?_
   refine SA.tm 3 rfl hO4 ?_
   refine SA.tk 4 rfl hO4 (fun v hv => .ptrEq (b := false) rfl rfl rfl Tryz.underlying57 rfl) ?_
   refine SA.tk 5 rfl hO4 (fun v hv => .pickF rfl rfl rfl) ?_
   refine SA.tm 6 rfl hO4 ?_
   refine SA.tm 7 rfl hO4 ?_
   refine SA.tk 9 rfl hO4 (fun v hv => .fieldAddr rfl rfl fa23_0) ?_
   refine SA.tk 10 rfl hO4 (fun v hv => .load rfl rfl ag9 (cell_of' (hv.heapO trivial hbx) rfl)) ?_
   refine SA.one 8 (by kernel_rfl) ?_
   refine SB.call rfl rfl rfl rfl (.callF rfl rfl en75) (gap_text bg s _ _ (hO4.good hGb) (hga.below (hO4.toBelow trivial))) ?_
   rintro _ w5 ⟨rfl, hb5⟩
   have hO5 := hO4.below hb5
   refine ⟨_, rfl, hO5, ?_⟩
   refine SA.tk 11 rfl hO5 (fun v hv => decF (.strNe rfl rfl rfl) (fun h => h rfl)) ?_
   refine SA.tk 12 rfl hO5 (fun v hv => .pickF rfl rfl rfl) ?_
   refine SA.done (by kernel_rfl) ?_
   refine SQ.then_normal ?_
   refine SC.no rfl ?_
   refine SC.skip ?_
   refine SQ.then_normal ?_
   refine SC.sr ?_
   refine SO.mv ?_
   refine SO.v (.iface rfl rfl mi57_Law) ?_
   refine SO.as ?_
   refine SO.as ?_
   refine SO.nn ?_
   refine SC.ret ?_
   refine SQ.then_ret ?_
   refine SQ.out (.inl rfl) (res2 rfl rfl rfl) ?_
   have hE := hO5.toBelow trivial
   exact ⟨_, rfl, .inl ⟨bg, _, rfl, hga.below hE⟩, hBb.trans (hE.mono hBb.size)⟩
  ·
   refine SC.skip ?_
   refine SQ.then_normal ?_
   refine SC.sr ?_
   refine SO.v (.fieldAddr rfl rfl fa23_1) ?_
   refine SO.v (.load rfl rfl ag3 (cell_of' (hO1.at (i := 0) rfl) rfl)) ?_
   refine SO.v (.fieldAddr rfl rfl fa23_0) ?_
   refine SO.v (.load rfl rfl ag9 (cell_of' (hO1.at (i := 0) rfl) rfl)) ?_
   refine SO.call rfl rfl rfl rfl (.callF rfl rfl en43) (store_new _ _ _ _ _ _ (hO1.good hG) (by omega)) ?_
   rintro _ w7 hsn
   rw [hh] at hsn
   rcases hsn with ⟨_, hlt, _⟩ | ⟨bs2_Law, u, kd, tp, rfl, hbs2, hle, hst, hu, _, _, _, hb7⟩
   · omega
   have hOb := hO1.below hb7
   have hbx := hOb.at (i := 0) rfl
   have hGb := hOb.good hG
   have hBb := hOb.toBelow ⟨hb1, trivial⟩
   have hO7 := Own.start hGb
   have hsa : StoreAt _ bs2_Law s 1073741824 := ⟨u, kd, _, tp, 0, 0, 0, hst, hu⟩
   refine ⟨_, rfl, ?_⟩
   refine SO.mv ?_
   refine SO.v (.extract rfl rfl rfl) ?_
   refine SO.v (.extract rfl rfl rfl) ?_
   refine SO.as ?_
   refine SO.as ?_
   refine SO.nn ?_
   refine SC.seq ?_
   refine SC.seq ?_
   refine SC.drawO mixed hO7 (fun hO8 => ?_)
   refine SA.tm 0 rfl hO8 ?_
   refine SA.tk 1 rfl hO8 (fun v hv => decF (.neq rfl rfl rfl) (by omega)) ?_
   refine SA.tm 2 rfl hO8 ?_
   refine SA.tm 3 rfl hO8 ?_
   refine SA.tk 4 rfl hO8 (fun v hv => .ptrEq (b := false) rfl rfl rfl Tryz.underlying56 rfl) ?_
   refine SA.tk 5 rfl hO8 (fun v hv => .pickF rfl rfl rfl) ?_
   refine SA.tm 6 rfl hO8 ?_
   refine SA.tm 7 rfl hO8 ?_
   refine SA.tk 9 rfl hO8 (fun v hv => .fieldAddr rfl rfl fa23_0) ?_
   refine SA.tk 10 rfl hO8 (fun v hv => .load rfl rfl ag9 (cell_of' (hv.heapO trivial hbx) rfl)) ?_
   refine SA.one 8 (by kernel_rfl) ?_
   refine SB.call rfl rfl rfl rfl (.callF rfl rfl en47) (store_text bs2_Law s _ _ (hO8.good hGb) (hsa.below (hO8.toBelow trivial))) ?_
   rintro _ w9 ⟨rfl, hb9⟩
   have hO9 := hO8.below hb9
   refine ⟨_, rfl, hO9, ?_⟩
   refine SA.tk 11 rfl hO9 (fun v hv => decF (.strNe rfl rfl rfl) (fun h => h rfl)) ?_
   refine SA.tk 12 rfl hO9 (fun v hv => .pickF rfl rfl rfl) ?_
   refine SA.done (by kernel_rfl) ?_
   refine SQ.then_normal ?_
   refine SC.no rfl ?_
   refine SC.skip ?_
   refine SQ.then_normal ?_
   refine SC.sr ?_
   refine SO.mv ?_
   refine SO.v (.iface rfl rfl mi56_Law) ?_
   refine SO.as ?_
   refine SO.as ?_
   refine SO.nn ?_
   refine SC.ret ?_
   refine SQ.out (.inl rfl) (res2 rfl rfl rfl) ?_
   have hE := hO9.toBelow trivial
   exact ⟨_, rfl, .inr ⟨bs2_Law, _, rfl, hsa.below hE⟩, hBb.trans (hE.mono hBb.size)⟩

end Go.Proofs.YtclgplkkajfenaaGreatDoor
/- awake. -/
namespace Go.Proofs.YtclgplkkajfenaaGreatDoor
open Go Go.RowKit Ow
theorem eqi41 (a b c d : Int) (w : World) : (Op.equalIn (9999 + 1) 41 (.agg #[.int .i64 a, .int .i64 b]) (.agg #[.int .i64 c, .int .i64 d])).run Tryz.prog w = .ok (decide (a = c ∧ b = d)) w := by
  rw [show decide (a = c ∧ b = d) = (a == c && b == d) by rw [Bool.decide_and]; rfl]
  refine eqA_of Tryz.underlying41 (by kernel_rfl) ?_
  refine eqf_cons rfl (a := .int .i64 a) (b := .int .i64 c) (by kernel_rfl) (by kernel_rfl) (run_equalIn_int w _ _ _ _ _ _ Tryz.underlying3) ?_
  exact eqf_last rfl (a := .int .i64 b) (b := .int .i64 d) (by kernel_rfl) (by kernel_rfl) (run_equalIn_int w _ _ _ _ _ _ Tryz.underlying3)
theorem Ow.Res.eql41 {e : Env} {o : Oper} {w : World} {x y : Operand} {a b c d : Int} (ho : o.op = .binOp .eql 41 x y 41) (hx : ev e x = some (.agg #[.int .i64 a, .int .i64 b])) (hy : ev e y = some (.agg #[.int .i64 c, .int .i64 d])) : Ow.Res Tryz.prog e o w (.ok (.value (.bool (decide (a = c ∧ b = d)))) w) :=
  .bin ho hx hy (run_eqGuard_agg w _ _ _ _ _ _ (by kernel_rfl)) (by
    rw [run_eql_struct, show (10000 : Nat) = 9999 + 1 from rfl]
    exact (congrArg (fun r : Result Bool => r.andThen (fun b w' => Result.ok (Value.bool b) w')) (eqi41 a b c d w)).trans rfl)
theorem Ow.Res.neq41 {e : Env} {o : Oper} {w : World} {x y : Operand} {a b c d : Int} (ho : o.op = .binOp .neq 41 x y 41) (hx : ev e x = some (.agg #[.int .i64 a, .int .i64 b])) (hy : ev e y = some (.agg #[.int .i64 c, .int .i64 d])) : Ow.Res Tryz.prog e o w (.ok (.value (.bool (decide (¬ (a = c ∧ b = d))))) w) :=
  .bin ho hx hy (run_eqGuard_agg w _ _ _ _ _ _ (by kernel_rfl)) (by
    rw [run_neq_struct, show (10000 : Nat) = 9999 + 1 from rfl]
    refine (congrArg (fun r : Result Bool => r.andThen (fun b w' => Result.ok (Value.bool (!b)) w')) (eqi41 a b c d w)).trans ?_
    have e1 : (!decide (a = c ∧ b = d)) = decide (¬ (a = c ∧ b = d)) := by by_cases h : (a = c ∧ b = d) <;> simp [h]
    rw [← e1]; rfl)

def s0 : ByteArray := ⟨#[97, 98, 13, 10, 228, 184, 128, 99, 10, 10, 13]⟩
theorem aw0 : cNextI (bl ⟨#[97]⟩) 0 = 1 := by kernel_rfl
theorem aw1 : spF (bl s0) 1 = 4 := by kernel_rfl
theorem aw2 : spT (bl s0) 1 = 8 := by kernel_rfl
theorem aw3 : spE (bl s0) 1 = 0 := by kernel_rfl
theorem aw5 : ofE (bl s0) 7 = 0 := by kernel_rfl
theorem aw6 : ofN (bl s0) 10 = 3 := by kernel_rfl
theorem aw7 : nlC (bl s0) + 1 = 4 := by kernel_rfl
theorem aw9 : ofE (bl s0) 10 = 0 := by kernel_rfl
theorem aw4 : colR s0 7 = 2 := by kernel_rfl
theorem aw8 : atR s0 1 2 = 7 := by kernel_rfl

theorem bd23_0_1_Awk (x0 : ByteArray) (x1 : Int) : ∀ w, (Instr.build 23 [(0, .string x0), (1, .int .i64 x1)].toArray).run Tryz.prog w = .ok (.agg [.string x0, .int .i64 x1].toArray) w := fun _ => by kernel_rfl
theorem bd41_0_1_Awk (x0 : Int) (x1 : Int) : ∀ w, (Instr.build 41 [(0, .int .i64 x0), (1, .int .i64 x1)].toArray).run Tryz.prog w = .ok (.agg [.int .i64 x0, .int .i64 x1].toArray) w := fun _ => by kernel_rfl
set_option maxRecDepth 20000 in
set_option maxHeartbeats 400000 in
theorem awake_any (w : World) (hG : Good w) :
    Calls Tryz.prog 21 #[] w fun e w' => e = .returned (.bool true) ∧ Below w.heap.size w w' := by
  have hO0 := Own.start hG
  refine enter Tryz.func21 rfl rfl rfl 0 ?_
  refine SC.sr ?_
  refine SO.as ?_
  refine SO.nn ?_
  refine SC.seq ?_
  refine SC.sr ?_
  refine SO.call rfl rfl rfl rfl (.callF rfl rfl en30) ((by have h := cnext_any ⟨#[97]⟩ 0 _ (hO0.good hG) (by decide); rw [aw0] at h; exact h)) ?_
  rintro _ w1 ⟨rfl, hb1⟩
  have hO1 := hO0.below hb1
  refine ⟨_, rfl, ?_⟩
  refine SO.v (decF (.neq rfl rfl rfl) (by omega)) ?_
  refine SO.nn ?_
  refine SC.no rfl ?_
  refine SC.skip ?_
  refine SQ.then_normal ?_
  refine SC.sr ?_
  refine SO.v (.build rfl rfl (bd23_0_1_Awk _ _)) ?_
  refine SO.call rfl rfl rfl rfl (.callF rfl rfl en22) (keep_any s0 1 _ (hO1.good hG) (by decide)) ?_
  rintro _ w2 ⟨v, rfl, ht, hb2⟩
  have hOb := hO1.below hb2
  have hGb := hOb.good hG
  have hBb := hOb.toBelow trivial
  obtain ⟨tT, tx, rfl⟩ := ht.iface
  have hO2 := Own.start hGb
  refine ⟨_, rfl, ?_⟩
  refine SO.mv ?_
  refine SO.v (.extract rfl rfl rfl) ?_
  refine SO.v (.extract rfl rfl rfl) ?_
  refine SO.as ?_
  refine SO.as ?_
  refine SO.nn ?_
  refine SC.seq ?_
  refine SC.sr ?_
  refine SO.mv ?_
  refine SO.v (.not rfl rfl) ?_
  refine SO.nn ?_
  refine SC.no rfl ?_
  refine SC.skip ?_
  refine SQ.then_normal ?_
  refine SC.sr ?_
  refine SO.mv ?_
  refine SO.call rfl rfl rfl rfl (.callF rfl rfl en28) ((by have h := lines_span (.iface tT tx) s0 1 _ (hO2.good hGb) (ht.below (hO2.toBelow trivial)); rw [aw1, aw2, aw3] at h; exact h)) ?_
  rintro _ w3 ⟨rfl, hb3⟩
  have hO3 := hO2.below hb3
  refine ⟨_, rfl, ?_⟩
  refine SO.mv ?_
  refine SO.v (.extract rfl rfl rfl) ?_
  refine SO.v (.extract rfl rfl rfl) ?_
  refine SO.alloc hO3 rfl rfl rfl rfl zv41 [_, _] rfl ?_
  intro b4 w4 hb4 hO4
  refine SO.store hO4 (i := 0) rfl rfl rfl rfl rfl rfl sz41 rfl rfl [(_, .cells [_, _].toArray _ _)] rfl ?_
  intro w5 hO5
  refine SO.as ?_
  refine SO.nn ?_
  refine SC.sr ?_
  refine SO.mv ?_
  refine SO.call rfl rfl rfl rfl (.callF rfl rfl en23) ((by have h := lines_column (.iface tT tx) s0 7 _ (hO5.good hGb) (ht.below (hO5.toBelow ⟨hb4, trivial⟩)); rw [aw4, aw5] at h; exact h)) ?_
  rintro _ w6 ⟨rfl, hb6⟩
  have hO6 := hO5.below hb6
  refine ⟨_, rfl, ?_⟩
  refine SO.mv ?_
  refine SO.v (.extract rfl rfl rfl) ?_
  refine SO.v (.extract rfl rfl rfl) ?_
  refine SO.as ?_
  refine SO.as ?_
  refine SO.nn ?_
  refine SC.sr ?_
  refine SO.mv ?_
  refine SO.call rfl rfl rfl rfl (.callF rfl rfl en25) ((by have h := lines_at (.iface tT tx) s0 1 2 _ (hO6.good hGb) (ht.below (hO6.toBelow ⟨hb4, trivial⟩)); rw [aw8, aw3] at h; exact h)) ?_
  rintro _ w7 ⟨rfl, hb7⟩
  have hO7 := hO6.below hb7
  refine ⟨_, rfl, ?_⟩
  refine SO.mv ?_
  refine SO.v (.extract rfl rfl rfl) ?_
  refine SO.v (.extract rfl rfl rfl) ?_
  refine SO.as ?_
  refine SO.as ?_
  refine SO.nn ?_
  refine SC.sr ?_
  refine SO.mv ?_
  refine SO.call rfl rfl rfl rfl (.callF rfl rfl en27) ((by have h := lines_of (.iface tT tx) s0 10 _ (hO7.good hGb) (ht.below (hO7.toBelow ⟨hb4, trivial⟩)); rw [aw6, aw9] at h; exact h)) ?_
  rintro _ w8 ⟨rfl, hb8⟩
  have hO8 := hO7.below hb8
  refine ⟨_, rfl, ?_⟩
  refine SO.mv ?_
  refine SO.v (.extract rfl rfl rfl) ?_
  refine SO.v (.extract rfl rfl rfl) ?_
  refine SO.as ?_
  refine SO.as ?_
  refine SO.nn ?_
  refine SC.sr ?_
  refine SO.mv ?_
  refine SO.call rfl rfl rfl rfl (.callF rfl rfl en29) ((by have h := lines_count (.iface tT tx) s0 _ (hO8.good hGb) (ht.below (hO8.toBelow ⟨hb4, trivial⟩)); rw [aw7] at h; exact h)) ?_
  rintro _ w9 ⟨rfl, hb9⟩
  have hO9 := hO8.below hb9
  refine ⟨_, rfl, ?_⟩
  refine SO.v (decT (.eql rfl rfl rfl) (by omega)) ?_
  refine SO.mv ?_
  refine SO.v (.loadB [_, _] rfl rfl ag41 sz41 (hO9.at (i := 0) rfl) rfl rfl) ?_
  refine SO.v (.build rfl rfl (bd41_0_1_Awk _ _)) ?_
  refine SO.v (decT (.eql41 rfl rfl rfl) (by decide)) ?_
  refine SO.v (.pickT rfl rfl rfl) ?_
  refine SO.mv ?_
  refine SO.mv ?_
  refine SO.v (decT (.eql rfl rfl rfl) (by omega)) ?_
  refine SO.v (.pickT rfl rfl rfl) ?_
  refine SO.mv ?_
  refine SO.mv ?_
  refine SO.v (decT (.eql rfl rfl rfl) (by omega)) ?_
  refine SO.v (.pickT rfl rfl rfl) ?_
  refine SO.mv ?_
  refine SO.mv ?_
  refine SO.v (decT (.eql rfl rfl rfl) (by omega)) ?_
  refine SO.v (.pickT rfl rfl rfl) ?_
  refine SO.mv ?_
  refine SO.mv ?_
  refine SO.v (decT (.eql rfl rfl rfl) (by omega)) ?_
  refine SO.v (.pickT rfl rfl rfl) ?_
  refine SO.mv ?_
  refine SO.mv ?_
  refine SO.v (decT (.eql rfl rfl rfl) (by omega)) ?_
  refine SO.v (.pickT rfl rfl rfl) ?_
  refine SO.mv ?_
  refine SO.mv ?_
  refine SO.v (decT (.eql rfl rfl rfl) (by omega)) ?_
  refine SO.v (.pickT rfl rfl rfl) ?_
  refine SO.mv ?_
  refine SO.mv ?_
  refine SO.v (decT (.eql rfl rfl rfl) (by omega)) ?_
  refine SO.v (.pickT rfl rfl rfl) ?_
  refine SO.as ?_
  refine SO.nn ?_
  refine SC.ret ?_
  refine SQ.out (.inl rfl) (res1 rfl rfl) ?_
  have hE := hO9.toBelow ⟨hb4, trivial⟩
  exact ⟨rfl, hBb.trans (hE.mono hBb.size)⟩

end Go.Proofs.YtclgplkkajfenaaGreatDoor
/- The calculus: a byte of a string. -/
  namespace Go.Proofs.YtclgplkkajfenaaGreatDoor
namespace Ow
open Go Go.RowKit
variable {P : Program} {e : Env} {w : World} {o : Oper}
theorem str_at (s : ByteArray) (i : Nat) (h : i < s.size) : (s[i]'h).toNat = by' (bl s) i := by
  have h' : i < (bl s).length := h
  unfold by'
  rw [List.getD_eq_getElem?_getD, List.getElem?_eq_getElem h']
  rfl
theorem Res.indexS {T : TypeId} {x y : Operand} {s : ByteArray} {k : IntKind} {i : Int} (ho : o.op = .index T x y) (hx : ev e x = some (.string s)) (hy : ev e y = some (.int k i)) (hT : P.underlying T = some .string) (h : 0 ≤ i ∧ i < s.size) :
    Res P e o w (.ok (.value (.int .u8 (by' (bl s) i.toNat : Nat))) w) := fun ac ha => by
  unfold execOp; rw [ho]; simp only [ev_eval ha hx, ev_eval ha hy]
  rw [Sem.run_bind, run_index_string w T s k i hT, dif_pos h, str_at]
  rfl
end Ow
end Go.Proofs.YtclgplkkajfenaaGreatDoor
/- A piece of a text between two boundaries: its units and clusters are the text's. -/
namespace Go.Proofs.YtclgplkkajfenaaGreatDoor
open Go
theorem by_take {l : Bs} {n k : Nat} (h : k < n) : by' (l.take n) k = by' l k := by
  unfold by'; simp [List.getD_eq_getElem?_getD, h]
theorem by_out {l : Bs} {k : Nat} (h : l.length ≤ k) : by' l k = 0 := by
  unfold by'; rw [List.getD_eq_getElem?_getD, List.getElem?_eq_none h]; rfl
theorem con_take (l : Bs) (n k : Nat) : con (l.take n) k = (decide (k < n) && con l k) := by
  unfold con
  by_cases h : k < n
  · rw [by_take h, decide_eq_true h, Bool.true_and, List.length_take]
    congr 1
    exact decide_eq_decide.2 (by omega)
  · rw [decide_eq_false h, Bool.false_and, decide_eq_false (by simp; omega), Bool.false_and]
set_option maxRecDepth 20000 in
theorem un_take {l : Bs} {n : Nat} (h1 : usz l ≤ n) : un (l.take n) = un l := by
  have hp := usz_pos l
  have b0 : by' (l.take n) 0 = by' l 0 := by_take (by omega)
  by_cases h4 : 4 ≤ n
  · unfold un
    simp only [b0, con_take, by_take (l := l) (show 1 < n by omega), by_take (l := l) (show 2 < n by omega), by_take (l := l) (show 3 < n by omega),
      decide_eq_true (show 1 < n by omega), decide_eq_true (show 2 < n by omega), decide_eq_true (show 3 < n by omega), Bool.true_and]
  · by_cases h3 : n = 3
    · subst h3
      revert h1
      unfold usz un
      simp only [b0, con_take, by_take (l := l) (show 1 < 3 by omega), by_take (l := l) (show 2 < 3 by omega), decide_eq_true (show 1 < 3 by omega), decide_eq_true (show 2 < 3 by omega), decide_eq_false (show ¬ 3 < 3 by omega), Bool.true_and, Bool.false_and, Bool.and_false]
      repeat' split
      all_goals first | contradiction | simp
    · by_cases h2 : n = 2
      · subst h2
        revert h1
        unfold usz un
        simp only [b0, con_take, by_take (l := l) (show 1 < 2 by omega), decide_eq_true (show 1 < 2 by omega), decide_eq_false (show ¬ 2 < 2 by omega), decide_eq_false (show ¬ 3 < 2 by omega), Bool.true_and, Bool.false_and, Bool.and_false]
        repeat' split
        all_goals first | contradiction | simp
      · obtain rfl : n = 1 := by omega
        revert h1
        unfold usz un
        simp only [b0, con_take, decide_eq_false (show ¬ 1 < 1 by omega), decide_eq_false (show ¬ 2 < 1 by omega), decide_eq_false (show ¬ 3 < 1 by omega), Bool.false_and, Bool.and_false]
        repeat' split
        all_goals first | contradiction | simp
def sub (l : Bs) (F T : Nat) : Bs := (l.take T).drop F
theorem sub_length {l : Bs} {F T : Nat} (h2 : T ≤ l.length) : (sub l F T).length = T - F := by
  unfold sub; simp; omega
theorem sub_drop (l : Bs) (F T i : Nat) : (sub l F T).drop i = (l.drop (F + i)).take (T - (F + i)) := by
  unfold sub; rw [List.drop_drop, List.drop_take]
theorem sub_by {l : Bs} {F T i : Nat} (h : F + i < T) : by' (sub l F T) i = by' l (F + i) := by
  unfold sub; rw [by_drop, by_take h]
theorem unit_sub {l : Bs} {F T i : Nat} (hj : UB l (F + i)) (hT : UB l T) (h : F + i < T) : un ((sub l F T).drop i) = un (l.drop (F + i)) := by
  have := hj.gap hT h
  rw [sub_drop, un_take (by omega)]
theorem usz_sub {l : Bs} {F T i : Nat} (hj : UB l (F + i)) (hT : UB l T) (h : F + i < T) : usz ((sub l F T).drop i) = usz (l.drop (F + i)) := by
  unfold usz; rw [unit_sub hj hT h]
theorem uch_sub {l : Bs} {F T i : Nat} (hj : UB l (F + i)) (hT : UB l T) (h : F + i < T) : uch ((sub l F T).drop i) = uch (l.drop (F + i)) := by
  unfold uch; rw [unit_sub hj hT h]
theorem Re_sub {l : Bs} {F T : Nat} (hT : UB l T) {j i : Nat} (h : Re (sub l F T) j i) : UB l (F + j) → UB l (F + i) := by
  induction h with
  | refl j => exact id
  | head j i h1 _ ih =>
    intro hj
    rw [sub_length hT.le] at h1
    have hlt : F + j < T := by omega
    rw [usz_sub hj hT hlt] at ih
    exact ih (by have := hj.next (by have := hT.le; omega); rwa [Nat.add_assoc] at this)
theorem UB_sub {l : Bs} {F T : Nat} (hF : UB l F) (hT : UB l T) (hFT : F ≤ T) {i : Nat} (hi : i ≤ T - F) : UB (sub l F T) i ↔ UB l (F + i) := by
  constructor
  · intro h; exact Re_sub hT h hF
  · intro h
    have hlen := sub_length (F := F) hT.le
    obtain ⟨h1, h2, h3⟩ := uDown_spec (sub l F T) i (by omega)
    have h4 := Re_sub hT h1 hF
    by_cases e : uDown (sub l F T) i = i
    · rwa [e] at h1
    · have hlt : F + uDown (sub l F T) i < T := by omega
      have h5 := h3 (by omega)
      rw [usz_sub h4 hT hlt] at h5
      have := h4.gap h (by omega)
      omega
theorem uDown_sub {l : Bs} {F T : Nat} (hF : UB l F) (hT : UB l T) (hFT : F ≤ T) {i : Nat} (hi : i ≤ T - F) : uDown l (F + i) = F + uDown (sub l F T) i := by
  have hlen := sub_length (F := F) hT.le
  have hTl := hT.le
  obtain ⟨h1, h2, h3⟩ := uDown_spec (sub l F T) i (by omega)
  have h4 := Re_sub hT h1 hF
  refine uDown_unique h4 (by omega) (fun h => ?_) (by omega)
  by_cases e : F + uDown (sub l F T) i < T
  · have := h3 (by omega)
    rw [usz_sub h4 hT e] at this
    omega
  · have := usz_pos (l.drop (F + uDown (sub l F T) i))
    omega
theorem CB_sub {l : Bs} {F T : Nat} (hF : CB l F) (hT : CB l T) (hFT : F ≤ T) {i : Nat} (hi : i ≤ T - F) : CB (sub l F T) i ↔ CB l (F + i) := by
  have hFu := hF.ub
  have hTu := hT.ub
  have hlen := sub_length (F := F) hTu.le
  have hTl := hTu.le
  by_cases h0 : i = 0
  · subst h0; exact ⟨fun _ => hF, fun _ => .zero _⟩
  by_cases h1 : i = T - F
  · subst h1
    exact ⟨fun _ => by rw [show F + (T - F) = T by omega]; exact hT, fun _ => hlen ▸ .len _⟩
  have hlt : F + i < T := by omega
  have e1 := uDown_sub hFu hTu hFT hi
  have e2 := uDown_sub hFu hTu hFT (i := i - 1) (by omega)
  rw [show F + (i - 1) = F + i - 1 by omega] at e2
  obtain ⟨d1, d2, d3⟩ := uDown_spec (sub l F T) (i - 1) (by omega)
  have d4 := Re_sub hTu d1 hFu
  have eu : uch ((sub l F T).drop (uDown (sub l F T) (i - 1))) = uch (l.drop (F + uDown (sub l F T) (i - 1))) := uch_sub d4 hTu (by omega)
  unfold CB
  constructor
  · rintro (h | h | ⟨h, h2, h3⟩)
    · omega
    · omega
    · refine .inr (.inr ⟨by omega, by omega, ?_⟩)
      have hu : UB l (F + i) := (UB_iff_uDown (by omega)).2 (by omega)
      rw [e2, ← eu, ← uch_sub hu hTu hlt]; exact h3
  · rintro (h | h | ⟨h, h2, h3⟩)
    · omega
    · omega
    · refine .inr (.inr ⟨by omega, by omega, ?_⟩)
      have hu : UB l (F + i) := (UB_iff_uDown (by omega)).2 (by omega)
      rw [e2, ← eu, ← uch_sub hu hTu hlt] at h3; exact h3
theorem cNext_sub {l : Bs} {F T : Nat} (hF : CB l F) (hT : CB l T) (hFT : F ≤ T) {i : Nat} (hi : i < T - F) : cNext l (F + i) = F + cNext (sub l F T) i := by
  have hlen := sub_length (F := F) hT.le
  obtain ⟨h1, h2, h3, h4⟩ := cNext_spec (l := sub l F T) (i := i) (by omega)
  refine cNext_eq (by omega) ((CB_sub hF hT hFT (by omega)).1 h3) fun t ht ht' hc => ?_
  refine h4 (t - F) (by omega) (by omega) ((CB_sub hF hT hFT (by omega)).2 ?_)
  rwa [show F + (t - F) = t by omega]
theorem usz_one_of {m : Bs} {c : Int} (h : uch m = c) (h0 : 0 ≤ c) (h1 : c < 128) : (by' m 0 : Int) = c ∧ usz m = 1 := by
  revert h
  unfold uch usz un; dsimp only
  repeat' split
  all_goals (intro h; simp only [Bool.and_eq_true, decide_eq_true_eq] at *; first | (exfalso; omega) | exact ⟨h, rfl⟩ | exact ⟨h, trivial⟩)
theorem crlf_sub {l : Bs} {F T : Nat} (_hF : CB l F) (hT : CB l T) {i : Nat} (hc : CB l (F + i)) (hi : F + i < T) : crlf (sub l F T) i ↔ crlf l (F + i) := by
  have hTl := hT.le
  unfold crlf
  rw [uch_sub hc.ub hT.ub hi]
  by_cases h : F + (i + 1) < T
  · rw [sub_by h]; rfl
  · have e : F + i + 1 = T := by omega
    rw [by_out (l := sub l F T) (k := i + 1) (by rw [sub_length hTl]; omega)]
    constructor
    · rintro ⟨_, h2⟩; omega
    · rintro ⟨h2, h3⟩
      exfalso
      have ⟨_, hs⟩ := usz_one_of h2 (by decide) (by decide)
      rcases hT with h4 | h4 | ⟨h4, _, h5⟩
      · omega
      · rw [by_out (by omega)] at h3; omega
      · refine h5 (.inl ⟨?_, ?_⟩)
        · rw [show T - 1 = F + i by omega, uDown_self hc.ub]; exact h2
        · have e4 : by' (l.drop T) 0 = 10 := by rw [by_drop, ← e]; exact h3
          unfold uch un
          simp [e4]
theorem clCls_sub {l : Bs} {F T : Nat} (hF : CB l F) (hT : CB l T) {i : Nat} (hc : CB l (F + i)) (hi : F + i < T) : clCls (sub l F T) i = clCls l (F + i) := by
  unfold clCls
  have := crlf_sub hF hT hc hi
  rw [uch_sub hc.ub hT.ub hi]
  by_cases h : crlf l (F + i)
  · rw [if_pos h, if_pos (this.2 h)]
  · rw [if_neg h, if_neg (fun h' => h (this.1 h'))]
theorem clCells_sub {l : Bs} {F T : Nat} (hF : CB l F) (hT : CB l T) {i : Nat} (hc : CB l (F + i)) (hi : F + i < T) : clCells (sub l F T) i = clCells l (F + i) := by
  unfold clCells
  have := crlf_sub hF hT hc hi
  rw [uch_sub hc.ub hT.ub hi]
  by_cases h : crlf l (F + i)
  · rw [if_pos h, if_pos (this.2 h)]
  · rw [if_neg h, if_neg (fun h' => h (this.1 h'))]
def sh (F : Nat) (c : Nat × Nat) : Nat × Nat := (F + c.1, F + c.2)
theorem clFrom_sub {l : Bs} {F T : Nat} (hF : CB l F) (hT : CB l T) (hFT : F ≤ T) : ∀ n i, i + n = T - F → CB l (F + i) → clFrom l (F + i) = (clFrom (sub l F T) i).map (sh F) ++ clFrom l T := by
  have hTl := hT.le
  have hlen := sub_length (F := F) hTl
  intro n
  induction n using Nat.strongRecOn with
  | ind n ih =>
    intro i hi hc
    by_cases h : i < T - F
    · rw [clFrom_cons (l := sub l F T) (by omega), clFrom_cons (l := l) (by omega), cNext_sub hF hT hFT h]
      obtain ⟨h1, h2, h3, h4⟩ := cNext_spec (l := sub l F T) (i := i) (by omega)
      rw [ih (T - F - cNext (sub l F T) i) (by omega) (cNext (sub l F T) i) (by omega) ((CB_sub hF hT hFT (by omega)).1 h3)]
      rfl
    · rw [clFrom_nil (l := sub l F T) (by omega), show F + i = T by omega]; rfl
/-- What is said of the clusters of a text, from a boundary on. -/
theorem clFrom_mem {l : Bs} : ∀ n i, i + n = l.length → CB l i → ∀ c ∈ clFrom l i, CB l c.1 ∧ i ≤ c.1 ∧ c.1 < l.length ∧ c.2 = cNext l c.1 := by
  intro n
  induction n using Nat.strongRecOn with
  | ind n ih =>
    intro i hi hc c hm
    by_cases h : i < l.length
    · rw [clFrom_cons h] at hm
      obtain ⟨h1, h2, h3, h4⟩ := cNext_spec h
      rcases List.mem_cons.1 hm with rfl | hm
      · exact ⟨hc, Nat.le_refl _, h, rfl⟩
      · obtain ⟨g1, g2, g3, g4⟩ := ih (l.length - cNext l i) (by omega) _ (by omega) h3 c hm
        exact ⟨g1, by omega, g3, g4⟩
    · rw [clFrom_nil (by omega)] at hm; cases hm
theorem clusters_mem {l : Bs} {c : Nat × Nat} (h : c ∈ clusters l) : CB l c.1 ∧ c.1 < l.length ∧ c.2 = cNext l c.1 := by
  obtain ⟨h1, _, h3, h4⟩ := clFrom_mem (l := l) l.length 0 (by omega) (.zero l) c h
  exact ⟨h1, h3, h4⟩
/-! ### bytes below 128 -/
theorem ascii_unit {l : Bs} {i : Nat} (h : by' l i < 128) : uch (l.drop i) = by' l i ∧ usz (l.drop i) = 1 := by
  have e : by' (l.drop i) 0 = by' l i := by rw [by_drop]; rfl
  unfold uch usz un
  dsimp only
  rw [e, if_pos h]
  exact ⟨rfl, rfl⟩
theorem ascii_UB {l : Bs} {i : Nat} (hi : i < l.length) (h : by' l i < 128) : UB l i := by
  obtain ⟨h1, h2, h3⟩ := uDown_spec l i (by omega)
  by_cases e : uDown l i = i
  · rwa [e] at h1
  · have h4 := h3 (by omega)
    have h5 := con_by ((usz_multi (l.drop (uDown l i)) (by omega)).2 (i - uDown l i) (by omega) (by omega))
    rw [by_drop, show uDown l i + (i - uDown l i) = i by omega] at h5
    omega
theorem ascii_next {l : Bs} {i : Nat} (hi : i < l.length) (h : by' l i < 128) : UB l (i + 1) := by
  have := (ascii_UB hi h).next hi
  rwa [(ascii_unit h).2] at this
theorem cls10 : cls 10 = 1 := by decide +kernel
theorem cls13 : cls 13 = 2 := by decide +kernel
theorem not_glue_lf (v : Int) : ¬ glue 10 v := by
  rintro (⟨h, _⟩ | ⟨_, h, _⟩)
  · omega
  · exact h cls10
/-- Behind a LF there is a boundary. -/
theorem lf_behind {l : Bs} {i : Nat} (hi : i < l.length) (h : by' l i = 10) : CB l (i + 1) := by
  by_cases e : i + 1 = l.length
  · rw [e]; exact .len l
  · have hu := ascii_next hi (by omega)
    refine .inr (.inr ⟨by omega, uDown_self hu, ?_⟩)
    rw [show i + 1 - 1 = i by omega, uDown_self (ascii_UB hi (by omega)), (ascii_unit (by omega)).1, h]
    exact not_glue_lf _
/-- A LF that no CR stands ahead of begins a cluster. -/
theorem lf_begins {l : Bs} {i : Nat} (hi : i < l.length) (h : by' l i = 10) (hp : i = 0 ∨ by' l (i - 1) ≠ 13) : CB l i := by
  have hu := ascii_UB hi (by omega)
  by_cases e : i = 0
  · subst e; exact .zero l
  refine .inr (.inr ⟨hi, uDown_self hu, ?_⟩)
  rw [(ascii_unit (l := l) (i := i) (by omega)).1, h]
  obtain ⟨g1, g2, g3⟩ := uLast_spec (l := l) (i := i) (by omega) (by omega)
  rintro (⟨h1, _⟩ | ⟨h1, _⟩)
  · obtain ⟨h2, h3⟩ := usz_one_of h1 (by decide) (by decide)
    have h4 := g2.next (by omega)
    rw [h3] at h4
    have h5 := g3
    have h6 : uDown l (i - 1) = i - 1 := by
      by_cases e2 : uDown l (i - 1) + 1 < i
      · have := g3 _ h4 e2; omega
      · omega
    rw [h6, by_drop] at h2
    rcases hp with h7 | h7
    · exact e h7
    · apply h7
      simp only [Nat.add_zero] at h2
      omega
  · have : cls ((10 : Nat) : Int) = 1 := cls10
    rw [this] at h1; omega
/-- A CR begins a cluster. -/
theorem cr_begins {l : Bs} {i : Nat} (hi : i < l.length) (h : by' l i = 13) : CB l i := by
  have hu := ascii_UB hi (by omega)
  by_cases e : i = 0
  · subst e; exact .zero l
  refine .inr (.inr ⟨hi, uDown_self hu, ?_⟩)
  rw [(ascii_unit (l := l) (i := i) (by omega)).1, h]
  rintro (⟨_, h1⟩ | ⟨h1, _⟩)
  · simp at h1
  · have : cls ((13 : Nat) : Int) = 2 := cls13
    rw [this] at h1; omega
/-- Between a CR and its LF there is none. -/
theorem crlf_no {l : Bs} {i : Nat} (hi : i + 1 < l.length) (h : by' l i = 13) (h2 : by' l (i + 1) = 10) : ¬ CB l (i + 1) := by
  rintro (h3 | h3 | ⟨_, _, h3⟩)
  · omega
  · omega
  · refine h3 (.inl ⟨?_, ?_⟩)
    · rw [show i + 1 - 1 = i by omega, uDown_self (ascii_UB (by omega) (by omega)), (ascii_unit (by omega)).1, h]; rfl
    · rw [(ascii_unit (by omega)).1, h2]; rfl
end Go.Proofs.YtclgplkkajfenaaGreatDoor
/- Lines, plainly: where they begin and end, and that their clusters are the text's. -/
namespace Go.Proofs.YtclgplkkajfenaaGreatDoor
open Go
theorem by_get' {l : Bs} {i : Nat} (h : i < l.length) : by' l i = (l[i]).toNat := by
  unfold by'; rw [List.getD_eq_getElem?_getD, List.getElem?_eq_getElem h]; rfl
theorem by_ten {l : Bs} {i : Nat} (h : i < l.length) : by' l i = 10 ↔ l[i] = 10 := by
  rw [by_get' h]
  exact ⟨fun e => UInt8.toNat_inj.1 e, fun e => by rw [e]; rfl⟩
theorem nlT_succ {l : Bs} {i : Nat} (h : i < l.length) : nlT l (i + 1) = nlT l i + (if by' l i = 10 then 1 else 0) := by
  unfold nlT
  rw [List.take_succ_eq_append_getElem h, nlC_append]
  congr 1
  unfold nlC Lib.countByte
  by_cases e : by' l i = 10
  · rw [if_pos e, (by_ten h).1 e]; rfl
  · rw [if_neg e]
    have : l[i] ≠ 10 := fun h' => e ((by_ten h).2 h')
    simp [this]
theorem nlC_cons (x : UInt8) (r : Bs) : nlC (x :: r) = (if x = 10 then 1 else 0) + nlC r := by
  have := nlC_append [x] r
  rw [List.singleton_append] at this
  rw [this]
  congr 1
  unfold nlC Lib.countByte
  by_cases e : x = 10
  · subst e; rfl
  · simp [e]
theorem nlT_le_nlC (l : Bs) (i : Nat) : nlT l i ≤ nlC l := by
  by_cases h : i ≤ l.length
  · rw [← nlT_len]; exact nlT_mono l h
  · unfold nlT; rw [List.take_of_length_le (by omega)]; exact Nat.le_refl _
theorem bgn_low (l : Bs) : ∀ (k : Int) (t : Nat), t < bgn l k → (nlT l t : Int) < k := by
  induction l with
  | nil => intro k t h; exact absurd h (Nat.not_lt_zero _)
  | cons x r ih =>
    intro k t h
    rw [bgn] at h
    by_cases hk : k ≤ 0
    · rw [if_pos hk] at h; exact absurd h (Nat.not_lt_zero _)
    · rw [if_neg hk] at h
      cases t with
      | zero => rw [nlT_zero]; omega
      | succ t =>
        have := ih (if x = 10 then k - 1 else k) t (by omega)
        rw [nlT_cons]
        by_cases e : x = 10
        · rw [if_pos e] at this ⊢; omega
        · rw [if_neg e] at this ⊢; omega
theorem bgn_at (l : Bs) : ∀ (k : Int), 0 ≤ k → k ≤ nlC l → (nlT l (bgn l k) : Int) = k := by
  induction l with
  | nil =>
    intro k h0 h1
    have h2 : nlC [] = 0 := rfl
    have h3 : nlT [] (bgn [] k) = 0 := rfl
    omega
  | cons x r ih =>
    intro k h0 h1
    rw [bgn]
    rw [nlC_cons] at h1
    by_cases hk : k ≤ 0
    · rw [if_pos hk, nlT_zero]; omega
    · rw [if_neg hk, Nat.add_comm, nlT_cons]
      by_cases e : x = 10
      · rw [if_pos e] at h1 ⊢
        have := ih (k - 1) (by omega) (by omega)
        rw [if_pos e]; omega
      · rw [if_neg e] at h1 ⊢
        have := ih k (by omega) (by omega)
        rw [if_neg e]; omega
theorem bgn_zero (l : Bs) : bgn l 0 = 0 := by cases l <;> rfl
theorem bgn_lf {l : Bs} {k : Int} (h : 0 < k) (hk : k ≤ nlC l) : 1 ≤ bgn l k ∧ by' l (bgn l k - 1) = 10 := by
  have h1 := bgn_pos h hk
  have h2 := bgn_le l k
  have h3 := bgn_low l k (bgn l k - 1) (by omega)
  have h4 := bgn_at l k (by omega) hk
  have h5 := nlT_succ (l := l) (i := bgn l k - 1) (by omega)
  rw [show bgn l k - 1 + 1 = bgn l k by omega] at h5
  refine ⟨h1, ?_⟩
  by_cases e : by' l (bgn l k - 1) = 10
  · exact e
  · rw [if_neg e] at h5; omega
theorem bgn_CB {l : Bs} {k : Int} (h : 0 ≤ k) (hk : k ≤ nlC l) : CB l (bgn l k) := by
  by_cases e : k = 0
  · subst e; rw [bgn_zero]; exact .zero l
  · obtain ⟨h1, h2⟩ := bgn_lf (l := l) (k := k) (by omega) hk
    have := lf_behind (by have := bgn_le l k; omega) h2
    rwa [show bgn l k - 1 + 1 = bgn l k by omega] at this
theorem bgn_step {l : Bs} {k : Int} (h : 0 ≤ k) (hk : k + 1 ≤ nlC l) : bgn l k < bgn l (k + 1) := by
  have h1 := bgn_at l k h (by omega)
  have h2 := bgn_at l (k + 1) (by omega) hk
  rcases Nat.lt_or_ge (bgn l k) (bgn l (k + 1)) with h3 | h3
  · exact h3
  · have := nlT_mono l h3; omega
/-- How a line ends. -/
theorem lend_spec {l : Bs} {k : Int} (h : 0 ≤ k) (hk : k ≤ nlC l) : bgn l k ≤ lend l k ∧ lend l k ≤ l.length ∧ CB l (lend l k) ∧
    ((k = nlC l ∧ lend l k = l.length) ∨ (k < nlC l ∧ by' l (lend l k) = 10 ∧ (lend l k = bgn l k ∨ by' l (lend l k - 1) ≠ 13) ∧ bgn l (k + 1) = lend l k + 1) ∨ (k < nlC l ∧ by' l (lend l k) = 13 ∧ by' l (lend l k + 1) = 10 ∧ bgn l (k + 1) = lend l k + 2)) := by
  by_cases e : k + 1 < (nlC l + 1 : Nat)
  · have h1 := bgn_step (l := l) h (by omega)
    obtain ⟨h2, h3⟩ := bgn_lf (l := l) (k := k + 1) (by omega) (by omega)
    have h4 := bgn_le l (k + 1)
    unfold lend
    rw [if_pos e]
    by_cases e2 : bgn l (k + 1) - 1 > bgn l k ∧ by' l (bgn l (k + 1) - 1 - 1) = 13
    · rw [if_pos e2]
      refine ⟨by omega, by omega, cr_begins (by omega) e2.2, .inr (.inr ⟨by omega, e2.2, ?_, by omega⟩)⟩
      rw [show bgn l (k + 1) - 1 - 1 + 1 = bgn l (k + 1) - 1 by omega]; exact h3
    · rw [if_neg e2]
      have e3 : bgn l (k + 1) - 1 = bgn l k ∨ by' l (bgn l (k + 1) - 1 - 1) ≠ 13 := by
        by_cases e4 : bgn l (k + 1) - 1 = bgn l k
        · exact .inl e4
        · exact .inr fun h' => e2 ⟨by omega, h'⟩
      refine ⟨by omega, by omega, ?_, .inr (.inl ⟨by omega, h3, e3, by omega⟩)⟩
      rcases e3 with e3 | e3
      · rw [e3]; exact bgn_CB h hk
      · exact lf_begins (by omega) h3 (.inr e3)
  · have : lend l k = l.length := by unfold lend; rw [if_neg e]
    rw [this]
    exact ⟨bgn_le l k, Nat.le_refl _, .len l, .inl ⟨by omega, rfl⟩⟩
theorem lend_lt {l : Bs} {k : Int} (h : 0 ≤ k) (hk : k + 1 ≤ nlC l) : lend l k < bgn l (k + 1) := by
  obtain ⟨_, _, _, h4⟩ := lend_spec (l := l) h (by omega)
  rcases h4 with h4 | h4 | h4 <;> omega
/-- All places of a line are the line's. -/
theorem nlT_in {l : Bs} {k : Int} (h : 0 ≤ k) (hk : k ≤ nlC l) {t : Nat} (h1 : bgn l k ≤ t) (h2 : t ≤ lend l k) : (nlT l t : Int) = k := by
  have h3 := bgn_at l k h hk
  have h4 := nlT_mono l h1
  by_cases e : k = nlC l
  · have := nlT_le_nlC l t; omega
  · have h5 := lend_lt (l := l) h (by omega)
    have := bgn_low l (k + 1) t (by omega)
    omega
/-- In a line there is no LF. -/
theorem no_lf {l : Bs} {k : Int} (h : 0 ≤ k) (hk : k ≤ nlC l) {t : Nat} (h1 : bgn l k ≤ t) (h2 : t < lend l k) : by' l t ≠ 10 := by
  have h3 := nlT_in h hk h1 (by omega)
  have h4 := nlT_in h hk (t := t + 1) (by omega) (by omega)
  obtain ⟨_, h5, _, _⟩ := lend_spec (l := l) h hk
  have h6 := nlT_succ (l := l) (i := t) (by omega)
  intro e
  rw [if_pos e] at h6; omega
/-- The line of a place. -/
theorem line_of {l : Bs} {a : Nat} (_ha : a ≤ l.length) : bgn l (nlT l a) ≤ a ∧ ((nlT l a : Int) < nlC l → a < bgn l (nlT l a + 1 : Int)) := by
  constructor
  · rcases Nat.lt_or_ge a (bgn l (nlT l a)) with h | h
    · have := bgn_low l _ a h; omega
    · exact h
  · intro h
    have h1 := bgn_at l (nlT l a + 1 : Int) (by omega) (by omega)
    rcases Nat.lt_or_ge a (bgn l (nlT l a + 1 : Int)) with h2 | h2
    · exact h2
    · have := nlT_mono l h2; omega
theorem line_of_CB {l : Bs} {a : Nat} (ha : CB l a) : bgn l (nlT l a) ≤ a ∧ a ≤ lend l (nlT l a) := by
  have hl := ha.le
  obtain ⟨h1, h2⟩ := line_of hl
  have hk : (nlT l a : Int) ≤ nlC l := by have := nlT_le_nlC l a; omega
  obtain ⟨h3, h4, h5, h6⟩ := lend_spec (l := l) (k := nlT l a) (by omega) hk
  refine ⟨h1, ?_⟩
  rcases h6 with h6 | h6 | h6
  · omega
  · have := h2 h6.1; omega
  · have h7 := h2 h6.1
    by_cases e : a = lend l (nlT l a) + 1
    · exfalso
      have h8 := bgn_le l ((nlT l a : Int) + 1)
      rw [e] at ha
      have h9 := h6.2.2.2
      refine crlf_no ?_ h6.2.1 h6.2.2.1 (e ▸ ha)
      omega
    · omega
theorem cNext_lend {l : Bs} {k : Int} (h : 0 ≤ k) (hk : k < nlC l) : cNext l (lend l k) = bgn l (k + 1) := by
  obtain ⟨h1, h2, h3, h4⟩ := lend_spec (l := l) h (by omega)
  have h5 := bgn_CB (l := l) (k := k + 1) (by omega) (by omega)
  have h6 := h5.le
  rcases h4 with h4 | h4 | h4
  · omega
  · rw [h4.2.2.2] at h5 ⊢
    exact cNext_eq (by omega) h5 (fun t _ _ => by omega)
  · have h7 := h4.2.2.2
    refine cNext_eq (by omega) h5 (fun t ht ht' hc => ?_)
    obtain rfl : t = lend l k + 1 := by omega
    exact crlf_no (by omega) h4.2.1 h4.2.2.1 hc
theorem clCells_lend {l : Bs} {k : Int} (h : 0 ≤ k) (hk : k < nlC l) : clCells l (lend l k) = 0 := by
  obtain ⟨h1, h2, h3, h4⟩ := lend_spec (l := l) h (by omega)
  rcases h4 with h4 | h4 | h4
  · omega
  · have hu := (ascii_unit (l := l) (i := lend l k) (by omega)).1
    rw [h4.2.1] at hu
    unfold clCells
    rw [if_neg (fun hc => by rw [hc.1] at hu; omega), hu]
    exact (show cellsOf 10 = 0 by unfold cellsOf; rw [if_pos cls10])
  · have hu := (ascii_unit (l := l) (i := lend l k) (by omega)).1
    rw [h4.2.1] at hu
    unfold clCells
    rw [if_pos ⟨hu, h4.2.2.1⟩]
theorem cls_one {c : Int} (h : cls c = 1) : c = 10 := by
  unfold cls at h
  split at h
  · omega
  · split at h
    · assumption
    · split at h
      · omega
      · split at h
        · omega
        · split at h <;> omega
theorem cellsOf_pos {c : Int} (h : c ≠ 10) : 1 ≤ cellsOf c := by
  unfold cellsOf
  rw [if_neg (fun e => h (cls_one e))]
  repeat' split
  all_goals omega
theorem clCells_pos {l : Bs} {k : Int} (h : 0 ≤ k) (hk : k ≤ nlC l) {a : Nat} (_ha : CB l a) (h1 : bgn l k ≤ a) (h2 : a < lend l k) : 1 ≤ clCells l a := by
  obtain ⟨_, g2, g3, g4⟩ := lend_spec (l := l) h hk
  have hne : ¬ crlf l a := by
    rintro ⟨e1, e2⟩
    obtain ⟨e3, _⟩ := usz_one_of e1 (by decide) (by decide)
    rw [by_drop] at e3
    by_cases e4 : a + 1 < lend l k
    · exact no_lf h hk (t := a + 1) (by omega) e4 e2
    · have e5 : a + 1 = lend l k := by omega
      rcases g4 with g4 | g4 | g4
      · rw [by_out (by omega)] at e2; omega
      · have h3 := g4.2.2.1
        rcases h3 with h3 | h3
        · omega
        · rw [← e5, show a + 1 - 1 = a by omega] at h3
          simp only [Nat.add_zero] at e3
          omega
      · rw [e5] at e2; omega
  unfold clCells
  rw [if_neg hne]
  refine cellsOf_pos fun e => ?_
  obtain ⟨e3, _⟩ := usz_one_of e (by decide) (by decide)
  rw [by_drop] at e3
  simp only [Nat.add_zero] at e3
  exact no_lf h hk h1 h2 (by omega)
end Go.Proofs.YtclgplkkajfenaaGreatDoor
/- Columns and places of a line, plainly. -/
namespace Go.Proofs.YtclgplkkajfenaaGreatDoor
open Go
theorem sh_zero (c : Nat × Nat) : sh 0 c = c := by unfold sh; simp
theorem map_sh_zero (cs : List (Nat × Nat)) : cs.map (sh 0) = cs := by
  induction cs with
  | nil => rfl
  | cons c cs ih => rw [List.map_cons, ih, sh_zero]
/-- The clusters ahead of a boundary and behind it. -/
theorem split_at {l : Bs} {i : Nat} (h : CB l i) : clusters l = clusters (sub l 0 i) ++ clFrom l i := by
  have := clFrom_sub (l := l) (F := 0) (T := i) (.zero l) h (Nat.zero_le _) i 0 (by omega) (by rw [Nat.add_zero]; exact .zero l)
  rw [map_sh_zero, Nat.add_zero] at this
  exact this
theorem sub_self (l : Bs) (_h : CB l 0) : sub l 0 l.length = l := by unfold sub; simp
theorem clFrom_last {l : Bs} : ∀ n i, i + n = l.length → 0 < n → ∃ p x, clFrom l i = p ++ [(x, l.length)] := by
  intro n
  induction n using Nat.strongRecOn with
  | ind n ih =>
    intro i hi h0
    obtain ⟨h1, h2, h3, h4⟩ := cNext_spec (l := l) (i := i) (by omega)
    rw [clFrom_cons (by omega)]
    by_cases e : cNext l i = l.length
    · refine ⟨[], i, ?_⟩
      rw [e, clFrom_nil (Nat.le_refl _)]; rfl
    · obtain ⟨p, x, hp⟩ := ih (l.length - cNext l i) (by omega) (cNext l i) (by omega) (by omega)
      exact ⟨(i, cNext l i) :: p, x, by rw [hp]; rfl⟩
theorem lastTo_clusters {l : Bs} {F : Int} (h : 0 < l.length) : lastTo F (clusters l) = aw F l.length := by
  obtain ⟨p, x, hp⟩ := clFrom_last (l := l) l.length 0 (by omega) h
  have : clusters l = p ++ [(x, l.length)] := hp
  rw [this, lastTo_snoc]
theorem nCells_append (l : Bs) (a b : List (Nat × Nat)) : nCells l (a ++ b) = nCells l a + nCells l b := by simp [nCells]
theorem nCells_nil (l : Bs) : nCells l [] = 0 := rfl
theorem nCells_cons (l : Bs) (c : Nat × Nat) (cs : List (Nat × Nat)) : nCells l (c :: cs) = clCells l c.1 + nCells l cs := rfl
theorem nCells_pos (l : Bs) (cs : List (Nat × Nat)) : 0 ≤ nCells l cs := (nCells_range l cs).1
/-- The line's text. -/
theorem lineB_eq {s : ByteArray} {k : Int} (h : 0 ≤ k) (hk : k ≤ nlC (bl s)) : bl (lineB s k) = sub (bl s) (bgn (bl s) k) (lend (bl s) k) ∧ spF (bl s) k = bgn (bl s) k ∧ spT (bl s) k = lend (bl s) k ∧ spE (bl s) k = 0 := by
  have hn : ¬ noLine (bl s) k := by unfold noLine; omega
  obtain ⟨h1, h2, _, _⟩ := lend_spec (l := bl s) h hk
  have e1 : spF (bl s) k = bgn (bl s) k := by unfold spF; rw [if_neg hn]
  have e2 : spT (bl s) k = lend (bl s) k := by unfold spT; rw [if_neg hn]
  refine ⟨?_, e1, e2, by unfold spE; rw [if_neg hn]⟩
  unfold lineB slT
  rw [bl_length] at h2
  rw [e1, e2, if_neg (by unfold bad; omega), bl_extract]
  rfl
theorem aw_nat {s : ByteArray} (hz : s.size ≤ 1073741824) {F c : Nat} (h1 : F ≤ s.size) (h2 : c ≤ s.size) : aw (F : Int) (c : Int) = ((F + c : Nat) : Int) := by
  unfold aw; rw [IntWalk.i64_in _ (by omega)]; omega
/-- All of a place in a line: its clusters ahead and behind, its column. -/
theorem line_split {s : ByteArray} (hz : s.size ≤ 1073741824) {k : Int} (h : 0 ≤ k) (hk : k ≤ nlC (bl s)) {a : Nat} (ha : CB (bl s) a) (h1 : bgn (bl s) k ≤ a) (h2 : a ≤ lend (bl s) k) :
    ∃ A, clusters (bl (lineB s k)) = A ++ clFrom (bl (lineB s k)) (a - bgn (bl s) k) ∧ lastTo (bgn (bl s) k : Nat) A = (a : Int) ∧ colW s k a = nCells (bl (lineB s k)) A ∧ (a = bgn (bl s) k → A = []) := by
  obtain ⟨e0, e1, e2, e3⟩ := lineB_eq (s := s) h hk
  obtain ⟨g1, g2, g3, g4⟩ := lend_spec (l := bl s) h hk
  have hF := bgn_CB (l := bl s) h hk
  have hlen := sub_length (F := bgn (bl s) k) g2
  rw [bl_length] at g2
  have hc : CB (bl (lineB s k)) (a - bgn (bl s) k) := by
    rw [e0]
    refine (CB_sub hF g3 g1 (by omega)).2 ?_
    rwa [show bgn (bl s) k + (a - bgn (bl s) k) = a by omega]
  have hsp := split_at hc
  refine ⟨_, hsp, ?_, ?_, ?_⟩
  · by_cases e : a = bgn (bl s) k
    · subst e
      rw [Nat.sub_self]
      have : clusters (sub (bl (lineB s k)) 0 0) = [] := by
        unfold clusters; exact clFrom_nil (by simp [sub])
      rw [this]; rfl
    · have hl : (sub (bl (lineB s k)) 0 (a - bgn (bl s) k)).length = a - bgn (bl s) k := by
        rw [sub_length hc.le]; omega
      rw [lastTo_clusters (by omega), hl, aw_nat hz (by omega) (by omega)]
      congr 1; omega
  · unfold colW
    have hA : ∀ c ∈ clusters (sub (bl (lineB s k)) 0 (a - bgn (bl s) k)), ¬ past (spF (bl s) k : Nat) a c := fun c hm => by
      obtain ⟨_, h3, h4⟩ := clusters_mem hm
      have h5 := (cNext_spec h3).2.1
      rw [sub_length hc.le] at h5
      unfold past
      rw [e1, aw_nat hz (by omega) (by omega)]
      omega
    congr 1
    rw [hsp]
    by_cases e : a - bgn (bl s) k < (bl (lineB s k)).length
    · rw [clFrom_cons e]
      refine tw_stop hA ?_
      have h3 := (cNext_spec e).1
      have h4 := (cNext_spec e).2.1
      rw [e0, hlen] at h4
      unfold past
      rw [e1, aw_nat hz (by omega) (by rw [e0]; omega)]
      simp only
      omega
    · rw [clFrom_nil (by omega), List.append_nil]
      exact tw_all hA
  · intro e
    rw [show a - bgn (bl s) k = 0 by omega]
    unfold clusters
    exact clFrom_nil (by simp [sub])
theorem inCol_of {lb : Bs} {A : List (Nat × Nat)} {q : Int} (h : nCells lb A ≤ q) : ∀ p y r, A = p ++ y :: r → ¬ 0 + nCells lb (p ++ [y]) > q := by
  rintro p y r rfl
  have e : p ++ y :: r = (p ++ [y]) ++ r := by simp
  rw [e, nCells_append] at h
  have := nCells_pos lb r
  omega
theorem at_of {s : ByteArray} (hz : s.size ≤ 1073741824) {k : Int} (h : 0 ≤ k) (hk : k ≤ nlC (bl s)) {a : Nat} (ha : CB (bl s) a) (h1 : bgn (bl s) k ≤ a) (h2 : a ≤ lend (bl s) k) {q : Int} (hq : colW s k a ≤ q)
    (hq2 : a < lend (bl s) k → q < colW s k a + clCells (bl s) a) : atR s k q = a := by
  obtain ⟨e0, e1, e2, e3⟩ := lineB_eq (s := s) h hk
  obtain ⟨g1, g2, g3, g4⟩ := lend_spec (l := bl s) h hk
  have hF := bgn_CB (l := bl s) h hk
  have hlen := sub_length (F := bgn (bl s) k) g2
  obtain ⟨A, hA, hA2, hA3, _⟩ := line_split hz h hk ha h1 h2
  unfold atR
  rw [if_neg (by omega), e1, hA, ← hA2]
  congr 1
  rw [hA3] at hq hq2
  by_cases e : a < lend (bl s) k
  · have hlt : a - bgn (bl s) k < (bl (lineB s k)).length := by rw [e0, hlen]; omega
    rw [clFrom_cons hlt]
    refine upto_stop _ _ _ _ (inCol_of hq) ?_
    rw [nCells_snoc, e0, clCells_sub hF g3 (by rwa [show bgn (bl s) k + (a - bgn (bl s) k) = a by omega]) (by omega), ← e0, show bgn (bl s) k + (a - bgn (bl s) k) = a by omega]
    have := hq2 e
    omega
  · rw [clFrom_nil (by rw [e0, hlen]; omega), List.append_nil]
    exact upto_all _ _ (inCol_of hq)
theorem at_low {s : ByteArray} {k : Int} (h : 0 ≤ k) (hk : k ≤ nlC (bl s)) {q : Int} (hq : q < 0) : atR s k q = (bgn (bl s) k : Nat) := by
  obtain ⟨e0, e1, e2, e3⟩ := lineB_eq (s := s) h hk
  unfold atR
  rw [if_neg (by omega), e1]
  cases hc : clusters (bl (lineB s k)) with
  | nil => rfl
  | cons c cs =>
    rw [upto, if_pos (by have := clCells_range (bl (lineB s k)) c.1; omega)]; rfl
theorem colW_step {s : ByteArray} (hz : s.size ≤ 1073741824) {k : Int} (h : 0 ≤ k) (hk : k ≤ nlC (bl s)) {a : Nat} (ha : CB (bl s) a) (h1 : bgn (bl s) k ≤ a) (h2 : a < lend (bl s) k) :
    cNext (bl s) a ≤ lend (bl s) k ∧ colW s k (cNext (bl s) a : Nat) = colW s k a + clCells (bl s) a := by
  obtain ⟨e0, e1, e2, e3⟩ := lineB_eq (s := s) h hk
  obtain ⟨g1, g2, g3, g4⟩ := lend_spec (l := bl s) h hk
  have hF := bgn_CB (l := bl s) h hk
  have hlen := sub_length (F := bgn (bl s) k) g2
  obtain ⟨n1, n2, n3, n4⟩ := cNext_spec (l := bl s) (i := a) (by omega)
  have hle : cNext (bl s) a ≤ lend (bl s) k := by
    rcases Nat.lt_or_ge (lend (bl s) k) (cNext (bl s) a) with h3 | h3
    · exact absurd g3 (n4 _ h2 h3)
    · exact h3
  refine ⟨hle, ?_⟩
  obtain ⟨A, hA, hA2, hA3, _⟩ := line_split hz h hk ha h1 (by omega)
  obtain ⟨A', hA', hA2', hA3', _⟩ := line_split hz h hk n3 (by omega) hle
  have hlt : a - bgn (bl s) k < (bl (lineB s k)).length := by rw [e0, hlen]; omega
  have ec : cNext (bl (lineB s k)) (a - bgn (bl s) k) = cNext (bl s) a - bgn (bl s) k := by
    have := cNext_sub hF g3 g1 (i := a - bgn (bl s) k) (by omega)
    rw [show bgn (bl s) k + (a - bgn (bl s) k) = a by omega, ← e0] at this
    omega
  rw [clFrom_cons hlt, ec] at hA
  have : A' = A ++ [(a - bgn (bl s) k, cNext (bl s) a - bgn (bl s) k)] := by
    have h5 : A' ++ clFrom (bl (lineB s k)) (cNext (bl s) a - bgn (bl s) k) = (A ++ [(a - bgn (bl s) k, cNext (bl s) a - bgn (bl s) k)]) ++ clFrom (bl (lineB s k)) (cNext (bl s) a - bgn (bl s) k) := by
      rw [← hA', hA]; simp
    exact List.append_cancel_right h5
  rw [hA3', this, nCells_snoc, hA3]
  congr 1
  rw [e0, clCells_sub hF g3 (by rwa [show bgn (bl s) k + (a - bgn (bl s) k) = a by omega]) (by omega), show bgn (bl s) k + (a - bgn (bl s) k) = a by omega]
theorem colW_range (s : ByteArray) (k a : Int) : 0 ≤ colW s k a ∧ colW s k a ≤ 2 * (clusters (bl (lineB s k))).length := by
  unfold colW
  have h1 := nCells_range (bl (lineB s k)) ((clusters (bl (lineB s k))).takeWhile fun c => decide (¬ past (spF (bl s) k : Nat) a c))
  have h2 := (List.takeWhile_sublist (p := fun c => decide (¬ past (spF (bl s) k : Nat) a c)) (l := clusters (bl (lineB s k)))).length_le
  omega
theorem lineB_size (s : ByteArray) (k : Int) : (lineB s k).size ≤ s.size := slT_size _ _ _
theorem colW_le (s : ByteArray) (k a : Int) : 0 ≤ colW s k a ∧ colW s k a ≤ 2 * s.size := by
  have h1 := colW_range s k a
  have h2 := clusters_length (bl (lineB s k))
  rw [bl_length] at h2
  have h3 := lineB_size s k
  omega
/-- The clusters of one cluster. -/
theorem clusters_one {l : Bs} {a : Nat} (ha : CB l a) (h : a < l.length) : nCells (sub l a (cNext l a)) (clusters (sub l a (cNext l a))) = clCells l a := by
  obtain ⟨n1, n2, n3, n4⟩ := cNext_spec h
  have hlen := sub_length (F := a) n2
  have e1 := cNext_sub ha n3 (by omega) (i := 0) (by omega)
  rw [Nat.add_zero] at e1
  have e2 : cNext (sub l a (cNext l a)) 0 = cNext l a - a := by omega
  unfold clusters
  rw [clFrom_cons (by omega), e2, clFrom_nil (by omega), nCells_cons, nCells_nil, Int.add_zero]
  have := clCells_sub ha n3 (i := 0) (by rw [Nat.add_zero]; exact ha) (by omega)
  rw [Nat.add_zero] at this
  exact this
end Go.Proofs.YtclgplkkajfenaaGreatDoor
