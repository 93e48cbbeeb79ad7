/- awake. -/
import Derived.Test.YtclgplkkajfenaaGreatDoorLaw
namespace Go.Proofs.YtclgplkkajfenaaGreatDoor
open Go Go.RowKit Ow
open YtclgplkkajfenaaGreatDoorW.PrintWords in
theorem eqi41 (a b c d : Int) (w : World) : (Op.equalIn (9999 + 1) 41 (.agg #[.int .i64 a, .int .i64 b]) (.agg #[.int .i64 c, .int .i64 d])).run Tryz.prog w = .ok (decide (a = c ∧ b = d)) w := by
  rw [show decide (a = c ∧ b = d) = (a == c && b == d) by rw [Bool.decide_and]; rfl]
  refine eqA_of Tryz.underlying41 (by kernel_rfl) ?_
  refine eqf_cons rfl (a := .int .i64 a) (b := .int .i64 c) (by kernel_rfl) (by kernel_rfl) (run_equalIn_int w _ _ _ _ _ _ Tryz.underlying3) ?_
  exact eqf_last rfl (a := .int .i64 b) (b := .int .i64 d) (by kernel_rfl) (by kernel_rfl) (run_equalIn_int w _ _ _ _ _ _ Tryz.underlying3)
theorem Ow.Res.eql41 {e : Env} {o : Oper} {w : World} {x y : Operand} {a b c d : Int} (ho : o.op = .binOp .eql 41 x y 41) (hx : ev e x = some (.agg #[.int .i64 a, .int .i64 b])) (hy : ev e y = some (.agg #[.int .i64 c, .int .i64 d])) : Ow.Res Tryz.prog e o w (.ok (.value (.bool (decide (a = c ∧ b = d)))) w) :=
  .bin ho hx hy (run_eqGuard_agg w _ _ _ _ _ _ (by kernel_rfl)) (by
    rw [run_eql_struct, show (10000 : Nat) = 9999 + 1 from rfl]
    exact (congrArg (fun r : Result Bool => r.andThen (fun b w' => Result.ok (Value.bool b) w')) (eqi41 a b c d w)).trans rfl)
theorem Ow.Res.neq41 {e : Env} {o : Oper} {w : World} {x y : Operand} {a b c d : Int} (ho : o.op = .binOp .neq 41 x y 41) (hx : ev e x = some (.agg #[.int .i64 a, .int .i64 b])) (hy : ev e y = some (.agg #[.int .i64 c, .int .i64 d])) : Ow.Res Tryz.prog e o w (.ok (.value (.bool (decide (¬ (a = c ∧ b = d))))) w) :=
  .bin ho hx hy (run_eqGuard_agg w _ _ _ _ _ _ (by kernel_rfl)) (by
    rw [run_neq_struct, show (10000 : Nat) = 9999 + 1 from rfl]
    refine (congrArg (fun r : Result Bool => r.andThen (fun b w' => Result.ok (Value.bool (!b)) w')) (eqi41 a b c d w)).trans ?_
    have e1 : (!decide (a = c ∧ b = d)) = decide (¬ (a = c ∧ b = d)) := by by_cases h : (a = c ∧ b = d) <;> simp [h]
    rw [← e1]; rfl)

def s0 : ByteArray := ⟨#[97, 98, 13, 10, 228, 184, 128, 99, 10, 10, 13]⟩
theorem aw0 : cNextI (bl ⟨#[97]⟩) 0 = 1 := by kernel_rfl
theorem aw1 : spF (bl s0) 1 = 4 := by kernel_rfl
theorem aw2 : spT (bl s0) 1 = 8 := by kernel_rfl
theorem aw3 : spE (bl s0) 1 = 0 := by kernel_rfl
theorem aw5 : ofE (bl s0) 7 = 0 := by kernel_rfl
theorem aw6 : ofN (bl s0) 10 = 3 := by kernel_rfl
theorem aw7 : nlC (bl s0) + 1 = 4 := by kernel_rfl
theorem aw9 : ofE (bl s0) 10 = 0 := by kernel_rfl
theorem aw4 : colR s0 7 = 2 := by kernel_rfl
theorem aw8 : atR s0 1 2 = 7 := by kernel_rfl

theorem bd23_0_1_Awk (x0 : ByteArray) (x1 : Int) : ∀ w, (Instr.build 23 [(0, .string x0), (1, .int .i64 x1)].toArray).run Tryz.prog w = .ok (.agg [.string x0, .int .i64 x1].toArray) w := fun _ => by kernel_rfl
theorem bd41_0_1_Awk (x0 : Int) (x1 : Int) : ∀ w, (Instr.build 41 [(0, .int .i64 x0), (1, .int .i64 x1)].toArray).run Tryz.prog w = .ok (.agg [.int .i64 x0, .int .i64 x1].toArray) w := fun _ => by kernel_rfl
set_option maxRecDepth 20000 in
set_option maxHeartbeats 400000 in
theorem awake_any (w : World) (hG : Good w) :
    Calls Tryz.prog 21 #[] w fun e w' => e = .returned (.bool true) ∧ Below w.heap.size w w' := by
  have hO0 := Own.start hG
  refine enter Tryz.func21 rfl rfl rfl 0 ?_
  refine SC.seq ?_
  refine SC.region ?_
  refine SO.val rfl rfl rfl rfl (.assign rfl rfl) ?_
  refine SO.nil ?_
  refine SQ.then_normal ?_
  refine SC.seq ?_
  refine SC.seq ?_
  refine SC.region ?_
  refine SO.call rfl rfl rfl rfl (.callF rfl rfl en30) ((by have h := cnext_any ⟨#[97]⟩ 0 _ (hO0.good hG) (by decide); rw [aw0] at h; exact h)) ?_
  rintro _ w1 ⟨rfl, hb1⟩
  have hO1 := hO0.below hb1
  refine ⟨_, rfl, ?_⟩
  refine SO.val rfl rfl rfl rfl (decF (.neq rfl rfl rfl) (by omega)) ?_
  refine SO.nil ?_
  refine SQ.then_normal ?_
  refine SC.no rfl ?_
  refine SC.skip ?_
  refine SQ.then_normal ?_
  refine SC.seq ?_
  refine SC.region ?_
  refine SO.val rfl rfl rfl rfl (.build rfl rfl (bd23_0_1_Awk _ _)) ?_
  refine SO.call rfl rfl rfl rfl (.callF rfl rfl en22) (keep_any s0 1 _ (hO1.good hG) (by decide)) ?_
  rintro _ w2 ⟨v, rfl, ht, hb2⟩
  have hOb := hO1.below hb2
  have hGb := hOb.good hG
  have hBb := hOb.toBelow trivial
  obtain ⟨tT, tx, rfl⟩ := ht.iface
  have hO2 := Own.start hGb
  refine ⟨_, rfl, ?_⟩
  refine SO.val rfl rfl rfl rfl (.move rfl rfl) ?_
  refine SO.val rfl rfl rfl rfl (.extract rfl rfl rfl) ?_
  refine SO.val rfl rfl rfl rfl (.extract rfl rfl rfl) ?_
  refine SO.val rfl rfl rfl rfl (.assign rfl rfl) ?_
  refine SO.val rfl rfl rfl rfl (.assign rfl rfl) ?_
  refine SO.nil ?_
  refine SQ.then_normal ?_
  refine SC.seq ?_
  refine SC.seq ?_
  refine SC.region ?_
  refine SO.val rfl rfl rfl rfl (.move rfl rfl) ?_
  refine SO.val rfl rfl rfl rfl (.not rfl rfl) ?_
  refine SO.nil ?_
  refine SQ.then_normal ?_
  refine SC.no rfl ?_
  refine SC.skip ?_
  refine SQ.then_normal ?_
  refine SC.seq ?_
  refine SC.region ?_
  refine SO.val rfl rfl rfl rfl (.move rfl rfl) ?_
  refine SO.call rfl rfl rfl rfl (.callF rfl rfl en28) ((by have h := lines_span (.iface tT tx) s0 1 _ (hO2.good hGb) (ht.below (hO2.toBelow trivial)); rw [aw1, aw2, aw3] at h; exact h)) ?_
  rintro _ w3 ⟨rfl, hb3⟩
  have hO3 := hO2.below hb3
  refine ⟨_, rfl, ?_⟩
  refine SO.val rfl rfl rfl rfl (.move rfl rfl) ?_
  refine SO.val rfl rfl rfl rfl (.extract rfl rfl rfl) ?_
  refine SO.val rfl rfl rfl rfl (.extract rfl rfl rfl) ?_
  refine SO.alloc hO3 rfl rfl rfl rfl zv41 [_, _] rfl ?_
  intro b4 w4 hb4 hO4
  refine SO.store hO4 (i := 0) rfl rfl rfl rfl rfl rfl sz41 rfl rfl [(_, .cells [_, _].toArray _ _)] rfl ?_
  intro w5 hO5
  refine SO.val rfl rfl rfl rfl (.assign rfl rfl) ?_
  refine SO.nil ?_
  refine SQ.then_normal ?_
  refine SC.seq ?_
  refine SC.region ?_
  refine SO.val rfl rfl rfl rfl (.move rfl rfl) ?_
  refine SO.call rfl rfl rfl rfl (.callF rfl rfl en23) ((by have h := lines_column (.iface tT tx) s0 7 _ (hO5.good hGb) (ht.below (hO5.toBelow ⟨hb4, trivial⟩)); rw [aw4, aw5] at h; exact h)) ?_
  rintro _ w6 ⟨rfl, hb6⟩
  have hO6 := hO5.below hb6
  refine ⟨_, rfl, ?_⟩
  refine SO.val rfl rfl rfl rfl (.move rfl rfl) ?_
  refine SO.val rfl rfl rfl rfl (.extract rfl rfl rfl) ?_
  refine SO.val rfl rfl rfl rfl (.extract rfl rfl rfl) ?_
  refine SO.val rfl rfl rfl rfl (.assign rfl rfl) ?_
  refine SO.val rfl rfl rfl rfl (.assign rfl rfl) ?_
  refine SO.nil ?_
  refine SQ.then_normal ?_
  refine SC.seq ?_
  refine SC.region ?_
  refine SO.val rfl rfl rfl rfl (.move rfl rfl) ?_
  refine SO.call rfl rfl rfl rfl (.callF rfl rfl en25) ((by have h := lines_at (.iface tT tx) s0 1 2 _ (hO6.good hGb) (ht.below (hO6.toBelow ⟨hb4, trivial⟩)); rw [aw8, aw3] at h; exact h)) ?_
  rintro _ w7 ⟨rfl, hb7⟩
  have hO7 := hO6.below hb7
  refine ⟨_, rfl, ?_⟩
  refine SO.val rfl rfl rfl rfl (.move rfl rfl) ?_
  refine SO.val rfl rfl rfl rfl (.extract rfl rfl rfl) ?_
  refine SO.val rfl rfl rfl rfl (.extract rfl rfl rfl) ?_
  refine SO.val rfl rfl rfl rfl (.assign rfl rfl) ?_
  refine SO.val rfl rfl rfl rfl (.assign rfl rfl) ?_
  refine SO.nil ?_
  refine SQ.then_normal ?_
  refine SC.seq ?_
  refine SC.region ?_
  refine SO.val rfl rfl rfl rfl (.move rfl rfl) ?_
  refine SO.call rfl rfl rfl rfl (.callF rfl rfl en27) ((by have h := lines_of (.iface tT tx) s0 10 _ (hO7.good hGb) (ht.below (hO7.toBelow ⟨hb4, trivial⟩)); rw [aw6, aw9] at h; exact h)) ?_
  rintro _ w8 ⟨rfl, hb8⟩
  have hO8 := hO7.below hb8
  refine ⟨_, rfl, ?_⟩
  refine SO.val rfl rfl rfl rfl (.move rfl rfl) ?_
  refine SO.val rfl rfl rfl rfl (.extract rfl rfl rfl) ?_
  refine SO.val rfl rfl rfl rfl (.extract rfl rfl rfl) ?_
  refine SO.val rfl rfl rfl rfl (.assign rfl rfl) ?_
  refine SO.val rfl rfl rfl rfl (.assign rfl rfl) ?_
  refine SO.nil ?_
  refine SQ.then_normal ?_
  refine SC.seq ?_
  refine SC.region ?_
  refine SO.val rfl rfl rfl rfl (.move rfl rfl) ?_
  refine SO.call rfl rfl rfl rfl (.callF rfl rfl en29) ((by have h := lines_count (.iface tT tx) s0 _ (hO8.good hGb) (ht.below (hO8.toBelow ⟨hb4, trivial⟩)); rw [aw7] at h; exact h)) ?_
  rintro _ w9 ⟨rfl, hb9⟩
  have hO9 := hO8.below hb9
  refine ⟨_, rfl, ?_⟩
  refine SO.val rfl rfl rfl rfl (decT (.eql rfl rfl rfl) (by omega)) ?_
  refine SO.val rfl rfl rfl rfl (.move rfl rfl) ?_
  refine SO.val rfl rfl rfl rfl (.loadB [_, _] rfl rfl ag41 sz41 (hO9.at (i := 0) rfl) rfl rfl) ?_
  refine SO.val rfl rfl rfl rfl (.build rfl rfl (bd41_0_1_Awk _ _)) ?_
  refine SO.val rfl rfl rfl rfl (decT (.eql41 rfl rfl rfl) (by decide)) ?_
  refine SO.val rfl rfl rfl rfl (.pickT rfl rfl rfl) ?_
  refine SO.val rfl rfl rfl rfl (.move rfl rfl) ?_
  refine SO.val rfl rfl rfl rfl (.move rfl rfl) ?_
  refine SO.val rfl rfl rfl rfl (decT (.eql rfl rfl rfl) (by omega)) ?_
  refine SO.val rfl rfl rfl rfl (.pickT rfl rfl rfl) ?_
  refine SO.val rfl rfl rfl rfl (.move rfl rfl) ?_
  refine SO.val rfl rfl rfl rfl (.move rfl rfl) ?_
  refine SO.val rfl rfl rfl rfl (decT (.eql rfl rfl rfl) (by omega)) ?_
  refine SO.val rfl rfl rfl rfl (.pickT rfl rfl rfl) ?_
  refine SO.val rfl rfl rfl rfl (.move rfl rfl) ?_
  refine SO.val rfl rfl rfl rfl (.move rfl rfl) ?_
  refine SO.val rfl rfl rfl rfl (decT (.eql rfl rfl rfl) (by omega)) ?_
  refine SO.val rfl rfl rfl rfl (.pickT rfl rfl rfl) ?_
  refine SO.val rfl rfl rfl rfl (.move rfl rfl) ?_
  refine SO.val rfl rfl rfl rfl (.move rfl rfl) ?_
  refine SO.val rfl rfl rfl rfl (decT (.eql rfl rfl rfl) (by omega)) ?_
  refine SO.val rfl rfl rfl rfl (.pickT rfl rfl rfl) ?_
  refine SO.val rfl rfl rfl rfl (.move rfl rfl) ?_
  refine SO.val rfl rfl rfl rfl (.move rfl rfl) ?_
  refine SO.val rfl rfl rfl rfl (decT (.eql rfl rfl rfl) (by omega)) ?_
  refine SO.val rfl rfl rfl rfl (.pickT rfl rfl rfl) ?_
  refine SO.val rfl rfl rfl rfl (.move rfl rfl) ?_
  refine SO.val rfl rfl rfl rfl (.move rfl rfl) ?_
  refine SO.val rfl rfl rfl rfl (decT (.eql rfl rfl rfl) (by omega)) ?_
  refine SO.val rfl rfl rfl rfl (.pickT rfl rfl rfl) ?_
  refine SO.val rfl rfl rfl rfl (.move rfl rfl) ?_
  refine SO.val rfl rfl rfl rfl (.move rfl rfl) ?_
  refine SO.val rfl rfl rfl rfl (decT (.eql rfl rfl rfl) (by omega)) ?_
  refine SO.val rfl rfl rfl rfl (.pickT rfl rfl rfl) ?_
  refine SO.val rfl rfl rfl rfl (.assign rfl rfl) ?_
  refine SO.nil ?_
  refine SQ.then_normal ?_
  refine SC.ret ?_
  refine SQ.out (.inl rfl) (res1 rfl rfl) ?_
  have hE := hO9.toBelow ⟨hb4, trivial⟩
  exact ⟨rfl, hBb.trans (hE.mono hBb.size)⟩

end Go.Proofs.YtclgplkkajfenaaGreatDoor
