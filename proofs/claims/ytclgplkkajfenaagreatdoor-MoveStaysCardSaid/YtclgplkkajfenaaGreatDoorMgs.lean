/- goes, laid. -/
import Derived.Test.YtclgplkkajfenaaGreatDoorMgol
namespace Go.Proofs.YtclgplkkajfenaaGreatDoor
open Go Go.RowKit Ow
/-! ### a store for the laws of motions -/
theorem Ow.Res.rem4 {e : Env} {w : World} {o : Oper} {x y : Operand} {a : Int} (ho : o.op = .binOp .rem 5 x y 5) (hx : ev e x = some (.int .u8 a)) (hy : ev e y = some (.int .u8 4)) (h : 0 ≤ a ∧ a ≤ 255) : Ow.Res Tryz.prog e o w (.ok (.value (.int .u8 (a % 4))) w) := by
  have h1 : a.tmod 4 = a % 4 := Int.tmod_eq_emod_of_nonneg h.1
  have h2 : IntKind.u8.wrap (a.tmod 4) = a % 4 := by rw [h1]; exact u8_in _ (by omega)
  refine .bin ho hx hy guard_int ?_
  simp [go_sem]
  exact h1
theorem Ow.Res.conv5_3 {e : Env} {w : World} {o : Oper} {x : Operand} {a : Int} (ho : o.op = .convert 5 3 x) (hx : ev e x = some (.int .u8 a)) (h : 0 ≤ a ∧ a ≤ 255) : Ow.Res Tryz.prog e o w (.ok (.value (.int .i64 a)) w) :=
  Res.convI ho hx (by rw [Tryz.underlying5]; rfl) Tryz.underlying3 (IntWalk.i64_in _ (by omega))
theorem Ow.Res.conv5_60 {e : Env} {w : World} {o : Oper} {x : Operand} {a : Int} (ho : o.op = .convert 5 60 x) (hx : ev e x = some (.int .u8 a)) (h : 0 ≤ a ∧ a ≤ 255) : Ow.Res Tryz.prog e o w (.ok (.value (.int .i64 a)) w) :=
  Res.convI ho hx (by rw [Tryz.underlying5]; rfl) Tryz.underlying60 (IntWalk.i64_in _ (by omega))

set_option maxRecDepth 20000 in
set_option maxHeartbeats 400000 in
theorem laid_any (kd : Int) (s : ByteArray) (w : World) (hG : Good w) (hk : 0 ≤ kd ∧ kd ≤ 255) (hz : s.size ≤ 1073741824) :
    Calls Tryz.prog 62 #[.int .u8 kd, .string s] w fun e w' => ∃ b : Nat, e = .returned (.pointer (some ⟨b, 0, none⟩)) ∧ w.heap.size ≤ b ∧ StoreAt w' b s 1073741824 ∧ Below w.heap.size w w' := by
  have hh : held 1073741824 = 1073741824 := by decide
  have hO0 := Own.start hG
  refine enter Tryz.func62 rfl rfl rfl 0 ?_
  refine SC.sr ?_
  refine SO.as ?_
  refine SO.nn ?_
  refine SC.sr ?_
  refine SO.mv ?_
  refine SO.v (.rem4 rfl rfl rfl hk) ?_
  refine SO.v (.conv5_60 rfl rfl (by omega)) ?_
  refine SO.mv ?_
  refine SO.v (.conv5_3 rfl rfl hk) ?_
  refine SO.mv ?_
  refine SO.v (.conv5_3 rfl rfl hk) ?_
  refine SO.v (.add rfl rfl rfl (by omega)) ?_
  refine SO.mv ?_
  refine SO.call rfl rfl rfl rfl (.callF rfl rfl en43) (store_new _ _ _ _ s _ (hO0.good hG) (by omega)) ?_
  rintro _ w1 hsn
  rw [hh] at hsn
  rcases hsn with ⟨_, hlt, _⟩ | ⟨bs, u, kd2, tp, rfl, hbs, hle, hst0, hu, _, _, _, hb1⟩
  · omega
  have hsa : StoreAt _ bs s 1073741824 := ⟨u, kd2, _, tp, 0, 0, 0, hst0, hu⟩
  have hO1 := hO0.below hb1
  refine ⟨_, rfl, ?_⟩
  refine SO.mv ?_
  refine SO.v (.extract rfl rfl rfl) ?_
  refine SO.v (.extract rfl rfl rfl) ?_
  refine SO.as ?_
  refine SO.as ?_
  refine SO.nn ?_
  refine SC.sr ?_
  refine SO.mv ?_
  refine SO.as ?_
  refine SO.nn ?_
  refine SC.ret ?_
  refine SQ.out (.inl rfl) (res1 rfl rfl) ?_
  exact ⟨bs, rfl, hbs, hsa, hO1.toBelow trivial⟩

def ex0 : ByteArray := ⟨#[97, 98, 10, 228, 184, 128, 99, 10, 100]⟩
theorem gx1 : (stOver ex0 1).run ex0 1 (-1) 1 = (3, 1, 0) := by kernel_rfl
theorem gx2 : (stOver ex0 1).run ex0 9 (-1) 1 = (9, -1, 8) := by kernel_rfl
theorem gx3 : colR ex0 (cSnapI (bl ex0) (max 7 0) : Nat) = 3 := by kernel_rfl
theorem gx4 : cNextI (bl ⟨#[97]⟩) 0 = 1 := by kernel_rfl

set_option maxRecDepth 20000 in
set_option maxHeartbeats 400000 in
theorem goes_any (w : World) (hG : Good w) :
    Calls Tryz.prog 61 #[] w fun e w' => e = .returned (.bool true) ∧ Below w.heap.size w w' := by
  have hO0 := Own.start hG
  refine enter Tryz.func61 rfl rfl rfl 0 ?_
  refine SC.sr ?_
  refine SO.as ?_
  refine SO.nn ?_
  refine SC.seq ?_
  refine SC.sr ?_
  refine SO.call rfl rfl rfl rfl (.callF rfl rfl en30) ((by have h := cnext_any ⟨#[97]⟩ 0 _ (hO0.good hG) (by decide); rw [gx4] at h; exact h)) ?_
  rintro _ w1 ⟨rfl, hb1⟩
  have hO1 := hO0.below hb1
  refine ⟨_, rfl, ?_⟩
  refine SO.v (decF (.neq rfl rfl rfl) (by omega)) ?_
  refine SO.nn ?_
  refine SC.no rfl ?_
  refine SC.skip ?_
  refine SQ.then_normal ?_
  refine SC.sr ?_
  refine SO.call rfl rfl rfl rfl (.callF rfl rfl en62) (laid_any 1 ex0 _ (hO1.good hG) (by decide) (by decide)) ?_
  rintro _ w2 ⟨bs, rfl, hbs, hsa, hb2⟩
  have hOb := hO1.below hb2
  have hGb := hOb.good hG
  have hBb := hOb.toBelow trivial
  have hO2 := Own.start hGb
  refine ⟨_, rfl, ?_⟩
  refine SO.as ?_
  refine SO.nn ?_
  refine SC.sr ?_
  refine SO.mv ?_
  refine SO.call rfl rfl rfl rfl (.callF rfl rfl en63) ((by have h := go_over ex0 (by decide) 7 1 (.inr ⟨rfl, rfl⟩) bs _ 1 (-1) 1 _ (hO2.good hGb) (hsa.below (hO2.toBelow trivial)); simp only [gx1] at h; exact h)) ?_
  rintro _ w3 ⟨rfl, hb3⟩
  have hO3 := hO2.below hb3
  refine ⟨_, rfl, ?_⟩
  refine SO.mv ?_
  refine SO.v (.extract rfl rfl rfl) ?_
  refine SO.v (.extract rfl rfl rfl) ?_
  refine SO.v (.extract rfl rfl rfl) ?_
  refine SO.as ?_
  refine SO.as ?_
  refine SO.as ?_
  refine SO.nn ?_
  refine SC.seq ?_
  refine SC.sr ?_
  refine SO.mv ?_
  refine SO.v (decF (.neq rfl rfl rfl) (by omega)) ?_
  refine SO.mv ?_
  refine SO.mv ?_
  refine SO.v (decF (.neq rfl rfl rfl) (by omega)) ?_
  refine SO.v (.pickF rfl rfl rfl) ?_
  refine SO.mv ?_
  refine SO.mv ?_
  refine SO.v (decF (.neq rfl rfl rfl) (by omega)) ?_
  refine SO.v (.pickF rfl rfl rfl) ?_
  refine SO.nn ?_
  refine SC.no rfl ?_
  refine SC.skip ?_
  refine SQ.then_normal ?_
  refine SC.sr ?_
  refine SO.mv ?_
  refine SO.call rfl rfl rfl rfl (.callF rfl rfl en63) ((by have h := go_over ex0 (by decide) 7 1 (.inr ⟨rfl, rfl⟩) bs _ 9 (-1) 1 _ (hO3.good hGb) (hsa.below (hO3.toBelow trivial)); simp only [gx2] at h; exact h)) ?_
  rintro _ w4 ⟨rfl, hb4⟩
  have hO4 := hO3.below hb4
  refine ⟨_, rfl, ?_⟩
  refine SO.mv ?_
  refine SO.v (.extract rfl rfl rfl) ?_
  refine SO.v (.extract rfl rfl rfl) ?_
  refine SO.v (.extract rfl rfl rfl) ?_
  refine SO.as ?_
  refine SO.as ?_
  refine SO.as ?_
  refine SO.nn ?_
  refine SC.sr ?_
  refine SO.mv ?_
  refine SO.v (decT (.eql rfl rfl rfl) (by omega)) ?_
  refine SO.mv ?_
  refine SO.mv ?_
  refine SO.v (decT (.eql rfl rfl rfl) (by omega)) ?_
  refine SO.v (.pickT rfl rfl rfl) ?_
  refine SO.mv ?_
  refine SO.mv ?_
  refine SO.v (decT (.eql rfl rfl rfl) (by omega)) ?_
  refine SO.v (.pickT rfl rfl rfl) ?_
  refine SO.mv ?_
  refine SO.mv ?_
  refine SO.call rfl rfl rfl rfl (.callF rfl rfl en67) ((by have h := mv_column bs ex0 _ 7 _ (hO4.good hGb) (hsa.below (hO4.toBelow trivial)); rw [gx3] at h; exact h)) ?_
  rintro _ w5 ⟨rfl, hb5⟩
  have hO5 := hO4.below hb5
  refine ⟨_, rfl, ?_⟩
  refine SO.v (decT (.eql rfl rfl rfl) (by omega)) ?_
  refine SO.v (.pickT rfl rfl rfl) ?_
  refine SO.mv ?_
  refine SO.call rfl rfl rfl rfl (.callF rfl rfl en71) ((by have h := mv_motion 10 _ (hO5.good hGb); rw [decide_eq_true (by decide)] at h; exact h)) ?_
  rintro _ w6 ⟨rfl, hb6⟩
  have hO6 := hO5.below hb6
  refine ⟨_, rfl, ?_⟩
  refine SO.v (.pickT rfl rfl rfl) ?_
  refine SO.mv ?_
  refine SO.call rfl rfl rfl rfl (.callF rfl rfl en71) ((by have h := mv_motion 32 _ (hO6.good hGb); rw [decide_eq_false (by decide)] at h; exact h)) ?_
  rintro _ w7 ⟨rfl, hb7⟩
  have hO7 := hO6.below hb7
  refine ⟨_, rfl, ?_⟩
  refine SO.v (.not rfl rfl) ?_
  refine SO.v (.pickT rfl rfl rfl) ?_
  refine SO.as ?_
  refine SO.nn ?_
  refine SC.ret ?_
  refine SQ.out (.inl rfl) (res1 rfl rfl) ?_
  exact ⟨rfl, hBb.trans ((hO7.toBelow trivial).mono hBb.size)⟩

end Go.Proofs.YtclgplkkajfenaaGreatDoor
