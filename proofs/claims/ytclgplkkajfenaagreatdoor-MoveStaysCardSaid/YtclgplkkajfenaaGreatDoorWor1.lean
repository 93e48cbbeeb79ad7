/- words: outside, IsWord. -/
import Derived.Test.YtclgplkkajfenaaGreatDoorMgw
namespace Go.Proofs.YtclgplkkajfenaaGreatDoor
open Go Go.RowKit Ow
/-! ### words -/
theorem Ow.SC.yesD {P : Program} {ro : Option Nat} {n N : Nat} {x y : Code} {c : Operand} {Q : Exit → Act → World → Prop} {D : List Deferred} {e : Env} {w : World} {p : Prop} [Decidable p] (hp : p) (hc : ev e c = some (.bool (decide p))) (h : SC P ro n x Q N D e w) : SC P ro n (.cond c x y) Q N D e w := SC.yes (by rw [hc, decide_eq_true hp]) h
theorem Ow.SC.noD {P : Program} {ro : Option Nat} {n N : Nat} {x y : Code} {c : Operand} {Q : Exit → Act → World → Prop} {D : List Deferred} {e : Env} {w : World} {p : Prop} [Decidable p] (hp : ¬ p) (hc : ev e c = some (.bool (decide p))) (h : SC P ro n y Q N D e w) : SC P ro n (.cond c x y) Q N D e w := SC.no (by rw [hc, decide_eq_false hp]) h
def outL : List Int := [171, 180, 182, 185, 187, 191, 215, 215, 247, 247, 8192, 8203, 8206, 8303, 11776, 11903, 12288, 12292, 12296, 12320, 12336, 12336, 65072, 65135, 65281, 65295, 65306, 65312]
theorem bdOut : ∀ w, (Instr.build 249 [(0, .int .i32 171), (1, .int .i32 180), (2, .int .i32 182), (3, .int .i32 185), (4, .int .i32 187), (5, .int .i32 191), (6, .int .i32 215), (7, .int .i32 215), (8, .int .i32 247), (9, .int .i32 247), (10, .int .i32 8192), (11, .int .i32 8203), (12, .int .i32 8206), (13, .int .i32 8303), (14, .int .i32 11776), (15, .int .i32 11903), (16, .int .i32 12288), (17, .int .i32 12292), (18, .int .i32 12296), (19, .int .i32 12320), (20, .int .i32 12336), (21, .int .i32 12336), (22, .int .i32 65072), (23, .int .i32 65135), (24, .int .i32 65281), (25, .int .i32 65295), (26, .int .i32 65306), (27, .int .i32 65312)].toArray).run Tryz.prog w = .ok (.agg [.int .i32 171, .int .i32 180, .int .i32 182, .int .i32 185, .int .i32 187, .int .i32 191, .int .i32 215, .int .i32 215, .int .i32 247, .int .i32 247, .int .i32 8192, .int .i32 8203, .int .i32 8206, .int .i32 8303, .int .i32 11776, .int .i32 11903, .int .i32 12288, .int .i32 12292, .int .i32 12296, .int .i32 12320, .int .i32 12336, .int .i32 12336, .int .i32 65072, .int .i32 65135, .int .i32 65281, .int .i32 65295, .int .i32 65306, .int .i32 65312].toArray) w := fun _ => by kernel_rfl
theorem underOut : Tryz.prog.underlying 249 = some (.array 28 21) := by kernel_rfl
theorem Ow.Res.indexAddrP {P : Program} {e : Env} {w : World} {o : Oper} {T E n : Nat} {x y : Operand} {b off sz : Nat} {k : IntKind} {i : Int} (ho : o.op = .indexAddr T x y) (hx : ev e x = some (.pointer (some ⟨b, off, none⟩))) (hy : ev e y = some (.int k i))
    (hT : P.underlying T = some (.array n E)) (hs : ∀ w, (sizeOf E).run P w = .ok sz w) (h0 : 0 ≤ i) (h1 : i < n) : Ow.Res P e o w (.ok (.value (.pointer (some ⟨b, off + i.toNat * sz, none⟩))) w) := fun ac h => by
  unfold execOp; rw [ho]; simp only [ev_eval h hx, ev_eval h hy]
  simp [Instr.indexAt, Instr.sureAddr, run_underlying hT, asIntOf, h0, h1, hs, Sem.run_bind, Result.andThen, Addr.add, go_sem]
theorem inTab_drop (c : Int) (l : List Int) (x : Nat) (h : 2 * x + 1 < l.length) : inTab (l.drop (2 * x)) c = ((decide (tg l (2 * x) ≤ c) && decide (c ≤ tg l (2 * x + 1))) || inTab (l.drop (2 * (x + 1))) c) := by
  have e1 : l.drop (2 * x) = tg l (2 * x) :: tg l (2 * x + 1) :: l.drop (2 * (x + 1)) := by
    have h1 : 2 * x < l.length := by omega
    rw [List.drop_eq_getElem_cons h1, List.drop_eq_getElem_cons h]
    simp [tg, h1, h, Nat.mul_add]
  rw [e1, inTab]
/-- Does a character stand in words? -/
def isW (c : Int) : Bool := decide ((48 ≤ c ∧ c ≤ 57) ∨ (65 ≤ c ∧ c ≤ 90) ∨ (97 ≤ c ∧ c ≤ 122) ∨ c = 95) || (decide (170 ≤ c ∧ (cls c = 3 ∨ cls c = 4 ∨ cls c = 0)) && !inTab outL c)

set_option maxRecDepth 20000 in
set_option maxHeartbeats 400000 in
theorem outside_any (c : Int) (w : World) (hG : Good w) :
    Calls Tryz.prog 228 #[.int .i32 c] w fun e w' => e = .returned (.bool (inTab outL c)) ∧ Below w.heap.size w w' := by
  have hO0 := Own.start hG
  refine enter Tryz.func228 rfl rfl rfl 0 ?_
  refine SC.sr ?_
  refine SO.as ?_
  refine SO.nn ?_
  refine SC.sr ?_
  refine SO.v (.build rfl rfl bdOut) ?_
  refine SO.alloc hO0 rfl rfl rfl rfl zv249 [_, _, _, _, _, _, _, _, _, _, _, _, _, _, _, _, _, _, _, _, _, _, _, _, _, _, _, _] rfl ?_
  intro b1 w1 hb1 hO1
  refine SO.store hO1 (i := 0) rfl rfl rfl rfl rfl rfl sz249 rfl rfl [(_, .cells [_, _, _, _, _, _, _, _, _, _, _, _, _, _, _, _, _, _, _, _, _, _, _, _, _, _, _, _].toArray _ _)] rfl ?_
  intro w2 hO2
  refine SO.nn ?_
  refine SC.seq ?_
  refine SC.sr ?_
  refine SO.as ?_
  refine SO.nn ?_
  refine SC.block ?_
  refine SC.loop (α := Nat) (fun x => [(0, .int .i32 c), (3, .pointer (some ⟨b1, 0, none⟩)), (4, .int .i64 ((2 * x : Nat) : Int))]) (fun x v => x ≤ 14 ∧ inTab outL c = inTab (outL.drop (2 * x)) c ∧ Ow.Own w [(b1, .cells (tabCells outL) 249 (0, 0))] v) (fun x => 14 - x) 0 ?_ ?_ ?_
  · exact ⟨rfl, rfl, rfl, trivial⟩
  · exact ⟨by omega, rfl, hO2⟩
  rintro x w3 ⟨hx, hit, hO3⟩
  have hcell := hO3.at (i := 0) rfl
  refine SC.seq ?_
  refine SC.sr ?_
  refine SO.mv ?_
  refine SO.v (.lss rfl rfl rfl) ?_
  refine SO.nn ?_
  refine SC.dec rfl (fun c4 => ?_) (fun c4 => ?_)
  ·
   have hx2 : x < 14 := by omega
   have hdr := inTab_drop c outL x (by show 2 * x + 1 < 28; omega)
   have t0 : tg outL (((2 * x : Nat) : Int)).toNat = tg outL (2 * x) := by rw [Int.toNat_natCast]
   have t1 : tg outL ((((2 * x : Nat) : Int) + 1).toNat) = tg outL (2 * x + 1) := by congr 1
   refine SC.skip ?_
   refine SQ.then_normal ?_
   refine SC.seq ?_
   refine SC.block ?_
   refine SC.sr ?_
   refine SO.mv ?_
   refine SO.mv ?_
   refine SO.v (.indexAddrP rfl rfl rfl underOut sz21 (by omega) (by omega)) ?_
   refine SO.v (.load rfl rfl ag21 (tab_cell hcell (by rw [Int.toNat_natCast]; show 2 * x < 28; omega))) ?_
   refine SO.v (.geq rfl rfl rfl) ?_
   refine SO.mv ?_
   refine SO.dec 15 rfl (fun g5 => ?_) (fun g5 => ?_)
   ·
    refine SO.mv ?_
    refine SO.mv ?_
    refine SO.v (.add rfl rfl rfl (by omega)) ?_
    refine SO.v (.indexAddrP rfl rfl rfl underOut sz21 (by omega) (by omega)) ?_
    refine SO.v (.load rfl rfl ag21 (tab_cell hcell (by show (((2 * x : Nat) : Int) + 1).toNat < 28; omega))) ?_
    refine SO.v (.leq rfl rfl rfl) ?_
    refine SO.v (.pickT rfl rfl rfl) ?_
    refine SO.nn ?_
    refine SC.dec rfl (fun c6 => ?_) (fun c6 => ?_)
    ·
     have hyes : inTab outL c = true := by rw [hit, hdr, decide_eq_true (by omega), decide_eq_true (by omega)]; rfl
     refine SC.sr ?_
     refine SO.as ?_
     refine SO.nn ?_
     refine SC.ret ?_
     refine SQ.block_ret ?_
     refine SQ.then_ret ?_
     refine SQ.then_ret ?_
     refine SQ.block_ret ?_
     refine SQ.then_ret ?_
     refine SQ.out (.inl rfl) (res1 rfl rfl) ?_
     exact ⟨by rw [hyes], hO3.toBelow ⟨hb1, trivial⟩⟩
    ·
     have hit2 : inTab outL c = inTab (outL.drop (2 * (x + 1))) c := by rw [hit, hdr]; first | (rw [decide_eq_false (by omega)]; rfl) | (rw [decide_eq_false (show ¬ c ≤ _ by omega), Bool.and_false, Bool.false_or])
     refine SC.skip ?_
     refine SQ.block_normal ?_
     refine SQ.then_normal ?_
     refine SC.region ?_
     refine SO.mv ?_
     refine SO.v (.add rfl rfl rfl (by omega)) ?_
     refine SO.as ?_
     refine SO.nil ?_
     refine SQ.round (x + 1) (by omega) ⟨rfl, rfl, rfl, trivial⟩ ⟨by omega, hit2, hO3⟩
   ·
    have hit2 : inTab outL c = inTab (outL.drop (2 * (x + 1))) c := by rw [hit, hdr, decide_eq_false (show ¬ tg outL (2 * x) ≤ c by omega)]; rfl
    refine SO.ps ?_
    refine SO.ps ?_
    refine SO.ps ?_
    refine SO.ps ?_
    refine SO.ps ?_
    refine SO.ps ?_
    refine SO.v (.pickF rfl rfl rfl) ?_
    refine SO.nn ?_
    refine SC.no rfl ?_
    refine SC.skip ?_
    refine SQ.block_normal ?_
    refine SQ.then_normal ?_
    refine SC.region ?_
    refine SO.mv ?_
    refine SO.v (.add rfl rfl rfl (by omega)) ?_
    refine SO.as ?_
    refine SO.nil ?_
    refine SQ.round (x + 1) (by omega) ⟨rfl, rfl, rfl, trivial⟩ ⟨by omega, hit2, hO3⟩
  ·
   have hnil : inTab outL c = false := by rw [hit, show x = 14 by omega]; rfl
   refine SC.exit ?_
   refine SQ.then_exit ?_
   refine SQ.then_exit ?_
   refine SQ.block_exit ?_
   refine SQ.then_normal ?_
   refine SC.sr ?_
   refine SO.as ?_
   refine SO.nn ?_
   refine SC.ret ?_
   refine SQ.out (.inl rfl) (res1 rfl rfl) ?_
   exact ⟨by rw [hnil], hO3.toBelow ⟨hb1, trivial⟩⟩

set_option maxRecDepth 20000 in
set_option maxHeartbeats 400000 in
theorem isword_any (c : Int) (w : World) (hG : Good w) :
    Calls Tryz.prog 223 #[.int .i32 c] w fun e w' => e = .returned (.bool (isW c)) ∧ Below w.heap.size w w' := by
  have hO0 := Own.start hG
  refine enter Tryz.func223 rfl rfl rfl 0 ?_
  refine SC.sr ?_
  refine SO.as ?_
  refine SO.nn ?_
  refine SC.seq ?_
  refine SC.block ?_
  refine SC.seq ?_
  refine SC.sr ?_
  refine SO.mv ?_
  refine SO.v (.geq rfl rfl rfl) ?_
  refine SO.mv ?_
  refine SO.dec 6 rfl (fun g1 => ?_) (fun g1 => ?_)
  ·
   refine SO.mv ?_
   refine SO.v (.leq rfl rfl rfl) ?_
   refine SO.v (.pickT rfl rfl rfl) ?_
   refine SO.as ?_
   refine SO.nn ?_
   refine SC.dec rfl (fun c2 => ?_) (fun c2 => ?_)
   ·
    refine SC.skip ?_
    refine SQ.then_normal ?_
    refine SC.yesD c2 rfl ?_
    refine SC.sr ?_
    refine SO.as ?_
    refine SO.nn ?_
    refine SC.ret ?_
    refine SQ.block_ret ?_
    refine SQ.then_ret ?_
    refine SQ.out (.inl rfl) (res1 rfl rfl) ?_
    refine ⟨?_, hO0.toBelow trivial⟩
    unfold isW
    (rw [decide_eq_true (show (48 ≤ c ∧ c ≤ 57) ∨ (65 ≤ c ∧ c ≤ 90) ∨ (97 ≤ c ∧ c ≤ 122) ∨ c = 95 by omega)]; rfl)
   ·
    refine SC.sr ?_
    refine SO.mv ?_
    refine SO.v (.geq rfl rfl rfl) ?_
    refine SO.mv ?_
    refine SO.dec 12 rfl (fun g4 => ?_) (fun g4 => ?_)
    ·
     refine SO.mv ?_
     refine SO.v (.leq rfl rfl rfl) ?_
     refine SO.v (.pickT rfl rfl rfl) ?_
     refine SO.as ?_
     refine SO.nn ?_
     refine SC.dec rfl (fun c5 => ?_) (fun c5 => ?_)
     ·
      refine SC.skip ?_
      refine SQ.then_normal ?_
      refine SC.yesD c5 rfl ?_
      refine SC.sr ?_
      refine SO.as ?_
      refine SO.nn ?_
      refine SC.ret ?_
      refine SQ.block_ret ?_
      refine SQ.then_ret ?_
      refine SQ.out (.inl rfl) (res1 rfl rfl) ?_
      refine ⟨?_, hO0.toBelow trivial⟩
      unfold isW
      (rw [decide_eq_true (show (48 ≤ c ∧ c ≤ 57) ∨ (65 ≤ c ∧ c ≤ 90) ∨ (97 ≤ c ∧ c ≤ 122) ∨ c = 95 by omega)]; rfl)
     ·
      refine SC.sr ?_
      refine SO.mv ?_
      refine SO.v (.geq rfl rfl rfl) ?_
      refine SO.mv ?_
      refine SO.dec 18 rfl (fun g7 => ?_) (fun g7 => ?_)
      ·
       refine SO.mv ?_
       refine SO.v (.leq rfl rfl rfl) ?_
       refine SO.v (.pickT rfl rfl rfl) ?_
       refine SO.as ?_
       refine SO.nn ?_
       refine SC.dec rfl (fun c8 => ?_) (fun c8 => ?_)
       ·
        refine SC.skip ?_
        refine SQ.then_normal ?_
        refine SC.yesD c8 rfl ?_
        refine SC.sr ?_
        refine SO.as ?_
        refine SO.nn ?_
        refine SC.ret ?_
        refine SQ.block_ret ?_
        refine SQ.then_ret ?_
        refine SQ.out (.inl rfl) (res1 rfl rfl) ?_
        refine ⟨?_, hO0.toBelow trivial⟩
        unfold isW
        (rw [decide_eq_true (show (48 ≤ c ∧ c ≤ 57) ∨ (65 ≤ c ∧ c ≤ 90) ∨ (97 ≤ c ∧ c ≤ 122) ∨ c = 95 by omega)]; rfl)
       ·
        refine SC.region ?_
        refine SO.mv ?_
        refine SO.v (.eql rfl rfl rfl) ?_
        refine SO.as ?_
        refine SO.nn ?_
        refine SC.dec rfl (fun c10 => ?_) (fun c10 => ?_)
        ·
         refine SC.sr ?_
         refine SO.as ?_
         refine SO.nn ?_
         refine SC.ret ?_
         refine SQ.block_ret ?_
         refine SQ.then_ret ?_
         refine SQ.out (.inl rfl) (res1 rfl rfl) ?_
         refine ⟨?_, hO0.toBelow trivial⟩
         unfold isW
         (rw [decide_eq_true (show (48 ≤ c ∧ c ≤ 57) ∨ (65 ≤ c ∧ c ≤ 90) ∨ (97 ≤ c ∧ c ≤ 122) ∨ c = 95 by omega)]; rfl)
        ·
         refine SC.sr ?_
         refine SO.mv ?_
         refine SO.v (.lss rfl rfl rfl) ?_
         refine SO.as ?_
         refine SO.nn ?_
         refine SC.dec rfl (fun c12 => ?_) (fun c12 => ?_)
         ·
          refine SC.sr ?_
          refine SO.as ?_
          refine SO.nn ?_
          refine SC.ret ?_
          refine SQ.block_ret ?_
          refine SQ.then_ret ?_
          refine SQ.out (.inl rfl) (res1 rfl rfl) ?_
          refine ⟨?_, hO0.toBelow trivial⟩
          unfold isW
          (rw [decide_eq_false (show ¬ ((48 ≤ c ∧ c ≤ 57) ∨ (65 ≤ c ∧ c ≤ 90) ∨ (97 ≤ c ∧ c ≤ 122) ∨ c = 95) by omega), decide_eq_false (show ¬ (170 ≤ c ∧ (cls c = 3 ∨ cls c = 4 ∨ cls c = 0)) by omega)]; rfl)
         ·
          refine SC.skip ?_
          refine SQ.block_normal ?_
          refine SQ.then_normal ?_
          refine SC.seq ?_
          refine SC.sr ?_
          refine SO.mv ?_
          refine SO.call rfl rfl rfl rfl (.callF rfl rfl en161) (class_any _ _ (hO0.good hG)) ?_
          rintro _ w14 ⟨rfl, hb14⟩
          have hO14 := hO0.below hb14
          refine ⟨_, rfl, ?_⟩
          refine SO.nn ?_
          refine SC.block ?_
          refine SC.seq ?_
          refine SC.sr ?_
          refine SO.v (.eql rfl rfl rfl) ?_
          refine SO.as ?_
          refine SO.nn ?_
          refine SC.dec rfl (fun c15 => ?_) (fun c15 => ?_)
          ·
           refine SC.skip ?_
           refine SQ.then_normal ?_
           refine SC.yesD c15 rfl ?_
           refine SC.sr ?_
           refine SO.mv ?_
           refine SO.call rfl rfl rfl rfl (.callF rfl rfl en228) (outside_any _ _ (hO14.good hG)) ?_
           rintro _ w16 ⟨rfl, hb16⟩
           have hO16 := hO14.below hb16
           refine ⟨_, rfl, ?_⟩
           refine SO.v (.not rfl rfl) ?_
           refine SO.as ?_
           refine SO.nn ?_
           refine SC.ret ?_
           refine SQ.block_ret ?_
           refine SQ.then_ret ?_
           refine SQ.out (.inl rfl) (res1 rfl rfl) ?_
           refine ⟨?_, hO16.toBelow trivial⟩
           unfold isW
           rw [decide_eq_false (show ¬ ((48 ≤ c ∧ c ≤ 57) ∨ (65 ≤ c ∧ c ≤ 90) ∨ (97 ≤ c ∧ c ≤ 122) ∨ c = 95) by omega), decide_eq_true (show 170 ≤ c ∧ (cls c = 3 ∨ cls c = 4 ∨ cls c = 0) by omega), Bool.true_and, Bool.false_or]
          ·
           refine SC.sr ?_
           refine SO.v (.eql rfl rfl rfl) ?_
           refine SO.as ?_
           refine SO.nn ?_
           refine SC.dec rfl (fun c18 => ?_) (fun c18 => ?_)
           ·
            refine SC.skip ?_
            refine SQ.then_normal ?_
            refine SC.yesD c18 rfl ?_
            refine SC.sr ?_
            refine SO.mv ?_
            refine SO.call rfl rfl rfl rfl (.callF rfl rfl en228) (outside_any _ _ (hO14.good hG)) ?_
            rintro _ w19 ⟨rfl, hb19⟩
            have hO19 := hO14.below hb19
            refine ⟨_, rfl, ?_⟩
            refine SO.v (.not rfl rfl) ?_
            refine SO.as ?_
            refine SO.nn ?_
            refine SC.ret ?_
            refine SQ.block_ret ?_
            refine SQ.then_ret ?_
            refine SQ.out (.inl rfl) (res1 rfl rfl) ?_
            refine ⟨?_, hO19.toBelow trivial⟩
            unfold isW
            rw [decide_eq_false (show ¬ ((48 ≤ c ∧ c ≤ 57) ∨ (65 ≤ c ∧ c ≤ 90) ∨ (97 ≤ c ∧ c ≤ 122) ∨ c = 95) by omega), decide_eq_true (show 170 ≤ c ∧ (cls c = 3 ∨ cls c = 4 ∨ cls c = 0) by omega), Bool.true_and, Bool.false_or]
           ·
            refine SC.region ?_
            refine SO.v (.eql rfl rfl rfl) ?_
            refine SO.as ?_
            refine SO.nn ?_
            refine SC.dec rfl (fun c21 => ?_) (fun c21 => ?_)
            ·
             refine SC.sr ?_
             refine SO.mv ?_
             refine SO.call rfl rfl rfl rfl (.callF rfl rfl en228) (outside_any _ _ (hO14.good hG)) ?_
             rintro _ w22 ⟨rfl, hb22⟩
             have hO22 := hO14.below hb22
             refine ⟨_, rfl, ?_⟩
             refine SO.v (.not rfl rfl) ?_
             refine SO.as ?_
             refine SO.nn ?_
             refine SC.ret ?_
             refine SQ.block_ret ?_
             refine SQ.then_ret ?_
             refine SQ.out (.inl rfl) (res1 rfl rfl) ?_
             refine ⟨?_, hO22.toBelow trivial⟩
             unfold isW
             rw [decide_eq_false (show ¬ ((48 ≤ c ∧ c ≤ 57) ∨ (65 ≤ c ∧ c ≤ 90) ∨ (97 ≤ c ∧ c ≤ 122) ∨ c = 95) by omega), decide_eq_true (show 170 ≤ c ∧ (cls c = 3 ∨ cls c = 4 ∨ cls c = 0) by omega), Bool.true_and, Bool.false_or]
            ·
             refine SC.skip ?_
             refine SQ.block_normal ?_
             refine SQ.then_normal ?_
             refine SC.sr ?_
             refine SO.as ?_
             refine SO.nn ?_
             refine SC.ret ?_
             refine SQ.out (.inl rfl) (res1 rfl rfl) ?_
             refine ⟨?_, hO14.toBelow trivial⟩
             unfold isW
             (rw [decide_eq_false (show ¬ ((48 ≤ c ∧ c ≤ 57) ∨ (65 ≤ c ∧ c ≤ 90) ∨ (97 ≤ c ∧ c ≤ 122) ∨ c = 95) by omega), decide_eq_false (show ¬ (170 ≤ c ∧ (cls c = 3 ∨ cls c = 4 ∨ cls c = 0)) by omega)]; rfl)
      ·
       refine SO.ps ?_
       refine SO.ps ?_
       refine SO.v (.pickF rfl rfl rfl) ?_
       refine SO.as ?_
       refine SO.nn ?_
       refine SC.no rfl ?_
       refine SC.region ?_
       refine SO.mv ?_
       refine SO.v (.eql rfl rfl rfl) ?_
       refine SO.as ?_
       refine SO.nn ?_
       refine SC.dec rfl (fun c25 => ?_) (fun c25 => ?_)
       ·
        refine SC.sr ?_
        refine SO.as ?_
        refine SO.nn ?_
        refine SC.ret ?_
        refine SQ.block_ret ?_
        refine SQ.then_ret ?_
        refine SQ.out (.inl rfl) (res1 rfl rfl) ?_
        refine ⟨?_, hO0.toBelow trivial⟩
        unfold isW
        (rw [decide_eq_true (show (48 ≤ c ∧ c ≤ 57) ∨ (65 ≤ c ∧ c ≤ 90) ∨ (97 ≤ c ∧ c ≤ 122) ∨ c = 95 by omega)]; rfl)
       ·
        refine SC.sr ?_
        refine SO.mv ?_
        refine SO.v (.lss rfl rfl rfl) ?_
        refine SO.as ?_
        refine SO.nn ?_
        refine SC.dec rfl (fun c27 => ?_) (fun c27 => ?_)
        ·
         refine SC.sr ?_
         refine SO.as ?_
         refine SO.nn ?_
         refine SC.ret ?_
         refine SQ.block_ret ?_
         refine SQ.then_ret ?_
         refine SQ.out (.inl rfl) (res1 rfl rfl) ?_
         refine ⟨?_, hO0.toBelow trivial⟩
         unfold isW
         (rw [decide_eq_false (show ¬ ((48 ≤ c ∧ c ≤ 57) ∨ (65 ≤ c ∧ c ≤ 90) ∨ (97 ≤ c ∧ c ≤ 122) ∨ c = 95) by omega), decide_eq_false (show ¬ (170 ≤ c ∧ (cls c = 3 ∨ cls c = 4 ∨ cls c = 0)) by omega)]; rfl)
        ·
         refine SC.skip ?_
         refine SQ.block_normal ?_
         refine SQ.then_normal ?_
         refine SC.seq ?_
         refine SC.sr ?_
         refine SO.mv ?_
         refine SO.call rfl rfl rfl rfl (.callF rfl rfl en161) (class_any _ _ (hO0.good hG)) ?_
         rintro _ w29 ⟨rfl, hb29⟩
         have hO29 := hO0.below hb29
         refine ⟨_, rfl, ?_⟩
         refine SO.nn ?_
         refine SC.block ?_
         refine SC.seq ?_
         refine SC.sr ?_
         refine SO.v (.eql rfl rfl rfl) ?_
         refine SO.as ?_
         refine SO.nn ?_
         refine SC.dec rfl (fun c30 => ?_) (fun c30 => ?_)
         ·
          refine SC.skip ?_
          refine SQ.then_normal ?_
          refine SC.yesD c30 rfl ?_
          refine SC.sr ?_
          refine SO.mv ?_
          refine SO.call rfl rfl rfl rfl (.callF rfl rfl en228) (outside_any _ _ (hO29.good hG)) ?_
          rintro _ w31 ⟨rfl, hb31⟩
          have hO31 := hO29.below hb31
          refine ⟨_, rfl, ?_⟩
          refine SO.v (.not rfl rfl) ?_
          refine SO.as ?_
          refine SO.nn ?_
          refine SC.ret ?_
          refine SQ.block_ret ?_
          refine SQ.then_ret ?_
          refine SQ.out (.inl rfl) (res1 rfl rfl) ?_
          refine ⟨?_, hO31.toBelow trivial⟩
          unfold isW
          rw [decide_eq_false (show ¬ ((48 ≤ c ∧ c ≤ 57) ∨ (65 ≤ c ∧ c ≤ 90) ∨ (97 ≤ c ∧ c ≤ 122) ∨ c = 95) by omega), decide_eq_true (show 170 ≤ c ∧ (cls c = 3 ∨ cls c = 4 ∨ cls c = 0) by omega), Bool.true_and, Bool.false_or]
         ·
          refine SC.sr ?_
          refine SO.v (.eql rfl rfl rfl) ?_
          refine SO.as ?_
          refine SO.nn ?_
          refine SC.dec rfl (fun c33 => ?_) (fun c33 => ?_)
          ·
           refine SC.skip ?_
           refine SQ.then_normal ?_
           refine SC.yesD c33 rfl ?_
           refine SC.sr ?_
           refine SO.mv ?_
           refine SO.call rfl rfl rfl rfl (.callF rfl rfl en228) (outside_any _ _ (hO29.good hG)) ?_
           rintro _ w34 ⟨rfl, hb34⟩
           have hO34 := hO29.below hb34
           refine ⟨_, rfl, ?_⟩
           refine SO.v (.not rfl rfl) ?_
           refine SO.as ?_
           refine SO.nn ?_
           refine SC.ret ?_
           refine SQ.block_ret ?_
           refine SQ.then_ret ?_
           refine SQ.out (.inl rfl) (res1 rfl rfl) ?_
           refine ⟨?_, hO34.toBelow trivial⟩
           unfold isW
           rw [decide_eq_false (show ¬ ((48 ≤ c ∧ c ≤ 57) ∨ (65 ≤ c ∧ c ≤ 90) ∨ (97 ≤ c ∧ c ≤ 122) ∨ c = 95) by omega), decide_eq_true (show 170 ≤ c ∧ (cls c = 3 ∨ cls c = 4 ∨ cls c = 0) by omega), Bool.true_and, Bool.false_or]
          ·
           refine SC.region ?_
           refine SO.v (.eql rfl rfl rfl) ?_
           refine SO.as ?_
           refine SO.nn ?_
           refine SC.dec rfl (fun c36 => ?_) (fun c36 => ?_)
           ·
            refine SC.sr ?_
            refine SO.mv ?_
            refine SO.call rfl rfl rfl rfl (.callF rfl rfl en228) (outside_any _ _ (hO29.good hG)) ?_
            rintro _ w37 ⟨rfl, hb37⟩
            have hO37 := hO29.below hb37
            refine ⟨_, rfl, ?_⟩
            refine SO.v (.not rfl rfl) ?_
            refine SO.as ?_
            refine SO.nn ?_
            refine SC.ret ?_
            refine SQ.block_ret ?_
            refine SQ.then_ret ?_
            refine SQ.out (.inl rfl) (res1 rfl rfl) ?_
            refine ⟨?_, hO37.toBelow trivial⟩
            unfold isW
            rw [decide_eq_false (show ¬ ((48 ≤ c ∧ c ≤ 57) ∨ (65 ≤ c ∧ c ≤ 90) ∨ (97 ≤ c ∧ c ≤ 122) ∨ c = 95) by omega), decide_eq_true (show 170 ≤ c ∧ (cls c = 3 ∨ cls c = 4 ∨ cls c = 0) by omega), Bool.true_and, Bool.false_or]
           ·
            refine SC.skip ?_
            refine SQ.block_normal ?_
            refine SQ.then_normal ?_
            refine SC.sr ?_
            refine SO.as ?_
            refine SO.nn ?_
            refine SC.ret ?_
            refine SQ.out (.inl rfl) (res1 rfl rfl) ?_
            refine ⟨?_, hO29.toBelow trivial⟩
            unfold isW
            (rw [decide_eq_false (show ¬ ((48 ≤ c ∧ c ≤ 57) ∨ (65 ≤ c ∧ c ≤ 90) ∨ (97 ≤ c ∧ c ≤ 122) ∨ c = 95) by omega), decide_eq_false (show ¬ (170 ≤ c ∧ (cls c = 3 ∨ cls c = 4 ∨ cls c = 0)) by omega)]; rfl)
    ·
     refine SO.ps ?_
     refine SO.ps ?_
     refine SO.v (.pickF rfl rfl rfl) ?_
     refine SO.as ?_
     refine SO.nn ?_
     refine SC.no rfl ?_
     refine SC.sr ?_
     refine SO.mv ?_
     refine SO.v (.geq rfl rfl rfl) ?_
     refine SO.mv ?_
     refine SO.dec 18 rfl (fun g40 => ?_) (fun g40 => ?_)
     ·
      refine SO.mv ?_
      refine SO.v (.leq rfl rfl rfl) ?_
      refine SO.v (.pickT rfl rfl rfl) ?_
      refine SO.as ?_
      refine SO.nn ?_
      refine SC.dec rfl (fun c41 => ?_) (fun c41 => ?_)
      ·
       refine SC.skip ?_
       refine SQ.then_normal ?_
       refine SC.yesD c41 rfl ?_
       refine SC.sr ?_
       refine SO.as ?_
       refine SO.nn ?_
       refine SC.ret ?_
       refine SQ.block_ret ?_
       refine SQ.then_ret ?_
       refine SQ.out (.inl rfl) (res1 rfl rfl) ?_
       refine ⟨?_, hO0.toBelow trivial⟩
       unfold isW
       (rw [decide_eq_true (show (48 ≤ c ∧ c ≤ 57) ∨ (65 ≤ c ∧ c ≤ 90) ∨ (97 ≤ c ∧ c ≤ 122) ∨ c = 95 by omega)]; rfl)
      ·
       refine SC.region ?_
       refine SO.mv ?_
       refine SO.v (.eql rfl rfl rfl) ?_
       refine SO.as ?_
       refine SO.nn ?_
       refine SC.dec rfl (fun c43 => ?_) (fun c43 => ?_)
       ·
        refine SC.sr ?_
        refine SO.as ?_
        refine SO.nn ?_
        refine SC.ret ?_
        refine SQ.block_ret ?_
        refine SQ.then_ret ?_
        refine SQ.out (.inl rfl) (res1 rfl rfl) ?_
        refine ⟨?_, hO0.toBelow trivial⟩
        unfold isW
        (rw [decide_eq_true (show (48 ≤ c ∧ c ≤ 57) ∨ (65 ≤ c ∧ c ≤ 90) ∨ (97 ≤ c ∧ c ≤ 122) ∨ c = 95 by omega)]; rfl)
       ·
        refine SC.sr ?_
        refine SO.mv ?_
        refine SO.v (.lss rfl rfl rfl) ?_
        refine SO.as ?_
        refine SO.nn ?_
        refine SC.dec rfl (fun c45 => ?_) (fun c45 => ?_)
        ·
         refine SC.sr ?_
         refine SO.as ?_
         refine SO.nn ?_
         refine SC.ret ?_
         refine SQ.block_ret ?_
         refine SQ.then_ret ?_
         refine SQ.out (.inl rfl) (res1 rfl rfl) ?_
         refine ⟨?_, hO0.toBelow trivial⟩
         unfold isW
         (rw [decide_eq_false (show ¬ ((48 ≤ c ∧ c ≤ 57) ∨ (65 ≤ c ∧ c ≤ 90) ∨ (97 ≤ c ∧ c ≤ 122) ∨ c = 95) by omega), decide_eq_false (show ¬ (170 ≤ c ∧ (cls c = 3 ∨ cls c = 4 ∨ cls c = 0)) by omega)]; rfl)
        ·
         refine SC.skip ?_
         refine SQ.block_normal ?_
         refine SQ.then_normal ?_
         refine SC.seq ?_
         refine SC.sr ?_
         refine SO.mv ?_
         refine SO.call rfl rfl rfl rfl (.callF rfl rfl en161) (class_any _ _ (hO0.good hG)) ?_
         rintro _ w47 ⟨rfl, hb47⟩
         have hO47 := hO0.below hb47
         refine ⟨_, rfl, ?_⟩
         refine SO.nn ?_
         refine SC.block ?_
         refine SC.seq ?_
         refine SC.sr ?_
         refine SO.v (.eql rfl rfl rfl) ?_
         refine SO.as ?_
         refine SO.nn ?_
         refine SC.dec rfl (fun c48 => ?_) (fun c48 => ?_)
         ·
          refine SC.skip ?_
          refine SQ.then_normal ?_
          refine SC.yesD c48 rfl ?_
          refine SC.sr ?_
          refine SO.mv ?_
          refine SO.call rfl rfl rfl rfl (.callF rfl rfl en228) (outside_any _ _ (hO47.good hG)) ?_
          rintro _ w49 ⟨rfl, hb49⟩
          have hO49 := hO47.below hb49
          refine ⟨_, rfl, ?_⟩
          refine SO.v (.not rfl rfl) ?_
          refine SO.as ?_
          refine SO.nn ?_
          refine SC.ret ?_
          refine SQ.block_ret ?_
          refine SQ.then_ret ?_
          refine SQ.out (.inl rfl) (res1 rfl rfl) ?_
          refine ⟨?_, hO49.toBelow trivial⟩
          unfold isW
          rw [decide_eq_false (show ¬ ((48 ≤ c ∧ c ≤ 57) ∨ (65 ≤ c ∧ c ≤ 90) ∨ (97 ≤ c ∧ c ≤ 122) ∨ c = 95) by omega), decide_eq_true (show 170 ≤ c ∧ (cls c = 3 ∨ cls c = 4 ∨ cls c = 0) by omega), Bool.true_and, Bool.false_or]
         ·
          refine SC.sr ?_
          refine SO.v (.eql rfl rfl rfl) ?_
          refine SO.as ?_
          refine SO.nn ?_
          refine SC.dec rfl (fun c51 => ?_) (fun c51 => ?_)
          ·
           refine SC.skip ?_
           refine SQ.then_normal ?_
           refine SC.yesD c51 rfl ?_
           refine SC.sr ?_
           refine SO.mv ?_
           refine SO.call rfl rfl rfl rfl (.callF rfl rfl en228) (outside_any _ _ (hO47.good hG)) ?_
           rintro _ w52 ⟨rfl, hb52⟩
           have hO52 := hO47.below hb52
           refine ⟨_, rfl, ?_⟩
           refine SO.v (.not rfl rfl) ?_
           refine SO.as ?_
           refine SO.nn ?_
           refine SC.ret ?_
           refine SQ.block_ret ?_
           refine SQ.then_ret ?_
           refine SQ.out (.inl rfl) (res1 rfl rfl) ?_
           refine ⟨?_, hO52.toBelow trivial⟩
           unfold isW
           rw [decide_eq_false (show ¬ ((48 ≤ c ∧ c ≤ 57) ∨ (65 ≤ c ∧ c ≤ 90) ∨ (97 ≤ c ∧ c ≤ 122) ∨ c = 95) by omega), decide_eq_true (show 170 ≤ c ∧ (cls c = 3 ∨ cls c = 4 ∨ cls c = 0) by omega), Bool.true_and, Bool.false_or]
          ·
           refine SC.region ?_
           refine SO.v (.eql rfl rfl rfl) ?_
           refine SO.as ?_
           refine SO.nn ?_
           refine SC.dec rfl (fun c54 => ?_) (fun c54 => ?_)
           ·
            refine SC.sr ?_
            refine SO.mv ?_
            refine SO.call rfl rfl rfl rfl (.callF rfl rfl en228) (outside_any _ _ (hO47.good hG)) ?_
            rintro _ w55 ⟨rfl, hb55⟩
            have hO55 := hO47.below hb55
            refine ⟨_, rfl, ?_⟩
            refine SO.v (.not rfl rfl) ?_
            refine SO.as ?_
            refine SO.nn ?_
            refine SC.ret ?_
            refine SQ.block_ret ?_
            refine SQ.then_ret ?_
            refine SQ.out (.inl rfl) (res1 rfl rfl) ?_
            refine ⟨?_, hO55.toBelow trivial⟩
            unfold isW
            rw [decide_eq_false (show ¬ ((48 ≤ c ∧ c ≤ 57) ∨ (65 ≤ c ∧ c ≤ 90) ∨ (97 ≤ c ∧ c ≤ 122) ∨ c = 95) by omega), decide_eq_true (show 170 ≤ c ∧ (cls c = 3 ∨ cls c = 4 ∨ cls c = 0) by omega), Bool.true_and, Bool.false_or]
           ·
            refine SC.skip ?_
            refine SQ.block_normal ?_
            refine SQ.then_normal ?_
            refine SC.sr ?_
            refine SO.as ?_
            refine SO.nn ?_
            refine SC.ret ?_
            refine SQ.out (.inl rfl) (res1 rfl rfl) ?_
            refine ⟨?_, hO47.toBelow trivial⟩
            unfold isW
            (rw [decide_eq_false (show ¬ ((48 ≤ c ∧ c ≤ 57) ∨ (65 ≤ c ∧ c ≤ 90) ∨ (97 ≤ c ∧ c ≤ 122) ∨ c = 95) by omega), decide_eq_false (show ¬ (170 ≤ c ∧ (cls c = 3 ∨ cls c = 4 ∨ cls c = 0)) by omega)]; rfl)
     ·
      refine SO.ps ?_
      refine SO.ps ?_
      refine SO.v (.pickF rfl rfl rfl) ?_
      refine SO.as ?_
      refine SO.nn ?_
      refine SC.no rfl ?_
      refine SC.region ?_
      refine SO.mv ?_
      refine SO.v (.eql rfl rfl rfl) ?_
      refine SO.as ?_
      refine SO.nn ?_
      refine SC.dec rfl (fun c58 => ?_) (fun c58 => ?_)
      ·
       refine SC.sr ?_
       refine SO.as ?_
       refine SO.nn ?_
       refine SC.ret ?_
       refine SQ.block_ret ?_
       refine SQ.then_ret ?_
       refine SQ.out (.inl rfl) (res1 rfl rfl) ?_
       refine ⟨?_, hO0.toBelow trivial⟩
       unfold isW
       (rw [decide_eq_true (show (48 ≤ c ∧ c ≤ 57) ∨ (65 ≤ c ∧ c ≤ 90) ∨ (97 ≤ c ∧ c ≤ 122) ∨ c = 95 by omega)]; rfl)
      ·
       refine SC.sr ?_
       refine SO.mv ?_
       refine SO.v (.lss rfl rfl rfl) ?_
       refine SO.as ?_
       refine SO.nn ?_
       refine SC.dec rfl (fun c60 => ?_) (fun c60 => ?_)
       ·
        refine SC.sr ?_
        refine SO.as ?_
        refine SO.nn ?_
        refine SC.ret ?_
        refine SQ.block_ret ?_
        refine SQ.then_ret ?_
        refine SQ.out (.inl rfl) (res1 rfl rfl) ?_
        refine ⟨?_, hO0.toBelow trivial⟩
        unfold isW
        (rw [decide_eq_false (show ¬ ((48 ≤ c ∧ c ≤ 57) ∨ (65 ≤ c ∧ c ≤ 90) ∨ (97 ≤ c ∧ c ≤ 122) ∨ c = 95) by omega), decide_eq_false (show ¬ (170 ≤ c ∧ (cls c = 3 ∨ cls c = 4 ∨ cls c = 0)) by omega)]; rfl)
       ·
        refine SC.skip ?_
        refine SQ.block_normal ?_
        refine SQ.then_normal ?_
        refine SC.seq ?_
        refine SC.sr ?_
        refine SO.mv ?_
        refine SO.call rfl rfl rfl rfl (.callF rfl rfl en161) (class_any _ _ (hO0.good hG)) ?_
        rintro _ w62 ⟨rfl, hb62⟩
        have hO62 := hO0.below hb62
        refine ⟨_, rfl, ?_⟩
        refine SO.nn ?_
        refine SC.block ?_
        refine SC.seq ?_
        refine SC.sr ?_
        refine SO.v (.eql rfl rfl rfl) ?_
        refine SO.as ?_
        refine SO.nn ?_
        refine SC.dec rfl (fun c63 => ?_) (fun c63 => ?_)
        ·
         refine SC.skip ?_
         refine SQ.then_normal ?_
         refine SC.yesD c63 rfl ?_
         refine SC.sr ?_
         refine SO.mv ?_
         refine SO.call rfl rfl rfl rfl (.callF rfl rfl en228) (outside_any _ _ (hO62.good hG)) ?_
         rintro _ w64 ⟨rfl, hb64⟩
         have hO64 := hO62.below hb64
         refine ⟨_, rfl, ?_⟩
         refine SO.v (.not rfl rfl) ?_
         refine SO.as ?_
         refine SO.nn ?_
         refine SC.ret ?_
         refine SQ.block_ret ?_
         refine SQ.then_ret ?_
         refine SQ.out (.inl rfl) (res1 rfl rfl) ?_
         refine ⟨?_, hO64.toBelow trivial⟩
         unfold isW
         rw [decide_eq_false (show ¬ ((48 ≤ c ∧ c ≤ 57) ∨ (65 ≤ c ∧ c ≤ 90) ∨ (97 ≤ c ∧ c ≤ 122) ∨ c = 95) by omega), decide_eq_true (show 170 ≤ c ∧ (cls c = 3 ∨ cls c = 4 ∨ cls c = 0) by omega), Bool.true_and, Bool.false_or]
        ·
         refine SC.sr ?_
         refine SO.v (.eql rfl rfl rfl) ?_
         refine SO.as ?_
         refine SO.nn ?_
         refine SC.dec rfl (fun c66 => ?_) (fun c66 => ?_)
         ·
          refine SC.skip ?_
          refine SQ.then_normal ?_
          refine SC.yesD c66 rfl ?_
          refine SC.sr ?_
          refine SO.mv ?_
          refine SO.call rfl rfl rfl rfl (.callF rfl rfl en228) (outside_any _ _ (hO62.good hG)) ?_
          rintro _ w67 ⟨rfl, hb67⟩
          have hO67 := hO62.below hb67
          refine ⟨_, rfl, ?_⟩
          refine SO.v (.not rfl rfl) ?_
          refine SO.as ?_
          refine SO.nn ?_
          refine SC.ret ?_
          refine SQ.block_ret ?_
          refine SQ.then_ret ?_
          refine SQ.out (.inl rfl) (res1 rfl rfl) ?_
          refine ⟨?_, hO67.toBelow trivial⟩
          unfold isW
          rw [decide_eq_false (show ¬ ((48 ≤ c ∧ c ≤ 57) ∨ (65 ≤ c ∧ c ≤ 90) ∨ (97 ≤ c ∧ c ≤ 122) ∨ c = 95) by omega), decide_eq_true (show 170 ≤ c ∧ (cls c = 3 ∨ cls c = 4 ∨ cls c = 0) by omega), Bool.true_and, Bool.false_or]
         ·
          refine SC.region ?_
          refine SO.v (.eql rfl rfl rfl) ?_
          refine SO.as ?_
          refine SO.nn ?_
          refine SC.dec rfl (fun c69 => ?_) (fun c69 => ?_)
          ·
           refine SC.sr ?_
           refine SO.mv ?_
           refine SO.call rfl rfl rfl rfl (.callF rfl rfl en228) (outside_any _ _ (hO62.good hG)) ?_
           rintro _ w70 ⟨rfl, hb70⟩
           have hO70 := hO62.below hb70
           refine ⟨_, rfl, ?_⟩
           refine SO.v (.not rfl rfl) ?_
           refine SO.as ?_
           refine SO.nn ?_
           refine SC.ret ?_
           refine SQ.block_ret ?_
           refine SQ.then_ret ?_
           refine SQ.out (.inl rfl) (res1 rfl rfl) ?_
           refine ⟨?_, hO70.toBelow trivial⟩
           unfold isW
           rw [decide_eq_false (show ¬ ((48 ≤ c ∧ c ≤ 57) ∨ (65 ≤ c ∧ c ≤ 90) ∨ (97 ≤ c ∧ c ≤ 122) ∨ c = 95) by omega), decide_eq_true (show 170 ≤ c ∧ (cls c = 3 ∨ cls c = 4 ∨ cls c = 0) by omega), Bool.true_and, Bool.false_or]
          ·
           refine SC.skip ?_
           refine SQ.block_normal ?_
           refine SQ.then_normal ?_
           refine SC.sr ?_
           refine SO.as ?_
           refine SO.nn ?_
           refine SC.ret ?_
           refine SQ.out (.inl rfl) (res1 rfl rfl) ?_
           refine ⟨?_, hO62.toBelow trivial⟩
           unfold isW
           (rw [decide_eq_false (show ¬ ((48 ≤ c ∧ c ≤ 57) ∨ (65 ≤ c ∧ c ≤ 90) ∨ (97 ≤ c ∧ c ≤ 122) ∨ c = 95) by omega), decide_eq_false (show ¬ (170 ≤ c ∧ (cls c = 3 ∨ cls c = 4 ∨ cls c = 0)) by omega)]; rfl)
  ·
   refine SO.ps ?_
   refine SO.ps ?_
   refine SO.v (.pickF rfl rfl rfl) ?_
   refine SO.as ?_
   refine SO.nn ?_
   refine SC.no rfl ?_
   refine SC.sr ?_
   refine SO.mv ?_
   refine SO.v (.geq rfl rfl rfl) ?_
   refine SO.mv ?_
   refine SO.dec 12 rfl (fun g73 => ?_) (fun g73 => ?_)
   ·
    refine SO.mv ?_
    refine SO.v (.leq rfl rfl rfl) ?_
    refine SO.v (.pickT rfl rfl rfl) ?_
    refine SO.as ?_
    refine SO.nn ?_
    refine SC.dec rfl (fun c74 => ?_) (fun c74 => ?_)
    ·
     refine SC.skip ?_
     refine SQ.then_normal ?_
     refine SC.yesD c74 rfl ?_
     refine SC.sr ?_
     refine SO.as ?_
     refine SO.nn ?_
     refine SC.ret ?_
     refine SQ.block_ret ?_
     refine SQ.then_ret ?_
     refine SQ.out (.inl rfl) (res1 rfl rfl) ?_
     refine ⟨?_, hO0.toBelow trivial⟩
     unfold isW
     (rw [decide_eq_true (show (48 ≤ c ∧ c ≤ 57) ∨ (65 ≤ c ∧ c ≤ 90) ∨ (97 ≤ c ∧ c ≤ 122) ∨ c = 95 by omega)]; rfl)
    ·
     refine SC.sr ?_
     refine SO.mv ?_
     refine SO.v (.geq rfl rfl rfl) ?_
     refine SO.mv ?_
     refine SO.dec 18 rfl (fun g76 => ?_) (fun g76 => ?_)
     ·
      refine SO.mv ?_
      refine SO.v (.leq rfl rfl rfl) ?_
      refine SO.v (.pickT rfl rfl rfl) ?_
      refine SO.as ?_
      refine SO.nn ?_
      refine SC.dec rfl (fun c77 => ?_) (fun c77 => ?_)
      ·
       refine SC.skip ?_
       refine SQ.then_normal ?_
       refine SC.yesD c77 rfl ?_
       refine SC.sr ?_
       refine SO.as ?_
       refine SO.nn ?_
       refine SC.ret ?_
       refine SQ.block_ret ?_
       refine SQ.then_ret ?_
       refine SQ.out (.inl rfl) (res1 rfl rfl) ?_
       refine ⟨?_, hO0.toBelow trivial⟩
       unfold isW
       (rw [decide_eq_true (show (48 ≤ c ∧ c ≤ 57) ∨ (65 ≤ c ∧ c ≤ 90) ∨ (97 ≤ c ∧ c ≤ 122) ∨ c = 95 by omega)]; rfl)
      ·
       refine SC.region ?_
       refine SO.mv ?_
       refine SO.v (.eql rfl rfl rfl) ?_
       refine SO.as ?_
       refine SO.nn ?_
       refine SC.dec rfl (fun c79 => ?_) (fun c79 => ?_)
       ·
        refine SC.sr ?_
        refine SO.as ?_
        refine SO.nn ?_
        refine SC.ret ?_
        refine SQ.block_ret ?_
        refine SQ.then_ret ?_
        refine SQ.out (.inl rfl) (res1 rfl rfl) ?_
        refine ⟨?_, hO0.toBelow trivial⟩
        unfold isW
        (rw [decide_eq_true (show (48 ≤ c ∧ c ≤ 57) ∨ (65 ≤ c ∧ c ≤ 90) ∨ (97 ≤ c ∧ c ≤ 122) ∨ c = 95 by omega)]; rfl)
       ·
        refine SC.sr ?_
        refine SO.mv ?_
        refine SO.v (.lss rfl rfl rfl) ?_
        refine SO.as ?_
        refine SO.nn ?_
        refine SC.dec rfl (fun c81 => ?_) (fun c81 => ?_)
        ·
         refine SC.sr ?_
         refine SO.as ?_
         refine SO.nn ?_
         refine SC.ret ?_
         refine SQ.block_ret ?_
         refine SQ.then_ret ?_
         refine SQ.out (.inl rfl) (res1 rfl rfl) ?_
         refine ⟨?_, hO0.toBelow trivial⟩
         unfold isW
         (rw [decide_eq_false (show ¬ ((48 ≤ c ∧ c ≤ 57) ∨ (65 ≤ c ∧ c ≤ 90) ∨ (97 ≤ c ∧ c ≤ 122) ∨ c = 95) by omega), decide_eq_false (show ¬ (170 ≤ c ∧ (cls c = 3 ∨ cls c = 4 ∨ cls c = 0)) by omega)]; rfl)
        ·
         refine SC.skip ?_
         refine SQ.block_normal ?_
         refine SQ.then_normal ?_
         refine SC.seq ?_
         refine SC.sr ?_
         refine SO.mv ?_
         refine SO.call rfl rfl rfl rfl (.callF rfl rfl en161) (class_any _ _ (hO0.good hG)) ?_
         rintro _ w83 ⟨rfl, hb83⟩
         have hO83 := hO0.below hb83
         refine ⟨_, rfl, ?_⟩
         refine SO.nn ?_
         refine SC.block ?_
         refine SC.seq ?_
         refine SC.sr ?_
         refine SO.v (.eql rfl rfl rfl) ?_
         refine SO.as ?_
         refine SO.nn ?_
         refine SC.dec rfl (fun c84 => ?_) (fun c84 => ?_)
         ·
          refine SC.skip ?_
          refine SQ.then_normal ?_
          refine SC.yesD c84 rfl ?_
          refine SC.sr ?_
          refine SO.mv ?_
          refine SO.call rfl rfl rfl rfl (.callF rfl rfl en228) (outside_any _ _ (hO83.good hG)) ?_
          rintro _ w85 ⟨rfl, hb85⟩
          have hO85 := hO83.below hb85
          refine ⟨_, rfl, ?_⟩
          refine SO.v (.not rfl rfl) ?_
          refine SO.as ?_
          refine SO.nn ?_
          refine SC.ret ?_
          refine SQ.block_ret ?_
          refine SQ.then_ret ?_
          refine SQ.out (.inl rfl) (res1 rfl rfl) ?_
          refine ⟨?_, hO85.toBelow trivial⟩
          unfold isW
          rw [decide_eq_false (show ¬ ((48 ≤ c ∧ c ≤ 57) ∨ (65 ≤ c ∧ c ≤ 90) ∨ (97 ≤ c ∧ c ≤ 122) ∨ c = 95) by omega), decide_eq_true (show 170 ≤ c ∧ (cls c = 3 ∨ cls c = 4 ∨ cls c = 0) by omega), Bool.true_and, Bool.false_or]
         ·
          refine SC.sr ?_
          refine SO.v (.eql rfl rfl rfl) ?_
          refine SO.as ?_
          refine SO.nn ?_
          refine SC.dec rfl (fun c87 => ?_) (fun c87 => ?_)
          ·
           refine SC.skip ?_
           refine SQ.then_normal ?_
           refine SC.yesD c87 rfl ?_
           refine SC.sr ?_
           refine SO.mv ?_
           refine SO.call rfl rfl rfl rfl (.callF rfl rfl en228) (outside_any _ _ (hO83.good hG)) ?_
           rintro _ w88 ⟨rfl, hb88⟩
           have hO88 := hO83.below hb88
           refine ⟨_, rfl, ?_⟩
           refine SO.v (.not rfl rfl) ?_
           refine SO.as ?_
           refine SO.nn ?_
           refine SC.ret ?_
           refine SQ.block_ret ?_
           refine SQ.then_ret ?_
           refine SQ.out (.inl rfl) (res1 rfl rfl) ?_
           refine ⟨?_, hO88.toBelow trivial⟩
           unfold isW
           rw [decide_eq_false (show ¬ ((48 ≤ c ∧ c ≤ 57) ∨ (65 ≤ c ∧ c ≤ 90) ∨ (97 ≤ c ∧ c ≤ 122) ∨ c = 95) by omega), decide_eq_true (show 170 ≤ c ∧ (cls c = 3 ∨ cls c = 4 ∨ cls c = 0) by omega), Bool.true_and, Bool.false_or]
          ·
           refine SC.region ?_
           refine SO.v (.eql rfl rfl rfl) ?_
           refine SO.as ?_
           refine SO.nn ?_
           refine SC.dec rfl (fun c90 => ?_) (fun c90 => ?_)
           ·
            refine SC.sr ?_
            refine SO.mv ?_
            refine SO.call rfl rfl rfl rfl (.callF rfl rfl en228) (outside_any _ _ (hO83.good hG)) ?_
            rintro _ w91 ⟨rfl, hb91⟩
            have hO91 := hO83.below hb91
            refine ⟨_, rfl, ?_⟩
            refine SO.v (.not rfl rfl) ?_
            refine SO.as ?_
            refine SO.nn ?_
            refine SC.ret ?_
            refine SQ.block_ret ?_
            refine SQ.then_ret ?_
            refine SQ.out (.inl rfl) (res1 rfl rfl) ?_
            refine ⟨?_, hO91.toBelow trivial⟩
            unfold isW
            rw [decide_eq_false (show ¬ ((48 ≤ c ∧ c ≤ 57) ∨ (65 ≤ c ∧ c ≤ 90) ∨ (97 ≤ c ∧ c ≤ 122) ∨ c = 95) by omega), decide_eq_true (show 170 ≤ c ∧ (cls c = 3 ∨ cls c = 4 ∨ cls c = 0) by omega), Bool.true_and, Bool.false_or]
           ·
            refine SC.skip ?_
            refine SQ.block_normal ?_
            refine SQ.then_normal ?_
            refine SC.sr ?_
            refine SO.as ?_
            refine SO.nn ?_
            refine SC.ret ?_
            refine SQ.out (.inl rfl) (res1 rfl rfl) ?_
            refine ⟨?_, hO83.toBelow trivial⟩
            unfold isW
            (rw [decide_eq_false (show ¬ ((48 ≤ c ∧ c ≤ 57) ∨ (65 ≤ c ∧ c ≤ 90) ∨ (97 ≤ c ∧ c ≤ 122) ∨ c = 95) by omega), decide_eq_false (show ¬ (170 ≤ c ∧ (cls c = 3 ∨ cls c = 4 ∨ cls c = 0)) by omega)]; rfl)
     ·
      refine SO.ps ?_
      refine SO.ps ?_
      refine SO.v (.pickF rfl rfl rfl) ?_
      refine SO.as ?_
      refine SO.nn ?_
      refine SC.no rfl ?_
      refine SC.region ?_
      refine SO.mv ?_
      refine SO.v (.eql rfl rfl rfl) ?_
      refine SO.as ?_
      refine SO.nn ?_
      refine SC.dec rfl (fun c94 => ?_) (fun c94 => ?_)
      ·
       refine SC.sr ?_
       refine SO.as ?_
       refine SO.nn ?_
       refine SC.ret ?_
       refine SQ.block_ret ?_
       refine SQ.then_ret ?_
       refine SQ.out (.inl rfl) (res1 rfl rfl) ?_
       refine ⟨?_, hO0.toBelow trivial⟩
       unfold isW
       (rw [decide_eq_true (show (48 ≤ c ∧ c ≤ 57) ∨ (65 ≤ c ∧ c ≤ 90) ∨ (97 ≤ c ∧ c ≤ 122) ∨ c = 95 by omega)]; rfl)
      ·
       refine SC.sr ?_
       refine SO.mv ?_
       refine SO.v (.lss rfl rfl rfl) ?_
       refine SO.as ?_
       refine SO.nn ?_
       refine SC.dec rfl (fun c96 => ?_) (fun c96 => ?_)
       ·
        refine SC.sr ?_
        refine SO.as ?_
        refine SO.nn ?_
        refine SC.ret ?_
        refine SQ.block_ret ?_
        refine SQ.then_ret ?_
        refine SQ.out (.inl rfl) (res1 rfl rfl) ?_
        refine ⟨?_, hO0.toBelow trivial⟩
        unfold isW
        (rw [decide_eq_false (show ¬ ((48 ≤ c ∧ c ≤ 57) ∨ (65 ≤ c ∧ c ≤ 90) ∨ (97 ≤ c ∧ c ≤ 122) ∨ c = 95) by omega), decide_eq_false (show ¬ (170 ≤ c ∧ (cls c = 3 ∨ cls c = 4 ∨ cls c = 0)) by omega)]; rfl)
       ·
        refine SC.skip ?_
        refine SQ.block_normal ?_
        refine SQ.then_normal ?_
        refine SC.seq ?_
        refine SC.sr ?_
        refine SO.mv ?_
        refine SO.call rfl rfl rfl rfl (.callF rfl rfl en161) (class_any _ _ (hO0.good hG)) ?_
        rintro _ w98 ⟨rfl, hb98⟩
        have hO98 := hO0.below hb98
        refine ⟨_, rfl, ?_⟩
        refine SO.nn ?_
        refine SC.block ?_
        refine SC.seq ?_
        refine SC.sr ?_
        refine SO.v (.eql rfl rfl rfl) ?_
        refine SO.as ?_
        refine SO.nn ?_
        refine SC.dec rfl (fun c99 => ?_) (fun c99 => ?_)
        ·
         refine SC.skip ?_
         refine SQ.then_normal ?_
         refine SC.yesD c99 rfl ?_
         refine SC.sr ?_
         refine SO.mv ?_
         refine SO.call rfl rfl rfl rfl (.callF rfl rfl en228) (outside_any _ _ (hO98.good hG)) ?_
         rintro _ w100 ⟨rfl, hb100⟩
         have hO100 := hO98.below hb100
         refine ⟨_, rfl, ?_⟩
         refine SO.v (.not rfl rfl) ?_
         refine SO.as ?_
         refine SO.nn ?_
         refine SC.ret ?_
         refine SQ.block_ret ?_
         refine SQ.then_ret ?_
         refine SQ.out (.inl rfl) (res1 rfl rfl) ?_
         refine ⟨?_, hO100.toBelow trivial⟩
         unfold isW
         rw [decide_eq_false (show ¬ ((48 ≤ c ∧ c ≤ 57) ∨ (65 ≤ c ∧ c ≤ 90) ∨ (97 ≤ c ∧ c ≤ 122) ∨ c = 95) by omega), decide_eq_true (show 170 ≤ c ∧ (cls c = 3 ∨ cls c = 4 ∨ cls c = 0) by omega), Bool.true_and, Bool.false_or]
        ·
         refine SC.sr ?_
         refine SO.v (.eql rfl rfl rfl) ?_
         refine SO.as ?_
         refine SO.nn ?_
         refine SC.dec rfl (fun c102 => ?_) (fun c102 => ?_)
         ·
          refine SC.skip ?_
          refine SQ.then_normal ?_
          refine SC.yesD c102 rfl ?_
          refine SC.sr ?_
          refine SO.mv ?_
          refine SO.call rfl rfl rfl rfl (.callF rfl rfl en228) (outside_any _ _ (hO98.good hG)) ?_
          rintro _ w103 ⟨rfl, hb103⟩
          have hO103 := hO98.below hb103
          refine ⟨_, rfl, ?_⟩
          refine SO.v (.not rfl rfl) ?_
          refine SO.as ?_
          refine SO.nn ?_
          refine SC.ret ?_
          refine SQ.block_ret ?_
          refine SQ.then_ret ?_
          refine SQ.out (.inl rfl) (res1 rfl rfl) ?_
          refine ⟨?_, hO103.toBelow trivial⟩
          unfold isW
          rw [decide_eq_false (show ¬ ((48 ≤ c ∧ c ≤ 57) ∨ (65 ≤ c ∧ c ≤ 90) ∨ (97 ≤ c ∧ c ≤ 122) ∨ c = 95) by omega), decide_eq_true (show 170 ≤ c ∧ (cls c = 3 ∨ cls c = 4 ∨ cls c = 0) by omega), Bool.true_and, Bool.false_or]
         ·
          refine SC.region ?_
          refine SO.v (.eql rfl rfl rfl) ?_
          refine SO.as ?_
          refine SO.nn ?_
          refine SC.dec rfl (fun c105 => ?_) (fun c105 => ?_)
          ·
           refine SC.sr ?_
           refine SO.mv ?_
           refine SO.call rfl rfl rfl rfl (.callF rfl rfl en228) (outside_any _ _ (hO98.good hG)) ?_
           rintro _ w106 ⟨rfl, hb106⟩
           have hO106 := hO98.below hb106
           refine ⟨_, rfl, ?_⟩
           refine SO.v (.not rfl rfl) ?_
           refine SO.as ?_
           refine SO.nn ?_
           refine SC.ret ?_
           refine SQ.block_ret ?_
           refine SQ.then_ret ?_
           refine SQ.out (.inl rfl) (res1 rfl rfl) ?_
           refine ⟨?_, hO106.toBelow trivial⟩
           unfold isW
           rw [decide_eq_false (show ¬ ((48 ≤ c ∧ c ≤ 57) ∨ (65 ≤ c ∧ c ≤ 90) ∨ (97 ≤ c ∧ c ≤ 122) ∨ c = 95) by omega), decide_eq_true (show 170 ≤ c ∧ (cls c = 3 ∨ cls c = 4 ∨ cls c = 0) by omega), Bool.true_and, Bool.false_or]
          ·
           refine SC.skip ?_
           refine SQ.block_normal ?_
           refine SQ.then_normal ?_
           refine SC.sr ?_
           refine SO.as ?_
           refine SO.nn ?_
           refine SC.ret ?_
           refine SQ.out (.inl rfl) (res1 rfl rfl) ?_
           refine ⟨?_, hO98.toBelow trivial⟩
           unfold isW
           (rw [decide_eq_false (show ¬ ((48 ≤ c ∧ c ≤ 57) ∨ (65 ≤ c ∧ c ≤ 90) ∨ (97 ≤ c ∧ c ≤ 122) ∨ c = 95) by omega), decide_eq_false (show ¬ (170 ≤ c ∧ (cls c = 3 ∨ cls c = 4 ∨ cls c = 0)) by omega)]; rfl)
   ·
    refine SO.ps ?_
    refine SO.ps ?_
    refine SO.v (.pickF rfl rfl rfl) ?_
    refine SO.as ?_
    refine SO.nn ?_
    refine SC.no rfl ?_
    refine SC.sr ?_
    refine SO.mv ?_
    refine SO.v (.geq rfl rfl rfl) ?_
    refine SO.mv ?_
    refine SO.dec 18 rfl (fun g109 => ?_) (fun g109 => ?_)
    ·
     refine SO.mv ?_
     refine SO.v (.leq rfl rfl rfl) ?_
     refine SO.v (.pickT rfl rfl rfl) ?_
     refine SO.as ?_
     refine SO.nn ?_
     refine SC.dec rfl (fun c110 => ?_) (fun c110 => ?_)
     ·
      refine SC.skip ?_
      refine SQ.then_normal ?_
      refine SC.yesD c110 rfl ?_
      refine SC.sr ?_
      refine SO.as ?_
      refine SO.nn ?_
      refine SC.ret ?_
      refine SQ.block_ret ?_
      refine SQ.then_ret ?_
      refine SQ.out (.inl rfl) (res1 rfl rfl) ?_
      refine ⟨?_, hO0.toBelow trivial⟩
      unfold isW
      (rw [decide_eq_true (show (48 ≤ c ∧ c ≤ 57) ∨ (65 ≤ c ∧ c ≤ 90) ∨ (97 ≤ c ∧ c ≤ 122) ∨ c = 95 by omega)]; rfl)
     ·
      refine SC.region ?_
      refine SO.mv ?_
      refine SO.v (.eql rfl rfl rfl) ?_
      refine SO.as ?_
      refine SO.nn ?_
      refine SC.dec rfl (fun c112 => ?_) (fun c112 => ?_)
      ·
       refine SC.sr ?_
       refine SO.as ?_
       refine SO.nn ?_
       refine SC.ret ?_
       refine SQ.block_ret ?_
       refine SQ.then_ret ?_
       refine SQ.out (.inl rfl) (res1 rfl rfl) ?_
       refine ⟨?_, hO0.toBelow trivial⟩
       unfold isW
       (rw [decide_eq_true (show (48 ≤ c ∧ c ≤ 57) ∨ (65 ≤ c ∧ c ≤ 90) ∨ (97 ≤ c ∧ c ≤ 122) ∨ c = 95 by omega)]; rfl)
      ·
       refine SC.sr ?_
       refine SO.mv ?_
       refine SO.v (.lss rfl rfl rfl) ?_
       refine SO.as ?_
       refine SO.nn ?_
       refine SC.dec rfl (fun c114 => ?_) (fun c114 => ?_)
       ·
        refine SC.sr ?_
        refine SO.as ?_
        refine SO.nn ?_
        refine SC.ret ?_
        refine SQ.block_ret ?_
        refine SQ.then_ret ?_
        refine SQ.out (.inl rfl) (res1 rfl rfl) ?_
        refine ⟨?_, hO0.toBelow trivial⟩
        unfold isW
        (rw [decide_eq_false (show ¬ ((48 ≤ c ∧ c ≤ 57) ∨ (65 ≤ c ∧ c ≤ 90) ∨ (97 ≤ c ∧ c ≤ 122) ∨ c = 95) by omega), decide_eq_false (show ¬ (170 ≤ c ∧ (cls c = 3 ∨ cls c = 4 ∨ cls c = 0)) by omega)]; rfl)
       ·
        refine SC.skip ?_
        refine SQ.block_normal ?_
        refine SQ.then_normal ?_
        refine SC.seq ?_
        refine SC.sr ?_
        refine SO.mv ?_
        refine SO.call rfl rfl rfl rfl (.callF rfl rfl en161) (class_any _ _ (hO0.good hG)) ?_
        rintro _ w116 ⟨rfl, hb116⟩
        have hO116 := hO0.below hb116
        refine ⟨_, rfl, ?_⟩
        refine SO.nn ?_
        refine SC.block ?_
        refine SC.seq ?_
        refine SC.sr ?_
        refine SO.v (.eql rfl rfl rfl) ?_
        refine SO.as ?_
        refine SO.nn ?_
        refine SC.dec rfl (fun c117 => ?_) (fun c117 => ?_)
        ·
         refine SC.skip ?_
         refine SQ.then_normal ?_
         refine SC.yesD c117 rfl ?_
         refine SC.sr ?_
         refine SO.mv ?_
         refine SO.call rfl rfl rfl rfl (.callF rfl rfl en228) (outside_any _ _ (hO116.good hG)) ?_
         rintro _ w118 ⟨rfl, hb118⟩
         have hO118 := hO116.below hb118
         refine ⟨_, rfl, ?_⟩
         refine SO.v (.not rfl rfl) ?_
         refine SO.as ?_
         refine SO.nn ?_
         refine SC.ret ?_
         refine SQ.block_ret ?_
         refine SQ.then_ret ?_
         refine SQ.out (.inl rfl) (res1 rfl rfl) ?_
         refine ⟨?_, hO118.toBelow trivial⟩
         unfold isW
         rw [decide_eq_false (show ¬ ((48 ≤ c ∧ c ≤ 57) ∨ (65 ≤ c ∧ c ≤ 90) ∨ (97 ≤ c ∧ c ≤ 122) ∨ c = 95) by omega), decide_eq_true (show 170 ≤ c ∧ (cls c = 3 ∨ cls c = 4 ∨ cls c = 0) by omega), Bool.true_and, Bool.false_or]
        ·
         refine SC.sr ?_
         refine SO.v (.eql rfl rfl rfl) ?_
         refine SO.as ?_
         refine SO.nn ?_
         refine SC.dec rfl (fun c120 => ?_) (fun c120 => ?_)
         ·
          refine SC.skip ?_
          refine SQ.then_normal ?_
          refine SC.yesD c120 rfl ?_
          refine SC.sr ?_
          refine SO.mv ?_
          refine SO.call rfl rfl rfl rfl (.callF rfl rfl en228) (outside_any _ _ (hO116.good hG)) ?_
          rintro _ w121 ⟨rfl, hb121⟩
          have hO121 := hO116.below hb121
          refine ⟨_, rfl, ?_⟩
          refine SO.v (.not rfl rfl) ?_
          refine SO.as ?_
          refine SO.nn ?_
          refine SC.ret ?_
          refine SQ.block_ret ?_
          refine SQ.then_ret ?_
          refine SQ.out (.inl rfl) (res1 rfl rfl) ?_
          refine ⟨?_, hO121.toBelow trivial⟩
          unfold isW
          rw [decide_eq_false (show ¬ ((48 ≤ c ∧ c ≤ 57) ∨ (65 ≤ c ∧ c ≤ 90) ∨ (97 ≤ c ∧ c ≤ 122) ∨ c = 95) by omega), decide_eq_true (show 170 ≤ c ∧ (cls c = 3 ∨ cls c = 4 ∨ cls c = 0) by omega), Bool.true_and, Bool.false_or]
         ·
          refine SC.region ?_
          refine SO.v (.eql rfl rfl rfl) ?_
          refine SO.as ?_
          refine SO.nn ?_
          refine SC.dec rfl (fun c123 => ?_) (fun c123 => ?_)
          ·
           refine SC.sr ?_
           refine SO.mv ?_
           refine SO.call rfl rfl rfl rfl (.callF rfl rfl en228) (outside_any _ _ (hO116.good hG)) ?_
           rintro _ w124 ⟨rfl, hb124⟩
           have hO124 := hO116.below hb124
           refine ⟨_, rfl, ?_⟩
           refine SO.v (.not rfl rfl) ?_
           refine SO.as ?_
           refine SO.nn ?_
           refine SC.ret ?_
           refine SQ.block_ret ?_
           refine SQ.then_ret ?_
           refine SQ.out (.inl rfl) (res1 rfl rfl) ?_
           refine ⟨?_, hO124.toBelow trivial⟩
           unfold isW
           rw [decide_eq_false (show ¬ ((48 ≤ c ∧ c ≤ 57) ∨ (65 ≤ c ∧ c ≤ 90) ∨ (97 ≤ c ∧ c ≤ 122) ∨ c = 95) by omega), decide_eq_true (show 170 ≤ c ∧ (cls c = 3 ∨ cls c = 4 ∨ cls c = 0) by omega), Bool.true_and, Bool.false_or]
          ·
           refine SC.skip ?_
           refine SQ.block_normal ?_
           refine SQ.then_normal ?_
           refine SC.sr ?_
           refine SO.as ?_
           refine SO.nn ?_
           refine SC.ret ?_
           refine SQ.out (.inl rfl) (res1 rfl rfl) ?_
           refine ⟨?_, hO116.toBelow trivial⟩
           unfold isW
           (rw [decide_eq_false (show ¬ ((48 ≤ c ∧ c ≤ 57) ∨ (65 ≤ c ∧ c ≤ 90) ∨ (97 ≤ c ∧ c ≤ 122) ∨ c = 95) by omega), decide_eq_false (show ¬ (170 ≤ c ∧ (cls c = 3 ∨ cls c = 4 ∨ cls c = 0)) by omega)]; rfl)
    ·
     refine SO.ps ?_
     refine SO.ps ?_
     refine SO.v (.pickF rfl rfl rfl) ?_
     refine SO.as ?_
     refine SO.nn ?_
     refine SC.no rfl ?_
     refine SC.region ?_
     refine SO.mv ?_
     refine SO.v (.eql rfl rfl rfl) ?_
     refine SO.as ?_
     refine SO.nn ?_
     refine SC.dec rfl (fun c127 => ?_) (fun c127 => ?_)
     ·
      refine SC.sr ?_
      refine SO.as ?_
      refine SO.nn ?_
      refine SC.ret ?_
      refine SQ.block_ret ?_
      refine SQ.then_ret ?_
      refine SQ.out (.inl rfl) (res1 rfl rfl) ?_
      refine ⟨?_, hO0.toBelow trivial⟩
      unfold isW
      (rw [decide_eq_true (show (48 ≤ c ∧ c ≤ 57) ∨ (65 ≤ c ∧ c ≤ 90) ∨ (97 ≤ c ∧ c ≤ 122) ∨ c = 95 by omega)]; rfl)
     ·
      refine SC.sr ?_
      refine SO.mv ?_
      refine SO.v (.lss rfl rfl rfl) ?_
      refine SO.as ?_
      refine SO.nn ?_
      refine SC.dec rfl (fun c129 => ?_) (fun c129 => ?_)
      ·
       refine SC.sr ?_
       refine SO.as ?_
       refine SO.nn ?_
       refine SC.ret ?_
       refine SQ.block_ret ?_
       refine SQ.then_ret ?_
       refine SQ.out (.inl rfl) (res1 rfl rfl) ?_
       refine ⟨?_, hO0.toBelow trivial⟩
       unfold isW
       (rw [decide_eq_false (show ¬ ((48 ≤ c ∧ c ≤ 57) ∨ (65 ≤ c ∧ c ≤ 90) ∨ (97 ≤ c ∧ c ≤ 122) ∨ c = 95) by omega), decide_eq_false (show ¬ (170 ≤ c ∧ (cls c = 3 ∨ cls c = 4 ∨ cls c = 0)) by omega)]; rfl)
      ·
       refine SC.skip ?_
       refine SQ.block_normal ?_
       refine SQ.then_normal ?_
       refine SC.seq ?_
       refine SC.sr ?_
       refine SO.mv ?_
       refine SO.call rfl rfl rfl rfl (.callF rfl rfl en161) (class_any _ _ (hO0.good hG)) ?_
       rintro _ w131 ⟨rfl, hb131⟩
       have hO131 := hO0.below hb131
       refine ⟨_, rfl, ?_⟩
       refine SO.nn ?_
       refine SC.block ?_
       refine SC.seq ?_
       refine SC.sr ?_
       refine SO.v (.eql rfl rfl rfl) ?_
       refine SO.as ?_
       refine SO.nn ?_
       refine SC.dec rfl (fun c132 => ?_) (fun c132 => ?_)
       ·
        refine SC.skip ?_
        refine SQ.then_normal ?_
        refine SC.yesD c132 rfl ?_
        refine SC.sr ?_
        refine SO.mv ?_
        refine SO.call rfl rfl rfl rfl (.callF rfl rfl en228) (outside_any _ _ (hO131.good hG)) ?_
        rintro _ w133 ⟨rfl, hb133⟩
        have hO133 := hO131.below hb133
        refine ⟨_, rfl, ?_⟩
        refine SO.v (.not rfl rfl) ?_
        refine SO.as ?_
        refine SO.nn ?_
        refine SC.ret ?_
        refine SQ.block_ret ?_
        refine SQ.then_ret ?_
        refine SQ.out (.inl rfl) (res1 rfl rfl) ?_
        refine ⟨?_, hO133.toBelow trivial⟩
        unfold isW
        rw [decide_eq_false (show ¬ ((48 ≤ c ∧ c ≤ 57) ∨ (65 ≤ c ∧ c ≤ 90) ∨ (97 ≤ c ∧ c ≤ 122) ∨ c = 95) by omega), decide_eq_true (show 170 ≤ c ∧ (cls c = 3 ∨ cls c = 4 ∨ cls c = 0) by omega), Bool.true_and, Bool.false_or]
       ·
        refine SC.sr ?_
        refine SO.v (.eql rfl rfl rfl) ?_
        refine SO.as ?_
        refine SO.nn ?_
        refine SC.dec rfl (fun c135 => ?_) (fun c135 => ?_)
        ·
         refine SC.skip ?_
         refine SQ.then_normal ?_
         refine SC.yesD c135 rfl ?_
         refine SC.sr ?_
         refine SO.mv ?_
         refine SO.call rfl rfl rfl rfl (.callF rfl rfl en228) (outside_any _ _ (hO131.good hG)) ?_
         rintro _ w136 ⟨rfl, hb136⟩
         have hO136 := hO131.below hb136
         refine ⟨_, rfl, ?_⟩
         refine SO.v (.not rfl rfl) ?_
         refine SO.as ?_
         refine SO.nn ?_
         refine SC.ret ?_
         refine SQ.block_ret ?_
         refine SQ.then_ret ?_
         refine SQ.out (.inl rfl) (res1 rfl rfl) ?_
         refine ⟨?_, hO136.toBelow trivial⟩
         unfold isW
         rw [decide_eq_false (show ¬ ((48 ≤ c ∧ c ≤ 57) ∨ (65 ≤ c ∧ c ≤ 90) ∨ (97 ≤ c ∧ c ≤ 122) ∨ c = 95) by omega), decide_eq_true (show 170 ≤ c ∧ (cls c = 3 ∨ cls c = 4 ∨ cls c = 0) by omega), Bool.true_and, Bool.false_or]
        ·
         refine SC.region ?_
         refine SO.v (.eql rfl rfl rfl) ?_
         refine SO.as ?_
         refine SO.nn ?_
         refine SC.dec rfl (fun c138 => ?_) (fun c138 => ?_)
         ·
          refine SC.sr ?_
          refine SO.mv ?_
          refine SO.call rfl rfl rfl rfl (.callF rfl rfl en228) (outside_any _ _ (hO131.good hG)) ?_
          rintro _ w139 ⟨rfl, hb139⟩
          have hO139 := hO131.below hb139
          refine ⟨_, rfl, ?_⟩
          refine SO.v (.not rfl rfl) ?_
          refine SO.as ?_
          refine SO.nn ?_
          refine SC.ret ?_
          refine SQ.block_ret ?_
          refine SQ.then_ret ?_
          refine SQ.out (.inl rfl) (res1 rfl rfl) ?_
          refine ⟨?_, hO139.toBelow trivial⟩
          unfold isW
          rw [decide_eq_false (show ¬ ((48 ≤ c ∧ c ≤ 57) ∨ (65 ≤ c ∧ c ≤ 90) ∨ (97 ≤ c ∧ c ≤ 122) ∨ c = 95) by omega), decide_eq_true (show 170 ≤ c ∧ (cls c = 3 ∨ cls c = 4 ∨ cls c = 0) by omega), Bool.true_and, Bool.false_or]
         ·
          refine SC.skip ?_
          refine SQ.block_normal ?_
          refine SQ.then_normal ?_
          refine SC.sr ?_
          refine SO.as ?_
          refine SO.nn ?_
          refine SC.ret ?_
          refine SQ.out (.inl rfl) (res1 rfl rfl) ?_
          refine ⟨?_, hO131.toBelow trivial⟩
          unfold isW
          (rw [decide_eq_false (show ¬ ((48 ≤ c ∧ c ≤ 57) ∨ (65 ≤ c ∧ c ≤ 90) ∨ (97 ≤ c ∧ c ≤ 122) ∨ c = 95) by omega), decide_eq_false (show ¬ (170 ≤ c ∧ (cls c = 3 ∨ cls c = 4 ∨ cls c = 0)) by omega)]; rfl)

end Go.Proofs.YtclgplkkajfenaaGreatDoor
