/- store.New. -/
import Derived.Test.YtclgplkkajfenaaGreatDoorStor
namespace Go.Proofs.YtclgplkkajfenaaGreatDoor
open Go Go.RowKit Ow
theorem bd103_1_2_4_Storn (x0 : Int) (x1 : Int) (x2 : Int) : ∀ w, (Instr.build 103 [(1, .int .i64 x0), (2, .int .i64 x1), (4, .int .i64 x2)].toArray).run Tryz.prog w = .ok (.agg [.nilIface, .int .i64 x0, .int .i64 x1, .int .i64 0, .int .i64 x2, .int .i64 0, .int .i64 0, .int .i64 0].toArray) w := fun _ => by kernel_rfl
set_option maxRecDepth 20000 in
set_option maxHeartbeats 400000 in
theorem store_new (k lo hi i : Int) (s : ByteArray) (w : World) (hG : Good w) (hhi : -4611686018427387904 ≤ hi ∧ hi ≤ 9223372036854775807) :
    Calls Tryz.prog 43 #[.int .i64 k, .int .i64 lo, .int .i64 hi, .int .i64 i, .string s] w fun e w' => (e = .returned (.tuple #[.pointer none, .int .i64 2]) ∧ held i < s.size ∧ Below w.heap.size w w') ∨
      ∃ (b : Nat) (u : Value) (kd tp : Int), e = .returned (.tuple #[.pointer (some ⟨b, 0, none⟩), .int .i64 0]) ∧ w.heap.size ≤ b ∧ s.size ≤ held i ∧ w'.heap[b]? = some (stO u kd (min (max lo 0) 1073741824) tp (held i) 0 0 0) ∧ UnderAt w' u s (held i) ∧
        kd = (if k ≠ 1 ∧ k ≠ 2 then 3 else k) ∧ tp = max hi (min (max lo 0) 1073741824 + 1) ∧ bkV u = (if k = 2 ∨ (k ≠ 1 ∧ tp ≤ s.size) then 2 else 1) ∧ Below w.heap.size w w' := by
  have hh := held_le i
  have hli : min (max i 0) 1073741824 = ((held i : Nat) : Int) := by unfold held; omega
  have hO0 := Own.start hG
  refine enter Tryz.func43 rfl rfl rfl 0 ?_
  refine SC.seq ?_
  refine SC.region ?_
  refine SO.val rfl rfl rfl rfl (.assign rfl rfl) ?_
  refine SO.val rfl rfl rfl rfl (.assign rfl rfl) ?_
  refine SO.nil ?_
  refine SQ.then_normal ?_
  refine SC.seq ?_
  refine SC.region ?_
  refine SO.val rfl rfl rfl rfl (.move rfl rfl) ?_
  refine SO.val rfl rfl rfl rfl (.move rfl rfl) ?_
  refine SO.val rfl rfl rfl rfl (.maxI rfl rfl rfl) ?_
  refine SO.val rfl rfl rfl rfl (.minI rfl rfl rfl) ?_
  refine SO.val rfl rfl rfl rfl (.move rfl rfl) ?_
  refine SO.val rfl rfl rfl rfl (.maxI rfl rfl rfl) ?_
  refine SO.val rfl rfl rfl rfl (.minI rfl rfl rfl) ?_
  refine SO.val rfl rfl rfl rfl (.build rfl rfl (bd103_1_2_4_Storn _ _ _)) ?_
  refine SO.box hO0 rfl rfl rfl rfl rfl [_, _, _, _, _, _, _, _] rfl ?_
  intro b1 w1 hb1 hO1
  refine SO.val rfl rfl rfl rfl (.assign rfl rfl) ?_
  refine SO.nil ?_
  refine SQ.then_normal ?_
  refine SC.seq ?_
  refine SC.region ?_
  refine SO.val rfl rfl rfl rfl (.move rfl rfl) ?_
  refine SO.val rfl rfl rfl rfl (.move rfl rfl) ?_
  refine SO.val rfl rfl rfl rfl (.move rfl rfl) ?_
  refine SO.val rfl rfl rfl rfl (.nilCheck rfl rfl) ?_
  refine SO.val rfl rfl rfl rfl (.fieldAddr rfl rfl fa103_2) ?_
  refine SO.val rfl rfl rfl rfl (.load rfl rfl ag3 (cell_of' (hO1.at (i := 0) rfl) rfl)) ?_
  refine SO.val rfl rfl rfl rfl (.add rfl rfl rfl (by omega)) ?_
  refine SO.val rfl rfl rfl rfl (.maxI rfl rfl rfl) ?_
  refine SO.val rfl rfl rfl rfl (.nilCheck rfl rfl) ?_
  refine SO.val rfl rfl rfl rfl (.fieldAddr rfl rfl fa103_3) ?_
  refine SO.store hO1 (i := 0) rfl rfl rfl rfl rfl rfl sz3 rfl rfl [(_, .cells [_, _, _, _, _, _, _, _].toArray _ _)] rfl ?_
  intro w2 hO2
  refine SO.nil ?_
  refine SQ.then_normal ?_
  refine SC.seq ?_
  refine SC.seq ?_
  refine SC.region ?_
  refine SO.val rfl rfl rfl rfl (.move rfl rfl) ?_
  refine SO.val rfl rfl rfl rfl (.lenS rfl rfl Tryz.underlying9) ?_
  refine SO.val rfl rfl rfl rfl (.move rfl rfl) ?_
  refine SO.val rfl rfl rfl rfl (.nilCheck rfl rfl) ?_
  refine SO.val rfl rfl rfl rfl (.fieldAddr rfl rfl fa103_4) ?_
  refine SO.val rfl rfl rfl rfl (.load rfl rfl ag3 (cell_of' (hO2.at (i := 0) rfl) rfl)) ?_
  refine SO.val rfl rfl rfl rfl (.gtr rfl rfl rfl) ?_
  refine SO.nil ?_
  refine SQ.then_normal ?_
  refine SC.dec rfl (fun c3 => ?_) (fun c3 => ?_)
  ·
    refine SC.seq ?_
    refine SC.region ?_
    refine SO.val rfl rfl rfl rfl (.assign rfl rfl) ?_
    refine SO.val rfl rfl rfl rfl (.assign rfl rfl) ?_
    refine SO.nil ?_
    refine SQ.then_normal ?_
    refine SC.ret ?_
    refine SQ.then_ret ?_
    refine SQ.out (.inl rfl) (res2 rfl rfl rfl) ?_
    first | exact .inl ⟨rfl, by omega, hO2.toBelow ⟨hb1, trivial⟩⟩ | (have hE := hOa.comp hO2 rfl; have hK := KeepT.of_own hO2 (hOa.at (i := 0) rfl); rw [hli] at hE; exact .inr ⟨_, _, _, _, rfl, by assumption, by omega, hE.at (i := 0) rfl, hu.keep hK (by decide), (by first | (rw [if_pos (by omega)]; done) | (rw [if_neg (by omega)]; done)), rfl, (by rw [hbk]; first | (rw [if_pos (by omega), if_pos (by omega)]; done) | (rw [if_neg (by omega), if_neg (by omega)]; done)), hE.toBelow ⟨by assumption, trivial⟩⟩)
  ·
    refine SC.skip ?_
    refine SQ.then_normal ?_
    refine SC.seq ?_
    refine SC.region ?_
    refine SO.val rfl rfl rfl rfl (.move rfl rfl) ?_
    refine SO.val rfl rfl rfl rfl (.assign rfl rfl) ?_
    refine SO.nil ?_
    refine SQ.then_normal ?_
    refine SC.seq ?_
    refine SC.seq ?_
    refine SC.region ?_
    refine SO.val rfl rfl rfl rfl (.move rfl rfl) ?_
    refine SO.val rfl rfl rfl rfl (.neq rfl rfl rfl) ?_
    refine SO.val rfl rfl rfl rfl (.move rfl rfl) ?_
    refine SO.dec 43 rfl (fun g5 => ?_) (fun g5 => ?_)
    ·
      refine SO.val rfl rfl rfl rfl (.move rfl rfl) ?_
      refine SO.val rfl rfl rfl rfl (.neq rfl rfl rfl) ?_
      refine SO.val rfl rfl rfl rfl (.pickT rfl rfl rfl) ?_
      refine SO.nil ?_
      refine SQ.then_normal ?_
      refine SC.dec rfl (fun c6 => ?_) (fun c6 => ?_)
      ·
        refine SC.seq ?_
        refine SC.region ?_
        refine SO.val rfl rfl rfl rfl (.move rfl rfl) ?_
        refine SO.val rfl rfl rfl rfl (.nilCheck rfl rfl) ?_
        refine SO.val rfl rfl rfl rfl (.fieldAddr rfl rfl fa103_1) ?_
        refine SO.store hO2 (i := 0) rfl rfl rfl rfl rfl rfl sz60 rfl rfl [(_, .cells [_, _, _, _, _, _, _, _].toArray _ _)] rfl ?_
        intro w7 hO7
        refine SO.val rfl rfl rfl rfl (.assign rfl rfl) ?_
        refine SO.nil ?_
        refine SQ.then_normal ?_
        refine SC.seq ?_
        refine SC.region ?_
        refine SO.val rfl rfl rfl rfl (.move rfl rfl) ?_
        refine SO.val rfl rfl rfl rfl (.lenS rfl rfl Tryz.underlying9) ?_
        refine SO.val rfl rfl rfl rfl (.move rfl rfl) ?_
        refine SO.val rfl rfl rfl rfl (.nilCheck rfl rfl) ?_
        refine SO.val rfl rfl rfl rfl (.fieldAddr rfl rfl fa103_3) ?_
        refine SO.val rfl rfl rfl rfl (.load rfl rfl ag3 (cell_of' (hO7.at (i := 0) rfl) rfl)) ?_
        refine SO.val rfl rfl rfl rfl (.geq rfl rfl rfl) ?_
        refine SO.nil ?_
        refine SQ.then_normal ?_
        refine SC.dec rfl (fun c8 => ?_) (fun c8 => ?_)
        ·
          refine SC.region ?_
          refine SO.val rfl rfl rfl rfl (.assign rfl rfl) ?_
          refine SO.nil ?_
          refine SQ.then_normal ?_
          refine SC.seq ?_
          refine SC.region ?_
          refine SO.val rfl rfl rfl rfl (.move rfl rfl) ?_
          refine SO.val rfl rfl rfl rfl (.move rfl rfl) ?_
          refine SO.val rfl rfl rfl rfl (.move rfl rfl) ?_
          refine SO.val rfl rfl rfl rfl (.nilCheck rfl rfl) ?_
          refine SO.val rfl rfl rfl rfl (.fieldAddr rfl rfl fa103_4) ?_
          refine SO.val rfl rfl rfl rfl (.load rfl rfl ag3 (cell_of' (hO7.at (i := 0) rfl) rfl)) ?_
          refine SO.val rfl rfl rfl rfl (.move rfl rfl) ?_
          refine SO.call rfl rfl rfl rfl (.callF rfl rfl en92) (kept_any _ _ (held i) s _ (hO7.good hG) hli hh (by omega)) ?_
          rintro _ w9 ⟨u, rfl, hu, hbk, hb9⟩
          obtain ⟨uT, ux, rfl⟩ := hu.iface
          have hOa := hO7.below hb9
          have hO9 := hOa.adopt
          refine ⟨_, rfl, ?_⟩
          refine SO.val rfl rfl rfl rfl (.nilCheck rfl rfl) ?_
          refine SO.val rfl rfl rfl rfl (.fieldAddr rfl rfl fa103_0) ?_
          refine SO.store hO9 (i := 0) rfl rfl rfl rfl rfl rfl sz28 rfl rfl [(_, .cells [_, _, _, _, _, _, _, _].toArray _ _)] rfl ?_
          intro w10 hO10
          refine SO.nil ?_
          refine SQ.then_normal ?_
          refine SC.seq ?_
          refine SC.region ?_
          refine SO.val rfl rfl rfl rfl (.move rfl rfl) ?_
          refine SO.val rfl rfl rfl rfl (.assign rfl rfl) ?_
          refine SO.val rfl rfl rfl rfl (.assign rfl rfl) ?_
          refine SO.nil ?_
          refine SQ.then_normal ?_
          refine SC.ret ?_
          refine SQ.out (.inl rfl) (res2 rfl rfl rfl) ?_
          first | exact .inl ⟨rfl, by omega, hO10.toBelow ⟨hb1, trivial⟩⟩ | (have hE := hOa.comp hO10 rfl; have hK := KeepT.of_own hO10 (hOa.at (i := 0) rfl); rw [hli] at hE; exact .inr ⟨_, _, _, _, rfl, by assumption, by omega, hE.at (i := 0) rfl, hu.keep hK (by decide), (by first | (rw [if_pos (by omega)]; done) | (rw [if_neg (by omega)]; done)), rfl, (by rw [hbk]; first | (rw [if_pos (by omega), if_pos (by omega)]; done) | (rw [if_neg (by omega), if_neg (by omega)]; done)), hE.toBelow ⟨by assumption, trivial⟩⟩)
        ·
          refine SC.skip ?_
          refine SQ.then_normal ?_
          refine SC.seq ?_
          refine SC.region ?_
          refine SO.val rfl rfl rfl rfl (.move rfl rfl) ?_
          refine SO.val rfl rfl rfl rfl (.move rfl rfl) ?_
          refine SO.val rfl rfl rfl rfl (.move rfl rfl) ?_
          refine SO.val rfl rfl rfl rfl (.nilCheck rfl rfl) ?_
          refine SO.val rfl rfl rfl rfl (.fieldAddr rfl rfl fa103_4) ?_
          refine SO.val rfl rfl rfl rfl (.load rfl rfl ag3 (cell_of' (hO7.at (i := 0) rfl) rfl)) ?_
          refine SO.val rfl rfl rfl rfl (.move rfl rfl) ?_
          refine SO.call rfl rfl rfl rfl (.callF rfl rfl en92) (kept_any _ _ (held i) s _ (hO7.good hG) hli hh (by omega)) ?_
          rintro _ w12 ⟨u, rfl, hu, hbk, hb12⟩
          obtain ⟨uT, ux, rfl⟩ := hu.iface
          have hOa := hO7.below hb12
          have hO12 := hOa.adopt
          refine ⟨_, rfl, ?_⟩
          refine SO.val rfl rfl rfl rfl (.nilCheck rfl rfl) ?_
          refine SO.val rfl rfl rfl rfl (.fieldAddr rfl rfl fa103_0) ?_
          refine SO.store hO12 (i := 0) rfl rfl rfl rfl rfl rfl sz28 rfl rfl [(_, .cells [_, _, _, _, _, _, _, _].toArray _ _)] rfl ?_
          intro w13 hO13
          refine SO.nil ?_
          refine SQ.then_normal ?_
          refine SC.seq ?_
          refine SC.region ?_
          refine SO.val rfl rfl rfl rfl (.move rfl rfl) ?_
          refine SO.val rfl rfl rfl rfl (.assign rfl rfl) ?_
          refine SO.val rfl rfl rfl rfl (.assign rfl rfl) ?_
          refine SO.nil ?_
          refine SQ.then_normal ?_
          refine SC.ret ?_
          refine SQ.out (.inl rfl) (res2 rfl rfl rfl) ?_
          first | exact .inl ⟨rfl, by omega, hO13.toBelow ⟨hb1, trivial⟩⟩ | (have hE := hOa.comp hO13 rfl; have hK := KeepT.of_own hO13 (hOa.at (i := 0) rfl); rw [hli] at hE; exact .inr ⟨_, _, _, _, rfl, by assumption, by omega, hE.at (i := 0) rfl, hu.keep hK (by decide), (by first | (rw [if_pos (by omega)]; done) | (rw [if_neg (by omega)]; done)), rfl, (by rw [hbk]; first | (rw [if_pos (by omega), if_pos (by omega)]; done) | (rw [if_neg (by omega), if_neg (by omega)]; done)), hE.toBelow ⟨by assumption, trivial⟩⟩)
      ·
        refine SC.skip ?_
        refine SQ.then_normal ?_
        refine SC.seq ?_
        refine SC.region ?_
        refine SO.val rfl rfl rfl rfl (.move rfl rfl) ?_
        refine SO.val rfl rfl rfl rfl (.move rfl rfl) ?_
        refine SO.val rfl rfl rfl rfl (.move rfl rfl) ?_
        refine SO.val rfl rfl rfl rfl (.nilCheck rfl rfl) ?_
        refine SO.val rfl rfl rfl rfl (.fieldAddr rfl rfl fa103_4) ?_
        refine SO.val rfl rfl rfl rfl (.load rfl rfl ag3 (cell_of' (hO2.at (i := 0) rfl) rfl)) ?_
        refine SO.val rfl rfl rfl rfl (.move rfl rfl) ?_
        refine SO.call rfl rfl rfl rfl (.callF rfl rfl en92) (kept_any _ _ (held i) s _ (hO2.good hG) hli hh (by omega)) ?_
        rintro _ w15 ⟨u, rfl, hu, hbk, hb15⟩
        obtain ⟨uT, ux, rfl⟩ := hu.iface
        have hOa := hO2.below hb15
        have hO15 := hOa.adopt
        refine ⟨_, rfl, ?_⟩
        refine SO.val rfl rfl rfl rfl (.nilCheck rfl rfl) ?_
        refine SO.val rfl rfl rfl rfl (.fieldAddr rfl rfl fa103_0) ?_
        refine SO.store hO15 (i := 0) rfl rfl rfl rfl rfl rfl sz28 rfl rfl [(_, .cells [_, _, _, _, _, _, _, _].toArray _ _)] rfl ?_
        intro w16 hO16
        refine SO.nil ?_
        refine SQ.then_normal ?_
        refine SC.seq ?_
        refine SC.region ?_
        refine SO.val rfl rfl rfl rfl (.move rfl rfl) ?_
        refine SO.val rfl rfl rfl rfl (.assign rfl rfl) ?_
        refine SO.val rfl rfl rfl rfl (.assign rfl rfl) ?_
        refine SO.nil ?_
        refine SQ.then_normal ?_
        refine SC.ret ?_
        refine SQ.out (.inl rfl) (res2 rfl rfl rfl) ?_
        first | exact .inl ⟨rfl, by omega, hO16.toBelow ⟨hb1, trivial⟩⟩ | (have hE := hOa.comp hO16 rfl; have hK := KeepT.of_own hO16 (hOa.at (i := 0) rfl); rw [hli] at hE; exact .inr ⟨_, _, _, _, rfl, by assumption, by omega, hE.at (i := 0) rfl, hu.keep hK (by decide), (by first | (rw [if_pos (by omega)]; done) | (rw [if_neg (by omega)]; done)), rfl, (by rw [hbk]; first | (rw [if_pos (by omega), if_pos (by omega)]; done) | (rw [if_neg (by omega), if_neg (by omega)]; done)), hE.toBelow ⟨by assumption, trivial⟩⟩)
    ·
      refine SO.pass rfl rfl rfl ?_
      refine SO.pass rfl rfl rfl ?_
      refine SO.val rfl rfl rfl rfl (.pickF rfl rfl rfl) ?_
      refine SO.nil ?_
      refine SQ.then_normal ?_
      refine SC.no rfl ?_
      refine SC.skip ?_
      refine SQ.then_normal ?_
      refine SC.seq ?_
      refine SC.region ?_
      refine SO.val rfl rfl rfl rfl (.move rfl rfl) ?_
      refine SO.val rfl rfl rfl rfl (.move rfl rfl) ?_
      refine SO.val rfl rfl rfl rfl (.move rfl rfl) ?_
      refine SO.val rfl rfl rfl rfl (.nilCheck rfl rfl) ?_
      refine SO.val rfl rfl rfl rfl (.fieldAddr rfl rfl fa103_4) ?_
      refine SO.val rfl rfl rfl rfl (.load rfl rfl ag3 (cell_of' (hO2.at (i := 0) rfl) rfl)) ?_
      refine SO.val rfl rfl rfl rfl (.move rfl rfl) ?_
      refine SO.call rfl rfl rfl rfl (.callF rfl rfl en92) (kept_any _ _ (held i) s _ (hO2.good hG) hli hh (by omega)) ?_
      rintro _ w18 ⟨u, rfl, hu, hbk, hb18⟩
      obtain ⟨uT, ux, rfl⟩ := hu.iface
      have hOa := hO2.below hb18
      have hO18 := hOa.adopt
      refine ⟨_, rfl, ?_⟩
      refine SO.val rfl rfl rfl rfl (.nilCheck rfl rfl) ?_
      refine SO.val rfl rfl rfl rfl (.fieldAddr rfl rfl fa103_0) ?_
      refine SO.store hO18 (i := 0) rfl rfl rfl rfl rfl rfl sz28 rfl rfl [(_, .cells [_, _, _, _, _, _, _, _].toArray _ _)] rfl ?_
      intro w19 hO19
      refine SO.nil ?_
      refine SQ.then_normal ?_
      refine SC.seq ?_
      refine SC.region ?_
      refine SO.val rfl rfl rfl rfl (.move rfl rfl) ?_
      refine SO.val rfl rfl rfl rfl (.assign rfl rfl) ?_
      refine SO.val rfl rfl rfl rfl (.assign rfl rfl) ?_
      refine SO.nil ?_
      refine SQ.then_normal ?_
      refine SC.ret ?_
      refine SQ.out (.inl rfl) (res2 rfl rfl rfl) ?_
      first | exact .inl ⟨rfl, by omega, hO19.toBelow ⟨hb1, trivial⟩⟩ | (have hE := hOa.comp hO19 rfl; have hK := KeepT.of_own hO19 (hOa.at (i := 0) rfl); rw [hli] at hE; exact .inr ⟨_, _, _, _, rfl, by assumption, by omega, hE.at (i := 0) rfl, hu.keep hK (by decide), (by first | (rw [if_pos (by omega)]; done) | (rw [if_neg (by omega)]; done)), rfl, (by rw [hbk]; first | (rw [if_pos (by omega), if_pos (by omega)]; done) | (rw [if_neg (by omega), if_neg (by omega)]; done)), hE.toBelow ⟨by assumption, trivial⟩⟩)

end Go.Proofs.YtclgplkkajfenaaGreatDoor
