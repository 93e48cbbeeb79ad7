/- The reference: Lines, Count, Of, Span, Line. -/
import Derived.Test.YtclgplkkajfenaaGreatDoorRef5
namespace Go.Proofs.YtclgplkkajfenaaGreatDoor
open Go Go.RowKit Ow
def encS (p : Int × Int) : List Value := [.int .i64 p.1, .int .i64 p.2]
theorem encS_len (p : Int × Int) : (encS p).length = 2 := rfl
theorem encS_one (p : Int × Int) : ∀ u ∈ encS p, u.oneCell' = true := fun u h => by
  simp only [encS, List.mem_cons, List.not_mem_nil, or_false] at h
  rcases h with rfl | rfl <;> rfl
noncomputable def inf41 : TypeInfo := (Tryz.prog.info? 41).getD default
theorem inf41_ok : Tryz.prog.info? 41 = some inf41 := by kernel_rfl
theorem inf41_z : inf41.zero = some (.agg #[.int .i64 0, .int .i64 0]) := by kernel_rfl
theorem inf41_s : inf41.size = 2 := by kernel_rfl
theorem inf41_b : inf41.bytes = 16 := by kernel_rfl
def spI (l : Bs) (k : Nat) : Int × Int := (((bgn l k : Nat) : Int), ((lend l k : Nat) : Int))
def spansN (l : Bs) (n : Nat) : List (Int × Int) := (List.range n).map (spI l)
def spansL (l : Bs) : List (Int × Int) := spansN l (nlC l + 1)
theorem spansN_len (l : Bs) (n : Nat) : (spansN l n).length = n := by simp [spansN]
theorem spansN_succ (l : Bs) (n : Nat) : spansN l (n + 1) = spansN l n ++ [spI l n] := by simp [spansN, List.range_succ]
theorem spansL_get {l : Bs} {k : Nat} (h : k < nlC l + 1) : (spansL l)[k]? = some (spI l k) := by simp [spansL, spansN, h]
/-- At a LF the line ends. -/
theorem lf_here {l : Bs} {i : Nat} (hi : i < l.length) (h : by' l i = 10) : nlT l (i + 1) = nlT l i + 1 ∧ bgn l (nlT l (i + 1) : Nat) = i + 1 ∧ bgn l (nlT l i : Nat) ≤ i ∧
    lend l (nlT l i : Nat) = if i > bgn l (nlT l i : Nat) ∧ by' l (i - 1) = 13 then i - 1 else i := by
  have h1 : nlT l (i + 1) = nlT l i + 1 := by rw [nlT_succ hi, if_pos h]
  have h2 : bgn l (nlT l (i + 1) : Nat) = i + 1 := bgn_eq l _ _ (by omega) (fun t ht hk => by
    have := nlT_mono l (show t ≤ i by omega); omega) (fun _ => Int.le_refl _)
  have h3 := (line_of (l := l) (a := i) (Nat.le_of_lt hi)).1
  refine ⟨h1, h2, h3, ?_⟩
  have h4 := nlT_le_nlC l (i + 1)
  unfold lend
  rw [if_pos (by omega), show ((nlT l i : Nat) : Int) + 1 = ((nlT l (i + 1) : Nat) : Int) by omega, h2]
  simp only [Nat.add_sub_cancel]
theorem lend_last (l : Bs) : lend l (nlC l : Nat) = l.length := by unfold lend; rw [if_neg (by omega)]

theorem bd41_0_1_Ref6 (x0 : Int) (x1 : Int) : ∀ w, (Instr.build 41 [(0, .int .i64 x0), (1, .int .i64 x1)].toArray).run Tryz.prog w = .ok (.agg [.int .i64 x0, .int .i64 x1].toArray) w := fun _ => by kernel_rfl
theorem bs111_1_0_Ref6 (x0 : Int) (x1 : Int) : ∀ w, (Instr.buildSlice 111 1 [(0, .agg [.int .i64 x0, .int .i64 x1].toArray)].toArray).run Tryz.prog w = .ok (.slice (some ⟨w.heap.size, 0, none⟩) 1 1) (w.alloc (.cells [.int .i64 x0, .int .i64 x1].toArray 41)) := fun _ => by kernel_rfl
set_option maxRecDepth 20000 in
set_option maxHeartbeats 400000 in
theorem reflines_any (s : ByteArray) (w : World) (hG : Good w) (hz : s.size ≤ 1099511627775) :
    Calls Tryz.prog 59 #[.string s] w fun e w' => ∃ v, e = .returned v ∧ Own' encS 41 2 w.heap.size w' v (spansL (bl s)) ∧ Below w.heap.size w w' := by
  have hszl := bl_length s
  have hO0 := Own.start hG
  refine enter Tryz.func59 rfl rfl rfl 0 ?_
  refine SC.sr ?_
  refine SO.as ?_
  refine SO.nn ?_
  refine SC.sr ?_
  refine SO.as ?_
  refine SO.nn ?_
  refine SC.sr ?_
  refine SO.as ?_
  refine SO.nn ?_
  refine SC.seq ?_
  refine SC.sr ?_
  refine SO.as ?_
  refine SO.nn ?_
  refine SC.block ?_
  refine SC.loop (α := Value × Nat) (fun x => [(0, .string s), (3, x.1), (4, .int .i64 ((bgn (bl s) ((nlT (bl s) x.2 : Nat) : Int) : Nat) : Int)), (5, .int .i64 (x.2 : Int))]) (fun x v => Below w.heap.size w v ∧ Own' encS 41 2 w.heap.size v x.1 (spansN (bl s) (nlT (bl s) x.2)) ∧ x.2 ≤ (bl s).length) (fun x => (bl s).length - x.2) (.slice none 0 0, 0) ?_ ?_ ?_
  · exact ⟨rfl, rfl, (by show some (Value.int .i64 0) = some (Value.int .i64 (bgn (bl s) ((nlT (bl s) 0 : Nat) : Int) : Nat)); rw [nlT_zero, show (((0 : Nat) : Int)) = 0 from rfl, bgn_zero]; rfl), rfl, trivial⟩
  · exact ⟨hO0.toBelow trivial, by rw [nlT_zero]; exact Own'.nil, Nat.zero_le _⟩
  rintro ⟨v, i⟩ wL ⟨hbW, hrow, hil⟩
  simp only at hrow hil
  show SC _ _ _ _ _ _ _ [(0, .string s), (3, v), (4, .int .i64 ((bgn (bl s) ((nlT (bl s) i : Nat) : Int) : Nat) : Int)), (5, .int .i64 (i : Int))] _
  have hGv : Good wL := hG.ext hbW
  have hO1 := Own.start hGv
  have hti := nlT_le (bl s) i
  refine SC.seq ?_
  refine SC.sr ?_
  refine SO.mv ?_
  refine SO.mv ?_
  refine SO.v (.lenS rfl rfl Tryz.underlying9) ?_
  refine SO.v (.lss rfl rfl rfl) ?_
  refine SO.nn ?_
  refine SC.dec rfl (fun c2 => ?_) (fun c2 => ?_)
  ·
   have hlt : i < (bl s).length := by omega
   refine SC.skip ?_
   refine SQ.then_normal ?_
   refine SC.seq ?_
   refine SC.block ?_
   refine SC.seq ?_
   refine SC.sr ?_
   refine SO.mv ?_
   refine SO.mv ?_
   refine SO.v (.indexS rfl rfl rfl Tryz.underlying9 (by omega)) ?_
   refine SO.v (.neq rfl rfl rfl) ?_
   refine SO.nn ?_
   refine SC.dec rfl (fun c3 => ?_) (fun c3 => ?_)
   ·
    rw [Int.toNat_natCast] at c3
    have hnt : nlT (bl s) (i + 1) = nlT (bl s) i := by rw [nlT_succ hlt, if_neg (by omega)]; rfl
    refine SC.exit ?_
    refine SQ.then_exit ?_
    refine SQ.block_exit ?_
    refine SQ.then_normal ?_
    refine SC.region ?_
    refine SO.mv ?_
    refine SO.v (.add rfl rfl rfl (by omega)) ?_
    refine SO.as ?_
    refine SO.nil ?_
    exact SQ.round (v, i + 1) (by simp only; omega) ⟨rfl, rfl, (by rw [hnt]; rfl), rfl, trivial⟩ ⟨hbW.trans ((hO1.toBelow trivial).mono hbW.size), by rw [hnt]; exact hrow.below (hO1.toBelow trivial), by simp only; omega⟩
   ·
    rw [Int.toNat_natCast] at c3
    obtain ⟨hb1, hb2, hb3, hb4⟩ := lf_here hlt (by omega)
    refine SC.skip ?_
    refine SQ.then_normal ?_
    refine SC.sr ?_
    refine SO.mv ?_
    refine SO.as ?_
    refine SO.nn ?_
    refine SC.seq ?_
    refine SC.sr ?_
    refine SO.mv ?_
    refine SO.mv ?_
    refine SO.v (.gtr rfl rfl rfl) ?_
    refine SO.mv ?_
    refine SO.dec 21 rfl (fun g4 => ?_) (fun g4 => ?_)
    ·
     have hgt : i > bgn (bl s) ((nlT (bl s) i : Nat) : Int) := by omega
     refine SO.mv ?_
     refine SO.mv ?_
     refine SO.v (.sub rfl rfl rfl (by omega)) ?_
     refine SO.v (.indexS rfl rfl rfl Tryz.underlying9 (by omega)) ?_
     refine SO.v (.eql rfl rfl rfl) ?_
     refine SO.v (.pickT rfl rfl rfl) ?_
     refine SO.nn ?_
     refine SC.dec rfl (fun c5 => ?_) (fun c5 => ?_)
     ·
      have hle : spI (bl s) (nlT (bl s) i) = (((bgn (bl s) ((nlT (bl s) i : Nat) : Int) : Nat) : Int), (i : Int) - 1) := by
        unfold spI; rw [hb4, if_pos ⟨by omega, by rw [show i - 1 = ((i : Int) - 1).toNat by omega]; omega⟩, show ((i - 1 : Nat) : Int) = (i : Int) - 1 by omega]
      refine SC.region ?_
      refine SO.mv ?_
      refine SO.v (.sub rfl rfl rfl (by omega)) ?_
      refine SO.as ?_
      refine SO.nn ?_
      refine SC.sr ?_
      refine SO.mv ?_
      refine SO.mv ?_
      refine SO.mv ?_
      refine SO.v (.build rfl rfl (bd41_0_1_Ref6 _ _)) ?_
      refine SO.buildSlice hO1 rfl rfl rfl rfl rfl (bs111_1_0_Ref6 _ _) ?_
      intro b6 w6 hb6 hO6
      obtain ⟨v2, wA, happ, hrow2, hbA, hgA⟩ := Own'.push (hrow.below (hO6.toBelow ⟨hb6, trivial⟩)) encS_len encS_one Tryz.underlying111 inf41_ok inf41_z inf41_s inf41_b rfl (by decide) (by decide) (spI (bl s) (nlT (bl s) i)) (by rw [hle]; exact hO6.at (i := 0) rfl) (by rw [spansN_len]; omega) (Nat.le_trans hbW.size (hO6.toBelow ⟨hb6, trivial⟩).size) 111
      have hbA2 := (hbW.trans ((hO6.toBelow ⟨hb6, trivial⟩).mono hbW.size)).trans hbA
      have hGA : Good wA := hG.ext hbA2
      have hOA := Own.start hGA
      refine SO.v (.builtin2 (v := v2) (w' := wA) rfl rfl rfl (fun cs => by simp [builtin, happ, Result.andThen])) ?_
      refine SO.as ?_
      refine SO.nn ?_
      refine SC.region ?_
      refine SO.mv ?_
      refine SO.v (.add rfl rfl rfl (by omega)) ?_
      refine SO.as ?_
      refine SO.nil ?_
      refine SQ.block_normal ?_
      refine SQ.then_normal ?_
      refine SC.region ?_
      refine SO.mv ?_
      refine SO.v (.add rfl rfl rfl (by omega)) ?_
      refine SO.as ?_
      refine SO.nil ?_
      exact SQ.round (v2, i + 1) (by simp only; omega) ⟨rfl, rfl, (by rw [hb2]; rfl), rfl, trivial⟩ ⟨hbA2, by rw [hb1, spansN_succ]; exact hrow2, by simp only; omega⟩
     ·
      have hle : spI (bl s) (nlT (bl s) i) = (((bgn (bl s) ((nlT (bl s) i : Nat) : Int) : Nat) : Int), (i : Int)) := by
        unfold spI; rw [hb4, if_neg (fun h => by have h2 := h.2; rw [show i - 1 = ((i : Int) - 1).toNat by omega] at h2; omega)]
      refine SC.skip ?_
      refine SQ.then_normal ?_
      refine SC.sr ?_
      refine SO.mv ?_
      refine SO.mv ?_
      refine SO.mv ?_
      refine SO.v (.build rfl rfl (bd41_0_1_Ref6 _ _)) ?_
      refine SO.buildSlice hO1 rfl rfl rfl rfl rfl (bs111_1_0_Ref6 _ _) ?_
      intro b7 w7 hb7 hO7
      obtain ⟨v2, wA, happ, hrow2, hbA, hgA⟩ := Own'.push (hrow.below (hO7.toBelow ⟨hb7, trivial⟩)) encS_len encS_one Tryz.underlying111 inf41_ok inf41_z inf41_s inf41_b rfl (by decide) (by decide) (spI (bl s) (nlT (bl s) i)) (by rw [hle]; exact hO7.at (i := 0) rfl) (by rw [spansN_len]; omega) (Nat.le_trans hbW.size (hO7.toBelow ⟨hb7, trivial⟩).size) 111
      have hbA2 := (hbW.trans ((hO7.toBelow ⟨hb7, trivial⟩).mono hbW.size)).trans hbA
      have hGA : Good wA := hG.ext hbA2
      have hOA := Own.start hGA
      refine SO.v (.builtin2 (v := v2) (w' := wA) rfl rfl rfl (fun cs => by simp [builtin, happ, Result.andThen])) ?_
      refine SO.as ?_
      refine SO.nn ?_
      refine SC.region ?_
      refine SO.mv ?_
      refine SO.v (.add rfl rfl rfl (by omega)) ?_
      refine SO.as ?_
      refine SO.nil ?_
      refine SQ.block_normal ?_
      refine SQ.then_normal ?_
      refine SC.region ?_
      refine SO.mv ?_
      refine SO.v (.add rfl rfl rfl (by omega)) ?_
      refine SO.as ?_
      refine SO.nil ?_
      exact SQ.round (v2, i + 1) (by simp only; omega) ⟨rfl, rfl, (by rw [hb2]; rfl), rfl, trivial⟩ ⟨hbA2, by rw [hb1, spansN_succ]; exact hrow2, by simp only; omega⟩
    ·
     have hle0 : ¬ (i > bgn (bl s) ((nlT (bl s) i : Nat) : Int) ∧ by' (bl s) (i - 1) = 13) := by omega
     have hle : spI (bl s) (nlT (bl s) i) = (((bgn (bl s) ((nlT (bl s) i : Nat) : Int) : Nat) : Int), (i : Int)) := by unfold spI; rw [hb4, if_neg hle0]
     refine SO.ps ?_
     refine SO.ps ?_
     refine SO.ps ?_
     refine SO.ps ?_
     refine SO.ps ?_
     refine SO.v (.pickF rfl rfl rfl) ?_
     refine SO.nn ?_
     refine SC.no rfl ?_
     refine SC.skip ?_
     refine SQ.then_normal ?_
     refine SC.sr ?_
     refine SO.mv ?_
     refine SO.mv ?_
     refine SO.mv ?_
     refine SO.v (.build rfl rfl (bd41_0_1_Ref6 _ _)) ?_
     refine SO.buildSlice hO1 rfl rfl rfl rfl rfl (bs111_1_0_Ref6 _ _) ?_
     intro b8 w8 hb8 hO8
     obtain ⟨v2, wA, happ, hrow2, hbA, hgA⟩ := Own'.push (hrow.below (hO8.toBelow ⟨hb8, trivial⟩)) encS_len encS_one Tryz.underlying111 inf41_ok inf41_z inf41_s inf41_b rfl (by decide) (by decide) (spI (bl s) (nlT (bl s) i)) (by rw [hle]; exact hO8.at (i := 0) rfl) (by rw [spansN_len]; omega) (Nat.le_trans hbW.size (hO8.toBelow ⟨hb8, trivial⟩).size) 111
     have hbA2 := (hbW.trans ((hO8.toBelow ⟨hb8, trivial⟩).mono hbW.size)).trans hbA
     have hGA : Good wA := hG.ext hbA2
     have hOA := Own.start hGA
     refine SO.v (.builtin2 (v := v2) (w' := wA) rfl rfl rfl (fun cs => by simp [builtin, happ, Result.andThen])) ?_
     refine SO.as ?_
     refine SO.nn ?_
     refine SC.region ?_
     refine SO.mv ?_
     refine SO.v (.add rfl rfl rfl (by omega)) ?_
     refine SO.as ?_
     refine SO.nil ?_
     refine SQ.block_normal ?_
     refine SQ.then_normal ?_
     refine SC.region ?_
     refine SO.mv ?_
     refine SO.v (.add rfl rfl rfl (by omega)) ?_
     refine SO.as ?_
     refine SO.nil ?_
     exact SQ.round (v2, i + 1) (by simp only; omega) ⟨rfl, rfl, (by rw [hb2]; rfl), rfl, trivial⟩ ⟨hbA2, by rw [hb1, spansN_succ]; exact hrow2, by simp only; omega⟩
  ·
   have hi2 : i = (bl s).length := by omega
   subst hi2
   rw [nlT_len] at hrow
   rw [nlT_len]
   have hnl9 := nlC_le (bl s)
   refine SC.exit ?_
   refine SQ.then_exit ?_
   refine SQ.then_exit ?_
   refine SQ.block_exit ?_
   refine SQ.then_normal ?_
   refine SC.sr ?_
   refine SO.mv ?_
   refine SO.mv ?_
   refine SO.mv ?_
   refine SO.v (.lenS rfl rfl Tryz.underlying9) ?_
   refine SO.v (.build rfl rfl (bd41_0_1_Ref6 _ _)) ?_
   refine SO.buildSlice hO1 rfl rfl rfl rfl rfl (bs111_1_0_Ref6 _ _) ?_
   intro b9 w9 hb9 hO9
   obtain ⟨v2, wA, happ, hrow2, hbA, hgA⟩ := Own'.push (hrow.below (hO9.toBelow ⟨hb9, trivial⟩)) encS_len encS_one Tryz.underlying111 inf41_ok inf41_z inf41_s inf41_b rfl (by decide) (by decide) (spI (bl s) (nlC (bl s))) (by unfold spI; rw [lend_last]; exact hO9.at (i := 0) rfl) (by rw [spansN_len]; omega) (Nat.le_trans hbW.size (hO9.toBelow ⟨hb9, trivial⟩).size) 111
   have hbA2 := (hbW.trans ((hO9.toBelow ⟨hb9, trivial⟩).mono hbW.size)).trans hbA
   have hGA : Good wA := hG.ext hbA2
   have hOA := Own.start hGA
   refine SO.v (.builtin2 (v := v2) (w' := wA) rfl rfl rfl (fun cs => by simp [builtin, happ, Result.andThen])) ?_
   refine SO.as ?_
   refine SO.nn ?_
   refine SC.ret ?_
   refine SQ.out (.inl rfl) (res1 rfl rfl) ?_
   exact ⟨v2, rfl, by unfold spansL; rw [spansN_succ]; exact hrow2, hbA2⟩

set_option maxRecDepth 20000 in
set_option maxHeartbeats 400000 in
theorem refcount_any (s : ByteArray) (w : World) (hG : Good w) (hz : s.size ≤ 1099511627775) :
    Calls Tryz.prog 32 #[.string s] w fun e w' => e = .returned (.int .i64 ((nlC (bl s) + 1 : Nat) : Int)) ∧ Below w.heap.size w w' := by
  have hO0 := Own.start hG
  refine enter Tryz.func32 rfl rfl rfl 0 ?_
  refine SC.sr ?_
  refine SO.as ?_
  refine SO.nn ?_
  refine SC.sr ?_
  refine SO.mv ?_
  refine SO.call rfl rfl rfl rfl (.callF rfl rfl en59) (reflines_any s _ (hO0.good hG) (by omega)) ?_
  rintro _ w1 ⟨vL, rfl, hrL, hb1⟩
  have hO1 := hO0.below hb1
  have hlenL : (spansL (bl s)).length = nlC (bl s) + 1 := spansN_len _ _
  have hnl := nlC_le (bl s)
  obtain ⟨pL, capL, rfl, hcapL, hlmL, hcellL⟩ := hrL.rows encS_len (by rw [hlenL]; have := bl_length s; omega)
  obtain ⟨wU, hwU⟩ : ∃ x, x = w1 := ⟨_, rfl⟩
  refine ⟨_, rfl, ?_⟩
  refine SO.v (.lenA rfl rfl Tryz.underlying111) ?_
  refine SO.as ?_
  refine SO.nn ?_
  refine SC.ret ?_
  refine SQ.out (.inl rfl) (res1 rfl rfl) ?_
  refine ⟨by rw [hlenL], hO1.toBelow trivial⟩

set_option maxRecDepth 20000 in
set_option maxHeartbeats 400000 in
theorem refof_any (s : ByteArray) (a : Int) (w : World) (hG : Good w) (hz : s.size ≤ 1099511627775) :
    Calls Tryz.prog 33 #[.string s, .int .i64 a] w fun e w' => e = .returned (.tuple #[.int .i64 (ofN (bl s) a), .int .i64 (ofE (bl s) a)]) ∧ Below w.heap.size w w' := by
  have hszl := bl_length s
  have hO0 := Own.start hG
  refine enter Tryz.func33 rfl rfl rfl 0 ?_
  refine SC.sr ?_
  refine SO.as ?_
  refine SO.as ?_
  refine SO.nn ?_
  refine SC.seq ?_
  refine SC.sr ?_
  refine SO.mv ?_
  refine SO.v (.lss rfl rfl rfl) ?_
  refine SO.mv ?_
  refine SO.dec 8 rfl (fun g1 => ?_) (fun g1 => ?_)
  ·
   refine SO.ps ?_
   refine SO.ps ?_
   refine SO.ps ?_
   refine SO.ps ?_
   refine SO.v (.pickT rfl rfl rfl) ?_
   refine SO.nn ?_
   refine SC.yes rfl ?_
   refine SC.sr ?_
   refine SO.as ?_
   refine SO.as ?_
   refine SO.nn ?_
   refine SC.ret ?_
   refine SQ.then_ret ?_
   refine SQ.out (.inl rfl) (res2 rfl rfl rfl) ?_
   refine ⟨?_, hO0.toBelow trivial⟩
   unfold ofN ofE
   rw [bl_length]
   rw [if_pos (by omega), if_pos (by omega)]
  ·
   refine SO.mv ?_
   refine SO.mv ?_
   refine SO.v (.lenS rfl rfl Tryz.underlying9) ?_
   refine SO.v (.gtr rfl rfl rfl) ?_
   refine SO.v (.pickF rfl rfl rfl) ?_
   refine SO.nn ?_
   refine SC.dec rfl (fun c3 => ?_) (fun c3 => ?_)
   ·
    refine SC.sr ?_
    refine SO.as ?_
    refine SO.as ?_
    refine SO.nn ?_
    refine SC.ret ?_
    refine SQ.then_ret ?_
    refine SQ.out (.inl rfl) (res2 rfl rfl rfl) ?_
    refine ⟨?_, hO0.toBelow trivial⟩
    unfold ofN ofE
    rw [bl_length]
    rw [if_pos (by omega), if_pos (by omega)]
   ·
    obtain ⟨i, rfl⟩ := Int.eq_ofNat_of_zero_le (show 0 ≤ a by omega)
    have hnt : nlC (bl (s.extract 0 ((i : Nat) : Int).toNat)) = nlT (bl s) i := by rw [bl_extract, Int.toNat_natCast, List.drop_zero]; rfl
    have hnl := nlT_le (bl s) i
    refine SC.skip ?_
    refine SQ.then_normal ?_
    refine SC.sr ?_
    refine SO.mv ?_
    refine SO.mv ?_
    refine SO.v (.sliceH rfl rfl rfl Tryz.underlying9 (by omega)) ?_
    refine SO.call rfl rfl rfl rfl (.callF rfl rfl en32) ((by have h := refcount_any (s.extract 0 ((i : Nat) : Int).toNat) _ (hO0.good hG) (by simp only [ByteArray.size_extract]; omega); rw [hnt] at h; exact h)) ?_
    rintro _ w5 ⟨rfl, hb5⟩
    have hO5 := hO0.below hb5
    refine ⟨_, rfl, ?_⟩
    refine SO.v (.sub rfl rfl rfl (by omega)) ?_
    refine SO.as ?_
    refine SO.as ?_
    refine SO.nn ?_
    refine SC.ret ?_
    refine SQ.out (.inl rfl) (res2 rfl rfl rfl) ?_
    refine ⟨?_, hO5.toBelow trivial⟩
    unfold ofN ofE
    rw [bl_length]
    rw [if_neg (by omega), if_neg (by omega), Int.toNat_natCast, show (((nlT (bl s) i + 1 : Nat) : Int) - 1) = (nlT (bl s) i : Int) by omega]

theorem bd41_z_Ref6  : ∀ w, (Instr.build 41 [].toArray).run Tryz.prog w = .ok (.agg [.int .i64 0, .int .i64 0].toArray) w := fun _ => by kernel_rfl
set_option maxRecDepth 20000 in
set_option maxHeartbeats 400000 in
theorem refspan_any (s : ByteArray) (k : Int) (w : World) (hG : Good w) (hz : s.size ≤ 1099511627775) :
    Calls Tryz.prog 34 #[.string s, .int .i64 k] w fun e w' => e = .returned (.tuple #[.agg #[.int .i64 (spF (bl s) k : Nat), .int .i64 (spT (bl s) k : Nat)], .int .i64 (spE (bl s) k)]) ∧ Below w.heap.size w w' := by
  have hszl := bl_length s
  have hO0 := Own.start hG
  refine enter Tryz.func34 rfl rfl rfl 0 ?_
  refine SC.sr ?_
  refine SO.alloc hO0 rfl rfl rfl rfl zv41 [_, _] rfl ?_
  intro b1 w1 hb1 hO1
  refine SO.as ?_
  refine SO.nn ?_
  refine SC.sr ?_
  refine SO.mv ?_
  refine SO.call rfl rfl rfl rfl (.callF rfl rfl en59) (reflines_any s _ (hO1.good hG) (by omega)) ?_
  rintro _ w2 ⟨vL, rfl, hrL, hb2⟩
  have hO2 := hO1.below hb2
  have hlenL : (spansL (bl s)).length = nlC (bl s) + 1 := spansN_len _ _
  have hnl := nlC_le (bl s)
  obtain ⟨pL, capL, rfl, hcapL, hlmL, hcellL⟩ := hrL.rows encS_len (by rw [hlenL]; have := bl_length s; omega)
  obtain ⟨wU, hwU⟩ : ∃ x, x = w2 := ⟨_, rfl⟩
  refine ⟨_, rfl, ?_⟩
  refine SO.as ?_
  refine SO.nn ?_
  refine SC.seq ?_
  refine SC.sr ?_
  refine SO.mv ?_
  refine SO.v (.lss rfl rfl rfl) ?_
  refine SO.mv ?_
  refine SO.dec 11 rfl (fun g3 => ?_) (fun g3 => ?_)
  ·
   have hno : noLine (bl s) k := by unfold noLine; omega
   refine SO.ps ?_
   refine SO.ps ?_
   refine SO.ps ?_
   refine SO.ps ?_
   refine SO.v (.pickT rfl rfl rfl) ?_
   refine SO.nn ?_
   refine SC.yes rfl ?_
   refine SC.sr ?_
   refine SO.v (.build rfl rfl (bd41_z_Ref6)) ?_
   refine SO.store hO2 (i := 0) rfl rfl rfl rfl rfl rfl sz41 rfl rfl [(_, .cells [_, _].toArray _ _)] rfl ?_
   intro w4 hO4
   refine SO.as ?_
   refine SO.nn ?_
   refine SC.ret ?_
   refine SQ.then_ret ?_
   refine SQ.out (.inl rfl) (resCT [_, _] rfl rfl rfl ag41 sz41 (hO4.at (i := 0) rfl) rfl rfl) ?_
   exact ⟨by rw [show spF (bl s) k = 0 by unfold spF; rw [if_pos hno], show spT (bl s) k = 0 by unfold spT; rw [if_pos hno], show spE (bl s) k = 1 by unfold spE; rw [if_pos hno]]; rfl, hO4.toBelow ⟨hb1, trivial⟩⟩
  ·
   refine SO.mv ?_
   refine SO.mv ?_
   refine SO.v (.lenA rfl rfl Tryz.underlying111) ?_
   refine SO.v (.geq rfl rfl rfl) ?_
   refine SO.v (.pickF rfl rfl rfl) ?_
   refine SO.nn ?_
   refine SC.dec rfl (fun c6 => ?_) (fun c6 => ?_)
   ·
    have hno : noLine (bl s) k := by unfold noLine; omega
    refine SC.sr ?_
    refine SO.v (.build rfl rfl (bd41_z_Ref6)) ?_
    refine SO.store hO2 (i := 0) rfl rfl rfl rfl rfl rfl sz41 rfl rfl [(_, .cells [_, _].toArray _ _)] rfl ?_
    intro w7 hO7
    refine SO.as ?_
    refine SO.nn ?_
    refine SC.ret ?_
    refine SQ.then_ret ?_
    refine SQ.out (.inl rfl) (resCT [_, _] rfl rfl rfl ag41 sz41 (hO7.at (i := 0) rfl) rfl rfl) ?_
    exact ⟨by rw [show spF (bl s) k = 0 by unfold spF; rw [if_pos hno], show spT (bl s) k = 0 by unfold spT; rw [if_pos hno], show spE (bl s) k = 1 by unfold spE; rw [if_pos hno]]; rfl, hO7.toBelow ⟨hb1, trivial⟩⟩
   ·
    have hno : ¬ noLine (bl s) k := by unfold noLine; omega
    obtain ⟨i, rfl⟩ := Int.eq_ofNat_of_zero_le (show 0 ≤ k by omega)
    obtain ⟨gL, rfl, hcL⟩ := hcellL i _ (spansL_get (by omega))
    rw [← Int.toNat_natCast i] at hcL
    refine SC.skip ?_
    refine SQ.then_normal ?_
    refine SC.sr ?_
    refine SO.mv ?_
    refine SO.mv ?_
    refine SO.v (.indexAddr rfl rfl rfl Tryz.underlying111 sz41 (by omega) (by omega)) ?_
    refine SO.v (.loadN (cs := [_, _]) rfl rfl ag41 sz41 (fun j u hj => hcL j u hj)) ?_
    refine SO.store hO2 (i := 0) rfl rfl rfl rfl rfl rfl sz41 rfl rfl [(_, .cells [_, _].toArray _ _)] rfl ?_
    intro w9 hO9
    refine SO.as ?_
    refine SO.nn ?_
    refine SC.ret ?_
    refine SQ.out (.inl rfl) (resCT [_, _] rfl rfl rfl ag41 sz41 (hO9.at (i := 0) rfl) rfl rfl) ?_
    exact ⟨span_val hno rfl rfl, hO9.toBelow ⟨hb1, trivial⟩⟩

set_option maxRecDepth 20000 in
set_option maxHeartbeats 400000 in
theorem refline_any (s : ByteArray) (k : Int) (w : World) (hG : Good w) (hz : s.size ≤ 1099511627775) :
    Calls Tryz.prog 36 #[.string s, .int .i64 k] w fun e w' => e = .returned (.tuple #[.string (lnT s k), .int .i64 (spE (bl s) k)]) ∧ Below w.heap.size w w' := by
  have hszl := bl_length s
  have hO0 := Own.start hG
  refine enter Tryz.func36 rfl rfl rfl 0 ?_
  refine SC.sr ?_
  refine SO.as ?_
  refine SO.as ?_
  refine SO.nn ?_
  refine SC.sr ?_
  refine SO.mv ?_
  refine SO.mv ?_
  refine SO.call rfl rfl rfl rfl (.callF rfl rfl en34) (refspan_any s _ _ (hO0.good hG) (by omega)) ?_
  rintro _ w1 ⟨rfl, hb1⟩
  have hO1 := hO0.below hb1
  refine ⟨_, rfl, ?_⟩
  refine SO.mv ?_
  refine SO.v (.extract rfl rfl rfl) ?_
  refine SO.v (.extract rfl rfl rfl) ?_
  refine SO.alloc hO1 rfl rfl rfl rfl zv41 [_, _] rfl ?_
  intro b2 w2 hb2 hO2
  refine SO.store hO2 (i := 0) rfl rfl rfl rfl rfl rfl sz41 rfl rfl [(_, .cells [_, _].toArray _ _)] rfl ?_
  intro w3 hO3
  refine SO.as ?_
  refine SO.nn ?_
  refine SC.seq ?_
  refine SC.sr ?_
  refine SO.mv ?_
  refine SO.v (.neq rfl rfl rfl) ?_
  refine SO.nn ?_
  refine SC.dec rfl (fun c4 => ?_) (fun c4 => ?_)
  ·
   have hse := c4
   refine SC.sr ?_
   refine SO.mv ?_
   refine SO.as ?_
   refine SO.as ?_
   refine SO.nn ?_
   refine SC.ret ?_
   refine SQ.then_ret ?_
   refine SQ.out (.inl rfl) (res2 rfl rfl rfl) ?_
   refine ⟨?_, hO3.toBelow ⟨hb2, trivial⟩⟩
   unfold lnT
   (rw [if_pos hse]; rfl)
  ·
   have hse : spE (bl s) k = 0 := by omega
   have hno : ¬ noLine (bl s) k := by unfold spE at hse; intro h; rw [if_pos h] at hse; omega
   have hk : 0 ≤ k ∧ k ≤ nlC (bl s) := by unfold noLine at hno; omega
   obtain ⟨_, eF, eT, _⟩ := lineB_eq (s := s) hk.1 hk.2
   obtain ⟨l1, l2, _, _⟩ := lend_spec (l := bl s) hk.1 hk.2
   refine SC.skip ?_
   refine SQ.then_normal ?_
   refine SC.sr ?_
   refine SO.mv ?_
   refine SO.v (.fieldAddr rfl rfl fa41_0) ?_
   refine SO.v (.load rfl rfl ag3 (cell_of' (hO3.at (i := 0) rfl) rfl)) ?_
   refine SO.v (.fieldAddr rfl rfl fa41_1) ?_
   refine SO.v (.load rfl rfl ag3 (cell_of' (hO3.at (i := 0) rfl) rfl)) ?_
   refine SO.v (.sliceLH rfl rfl rfl rfl Tryz.underlying9 (by omega)) ?_
   refine SO.as ?_
   refine SO.as ?_
   refine SO.nn ?_
   refine SC.ret ?_
   refine SQ.out (.inl rfl) (res2 rfl rfl rfl) ?_
   refine ⟨?_, hO3.toBelow ⟨hb2, trivial⟩⟩
   unfold lnT
   (rw [if_neg (by omega), hse]; unfold slT; rw [if_neg (by unfold bad; omega)])

end Go.Proofs.YtclgplkkajfenaaGreatDoor
