/- The reference: Units. -/
import Derived.Test.YtclgplkkajfenaaGreatDoorRef1
namespace Go.Proofs.YtclgplkkajfenaaGreatDoor
open Go Go.RowKit Ow
/-- The places at which units begin, from a place on. -/
def uF (l : Bs) : Nat → Nat → List Nat
  | 0, _ => []
  | f + 1, i => if i < l.length then i :: uF l f (i + usz (l.drop i)) else []
def uFrom (l : Bs) (i : Nat) : List Nat := uF l (l.length - i) i
theorem uF_more {l : Bs} : ∀ f g i, l.length ≤ i + f → l.length ≤ i + g → uF l f i = uF l g i
  | 0, 0, _, _, _ => rfl
  | 0, g + 1, i, h, _ => by rw [uF, uF, if_neg (by omega)]
  | f + 1, 0, i, _, h => by rw [uF, uF, if_neg (by omega)]
  | f + 1, g + 1, i, h1, h2 => by
    have := usz_pos (l.drop i)
    rw [uF, uF]
    by_cases h : i < l.length
    · rw [if_pos h, if_pos h, uF_more f g _ (by omega) (by omega)]
    · rw [if_neg h, if_neg h]
theorem uFrom_cons {l : Bs} {i : Nat} (h : i < l.length) : uFrom l i = i :: uFrom l (i + usz (l.drop i)) := by
  have := usz_pos (l.drop i)
  unfold uFrom
  rw [show l.length - i = (l.length - i - 1) + 1 by omega, uF, if_pos h]
  rw [uF_more (l.length - i - 1) (l.length - (i + usz (l.drop i))) _ (by omega) (by omega)]
theorem uFrom_nil {l : Bs} {i : Nat} (h : l.length ≤ i) : uFrom l i = [] := by
  unfold uFrom; rw [show l.length - i = 0 by omega]; rfl
def encU (l : Bs) (p : Nat) : List Value := [.int .i32 (uch (l.drop p)), .int .i64 ((usz (l.drop p) : Nat) : Int)]
theorem encU_len (l : Bs) (p : Nat) : (encU l p).length = 2 := rfl
theorem encU_one (l : Bs) (p : Nat) : ∀ u ∈ encU l p, u.oneCell' = true := fun u h => by
  simp only [encU, List.mem_cons, List.not_mem_nil, or_false] at h
  rcases h with rfl | rfl <;> rfl
noncomputable def inf177 : TypeInfo := (Tryz.prog.info? 177).getD default
theorem inf177_ok : Tryz.prog.info? 177 = some inf177 := by kernel_rfl
theorem inf177_z : inf177.zero = some (.agg #[.int .i32 0, .int .i64 0]) := by kernel_rfl
theorem inf177_s : inf177.size = 2 := by kernel_rfl
theorem inf177_b : inf177.bytes = 16 := by kernel_rfl

theorem bd177_0_1_Ref2 (x0 : Int) (x1 : Int) : ∀ w, (Instr.build 177 [(0, .int .i32 x0), (1, .int .i64 x1)].toArray).run Tryz.prog w = .ok (.agg [.int .i32 x0, .int .i64 x1].toArray) w := fun _ => by kernel_rfl
theorem bs185_1_0_Ref2 (x0 : Int) (x1 : Int) : ∀ w, (Instr.buildSlice 185 1 [(0, .agg [.int .i32 x0, .int .i64 x1].toArray)].toArray).run Tryz.prog w = .ok (.slice (some ⟨w.heap.size, 0, none⟩) 1 1) (w.alloc (.cells [.int .i32 x0, .int .i64 x1].toArray 177)) := fun _ => by kernel_rfl
set_option maxRecDepth 20000 in
set_option maxHeartbeats 400000 in
theorem refunits_any (s : ByteArray) (w : World) (hG : Good w) (hz : s.size ≤ 1099511627776) :
    Calls Tryz.prog 138 #[.string s] w fun e w' => ∃ v, e = .returned v ∧ Own' (encU (bl s)) 177 2 w.heap.size w' v (uFrom (bl s) 0) ∧ Below w.heap.size w w' := by
  have hszl := bl_length s
  have hO0 := Own.start hG
  refine enter Tryz.func138 rfl rfl rfl 0 ?_
  refine SC.sr ?_
  refine SO.as ?_
  refine SO.nn ?_
  refine SC.sr ?_
  refine SO.as ?_
  refine SO.nn ?_
  refine SC.seq ?_
  refine SC.sr ?_
  refine SO.as ?_
  refine SO.nn ?_
  refine SC.block ?_
  refine SC.loop (α := Value × List Nat × Int) (fun x => [(0, .string s), (3, x.1), (4, .int .i64 x.2.2)]) (fun x v => Below w.heap.size w v ∧ Own' (encU (bl s)) 177 2 w.heap.size v x.1 x.2.1 ∧ ∃ i : Nat, x.2.2 = (i : Int) ∧ x.2.1 ++ uFrom (bl s) i = uFrom (bl s) 0 ∧ i ≤ (bl s).length ∧ x.2.1.length ≤ i) (fun x => (bl s).length - x.2.2.toNat) (.slice none 0 0, [], 0) ?_ ?_ ?_
  · exact ⟨rfl, rfl, rfl, trivial⟩
  · exact ⟨hO0.toBelow trivial, Own'.nil, 0, rfl, by simp, by omega, by simp⟩
  rintro ⟨v, xs, a⟩ wL ⟨hbW, hrow, i, ha, hfl, hil, hxl⟩
  simp only at hrow ha hfl hxl
  subst ha
  show SC _ _ _ _ _ _ _ [(0, .string s), (3, v), (4, .int .i64 ((i : Nat) : Int))] _
  have hGv : Good wL := hG.ext hbW
  have hO1 := Own.start hGv
  refine SC.seq ?_
  refine SC.sr ?_
  refine SO.mv ?_
  refine SO.mv ?_
  refine SO.v (.lenS rfl rfl Tryz.underlying9) ?_
  refine SO.v (.lss rfl rfl rfl) ?_
  refine SO.nn ?_
  refine SC.dec rfl (fun c2 => ?_) (fun c2 => ?_)
  ·
   have hlt : i < (bl s).length := by omega
   have hup := usz_pos ((bl s).drop i)
   have hul := usz_drop_le hlt
   rw [uFrom_cons hlt] at hfl
   have hus0 := usz_size (l := (bl s).drop i) (by simp; omega)
   refine SC.skip ?_
   refine SQ.then_normal ?_
   refine SC.block ?_
   refine SC.sr ?_
   refine SO.mv ?_
   refine SO.mv ?_
   refine SO.v (.sliceL rfl rfl rfl Tryz.underlying9 (by omega)) ?_
   refine SO.call rfl rfl rfl rfl (.callF rfl rfl en164) ((by have h := refbegins_any (s.extract ((i : Nat) : Int).toNat s.size) _ (hO1.good hGv) (by simp only [ByteArray.size_extract]; omega) (by simp only [ByteArray.size_extract]; omega); rw [bl_tail, Int.toNat_natCast] at h; exact h)) ?_
   rintro _ w3 ⟨rfl, hb3⟩
   have hO3 := hO1.below hb3
   refine ⟨_, rfl, ?_⟩
   refine SO.v (.build rfl rfl (bd177_0_1_Ref2 _ _)) ?_
   refine SO.alloc hO3 rfl rfl rfl rfl zv177 [_, _] rfl ?_
   intro b4 w4 hb4 hO4
   refine SO.store hO4 (i := 0) rfl rfl rfl rfl rfl rfl sz177 rfl rfl [(_, .cells [_, _].toArray _ _)] rfl ?_
   intro w5 hO5
   refine SO.nn ?_
   refine SC.seq ?_
   refine SC.sr ?_
   refine SO.v (.fieldAddr rfl rfl fa177_0) ?_
   refine SO.v (.load rfl rfl ag21 (cell_of' (hO5.at (i := 0) rfl) rfl)) ?_
   refine SO.v (.geq rfl rfl rfl) ?_
   refine SO.nn ?_
   refine SC.dec rfl (fun c6 => ?_) (fun c6 => ?_)
   ·
    have hus : ((usz ((bl s).drop i) : Nat) : Int) = sizeC (uch ((bl s).drop i)) := by rw [hus0, if_pos c6]
    refine SC.region ?_
    refine SO.v (.fieldAddr rfl rfl fa177_0) ?_
    refine SO.v (.load rfl rfl ag21 (cell_of' (hO5.at (i := 0) rfl) rfl)) ?_
    refine SO.call rfl rfl rfl rfl (.callF rfl rfl en165) (refsize_any _ _ (hO5.good hGv)) ?_
    rintro _ w7 ⟨rfl, hb7⟩
    have hO7 := hO5.below hb7
    refine ⟨_, rfl, ?_⟩
    refine SO.v (.fieldAddr rfl rfl fa177_1) ?_
    refine SO.store hO7 (i := 0) rfl rfl rfl rfl rfl rfl sz3 rfl rfl [(_, .cells [_, _].toArray _ _)] rfl ?_
    intro w8 hO8
    refine SO.nn ?_
    refine SC.sr ?_
    refine SO.mv ?_
    refine SO.v (.loadB [_, _] rfl rfl ag177 sz177 (hO8.at (i := 0) rfl) rfl rfl) ?_
    refine SO.buildSlice hO8 rfl rfl rfl rfl rfl (bs185_1_0_Ref2 _ _) ?_
    intro b9 w9 hb9 hO9
    have hx0 : w9.heap[b9]? = some (.cells (encU (bl s) i).toArray 177 (0, 0)) := by unfold encU; rw [hus]; exact hO9.at (i := 0) rfl
    obtain ⟨v2, wA, happ, hrow2, hbA, hgA⟩ := Own'.push (hrow.below (hO9.toBelow ⟨hb9, hb4, trivial⟩)) (encU_len _) (encU_one _) Tryz.underlying185 inf177_ok inf177_z inf177_s inf177_b rfl (by decide) (by decide) i hx0 (by omega) (Nat.le_trans hbW.size (hO9.toBelow ⟨hb9, hb4, trivial⟩).size) 185
    have hbA2 := (hbW.trans ((hO9.toBelow ⟨hb9, hb4, trivial⟩).mono hbW.size)).trans hbA
    have hGA : Good wA := hG.ext hbA2
    have q5 : wA.heap[b4]? = _ := Own'.other (w0 := wL) hrow hgA hb4 (hO9.at (i := 1) rfl)
    have hOA := Own.start hGA
    refine SO.v (.builtin2 (v := v2) (w' := wA) rfl rfl rfl (fun cs => by simp [builtin, happ, Result.andThen])) ?_
    refine SO.as ?_
    refine SO.nn ?_
    refine SC.region ?_
    refine SO.mv ?_
    refine SO.v (.fieldAddr rfl rfl fa177_1) ?_
    refine SO.v (.load rfl rfl ag3 (cell_of' (hOA.heapO trivial q5) rfl)) ?_
    refine SO.v (.add rfl rfl rfl (by omega)) ?_
    refine SO.as ?_
    refine SO.nil ?_
    refine SQ.block_normal ?_
    first | exact SQ.round (v2, xs ++ [i], _) (by simp only; omega) ⟨rfl, rfl, rfl, trivial⟩ ⟨hbA2, hrow2, i + usz ((bl s).drop i), by simp only; omega, by simpa using hfl, usz_drop_le hlt, by simp only [List.length_append, List.length_singleton]; omega⟩
   ·
    have hus : ((usz ((bl s).drop i) : Nat) : Int) = 1 := by rw [hus0, if_neg c6]
    refine SC.skip ?_
    refine SQ.then_normal ?_
    refine SC.sr ?_
    refine SO.mv ?_
    refine SO.v (.loadB [_, _] rfl rfl ag177 sz177 (hO5.at (i := 0) rfl) rfl rfl) ?_
    refine SO.buildSlice hO5 rfl rfl rfl rfl rfl (bs185_1_0_Ref2 _ _) ?_
    intro b10 w10 hb10 hO10
    have hx0 : w10.heap[b10]? = some (.cells (encU (bl s) i).toArray 177 (0, 0)) := by unfold encU; rw [hus]; exact hO10.at (i := 0) rfl
    obtain ⟨v2, wA, happ, hrow2, hbA, hgA⟩ := Own'.push (hrow.below (hO10.toBelow ⟨hb10, hb4, trivial⟩)) (encU_len _) (encU_one _) Tryz.underlying185 inf177_ok inf177_z inf177_s inf177_b rfl (by decide) (by decide) i hx0 (by omega) (Nat.le_trans hbW.size (hO10.toBelow ⟨hb10, hb4, trivial⟩).size) 185
    have hbA2 := (hbW.trans ((hO10.toBelow ⟨hb10, hb4, trivial⟩).mono hbW.size)).trans hbA
    have hGA : Good wA := hG.ext hbA2
    have q5 : wA.heap[b4]? = _ := Own'.other (w0 := wL) hrow hgA hb4 (hO10.at (i := 1) rfl)
    have hOA := Own.start hGA
    refine SO.v (.builtin2 (v := v2) (w' := wA) rfl rfl rfl (fun cs => by simp [builtin, happ, Result.andThen])) ?_
    refine SO.as ?_
    refine SO.nn ?_
    refine SC.region ?_
    refine SO.mv ?_
    refine SO.v (.fieldAddr rfl rfl fa177_1) ?_
    refine SO.v (.load rfl rfl ag3 (cell_of' (hOA.heapO trivial q5) rfl)) ?_
    refine SO.v (.add rfl rfl rfl (by omega)) ?_
    refine SO.as ?_
    refine SO.nil ?_
    refine SQ.block_normal ?_
    first | exact SQ.round (v2, xs ++ [i], _) (by simp only; omega) ⟨rfl, rfl, rfl, trivial⟩ ⟨hbA2, hrow2, i + usz ((bl s).drop i), by simp only; omega, by simpa using hfl, usz_drop_le hlt, by simp only [List.length_append, List.length_singleton]; omega⟩
  ·
   have hall : xs = uFrom (bl s) 0 := by rw [uFrom_nil (by omega), List.append_nil] at hfl; exact hfl
   refine SC.exit ?_
   refine SQ.then_exit ?_
   refine SQ.then_exit ?_
   refine SQ.block_exit ?_
   refine SQ.then_normal ?_
   refine SC.sr ?_
   refine SO.mv ?_
   refine SO.as ?_
   refine SO.nn ?_
   refine SC.ret ?_
   refine SQ.out (.inl rfl) (res1 rfl rfl) ?_
   exact ⟨v, rfl, by rw [← hall]; exact hrow.below (hO1.toBelow trivial), hbW.trans ((hO1.toBelow trivial).mono hbW.size)⟩

end Go.Proofs.YtclgplkkajfenaaGreatDoor
