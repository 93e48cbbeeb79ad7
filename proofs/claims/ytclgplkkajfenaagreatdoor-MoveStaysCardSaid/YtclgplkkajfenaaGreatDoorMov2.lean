/- move: find, snapped, Column, Place. -/
import Derived.Test.YtclgplkkajfenaaGreatDoorMov1
namespace Go.Proofs.YtclgplkkajfenaaGreatDoor
open Go Go.RowKit Ow
/-- The motions' row. -/
def motL : List Value := [.int .i64 4, .func (.func 172) #[] #[], .int .i64 5, .func (.func 173) #[] #[], .int .i64 6, .func (.func 174) #[] #[], .int .i64 7, .func (.func 175) #[] #[], .int .i64 8, .func (.func 176) #[] #[], .int .i64 9, .func (.func 177) #[] #[], .int .i64 10, .func (.func 178) #[] #[], .int .i64 11, .func (.func 179) #[] #[], .int .i64 12, .func (.func 180) #[] #[], .int .i64 13, .func (.func 181) #[] #[]]
theorem mot_get {i : Nat} (h : i < 10) (j : Nat) (u : Value) (hu : ([.int .i64 ((i : Int) + 4), .func (.func (172 + i)) #[] #[]] : List Value)[j]? = some u) : motL.toArray[0 + i * 2 + j]? = some u := by
  have hj : j = 0 ∨ j = 1 := by
    rcases Nat.lt_or_ge j 2 with h' | h'
    · omega
    · rw [List.getElem?_eq_none (by simpa using h')] at hu; cases hu
  have hi : i = 0 ∨ i = 1 ∨ i = 2 ∨ i = 3 ∨ i = 4 ∨ i = 5 ∨ i = 6 ∨ i = 7 ∨ i = 8 ∨ i = 9 := by omega
  rcases hj with rfl | rfl <;> rcases hi with rfl | rfl | rfl | rfl | rfl | rfl | rfl | rfl | rfl | rfl <;> exact hu
theorem enS {i : Nat} (h : i < 10) : ∀ args w, (callFunc (172 + i) args).run Tryz.prog w = .ok (.enter (172 + i) args) w := by
  have hi : i = 0 ∨ i = 1 ∨ i = 2 ∨ i = 3 ∨ i = 4 ∨ i = 5 ∨ i = 6 ∨ i = 7 ∨ i = 8 ∨ i = 9 := by omega
  rcases hi with rfl | rfl | rfl | rfl | rfl | rfl | rfl | rfl | rfl | rfl
  · exact en172
  · exact en173
  · exact en174
  · exact en175
  · exact en176
  · exact en177
  · exact en178
  · exact en179
  · exact en180
  · exact en181
/-- A motion's step: where it leads, whether it can be done, the goal behind it. -/
structure Step where
  to : Int → Int → Int
  ok : Int → Int → Bool
  go : Int → Int → Int
/-- So many steps: the place, the goal, the error. -/
def Step.iter (S : Step) : Nat → Int → Int → Int → Int × Int × Int
  | 0, a, g, e => (a, g, e)
  | n + 1, a, g, e => if S.ok g a = true then S.iter n (S.to g a) (S.go g a) 0 else (a, S.go g a, e)
def StepC (s : ByteArray) (f : Nat) (S : Step) : Prop := ∀ (y b lim : Nat) (g a : Int) (w : World), Good w → 2 ≤ y → w.heap[y]? = some (walkO b g) → StoreAt w b s lim → 0 ≤ a → a ≤ s.size →
  Calls Tryz.prog f #[.pointer (some ⟨y, 0, none⟩), .int .i64 a] w fun e w' => e = .returned (.tuple #[.int .i64 (S.to g a), .bool (decide (S.ok g a = true))]) ∧ Ow.Own w [(y, walkO b (S.go g a))] w'
/-- A step that keeps to the text's boundaries. -/
def StepIn (s : ByteArray) (S : Step) : Prop := ∀ (g a : Int), 0 ≤ a → CB (bl s) a.toNat → S.ok g a = true → 0 ≤ S.to g a ∧ CB (bl s) (S.to g a).toNat
def Step.run (S : Step) (s : ByteArray) (a g c : Int) : Int × Int × Int := S.iter (min (max c 1) 1000).toNat (cSnapI (bl s) (max a 0) : Nat) (max g (-1)) 8
def Step.goal (S : Step) (i : Nat) (s : ByteArray) (a g c : Int) : Int := if (S.run s a g c).2.2 = 0 ∧ i ≠ 6 ∧ i ≠ 7 then -1 else (S.run s a g c).2.1
theorem cSnapI_CB (l : Bs) (i : Int) : CB l (cSnapI l i) := by
  unfold cSnapI; split
  · exact .zero l
  · split
    · assumption
    · by_cases e : i.toNat < l.length
      · exact (cNext_spec e).2.2.1
      · rw [cNext_out (by omega)]; exact .len l
theorem cSnapI_le {l : Bs} {i : Int} : cSnapI l i ≤ l.length := by
  unfold cSnapI; split
  · exact Nat.zero_le _
  · split
    · rename_i h; exact h.le
    · by_cases e : i.toNat < l.length
      · exact (cNext_spec e).2.1
      · rw [cNext_out (by omega)]; exact Nat.le_refl _

theorem bd163_0_1_Mov2 (x0 : Int) (x1 : Fn) (x2 : Array Value) (x3 : Array Value) : ∀ w, (Instr.build 163 [(0, .int .i64 x0), (1, .func x1 x2 x3)].toArray).run Tryz.prog w = .ok (.agg [.int .i64 x0, .func x1 x2 x3].toArray) w := fun _ => by kernel_rfl
theorem bs199_10_0_1_2_3_4_5_6_7_8_9_Mov2 (x0 : Int) (x1 : Fn) (x2 : Array Value) (x3 : Array Value) (x4 : Int) (x5 : Fn) (x6 : Array Value) (x7 : Array Value) (x8 : Int) (x9 : Fn) (x10 : Array Value) (x11 : Array Value) (x12 : Int) (x13 : Fn) (x14 : Array Value) (x15 : Array Value) (x16 : Int) (x17 : Fn) (x18 : Array Value) (x19 : Array Value) (x20 : Int) (x21 : Fn) (x22 : Array Value) (x23 : Array Value) (x24 : Int) (x25 : Fn) (x26 : Array Value) (x27 : Array Value) (x28 : Int) (x29 : Fn) (x30 : Array Value) (x31 : Array Value) (x32 : Int) (x33 : Fn) (x34 : Array Value) (x35 : Array Value) (x36 : Int) (x37 : Fn) (x38 : Array Value) (x39 : Array Value) : ∀ w, (Instr.buildSlice 199 10 [(0, .agg [.int .i64 x0, .func x1 x2 x3].toArray), (1, .agg [.int .i64 x4, .func x5 x6 x7].toArray), (2, .agg [.int .i64 x8, .func x9 x10 x11].toArray), (3, .agg [.int .i64 x12, .func x13 x14 x15].toArray), (4, .agg [.int .i64 x16, .func x17 x18 x19].toArray), (5, .agg [.int .i64 x20, .func x21 x22 x23].toArray), (6, .agg [.int .i64 x24, .func x25 x26 x27].toArray), (7, .agg [.int .i64 x28, .func x29 x30 x31].toArray), (8, .agg [.int .i64 x32, .func x33 x34 x35].toArray), (9, .agg [.int .i64 x36, .func x37 x38 x39].toArray)].toArray).run Tryz.prog w = .ok (.slice (some ⟨w.heap.size, 0, none⟩) 10 10) (w.alloc (.cells [.int .i64 x0, .func x1 x2 x3, .int .i64 x4, .func x5 x6 x7, .int .i64 x8, .func x9 x10 x11, .int .i64 x12, .func x13 x14 x15, .int .i64 x16, .func x17 x18 x19, .int .i64 x20, .func x21 x22 x23, .int .i64 x24, .func x25 x26 x27, .int .i64 x28, .func x29 x30 x31, .int .i64 x32, .func x33 x34 x35, .int .i64 x36, .func x37 x38 x39].toArray 163)) := fun _ => by kernel_rfl
set_option maxRecDepth 20000 in
set_option maxHeartbeats 400000 in
theorem motions_any (w : World) (hG : Good w) :
    Calls Tryz.prog 156 #[] w fun e w' => ∃ g : Nat, e = .returned (.slice (some ⟨g, 0, none⟩) 10 10) ∧ w.heap.size ≤ g ∧ w'.heap[g]? = some (.cells motL.toArray 163 (0, 0)) ∧ Below w.heap.size w w' := by
  have hO0 := Own.start hG
  refine enter Tryz.func156 rfl rfl rfl 0 ?_
  refine SC.sr ?_
  refine SO.as ?_
  refine SO.nn ?_
  refine SC.sr ?_
  refine SO.v (.build rfl rfl (bd163_0_1_Mov2 _ _ _ _)) ?_
  refine SO.v (.build rfl rfl (bd163_0_1_Mov2 _ _ _ _)) ?_
  refine SO.v (.build rfl rfl (bd163_0_1_Mov2 _ _ _ _)) ?_
  refine SO.v (.build rfl rfl (bd163_0_1_Mov2 _ _ _ _)) ?_
  refine SO.v (.build rfl rfl (bd163_0_1_Mov2 _ _ _ _)) ?_
  refine SO.v (.build rfl rfl (bd163_0_1_Mov2 _ _ _ _)) ?_
  refine SO.v (.build rfl rfl (bd163_0_1_Mov2 _ _ _ _)) ?_
  refine SO.v (.build rfl rfl (bd163_0_1_Mov2 _ _ _ _)) ?_
  refine SO.v (.build rfl rfl (bd163_0_1_Mov2 _ _ _ _)) ?_
  refine SO.v (.build rfl rfl (bd163_0_1_Mov2 _ _ _ _)) ?_
  refine SO.buildSlice hO0 rfl rfl rfl rfl rfl (bs199_10_0_1_2_3_4_5_6_7_8_9_Mov2 _ _ _ _ _ _ _ _ _ _ _ _ _ _ _ _ _ _ _ _ _ _ _ _ _ _ _ _ _ _ _ _ _ _ _ _ _ _ _ _) ?_
  intro b1 w1 hb1 hO1
  refine SO.as ?_
  refine SO.nn ?_
  refine SC.ret ?_
  refine SQ.out (.inl rfl) (res1 rfl rfl) ?_
  exact ⟨b1, rfl, hb1, hO1.at (i := 0) rfl, hO1.toBelow ⟨hb1, trivial⟩⟩

theorem bd163_z_Mov2  : ∀ w, (Instr.build 163 [].toArray).run Tryz.prog w = .ok (.agg [.int .i64 0, .nilFunc].toArray) w := fun _ => by kernel_rfl
set_option maxRecDepth 20000 in
set_option maxHeartbeats 400000 in
theorem find_any (k : Int) (w : World) (hG : Good w) :
    Calls Tryz.prog 123 #[.int .i64 k] w fun e w' => ((∃ i : Nat, i < 10 ∧ k = (i : Int) + 4 ∧ e = .returned (.tuple #[.agg #[.int .i64 k, .func (.func (172 + i)) #[] #[]], .bool true])) ∨ ((k < 4 ∨ k > 13) ∧ e = .returned (.tuple #[.agg #[.int .i64 0, .nilFunc], .bool false]))) ∧ Below w.heap.size w w' := by
  have hO0 := Own.start hG
  refine enter Tryz.func123 rfl rfl rfl 0 ?_
  refine SC.sr ?_
  refine SO.alloc hO0 rfl rfl rfl rfl zv163 [_, _] rfl ?_
  intro b1 w1 hb1 hO1
  refine SO.as ?_
  refine SO.nn ?_
  refine SC.seq ?_
  refine SC.sr ?_
  refine SO.call rfl rfl rfl rfl (.callF rfl rfl en156) (motions_any _ (hO1.good hG)) ?_
  rintro _ w2 ⟨g, rfl, hg, hgr, hb2⟩
  have hO2 := hO1.learnB hb2 hg hgr
  replace hg := Nat.le_trans hO1.size hg
  refine ⟨_, rfl, ?_⟩
  refine SO.v (.lenA rfl rfl Tryz.underlying199) ?_
  refine SO.mv ?_
  refine SO.nn ?_
  refine SC.block ?_
  refine SC.loop (α := Nat) (fun x => [(0, .int .i64 k), (2, .pointer (some ⟨b1, 0, none⟩)), (6, .slice (some ⟨g, 0, none⟩) 10 10), (7, .int .i64 10), (8, .int .i64 (x : Int))]) (fun x v => x ≤ 10 ∧ (∀ t : Nat, t < x → k ≠ (t : Int) + 4) ∧ Ow.Own w [(g, .cells motL.toArray 163 (0, 0)), (b1, .cells #[.int .i64 0, .nilFunc] 163 (0, 0))] v) (fun x => 10 - x) 0 ?_ ?_ ?_
  · exact ⟨rfl, rfl, rfl, rfl, rfl, trivial⟩
  · exact ⟨by omega, fun t h => by omega, hO2⟩
  rintro x w3 ⟨hx, hno, hO3⟩
  have hgr2 := hO3.at (i := 0) rfl
  refine SC.sr ?_
  refine SO.v (.lss rfl rfl rfl) ?_
  refine SO.nn ?_
  refine SC.seq ?_
  refine SC.dec rfl (fun c4 => ?_) (fun c4 => ?_)
  ·
   have hx2 : x < 10 := by omega
   have hmg : ∀ (j : Nat) (u : Value), ([.int .i64 ((x : Int) + 4), .func (.func (172 + x)) #[] #[]] : List Value)[j]? = some u → motL.toArray[0 + ((x : Int).toNat) * 2 + j]? = some u := by rw [Int.toNat_natCast]; exact mot_get hx2
   have hcw := fun j u hu => (cell_of (b := g) (c := motL.toArray) (i := 0 + ((x : Int).toNat) * 2 + j) hgr2).trans (hmg j u hu)
   refine SC.skip ?_
   refine SQ.then_normal ?_
   refine SC.seq ?_
   refine SC.block ?_
   refine SC.sr ?_
   refine SO.v (.indexAddr rfl rfl rfl Tryz.underlying199 sz163 (by omega) (by omega)) ?_
   refine SO.v (.loadN (cs := [.int .i64 ((x : Int) + 4), .func (.func (172 + x)) #[] #[]]) rfl rfl ag163 sz163 hcw) ?_
   refine SO.alloc hO3 rfl rfl rfl rfl zv163 [_, _] rfl ?_
   intro b5 w5 hb5 hO5
   refine SO.store hO5 (i := 0) rfl rfl rfl rfl rfl rfl sz163 rfl rfl [(_, .cells [_, _].toArray _ _), _, _] rfl ?_
   intro w6 hO6
   refine SO.nn ?_
   refine SC.sr ?_
   refine SO.v (.fieldAddr rfl rfl fa163_0) ?_
   refine SO.v (.load rfl rfl ag118 (cell_of' (hO6.at (i := 0) rfl) rfl)) ?_
   refine SO.mv ?_
   refine SO.v (.eql rfl rfl rfl) ?_
   refine SO.nn ?_
   refine SC.dec rfl (fun c7 => ?_) (fun c7 => ?_)
   ·
    have hk : (x : Int) + 4 = k := c7
    refine SC.sr ?_
    refine SO.v (.loadB [_, _] rfl rfl ag163 sz163 (hO6.at (i := 0) rfl) rfl rfl) ?_
    refine SO.store hO6 (i := 2) rfl rfl rfl rfl rfl rfl sz163 rfl rfl [_, _, (_, .cells [_, _].toArray _ _)] rfl ?_
    intro w8 hO8
    refine SO.as ?_
    refine SO.nn ?_
    refine SC.ret ?_
    refine SQ.block_ret ?_
    refine SQ.then_ret ?_
    refine SQ.then_ret ?_
    refine SQ.block_ret ?_
    refine SQ.then_ret ?_
    refine SQ.out (.inl rfl) (resCT [_, _] rfl rfl rfl ag163 sz163 (hO8.at (i := 2) rfl) rfl rfl) ?_
    exact ⟨.inl ⟨x, hx2, hk.symm, by rw [← hk]⟩, hO8.toBelow ⟨hb5, hg, hb1, trivial⟩⟩
   ·
    have hno2 : ∀ t : Nat, t < x + 1 → k ≠ (t : Int) + 4 := fun t ht e => by
      by_cases h : t < x
      · exact hno t h e
      · have : t = x := by omega
        subst this; exact c7 e.symm
    refine SC.skip ?_
    refine SQ.block_normal ?_
    refine SQ.then_normal ?_
    refine SC.region ?_
    refine SO.v (.add rfl rfl rfl (by omega)) ?_
    refine SO.mv ?_
    refine SO.nil ?_
    refine SQ.round (x + 1) (by omega) ⟨rfl, rfl, rfl, rfl, rfl, trivial⟩ ⟨by omega, hno2, (hO6.tail hb5)⟩
  ·
   have hout : k < 4 ∨ k > 13 := by
     by_cases h : k < 4 ∨ k > 13
     · exact h
     · exact absurd (show k = ((k - 4).toNat : Int) + 4 by omega) (hno (k - 4).toNat (by omega))
   refine SC.exit ?_
   refine SQ.then_exit ?_
   refine SQ.then_exit ?_
   refine SQ.block_exit ?_
   refine SQ.then_normal ?_
   refine SC.sr ?_
   refine SO.v (.build rfl rfl (bd163_z_Mov2)) ?_
   refine SO.store hO3 (i := 1) rfl rfl rfl rfl rfl rfl sz163 rfl rfl [_, (_, .cells [_, _].toArray _ _)] rfl ?_
   intro w10 hO10
   refine SO.as ?_
   refine SO.nn ?_
   refine SC.ret ?_
   refine SQ.out (.inl rfl) (resCT [_, _] rfl rfl rfl ag163 sz163 (hO10.at (i := 1) rfl) rfl rfl) ?_
   exact ⟨.inr ⟨hout, rfl⟩, hO10.toBelow ⟨hg, hb1, trivial⟩⟩

set_option maxRecDepth 20000 in
set_option maxHeartbeats 400000 in
theorem mv_snapped (b : Nat) (s : ByteArray) (lim : Nat) (i : Int) (w : World) (hG : Good w) (hp : StoreAt w b s lim) :
    Calls Tryz.prog 124 #[.pointer (some ⟨b, 0, none⟩), .int .i64 i] w fun e w' => e = .returned (.int .i64 (cSnapI (bl s) (max i 0) : Nat)) ∧ Below w.heap.size w w' := by
  have hO0 := Own.start hG
  refine enter Tryz.func124 rfl rfl rfl 0 ?_
  refine SC.sr ?_
  refine SO.as ?_
  refine SO.nn ?_
  refine SC.sr ?_
  refine SO.mv ?_
  refine SO.mv ?_
  refine SO.v (.maxI rfl rfl rfl) ?_
  refine SO.call rfl rfl rfl rfl (.callF rfl rfl en108) (store_snap b s lim _ _ (hO0.good hG) (hp.below (hO0.toBelow trivial))) ?_
  rintro _ w1 ⟨rfl, hb1⟩
  have hO1 := hO0.below hb1
  refine ⟨_, rfl, ?_⟩
  refine SO.as ?_
  refine SO.nn ?_
  refine SC.ret ?_
  refine SQ.out (.inl rfl) (res1 rfl rfl) ?_
  exact ⟨rfl, hO1.toBelow trivial⟩

theorem mi56_Mov2 : ∀ v w, (Instr.makeInterface 56 v).run Tryz.prog w = .ok (.iface 56 v) w := fun _ _ => by kernel_rfl
set_option maxRecDepth 20000 in
set_option maxHeartbeats 400000 in
theorem mv_column (b : Nat) (s : ByteArray) (lim : Nat) (i : Int) (w : World) (hG : Good w) (hp : StoreAt w b s lim) :
    Calls Tryz.prog 67 #[.pointer (some ⟨b, 0, none⟩), .int .i64 i] w fun e w' => e = .returned (.int .i64 (colR s (cSnapI (bl s) (max i 0) : Nat))) ∧ Below w.heap.size w w' := by
  have hO0 := Own.start hG
  refine enter Tryz.func67 rfl rfl rfl 0 ?_
  refine SC.sr ?_
  refine SO.as ?_
  refine SO.nn ?_
  refine SC.sr ?_
  refine SO.mv ?_
  refine SO.v (.iface rfl rfl mi56_Mov2) ?_
  refine SO.mv ?_
  refine SO.mv ?_
  refine SO.call rfl rfl rfl rfl (.callF rfl rfl en124) (mv_snapped b s lim _ _ (hO0.good hG) (hp.below (hO0.toBelow trivial))) ?_
  rintro _ w1 ⟨rfl, hb1⟩
  have hO1 := hO0.below hb1
  refine ⟨_, rfl, ?_⟩
  refine SO.call rfl rfl rfl rfl (.callF rfl rfl en23) (lines_column (.iface 56 (.pointer (some ⟨b, 0, none⟩))) s _ _ (hO1.good hG) (hp.below (hO1.toBelow trivial)).text) ?_
  rintro _ w2 ⟨rfl, hb2⟩
  have hO2 := hO1.below hb2
  refine ⟨_, rfl, ?_⟩
  refine SO.mv ?_
  refine SO.v (.extract rfl rfl rfl) ?_
  refine SO.v (.extract rfl rfl rfl) ?_
  refine SO.as ?_
  refine SO.as ?_
  refine SO.nn ?_
  refine SC.sr ?_
  refine SO.mv ?_
  refine SO.as ?_
  refine SO.nn ?_
  refine SC.ret ?_
  refine SQ.out (.inl rfl) (res1 rfl rfl) ?_
  exact ⟨rfl, hO2.toBelow trivial⟩

set_option maxRecDepth 20000 in
set_option maxHeartbeats 400000 in
theorem mv_place (b : Nat) (s : ByteArray) (lim : Nat) (i q : Int) (w : World) (hG : Good w) (hp : StoreAt w b s lim) :
    Calls Tryz.prog 69 #[.pointer (some ⟨b, 0, none⟩), .int .i64 i, .int .i64 q] w fun e w' => e = .returned (.int .i64 (atR s (min (max i 0) (nlC (bl s) : Nat)) q)) ∧ Below w.heap.size w w' := by
  have hsz := hp.size
  have hnl := nlC_le (bl s)
  rw [bl_length] at hnl
  have hO0 := Own.start hG
  refine enter Tryz.func69 rfl rfl rfl 0 ?_
  refine SC.sr ?_
  refine SO.as ?_
  refine SO.nn ?_
  refine SC.sr ?_
  refine SO.mv ?_
  refine SO.v (.iface rfl rfl mi56_Mov2) ?_
  refine SO.mv ?_
  refine SO.v (.maxI rfl rfl rfl) ?_
  refine SO.mv ?_
  refine SO.v (.iface rfl rfl mi56_Mov2) ?_
  refine SO.call rfl rfl rfl rfl (.callF rfl rfl en29) (lines_count (.iface 56 (.pointer (some ⟨b, 0, none⟩))) s  _ (hO0.good hG) (hp.below (hO0.toBelow trivial)).text) ?_
  rintro _ w1 ⟨rfl, hb1⟩
  have hO1 := hO0.below hb1
  refine ⟨_, rfl, ?_⟩
  refine SO.v (.sub rfl rfl rfl (by omega)) ?_
  refine SO.v (.minI rfl rfl rfl) ?_
  refine SO.mv ?_
  refine SO.call rfl rfl rfl rfl (.callF rfl rfl en25) (lines_at (.iface 56 (.pointer (some ⟨b, 0, none⟩))) s _ _ _ (hO1.good hG) (hp.below (hO1.toBelow trivial)).text) ?_
  rintro _ w2 ⟨rfl, hb2⟩
  have hO2 := hO1.below hb2
  refine ⟨_, rfl, ?_⟩
  refine SO.mv ?_
  refine SO.v (.extract rfl rfl rfl) ?_
  refine SO.v (.extract rfl rfl rfl) ?_
  refine SO.as ?_
  refine SO.as ?_
  refine SO.nn ?_
  refine SC.sr ?_
  refine SO.mv ?_
  refine SO.as ?_
  refine SO.nn ?_
  refine SC.ret ?_
  refine SQ.out (.inl rfl) (res1 rfl rfl) ?_
  rw [show (((nlC (bl s) + 1 : Nat) : Int) - 1) = (nlC (bl s) : Nat) by omega]
  exact ⟨rfl, hO2.toBelow trivial⟩

set_option maxRecDepth 20000 in
set_option maxHeartbeats 400000 in
theorem mv_mot_in (k : Int) (i : Nat) (hi : i < 10) (hk : k = (i : Int) + 4) (w : World) (hG : Good w) :
    Calls Tryz.prog 71 #[.int .i64 k] w fun e w' => e = .returned (.bool (decide (4 ≤ k ∧ k ≤ 13))) ∧ Below w.heap.size w w' := by
  have hO0 := Own.start hG
  refine enter Tryz.func71 rfl rfl rfl 0 ?_
  refine SC.sr ?_
  refine SO.as ?_
  refine SO.nn ?_
  refine SC.sr ?_
  refine SO.mv ?_
  refine SO.call rfl rfl rfl rfl (.callF rfl rfl en123) (find_any _ _ (hO0.good hG)) ?_
  rintro e1 w1 ⟨hfi, hb1⟩
  obtain ⟨i2, hi2, hk2, rfl⟩ := hfi.resolve_right (fun h => by have := h.1; omega)
  have hO1 := hO0.below hb1
  refine ⟨_, rfl, ?_⟩
  refine SO.mv ?_
  refine SO.v (.extract rfl rfl rfl) ?_
  refine SO.v (.extract rfl rfl rfl) ?_
  refine SO.alloc hO1 rfl rfl rfl rfl zv163 [_, _] rfl ?_
  intro b2 w2 hb2 hO2
  refine SO.store hO2 (i := 0) rfl rfl rfl rfl rfl rfl sz163 rfl rfl [(_, .cells [_, _].toArray _ _)] rfl ?_
  intro w3 hO3
  refine SO.as ?_
  refine SO.nn ?_
  refine SC.sr ?_
  refine SO.mv ?_
  refine SO.as ?_
  refine SO.nn ?_
  refine SC.ret ?_
  refine SQ.out (.inl rfl) (res1 rfl rfl) ?_
  exact ⟨by rw [decide_eq_true (by omega)]; rfl, hO3.toBelow ⟨hb2, trivial⟩⟩

set_option maxRecDepth 20000 in
set_option maxHeartbeats 400000 in
theorem mv_mot_out (k : Int) (hk : k < 4 ∨ k > 13) (w : World) (hG : Good w) :
    Calls Tryz.prog 71 #[.int .i64 k] w fun e w' => e = .returned (.bool (decide (4 ≤ k ∧ k ≤ 13))) ∧ Below w.heap.size w w' := by
  have hO0 := Own.start hG
  refine enter Tryz.func71 rfl rfl rfl 0 ?_
  refine SC.sr ?_
  refine SO.as ?_
  refine SO.nn ?_
  refine SC.sr ?_
  refine SO.mv ?_
  refine SO.call rfl rfl rfl rfl (.callF rfl rfl en123) (find_any _ _ (hO0.good hG)) ?_
  rintro e1 w1 ⟨hfi, hb1⟩
  obtain ⟨hk2, rfl⟩ := hfi.resolve_left (fun ⟨i, h1, h2, _⟩ => by omega)
  have hO1 := hO0.below hb1
  refine ⟨_, rfl, ?_⟩
  refine SO.mv ?_
  refine SO.v (.extract rfl rfl rfl) ?_
  refine SO.v (.extract rfl rfl rfl) ?_
  refine SO.alloc hO1 rfl rfl rfl rfl zv163 [_, _] rfl ?_
  intro b2 w2 hb2 hO2
  refine SO.store hO2 (i := 0) rfl rfl rfl rfl rfl rfl sz163 rfl rfl [(_, .cells [_, _].toArray _ _)] rfl ?_
  intro w3 hO3
  refine SO.as ?_
  refine SO.nn ?_
  refine SC.sr ?_
  refine SO.mv ?_
  refine SO.as ?_
  refine SO.nn ?_
  refine SC.ret ?_
  refine SQ.out (.inl rfl) (res1 rfl rfl) ?_
  exact ⟨by rw [decide_eq_false (by omega)]; rfl, hO3.toBelow ⟨hb2, trivial⟩⟩

theorem mv_motion (k : Int) (w : World) (hG : Good w) :
    Calls Tryz.prog 71 #[.int .i64 k] w fun e w' => e = .returned (.bool (decide (4 ≤ k ∧ k ≤ 13))) ∧ Below w.heap.size w w' := by
  by_cases h : k < 4 ∨ k > 13
  · exact mv_mot_out k h w hG
  · exact mv_mot_in k (k - 4).toNat (by omega) (by omega) w hG

theorem bd168_0_1_Mov2 (x0 : Option Addr) (x1 : Int) : ∀ w, (Instr.build 168 [(0, .pointer x0), (1, .int .i64 x1)].toArray).run Tryz.prog w = .ok (.agg [.pointer x0, .int .i64 x1].toArray) w := fun _ => by kernel_rfl
set_option maxRecDepth 20000 in
set_option maxHeartbeats 400000 in
theorem go_any (s : ByteArray) (S : Step) (i : Nat) (hi : i < 10) (hS : StepC s (172 + i) S) (hin : StepIn s S) (b lim : Nat) (a g c : Int) (w : World) (hG : Good w) (hp : StoreAt w b s lim) :
    Calls Tryz.prog 63 #[.pointer (some ⟨b, 0, none⟩), .int .i64 ((i : Int) + 4), .int .i64 a, .int .i64 g, .int .i64 c] w fun e w' => e = .returned (.tuple #[.int .i64 (S.run s a g c).1, .int .i64 (S.goal i s a g c), .int .i64 (S.run s a g c).2.2]) ∧ Below w.heap.size w w' := by
  have hsn := cSnapI_le (l := bl s) (i := max a 0)
  rw [bl_length] at hsn
  obtain ⟨n, hn⟩ : ∃ n : Nat, n = (min (max c 1) 1000).toNat := ⟨_, rfl⟩
  have hnc : min (max c 1) 1000 = (n : Int) := by omega
  have hO0 := Own.start hG
  refine enter Tryz.func63 rfl rfl rfl 0 ?_
  refine SC.sr ?_
  refine SO.as ?_
  refine SO.as ?_
  refine SO.as ?_
  refine SO.nn ?_
  refine SC.sr ?_
  refine SO.mv ?_
  refine SO.call rfl rfl rfl rfl (.callF rfl rfl en123) (find_any _ _ (hO0.good hG)) ?_
  rintro e1 w1 ⟨hfi, hb1⟩
  obtain ⟨i2, hi2, hk2, rfl⟩ := hfi.resolve_right (fun h => by have := h.1; omega)
  obtain rfl : i = i2 := by omega
  have hO1 := hO0.below hb1
  refine ⟨_, rfl, ?_⟩
  refine SO.mv ?_
  refine SO.v (.extract rfl rfl rfl) ?_
  refine SO.v (.extract rfl rfl rfl) ?_
  refine SO.alloc hO1 rfl rfl rfl rfl zv163 [_, _] rfl ?_
  intro b2 w2 hb2 hO2
  refine SO.store hO2 (i := 0) rfl rfl rfl rfl rfl rfl sz163 rfl rfl [(_, .cells [_, _].toArray _ _)] rfl ?_
  intro w3 hO3
  refine SO.as ?_
  refine SO.nn ?_
  refine SC.seq ?_
  refine SC.sr ?_
  refine SO.mv ?_
  refine SO.v (.not rfl rfl) ?_
  refine SO.nn ?_
  refine SC.no rfl ?_
  refine SC.skip ?_
  refine SQ.then_normal ?_
  refine SC.sr ?_
  refine SO.mv ?_
  refine SO.mv ?_
  refine SO.v (.maxI rfl rfl rfl) ?_
  refine SO.v (.build rfl rfl (bd168_0_1_Mov2 _ _)) ?_
  refine SO.box hO3 rfl rfl rfl rfl rfl [_, _] rfl ?_
  intro b4 w4 hb4 hO4
  refine SO.as ?_
  refine SO.nn ?_
  refine SC.sr ?_
  refine SO.mv ?_
  refine SO.mv ?_
  refine SO.call rfl rfl rfl rfl (.callF rfl rfl en124) (mv_snapped b s lim _ _ (hO4.good hG) (hp.below (hO4.toBelow ⟨hb4, hb2, trivial⟩))) ?_
  rintro _ w5 ⟨rfl, hb5⟩
  have hO5 := hO4.below hb5
  refine ⟨_, rfl, ?_⟩
  refine SO.mv ?_
  refine SO.v (.maxI rfl rfl rfl) ?_
  refine SO.v (.minI rfl rfl rfl) ?_
  rw [hnc]
  refine SO.as ?_
  refine SO.as ?_
  refine SO.nn ?_
  refine SC.sr ?_
  refine SO.as ?_
  refine SO.nn ?_
  refine SC.seq ?_
  refine SC.sr ?_
  refine SO.mv ?_
  refine SO.mv ?_
  refine SO.nn ?_
  refine SC.block ?_
  refine SC.loop (α := Nat × Int × Int × Int) (fun x => [(0, .pointer (some ⟨b, 0, none⟩)), (1, .int .i64 ((i : Int) + 4)), (2, .int .i64 x.2.1), (12, .int .i64 x.2.2.2), (13, .pointer (some ⟨b2, 0, none⟩)), (15, .pointer (some ⟨b4, 0, none⟩)), (36, .int .i64 (n : Int)), (37, .int .i64 (x.1 : Int))]) (fun x v => S.iter (n - x.1) x.2.1 x.2.2.1 x.2.2.2 = S.run s a g c ∧ x.1 ≤ n ∧ (0 ≤ x.2.1 ∧ CB (bl s) x.2.1.toNat) ∧ Ow.Own w [(b4, walkO b x.2.2.1), (b2, .cells #[.int .i64 ((i : Int) + 4), .func (.func (172 + i)) #[] #[]] 163 (0, 0))] v) (fun x => n - x.1) (0, (cSnapI (bl s) (max a 0) : Nat), max g (-1), 8) ?_ ?_ ?_
  · exact ⟨rfl, rfl, rfl, rfl, rfl, rfl, rfl, rfl, trivial⟩
  · exact ⟨by unfold Step.run; rw [← hn]; rfl, Nat.zero_le _, ⟨by simp only; omega, cSnapI_CB _ _⟩, hO5⟩
  rintro ⟨j, p, h, e⟩ w6 ⟨hit, hj, hp0, hO6⟩
  simp only at hit hj hp0
  show SC _ _ _ _ _ _ _ [(0, .pointer (some ⟨b, 0, none⟩)), (1, .int .i64 ((i : Int) + 4)), (2, .int .i64 p), (12, .int .i64 e), (13, .pointer (some ⟨b2, 0, none⟩)), (15, .pointer (some ⟨b4, 0, none⟩)), (36, .int .i64 (n : Int)), (37, .int .i64 (j : Int))] _
  refine SC.sr ?_
  refine SO.v (.lss rfl rfl rfl) ?_
  refine SO.nn ?_
  refine SC.seq ?_
  refine SC.dec rfl (fun c7 => ?_) (fun c7 => ?_)
  ·
   refine SC.skip ?_
   refine SQ.then_normal ?_
   refine SC.seq ?_
   refine SC.block ?_
   refine SC.sr ?_
   refine SO.v (.fieldAddr rfl rfl fa163_1) ?_
   refine SO.v (.load rfl rfl ag161 (cell_of' (hO6.at (i := 1) rfl) rfl)) ?_
   refine SO.mv ?_
   refine SO.mv ?_
   refine SO.call rfl rfl rfl rfl (.callV rfl rfl rfl (enS hi)) (hS b4 b lim h p _ (hO6.good hG) (Nat.le_trans hO6.base hb4) (hO6.at (i := 0) rfl) (hp.below (hO6.toBelow ⟨hb4, hb2, trivial⟩)) hp0.1 (by have := hp0.2.le; rw [bl_length] at this; omega)) ?_
   rintro _ w8 ⟨rfl, hb8⟩
   have hO8 := hO6.thenAt (i := 0) rfl hb8
   refine ⟨_, rfl, ?_⟩
   refine SO.mv ?_
   refine SO.v (.extract rfl rfl rfl) ?_
   refine SO.v (.extract rfl rfl rfl) ?_
   refine SO.as ?_
   refine SO.as ?_
   refine SO.nn ?_
   refine SC.seq ?_
   refine SC.sr ?_
   refine SO.mv ?_
   refine SO.v (.notD rfl rfl) ?_
   refine SO.nn ?_
   refine SC.dec rfl (fun c9 => ?_) (fun c9 => ?_)
   ·
    have hrun : S.run s a g c = (p, S.go h p, e) := by rw [← hit, show n - j = (n - j - 1) + 1 by omega, Step.iter, if_neg c9]
    refine SC.exit ?_
    refine SQ.then_exit ?_
    refine SQ.block_pass rfl ?_
    refine SQ.then_exit ?_
    refine SQ.then_exit ?_
    refine SQ.block_exit ?_
    refine SQ.then_normal ?_
    refine SC.seq ?_
    refine SC.sr ?_
    refine SO.mv ?_
    refine SO.v (.eql rfl rfl rfl) ?_
    refine SO.mv ?_
    refine SO.dec 53 rfl (fun g10 => ?_) (fun g10 => ?_)
    ·
     refine SO.mv ?_
     refine SO.v (.neq rfl rfl rfl) ?_
     refine SO.v (.pickT rfl rfl rfl) ?_
     refine SO.mv ?_
     refine SO.dec 57 rfl (fun g11 => ?_) (fun g11 => ?_)
     ·
      refine SO.mv ?_
      refine SO.v (.neq rfl rfl rfl) ?_
      refine SO.v (.pickT rfl rfl rfl) ?_
      refine SO.nn ?_
      refine SC.dec rfl (fun c12 => ?_) (fun c12 => ?_)
      ·
       refine SC.region ?_
       refine SO.mv ?_
       refine SO.v (.nilCheck rfl rfl) ?_
       refine SO.v (.fieldAddr rfl rfl fa168_1) ?_
       refine SO.store hO8 (i := 0) rfl rfl rfl rfl rfl rfl sz3 rfl rfl [(_, .cells [_, _].toArray _ _), _] rfl ?_
       intro w13 hO13
       refine SO.nn ?_
       refine SC.seq ?_
       refine SC.drawO mixed hO13 (fun hO14 => ?_)
       refine SA.tm 0 rfl hO14 ?_
       refine SA.tm 1 rfl hO14 ?_
       refine SA.tk 2 rfl hO14 (fun v hv => .nilCheck rfl rfl) ?_
       refine SA.tk 3 rfl hO14 (fun v hv => .fieldAddr rfl rfl fa168_1) ?_
       refine SA.tk 4 rfl hO14 (fun v hv => .load rfl rfl ag3 (cell_of' (hv.at (i := 0) rfl) rfl)) ?_
       refine SA.tm 5 rfl hO14 ?_
       refine SA.ta 6 rfl hO14 ?_
       refine SA.ta 7 rfl hO14 ?_
       refine SA.ta 8 rfl hO14 ?_
       refine SA.done (by kernel_rfl) ?_
       refine SQ.then_normal ?_
       refine SC.ret ?_
       refine SQ.out (.inl rfl) (res3 rfl rfl rfl rfl) ?_
       unfold Step.goal
       rw [hrun]
       (rw [if_pos (show _ ∧ _ ∧ _ from ⟨by simp only; omega, by omega, by omega⟩)]; exact ⟨rfl, hO14.toBelow ⟨hb4, hb2, trivial⟩⟩)
      ·
       refine SC.skip ?_
       refine SQ.then_normal ?_
       refine SC.seq ?_
       refine SC.drawO mixed hO8 (fun hO16 => ?_)
       refine SA.tm 0 rfl hO16 ?_
       refine SA.tm 1 rfl hO16 ?_
       refine SA.tk 2 rfl hO16 (fun v hv => .nilCheck rfl rfl) ?_
       refine SA.tk 3 rfl hO16 (fun v hv => .fieldAddr rfl rfl fa168_1) ?_
       refine SA.tk 4 rfl hO16 (fun v hv => .load rfl rfl ag3 (cell_of' (hv.at (i := 0) rfl) rfl)) ?_
       refine SA.tm 5 rfl hO16 ?_
       refine SA.ta 6 rfl hO16 ?_
       refine SA.ta 7 rfl hO16 ?_
       refine SA.ta 8 rfl hO16 ?_
       refine SA.done (by kernel_rfl) ?_
       refine SQ.then_normal ?_
       refine SC.ret ?_
       refine SQ.out (.inl rfl) (res3 rfl rfl rfl rfl) ?_
       unfold Step.goal
       rw [hrun]
       (rw [if_neg (fun hc => by have h1 := hc.1; simp only at h1; have := hc.2; omega)]; exact ⟨rfl, hO16.toBelow ⟨hb4, hb2, trivial⟩⟩)
     ·
      refine SO.ps ?_
      refine SO.ps ?_
      refine SO.v (.pickF rfl rfl rfl) ?_
      refine SO.nn ?_
      refine SC.no rfl ?_
      refine SC.skip ?_
      refine SQ.then_normal ?_
      refine SC.seq ?_
      refine SC.drawO mixed hO8 (fun hO18 => ?_)
      refine SA.tm 0 rfl hO18 ?_
      refine SA.tm 1 rfl hO18 ?_
      refine SA.tk 2 rfl hO18 (fun v hv => .nilCheck rfl rfl) ?_
      refine SA.tk 3 rfl hO18 (fun v hv => .fieldAddr rfl rfl fa168_1) ?_
      refine SA.tk 4 rfl hO18 (fun v hv => .load rfl rfl ag3 (cell_of' (hv.at (i := 0) rfl) rfl)) ?_
      refine SA.tm 5 rfl hO18 ?_
      refine SA.ta 6 rfl hO18 ?_
      refine SA.ta 7 rfl hO18 ?_
      refine SA.ta 8 rfl hO18 ?_
      refine SA.done (by kernel_rfl) ?_
      refine SQ.then_normal ?_
      refine SC.ret ?_
      refine SQ.out (.inl rfl) (res3 rfl rfl rfl rfl) ?_
      unfold Step.goal
      rw [hrun]
      (rw [if_neg (fun hc => by have h1 := hc.1; simp only at h1; have := hc.2; omega)]; exact ⟨rfl, hO18.toBelow ⟨hb4, hb2, trivial⟩⟩)
    ·
     refine SO.ps ?_
     refine SO.ps ?_
     refine SO.v (.pickF rfl rfl rfl) ?_
     refine SO.mv ?_
     refine SO.ps ?_
     refine SO.ps ?_
     refine SO.v (.pickF rfl rfl rfl) ?_
     refine SO.nn ?_
     refine SC.no rfl ?_
     refine SC.skip ?_
     refine SQ.then_normal ?_
     refine SC.seq ?_
     refine SC.drawO mixed hO8 (fun hO20 => ?_)
     refine SA.tm 0 rfl hO20 ?_
     refine SA.tm 1 rfl hO20 ?_
     refine SA.tk 2 rfl hO20 (fun v hv => .nilCheck rfl rfl) ?_
     refine SA.tk 3 rfl hO20 (fun v hv => .fieldAddr rfl rfl fa168_1) ?_
     refine SA.tk 4 rfl hO20 (fun v hv => .load rfl rfl ag3 (cell_of' (hv.at (i := 0) rfl) rfl)) ?_
     refine SA.tm 5 rfl hO20 ?_
     refine SA.ta 6 rfl hO20 ?_
     refine SA.ta 7 rfl hO20 ?_
     refine SA.ta 8 rfl hO20 ?_
     refine SA.done (by kernel_rfl) ?_
     refine SQ.then_normal ?_
     refine SC.ret ?_
     refine SQ.out (.inl rfl) (res3 rfl rfl rfl rfl) ?_
     unfold Step.goal
     rw [hrun]
     (rw [if_neg (fun hc => by have h1 := hc.1; simp only at h1; have := hc.2; omega)]; exact ⟨rfl, hO20.toBelow ⟨hb4, hb2, trivial⟩⟩)
   ·
    have hok : S.ok h p = true := Decidable.not_not.1 c9
    have hit2 : S.iter (n - (j + 1)) (S.to h p) (S.go h p) 0 = S.run s a g c := by rw [← hit, show n - j = (n - (j + 1)) + 1 by omega, Step.iter, if_pos hok]
    refine SC.skip ?_
    refine SQ.then_normal ?_
    refine SC.region ?_
    refine SO.mv ?_
    refine SO.as ?_
    refine SO.as ?_
    refine SO.nil ?_
    refine SQ.block_normal ?_
    refine SQ.then_normal ?_
    refine SC.region ?_
    refine SO.v (.add rfl rfl rfl (by omega)) ?_
    refine SO.mv ?_
    refine SO.nil ?_
    refine SQ.round (j + 1, S.to h p, S.go h p, 0) (by simp only; omega) ⟨rfl, rfl, rfl, rfl, rfl, rfl, rfl, rfl, trivial⟩ ⟨hit2, by simp only; omega, hin h p hp0.1 hp0.2 hok, hO8⟩
  ·
   have hrun : S.run s a g c = (p, h, e) := by rw [← hit, show n - j = 0 by omega]; rfl
   refine SC.exit ?_
   refine SQ.then_exit ?_
   refine SQ.then_exit ?_
   refine SQ.block_exit ?_
   refine SQ.then_normal ?_
   refine SC.seq ?_
   refine SC.sr ?_
   refine SO.mv ?_
   refine SO.v (.eql rfl rfl rfl) ?_
   refine SO.mv ?_
   refine SO.dec 53 rfl (fun g22 => ?_) (fun g22 => ?_)
   ·
    refine SO.mv ?_
    refine SO.v (.neq rfl rfl rfl) ?_
    refine SO.v (.pickT rfl rfl rfl) ?_
    refine SO.mv ?_
    refine SO.dec 57 rfl (fun g23 => ?_) (fun g23 => ?_)
    ·
     refine SO.mv ?_
     refine SO.v (.neq rfl rfl rfl) ?_
     refine SO.v (.pickT rfl rfl rfl) ?_
     refine SO.nn ?_
     refine SC.dec rfl (fun c24 => ?_) (fun c24 => ?_)
     ·
      refine SC.region ?_
      refine SO.mv ?_
      refine SO.v (.nilCheck rfl rfl) ?_
      refine SO.v (.fieldAddr rfl rfl fa168_1) ?_
      refine SO.store hO6 (i := 0) rfl rfl rfl rfl rfl rfl sz3 rfl rfl [(_, .cells [_, _].toArray _ _), _] rfl ?_
      intro w25 hO25
      refine SO.nn ?_
      refine SC.seq ?_
      refine SC.drawO mixed hO25 (fun hO26 => ?_)
      refine SA.tm 0 rfl hO26 ?_
      refine SA.tm 1 rfl hO26 ?_
      refine SA.tk 2 rfl hO26 (fun v hv => .nilCheck rfl rfl) ?_
      refine SA.tk 3 rfl hO26 (fun v hv => .fieldAddr rfl rfl fa168_1) ?_
      refine SA.tk 4 rfl hO26 (fun v hv => .load rfl rfl ag3 (cell_of' (hv.at (i := 0) rfl) rfl)) ?_
      refine SA.tm 5 rfl hO26 ?_
      refine SA.ta 6 rfl hO26 ?_
      refine SA.ta 7 rfl hO26 ?_
      refine SA.ta 8 rfl hO26 ?_
      refine SA.done (by kernel_rfl) ?_
      refine SQ.then_normal ?_
      refine SC.ret ?_
      refine SQ.out (.inl rfl) (res3 rfl rfl rfl rfl) ?_
      unfold Step.goal
      rw [hrun]
      (rw [if_pos (show _ ∧ _ ∧ _ from ⟨by simp only; omega, by omega, by omega⟩)]; exact ⟨rfl, hO26.toBelow ⟨hb4, hb2, trivial⟩⟩)
     ·
      refine SC.skip ?_
      refine SQ.then_normal ?_
      refine SC.seq ?_
      refine SC.drawO mixed hO6 (fun hO28 => ?_)
      refine SA.tm 0 rfl hO28 ?_
      refine SA.tm 1 rfl hO28 ?_
      refine SA.tk 2 rfl hO28 (fun v hv => .nilCheck rfl rfl) ?_
      refine SA.tk 3 rfl hO28 (fun v hv => .fieldAddr rfl rfl fa168_1) ?_
      refine SA.tk 4 rfl hO28 (fun v hv => .load rfl rfl ag3 (cell_of' (hv.at (i := 0) rfl) rfl)) ?_
      refine SA.tm 5 rfl hO28 ?_
      refine SA.ta 6 rfl hO28 ?_
      refine SA.ta 7 rfl hO28 ?_
      refine SA.ta 8 rfl hO28 ?_
      refine SA.done (by kernel_rfl) ?_
      refine SQ.then_normal ?_
      refine SC.ret ?_
      refine SQ.out (.inl rfl) (res3 rfl rfl rfl rfl) ?_
      unfold Step.goal
      rw [hrun]
      (rw [if_neg (fun hc => by have h1 := hc.1; simp only at h1; have := hc.2; omega)]; exact ⟨rfl, hO28.toBelow ⟨hb4, hb2, trivial⟩⟩)
    ·
     refine SO.ps ?_
     refine SO.ps ?_
     refine SO.v (.pickF rfl rfl rfl) ?_
     refine SO.nn ?_
     refine SC.no rfl ?_
     refine SC.skip ?_
     refine SQ.then_normal ?_
     refine SC.seq ?_
     refine SC.drawO mixed hO6 (fun hO30 => ?_)
     refine SA.tm 0 rfl hO30 ?_
     refine SA.tm 1 rfl hO30 ?_
     refine SA.tk 2 rfl hO30 (fun v hv => .nilCheck rfl rfl) ?_
     refine SA.tk 3 rfl hO30 (fun v hv => .fieldAddr rfl rfl fa168_1) ?_
     refine SA.tk 4 rfl hO30 (fun v hv => .load rfl rfl ag3 (cell_of' (hv.at (i := 0) rfl) rfl)) ?_
     refine SA.tm 5 rfl hO30 ?_
     refine SA.ta 6 rfl hO30 ?_
     refine SA.ta 7 rfl hO30 ?_
     refine SA.ta 8 rfl hO30 ?_
     refine SA.done (by kernel_rfl) ?_
     refine SQ.then_normal ?_
     refine SC.ret ?_
     refine SQ.out (.inl rfl) (res3 rfl rfl rfl rfl) ?_
     unfold Step.goal
     rw [hrun]
     (rw [if_neg (fun hc => by have h1 := hc.1; simp only at h1; have := hc.2; omega)]; exact ⟨rfl, hO30.toBelow ⟨hb4, hb2, trivial⟩⟩)
   ·
    refine SO.ps ?_
    refine SO.ps ?_
    refine SO.v (.pickF rfl rfl rfl) ?_
    refine SO.mv ?_
    refine SO.ps ?_
    refine SO.ps ?_
    refine SO.v (.pickF rfl rfl rfl) ?_
    refine SO.nn ?_
    refine SC.no rfl ?_
    refine SC.skip ?_
    refine SQ.then_normal ?_
    refine SC.seq ?_
    refine SC.drawO mixed hO6 (fun hO32 => ?_)
    refine SA.tm 0 rfl hO32 ?_
    refine SA.tm 1 rfl hO32 ?_
    refine SA.tk 2 rfl hO32 (fun v hv => .nilCheck rfl rfl) ?_
    refine SA.tk 3 rfl hO32 (fun v hv => .fieldAddr rfl rfl fa168_1) ?_
    refine SA.tk 4 rfl hO32 (fun v hv => .load rfl rfl ag3 (cell_of' (hv.at (i := 0) rfl) rfl)) ?_
    refine SA.tm 5 rfl hO32 ?_
    refine SA.ta 6 rfl hO32 ?_
    refine SA.ta 7 rfl hO32 ?_
    refine SA.ta 8 rfl hO32 ?_
    refine SA.done (by kernel_rfl) ?_
    refine SQ.then_normal ?_
    refine SC.ret ?_
    refine SQ.out (.inl rfl) (res3 rfl rfl rfl rfl) ?_
    unfold Step.goal
    rw [hrun]
    (rw [if_neg (fun hc => by have h1 := hc.1; simp only at h1; have := hc.2; omega)]; exact ⟨rfl, hO32.toBelow ⟨hb4, hb2, trivial⟩⟩)

end Go.Proofs.YtclgplkkajfenaaGreatDoor
