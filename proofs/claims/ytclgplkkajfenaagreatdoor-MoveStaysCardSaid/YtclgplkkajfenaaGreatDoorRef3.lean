/- The reference: Table, Within. -/
import Derived.Test.YtclgplkkajfenaaGreatDoorRef2
namespace Go.Proofs.YtclgplkkajfenaaGreatDoor
open Go Go.RowKit Ow
def digC (b : Int) : Int := if b ≥ 48 ∧ b ≤ 57 then b - 48 else if b ≥ 65 ∧ b ≤ 70 then b - 65 + 10 else -1
theorem digC_range {b : Int} (h : 0 ≤ b ∧ b ≤ 255) : -1 ≤ digC b ∧ digC b ≤ 15 := by unfold digC; repeat' split <;> omega
/-- The numbers of a table's text, byte by byte. -/
def nSt (l : Bs) : Nat → List Int × Int × Bool
  | 0 => ([], 0, false)
  | i + 1 => if (if i < l.length then digC (by' l i : Nat) else -1) ≥ 0 then ((nSt l i).1, IntKind.i32.wrap (IntKind.i32.wrap ((nSt l i).2.1 * 16) + digC (by' l i : Nat)), true)
    else (if (nSt l i).2.2 then (nSt l i).1 ++ [(nSt l i).2.1] else (nSt l i).1, 0, false)
def numsT (l : Bs) : List Int := (nSt l (l.length + 1)).1
def pairsL : List Int → List (Int × Int)
  | a :: b :: r => (a, b) :: pairsL r
  | _ => []
def inR : List (Int × Int) → Int → Bool
  | [], _ => false
  | p :: r, c => (decide (p.1 ≤ c) && decide (c ≤ p.2)) || inR r c
theorem inR_pairs (c : Int) : ∀ l : List Int, inR (pairsL l) c = inTab l c
  | [] => rfl
  | [_] => rfl
  | a :: b :: r => by rw [pairsL, inR, inTab, inR_pairs c r]
theorem nSt_len (l : Bs) : ∀ i, (nSt l i).1.length ≤ i
  | 0 => Nat.le_refl _
  | i + 1 => by
    have := nSt_len l i
    rw [nSt]
    by_cases h : (if i < l.length then digC (by' l i : Nat) else -1) ≥ 0
    · rw [if_pos h]; exact Nat.le_succ_of_le this
    · rw [if_neg h]
      show (if (nSt l i).2.2 = true then (nSt l i).1 ++ [(nSt l i).2.1] else (nSt l i).1).length ≤ i + 1
      split
      · simp only [List.length_append, List.length_singleton]; omega
      · omega
theorem sz224 : ∀ w, (sizeOf 224).run Tryz.prog w = .ok 2 w := fun _ => by kernel_rfl
def encN (n : Int) : List Value := [.int .i32 n]
theorem encN_len (p : Int) : (encN p).length = 1 := rfl
theorem encN_one (p : Int) : ∀ u ∈ encN p, u.oneCell' = true := fun u h => by
  simp only [encN, List.mem_cons, List.not_mem_nil, or_false] at h
  subst h; rfl
def encR (p : Int × Int) : List Value := [.int .i32 p.1, .int .i32 p.2]
theorem encR_len (p : Int × Int) : (encR p).length = 2 := rfl
theorem encR_one (p : Int × Int) : ∀ u ∈ encR p, u.oneCell' = true := fun u h => by
  simp only [encR, List.mem_cons, List.not_mem_nil, or_false] at h
  rcases h with rfl | rfl <;> rfl
noncomputable def inf21 : TypeInfo := (Tryz.prog.info? 21).getD default
theorem inf21_ok : Tryz.prog.info? 21 = some inf21 := by kernel_rfl
theorem inf21_z : inf21.zero = some (.int .i32 0) := by kernel_rfl
theorem inf21_s : inf21.size = 1 := by kernel_rfl
theorem inf21_b : inf21.bytes = 4 := by kernel_rfl
noncomputable def inf224 : TypeInfo := (Tryz.prog.info? 224).getD default
theorem inf224_ok : Tryz.prog.info? 224 = some inf224 := by kernel_rfl
theorem inf224_z : inf224.zero = some (.agg #[.int .i32 0, .int .i32 0]) := by kernel_rfl
theorem inf224_s : inf224.size = 2 := by kernel_rfl
theorem inf224_b : inf224.bytes = 8 := by kernel_rfl
theorem drop_two {α : Type} {l : List α} {i : Nat} (h : i + 1 < l.length) : l.drop i = l[i] :: l[i + 1] :: l.drop (i + 2) := by
  rw [List.drop_eq_getElem_cons (by omega : i < l.length), List.drop_eq_getElem_cons h]

set_option maxRecDepth 20000 in
set_option maxHeartbeats 400000 in
theorem refdigit_any (b : Int) (w : World) (hG : Good w) (hb : 0 ≤ b ∧ b ≤ 255) :
    Calls Tryz.prog 191 #[.int .u8 b] w fun e w' => e = .returned (.int .i32 (digC b)) ∧ Below w.heap.size w w' := by
  have hO0 := Own.start hG
  refine enter Tryz.func191 rfl rfl rfl 0 ?_
  refine SC.sr ?_
  refine SO.as ?_
  refine SO.nn ?_
  refine SC.seq ?_
  refine SC.block ?_
  refine SC.sr ?_
  refine SO.mv ?_
  refine SO.v (.geq rfl rfl rfl) ?_
  refine SO.mv ?_
  refine SO.dec 6 rfl (fun g1 => ?_) (fun g1 => ?_)
  ·
   refine SO.mv ?_
   refine SO.v (.leq rfl rfl rfl) ?_
   refine SO.v (.pickT rfl rfl rfl) ?_
   refine SO.as ?_
   refine SO.nn ?_
   refine SC.dec rfl (fun c2 => ?_) (fun c2 => ?_)
   ·
    refine SC.sr ?_
    refine SO.mv ?_
    refine SO.v (.sub8 rfl rfl rfl (by omega)) ?_
    refine SO.v (.conv5_21 rfl rfl (by omega)) ?_
    refine SO.as ?_
    refine SO.nn ?_
    refine SC.ret ?_
    refine SQ.block_ret ?_
    refine SQ.then_ret ?_
    refine SQ.out (.inl rfl) (res1 rfl rfl) ?_
    refine ⟨?_, hO0.toBelow trivial⟩
    unfold digC
    (repeat' split) <;> first | rfl | (exfalso; omega)
   ·
    refine SC.sr ?_
    refine SO.mv ?_
    refine SO.v (.geq rfl rfl rfl) ?_
    refine SO.mv ?_
    refine SO.dec 16 rfl (fun g4 => ?_) (fun g4 => ?_)
    ·
     refine SO.mv ?_
     refine SO.v (.leq rfl rfl rfl) ?_
     refine SO.v (.pickT rfl rfl rfl) ?_
     refine SO.as ?_
     refine SO.nn ?_
     refine SC.dec rfl (fun c5 => ?_) (fun c5 => ?_)
     ·
      refine SC.sr ?_
      refine SO.mv ?_
      refine SO.v (.sub8 rfl rfl rfl (by omega)) ?_
      refine SO.v (.conv5_21 rfl rfl (by omega)) ?_
      refine SO.v (.add32 rfl rfl rfl (by omega)) ?_
      refine SO.as ?_
      refine SO.nn ?_
      refine SC.ret ?_
      refine SQ.block_ret ?_
      refine SQ.then_ret ?_
      refine SQ.out (.inl rfl) (res1 rfl rfl) ?_
      refine ⟨?_, hO0.toBelow trivial⟩
      unfold digC
      (repeat' split) <;> first | rfl | (exfalso; omega)
     ·
      refine SC.skip ?_
      refine SQ.block_normal ?_
      refine SQ.then_normal ?_
      refine SC.sr ?_
      refine SO.as ?_
      refine SO.nn ?_
      refine SC.ret ?_
      refine SQ.out (.inl rfl) (res1 rfl rfl) ?_
      refine ⟨?_, hO0.toBelow trivial⟩
      unfold digC
      (repeat' split) <;> first | rfl | (exfalso; omega)
    ·
     refine SO.ps ?_
     refine SO.ps ?_
     refine SO.v (.pickF rfl rfl rfl) ?_
     refine SO.as ?_
     refine SO.nn ?_
     refine SC.no rfl ?_
     refine SC.skip ?_
     refine SQ.block_normal ?_
     refine SQ.then_normal ?_
     refine SC.sr ?_
     refine SO.as ?_
     refine SO.nn ?_
     refine SC.ret ?_
     refine SQ.out (.inl rfl) (res1 rfl rfl) ?_
     refine ⟨?_, hO0.toBelow trivial⟩
     unfold digC
     (repeat' split) <;> first | rfl | (exfalso; omega)
  ·
   refine SO.ps ?_
   refine SO.ps ?_
   refine SO.v (.pickF rfl rfl rfl) ?_
   refine SO.as ?_
   refine SO.nn ?_
   refine SC.no rfl ?_
   refine SC.sr ?_
   refine SO.mv ?_
   refine SO.v (.geq rfl rfl rfl) ?_
   refine SO.mv ?_
   refine SO.dec 16 rfl (fun g9 => ?_) (fun g9 => ?_)
   ·
    refine SO.mv ?_
    refine SO.v (.leq rfl rfl rfl) ?_
    refine SO.v (.pickT rfl rfl rfl) ?_
    refine SO.as ?_
    refine SO.nn ?_
    refine SC.dec rfl (fun c10 => ?_) (fun c10 => ?_)
    ·
     refine SC.sr ?_
     refine SO.mv ?_
     refine SO.v (.sub8 rfl rfl rfl (by omega)) ?_
     refine SO.v (.conv5_21 rfl rfl (by omega)) ?_
     refine SO.v (.add32 rfl rfl rfl (by omega)) ?_
     refine SO.as ?_
     refine SO.nn ?_
     refine SC.ret ?_
     refine SQ.block_ret ?_
     refine SQ.then_ret ?_
     refine SQ.out (.inl rfl) (res1 rfl rfl) ?_
     refine ⟨?_, hO0.toBelow trivial⟩
     unfold digC
     (repeat' split) <;> first | rfl | (exfalso; omega)
    ·
     refine SC.skip ?_
     refine SQ.block_normal ?_
     refine SQ.then_normal ?_
     refine SC.sr ?_
     refine SO.as ?_
     refine SO.nn ?_
     refine SC.ret ?_
     refine SQ.out (.inl rfl) (res1 rfl rfl) ?_
     refine ⟨?_, hO0.toBelow trivial⟩
     unfold digC
     (repeat' split) <;> first | rfl | (exfalso; omega)
   ·
    refine SO.ps ?_
    refine SO.ps ?_
    refine SO.v (.pickF rfl rfl rfl) ?_
    refine SO.as ?_
    refine SO.nn ?_
    refine SC.no rfl ?_
    refine SC.skip ?_
    refine SQ.block_normal ?_
    refine SQ.then_normal ?_
    refine SC.sr ?_
    refine SO.as ?_
    refine SO.nn ?_
    refine SC.ret ?_
    refine SQ.out (.inl rfl) (res1 rfl rfl) ?_
    refine ⟨?_, hO0.toBelow trivial⟩
    unfold digC
    (repeat' split) <;> first | rfl | (exfalso; omega)

set_option maxRecDepth 20000 in
set_option maxHeartbeats 400000 in
theorem refwithin_any (v : Value) (xs : List (Int × Int)) (c : Int) (w : World) (hG : Good w) (hr : Rows encR 2 w v xs) :
    Calls Tryz.prog 166 #[v, .int .i32 c] w fun e w' => e = .returned (.bool (inR xs c)) ∧ Below w.heap.size w w' := by
  obtain ⟨p, cap, rfl, hcap, hlm, hcell⟩ := hr
  have hO0 := Own.start hG
  refine enter Tryz.func166 rfl rfl rfl 0 ?_
  refine SC.sr ?_
  refine SO.as ?_
  refine SO.nn ?_
  refine SC.seq ?_
  refine SC.sr ?_
  refine SO.as ?_
  refine SO.nn ?_
  refine SC.block ?_
  refine SC.loop (α := Nat) (fun x => [(0, .slice p xs.length cap), (1, .int .i32 c), (5, .int .i64 (x : Int))]) (fun x v => x ≤ xs.length ∧ inR (xs.drop x) c = inR xs c ∧ Ow.Own w [] v) (fun x => xs.length - x) 0 ?_ ?_ ?_
  · exact ⟨rfl, rfl, rfl, trivial⟩
  · exact ⟨Nat.zero_le _, by rw [List.drop_zero], hO0⟩
  rintro x w1 ⟨hx, hin, hO1⟩
  refine SC.seq ?_
  refine SC.sr ?_
  refine SO.mv ?_
  refine SO.mv ?_
  refine SO.v (.lenA rfl rfl Tryz.underlying205) ?_
  refine SO.v (.lss rfl rfl rfl) ?_
  refine SO.nn ?_
  refine SC.dec rfl (fun c2 => ?_) (fun c2 => ?_)
  ·
   have hlt : x < xs.length := by omega
   obtain ⟨g, rfl, hc⟩ := hcell x xs[x] (List.getElem?_eq_getElem hlt)
   have hc0 := hc 0 _ rfl
   have hc1 := hc 1 _ rfl
   rw [List.drop_eq_getElem_cons hlt, inR] at hin
   refine SC.skip ?_
   refine SQ.then_normal ?_
   refine SC.seq ?_
   refine SC.block ?_
   refine SC.sr ?_
   refine SO.mv ?_
   refine SO.mv ?_
   refine SO.mv ?_
   refine SO.v (.indexAddr rfl rfl rfl Tryz.underlying205 sz224 (by omega) (by omega)) ?_
   refine SO.v (.fieldAddr rfl rfl fa224_0) ?_
   refine SO.v (.load rfl rfl ag21 (hO1.cellO trivial hc0)) ?_
   refine SO.v (.geq rfl rfl rfl) ?_
   refine SO.mv ?_
   refine SO.dec 19 rfl (fun g3 => ?_) (fun g3 => ?_)
   ·
    refine SO.mv ?_
    refine SO.mv ?_
    refine SO.mv ?_
    refine SO.v (.indexAddr rfl rfl rfl Tryz.underlying205 sz224 (by omega) (by omega)) ?_
    refine SO.v (.fieldAddr rfl rfl fa224_1) ?_
    refine SO.v (.load rfl rfl ag21 (hO1.cellO trivial hc1)) ?_
    refine SO.v (.leq rfl rfl rfl) ?_
    refine SO.v (.pickT rfl rfl rfl) ?_
    refine SO.nn ?_
    refine SC.dec rfl (fun c4 => ?_) (fun c4 => ?_)
    ·
     have hres : inR xs c = true := by rw [← hin, decide_eq_true (show xs[x].1 ≤ c by omega), decide_eq_true (show c ≤ xs[x].2 by omega)]; rfl
     refine SC.sr ?_
     refine SO.as ?_
     refine SO.nn ?_
     refine SC.ret ?_
     refine SQ.block_ret ?_
     refine SQ.then_ret ?_
     refine SQ.then_ret ?_
     refine SQ.block_ret ?_
     refine SQ.then_ret ?_
     refine SQ.out (.inl rfl) (res1 rfl rfl) ?_
     refine ⟨?_, hO1.toBelow trivial⟩
     rw [hres]
    ·
     have hmiss : (decide (xs[x].1 ≤ c) && decide (c ≤ xs[x].2)) = false := by
       rw [Bool.and_eq_false_iff]; by_cases h : xs[x].1 ≤ c
       · exact .inr (decide_eq_false (by omega))
       · exact .inl (decide_eq_false h)
     refine SC.skip ?_
     refine SQ.block_normal ?_
     refine SQ.then_normal ?_
     refine SC.region ?_
     refine SO.mv ?_
     refine SO.v (.add rfl rfl rfl (by omega)) ?_
     refine SO.as ?_
     refine SO.nil ?_
     refine SQ.round (x + 1) (by omega) ⟨rfl, rfl, rfl, trivial⟩ ⟨by omega, by rw [← hin, hmiss, Bool.false_or], hO1⟩
   ·
    have hmiss : (decide (xs[x].1 ≤ c) && decide (c ≤ xs[x].2)) = false := by rw [decide_eq_false (by omega), Bool.false_and]
    refine SO.ps ?_
    refine SO.ps ?_
    refine SO.ps ?_
    refine SO.ps ?_
    refine SO.ps ?_
    refine SO.ps ?_
    refine SO.ps ?_
    refine SO.v (.pickF rfl rfl rfl) ?_
    refine SO.nn ?_
    refine SC.no rfl ?_
    refine SC.skip ?_
    refine SQ.block_normal ?_
    refine SQ.then_normal ?_
    refine SC.region ?_
    refine SO.mv ?_
    refine SO.v (.add rfl rfl rfl (by omega)) ?_
    refine SO.as ?_
    refine SO.nil ?_
    refine SQ.round (x + 1) (by omega) ⟨rfl, rfl, rfl, trivial⟩ ⟨by omega, by rw [← hin, hmiss, Bool.false_or], hO1⟩
  ·
   have hres : inR xs c = false := by rw [← hin, List.drop_eq_nil_of_le (by omega)]; rfl
   refine SC.exit ?_
   refine SQ.then_exit ?_
   refine SQ.then_exit ?_
   refine SQ.block_exit ?_
   refine SQ.then_normal ?_
   refine SC.sr ?_
   refine SO.as ?_
   refine SO.nn ?_
   refine SC.ret ?_
   refine SQ.out (.inl rfl) (res1 rfl rfl) ?_
   refine ⟨?_, hO1.toBelow trivial⟩
   rw [hres]

theorem bd224_0_1_Ref3 (x0 : Int) (x1 : Int) : ∀ w, (Instr.build 224 [(0, .int .i32 x0), (1, .int .i32 x1)].toArray).run Tryz.prog w = .ok (.agg [.int .i32 x0, .int .i32 x1].toArray) w := fun _ => by kernel_rfl
theorem bs205_1_0_Ref3 (x0 : Int) (x1 : Int) : ∀ w, (Instr.buildSlice 205 1 [(0, .agg [.int .i32 x0, .int .i32 x1].toArray)].toArray).run Tryz.prog w = .ok (.slice (some ⟨w.heap.size, 0, none⟩) 1 1) (w.alloc (.cells [.int .i32 x0, .int .i32 x1].toArray 224)) := fun _ => by kernel_rfl
theorem bs219_1_0_Ref3 (x0 : Int) : ∀ w, (Instr.buildSlice 219 1 [(0, .int .i32 x0)].toArray).run Tryz.prog w = .ok (.slice (some ⟨w.heap.size, 0, none⟩) 1 1) (w.alloc (.cells [.int .i32 x0].toArray 21)) := fun _ => by kernel_rfl
set_option maxRecDepth 20000 in
set_option maxHeartbeats 400000 in
theorem reftable_any (s : ByteArray) (w : World) (hG : Good w) (hz : s.size ≤ 1073741824) :
    Calls Tryz.prog 167 #[.string s] w fun e w' => ∃ v, e = .returned v ∧ Own' encR 224 2 w.heap.size w' v (pairsL (numsT (bl s))) ∧ Below w.heap.size w w' := by
  have hszl := bl_length s
  have hO0 := Own.start hG
  refine enter Tryz.func167 rfl rfl rfl 0 ?_
  refine SC.sr ?_
  refine SO.as ?_
  refine SO.nn ?_
  refine SC.sr ?_
  refine SO.as ?_
  refine SO.nn ?_
  refine SC.sr ?_
  refine SO.as ?_
  refine SO.nn ?_
  refine SC.sr ?_
  refine SO.as ?_
  refine SO.nn ?_
  refine SC.seq ?_
  refine SC.sr ?_
  refine SO.as ?_
  refine SO.nn ?_
  refine SC.block ?_
  refine SC.loop (α := Value × Nat) (fun x => [(0, .string s), (3, x.1), (4, .int .i32 (nSt (bl s) x.2).2.1), (5, .bool (nSt (bl s) x.2).2.2), (6, .int .i64 (x.2 : Int))]) (fun x v => Below w.heap.size w v ∧ Own' encN 21 1 w.heap.size v x.1 (nSt (bl s) x.2).1 ∧ x.2 ≤ (bl s).length + 1) (fun x => (bl s).length + 1 - x.2) (.slice none 0 0, 0) ?_ ?_ ?_
  · exact ⟨rfl, rfl, rfl, rfl, rfl, trivial⟩
  · exact ⟨hO0.toBelow trivial, Own'.nil, by simp only; omega⟩
  rintro ⟨v, i⟩ wL ⟨hbW, hrow, hil⟩
  simp only at hrow hil
  show SC _ _ _ _ _ _ _ [(0, .string s), (3, v), (4, .int .i32 (nSt (bl s) i).2.1), (5, .bool (nSt (bl s) i).2.2), (6, .int .i64 (i : Int))] _
  have hGv : Good wL := hG.ext hbW
  have hO1 := Own.start hGv
  have hsl := nSt_len (bl s) i
  refine SC.seq ?_
  refine SC.sr ?_
  refine SO.mv ?_
  refine SO.mv ?_
  refine SO.v (.lenS rfl rfl Tryz.underlying9) ?_
  refine SO.v (.leq rfl rfl rfl) ?_
  refine SO.nn ?_
  refine SC.dec rfl (fun c2 => ?_) (fun c2 => ?_)
  ·
   refine SC.skip ?_
   refine SQ.then_normal ?_
   refine SC.seq ?_
   refine SC.block ?_
   refine SC.sr ?_
   refine SO.as ?_
   refine SO.nn ?_
   refine SC.seq ?_
   refine SC.sr ?_
   refine SO.mv ?_
   refine SO.mv ?_
   refine SO.v (.lenS rfl rfl Tryz.underlying9) ?_
   refine SO.v (.lss rfl rfl rfl) ?_
   refine SO.nn ?_
   refine SC.dec rfl (fun c3 => ?_) (fun c3 => ?_)
   ·
    have hlt : i < (bl s).length := by omega
    refine SC.region ?_
    refine SO.mv ?_
    refine SO.mv ?_
    refine SO.v (.indexS rfl rfl rfl Tryz.underlying9 (by omega)) ?_
    refine SO.call rfl rfl rfl rfl (.callF rfl rfl en191) ((by have h := refdigit_any (by' (bl s) i : Nat) _ (hO1.good hGv) (by have := by_lt (bl s) i; omega); exact h)) ?_
    rintro _ w4 ⟨rfl, hb4⟩
    have hO4 := hO1.below hb4
    refine ⟨_, rfl, ?_⟩
    refine SO.as ?_
    refine SO.nn ?_
    refine SC.seq ?_
    refine SC.sr ?_
    refine SO.mv ?_
    refine SO.v (.geq rfl rfl rfl) ?_
    refine SO.nn ?_
    refine SC.dec rfl (fun c5 => ?_) (fun c5 => ?_)
    ·
     have hst : nSt (bl s) (i + 1) = ((nSt (bl s) i).1, IntKind.i32.wrap (IntKind.i32.wrap ((nSt (bl s) i).2.1 * 16) + digC (by' (bl s) i : Nat)), true) := by rw [nSt, if_pos hlt, if_pos c5]
     refine SC.sr ?_
     refine SO.mv ?_
     refine SO.v (.mulW rfl rfl rfl) ?_
     refine SO.mv ?_
     refine SO.v (.addW rfl rfl rfl) ?_
     refine SO.as ?_
     refine SO.nn ?_
     refine SC.sr ?_
     refine SO.as ?_
     refine SO.nn ?_
     refine SC.exit ?_
     refine SQ.then_exit ?_
     refine SQ.block_exit ?_
     refine SQ.then_normal ?_
     refine SC.region ?_
     refine SO.mv ?_
     refine SO.v (.add rfl rfl rfl (by omega)) ?_
     refine SO.as ?_
     refine SO.nil ?_
     exact SQ.round (v, i + 1) (by simp only; omega) ⟨rfl, rfl, by rw [hst]; rfl, by rw [hst]; rfl, rfl, trivial⟩ ⟨hbW.trans ((hO4.toBelow trivial).mono hbW.size), by rw [hst]; exact hrow.below (hO4.toBelow trivial), by simp only; omega⟩
    ·
     have hdg : ¬ (if i < (bl s).length then digC (by' (bl s) i : Nat) else -1) ≥ 0 := by rw [if_pos hlt]; exact c5
     refine SC.skip ?_
     refine SQ.then_normal ?_
     refine SC.seq ?_
     refine SC.sr ?_
     refine SO.mv ?_
     refine SO.nn ?_
     refine SC.bool rfl (fun c6 => ?_) (fun c6 => ?_)
     ·
      have hst : nSt (bl s) (i + 1) = ((nSt (bl s) i).1 ++ [(nSt (bl s) i).2.1], 0, false) := by rw [nSt, if_neg hdg, if_pos c6]
      refine SC.region ?_
      refine SO.mv ?_
      refine SO.mv ?_
      refine SO.buildSlice hO4 rfl rfl rfl rfl rfl (bs219_1_0_Ref3 _) ?_
      intro b7 w7 hb7 hO7
      obtain ⟨v2, wA, happ, hrow2, hbA, hgA⟩ := Own'.push (hrow.below (hO7.toBelow ⟨hb7, trivial⟩)) encN_len encN_one Tryz.underlying219 inf21_ok inf21_z inf21_s inf21_b rfl (by decide) (by decide) (nSt (bl s) i).2.1 (hO7.at (i := 0) rfl) (by omega) (Nat.le_trans hbW.size (hO7.toBelow ⟨hb7, trivial⟩).size) 219
      have hbA2 := (hbW.trans ((hO7.toBelow ⟨hb7, trivial⟩).mono hbW.size)).trans hbA
      have hGA : Good wA := hG.ext hbA2
      have hOA := Own.start hGA
      refine SO.v (.builtin2 (v := v2) (w' := wA) rfl rfl rfl (fun cs => by simp [builtin, happ, Result.andThen])) ?_
      refine SO.as ?_
      refine SO.nn ?_
      refine SC.sr ?_
      refine SO.as ?_
      refine SO.nn ?_
      refine SC.region ?_
      refine SO.as ?_
      refine SO.nil ?_
      refine SQ.block_normal ?_
      refine SQ.then_normal ?_
      refine SC.region ?_
      refine SO.mv ?_
      refine SO.v (.add rfl rfl rfl (by omega)) ?_
      refine SO.as ?_
      refine SO.nil ?_
      exact SQ.round (v2, i + 1) (by simp only; omega) ⟨rfl, rfl, by rw [hst]; rfl, by rw [hst]; rfl, rfl, trivial⟩ ⟨hbA2, by rw [hst]; exact hrow2, by simp only; omega⟩
     ·
      have hst : nSt (bl s) (i + 1) = ((nSt (bl s) i).1, 0, false) := by rw [nSt, if_neg hdg, if_neg (by rw [c6]; decide)]
      refine SC.skip ?_
      refine SQ.then_normal ?_
      refine SC.sr ?_
      refine SO.as ?_
      refine SO.nn ?_
      refine SC.region ?_
      refine SO.as ?_
      refine SO.nil ?_
      refine SQ.block_normal ?_
      refine SQ.then_normal ?_
      refine SC.region ?_
      refine SO.mv ?_
      refine SO.v (.add rfl rfl rfl (by omega)) ?_
      refine SO.as ?_
      refine SO.nil ?_
      exact SQ.round (v, i + 1) (by simp only; omega) ⟨rfl, rfl, by rw [hst]; rfl, by rw [hst]; rfl, rfl, trivial⟩ ⟨hbW.trans ((hO4.toBelow trivial).mono hbW.size), by rw [hst]; exact hrow.below (hO4.toBelow trivial), by simp only; omega⟩
   ·
    have hdg : ¬ (if i < (bl s).length then digC (by' (bl s) i : Nat) else -1) ≥ 0 := by rw [if_neg (by omega)]; decide
    refine SC.skip ?_
    refine SQ.then_normal ?_
    refine SC.seq ?_
    refine SC.sr ?_
    refine SO.mv ?_
    refine SO.v (decF (.geq rfl rfl rfl) (by omega)) ?_
    refine SO.nn ?_
    refine SC.no rfl ?_
    refine SC.skip ?_
    refine SQ.then_normal ?_
    refine SC.seq ?_
    refine SC.sr ?_
    refine SO.mv ?_
    refine SO.nn ?_
    refine SC.bool rfl (fun c8 => ?_) (fun c8 => ?_)
    ·
     have hst : nSt (bl s) (i + 1) = ((nSt (bl s) i).1 ++ [(nSt (bl s) i).2.1], 0, false) := by rw [nSt, if_neg hdg, if_pos c8]
     refine SC.region ?_
     refine SO.mv ?_
     refine SO.mv ?_
     refine SO.buildSlice hO1 rfl rfl rfl rfl rfl (bs219_1_0_Ref3 _) ?_
     intro b9 w9 hb9 hO9
     obtain ⟨v2, wA, happ, hrow2, hbA, hgA⟩ := Own'.push (hrow.below (hO9.toBelow ⟨hb9, trivial⟩)) encN_len encN_one Tryz.underlying219 inf21_ok inf21_z inf21_s inf21_b rfl (by decide) (by decide) (nSt (bl s) i).2.1 (hO9.at (i := 0) rfl) (by omega) (Nat.le_trans hbW.size (hO9.toBelow ⟨hb9, trivial⟩).size) 219
     have hbA2 := (hbW.trans ((hO9.toBelow ⟨hb9, trivial⟩).mono hbW.size)).trans hbA
     have hGA : Good wA := hG.ext hbA2
     have hOA := Own.start hGA
     refine SO.v (.builtin2 (v := v2) (w' := wA) rfl rfl rfl (fun cs => by simp [builtin, happ, Result.andThen])) ?_
     refine SO.as ?_
     refine SO.nn ?_
     refine SC.sr ?_
     refine SO.as ?_
     refine SO.nn ?_
     refine SC.region ?_
     refine SO.as ?_
     refine SO.nil ?_
     refine SQ.block_normal ?_
     refine SQ.then_normal ?_
     refine SC.region ?_
     refine SO.mv ?_
     refine SO.v (.add rfl rfl rfl (by omega)) ?_
     refine SO.as ?_
     refine SO.nil ?_
     exact SQ.round (v2, i + 1) (by simp only; omega) ⟨rfl, rfl, by rw [hst]; rfl, by rw [hst]; rfl, rfl, trivial⟩ ⟨hbA2, by rw [hst]; exact hrow2, by simp only; omega⟩
    ·
     have hst : nSt (bl s) (i + 1) = ((nSt (bl s) i).1, 0, false) := by rw [nSt, if_neg hdg, if_neg (by rw [c8]; decide)]
     refine SC.skip ?_
     refine SQ.then_normal ?_
     refine SC.sr ?_
     refine SO.as ?_
     refine SO.nn ?_
     refine SC.region ?_
     refine SO.as ?_
     refine SO.nil ?_
     refine SQ.block_normal ?_
     refine SQ.then_normal ?_
     refine SC.region ?_
     refine SO.mv ?_
     refine SO.v (.add rfl rfl rfl (by omega)) ?_
     refine SO.as ?_
     refine SO.nil ?_
     exact SQ.round (v, i + 1) (by simp only; omega) ⟨rfl, rfl, by rw [hst]; rfl, by rw [hst]; rfl, rfl, trivial⟩ ⟨hbW.trans ((hO1.toBelow trivial).mono hbW.size), by rw [hst]; exact hrow.below (hO1.toBelow trivial), by simp only; omega⟩
  ·
   refine SC.exit ?_
   refine SQ.then_exit ?_
   refine SQ.then_exit ?_
   refine SQ.block_exit ?_
   refine SQ.then_normal ?_
   refine SC.sr ?_
   refine SO.as ?_
   refine SO.nn ?_
   refine SC.seq ?_
   refine SC.sr ?_
   refine SO.as ?_
   refine SO.nn ?_
   refine SC.block ?_
   have hi2 : i = (bl s).length + 1 := by omega
   subst hi2
   have hnl : (numsT (bl s)).length ≤ (bl s).length + 1 := hsl
   have hrows : Rows encN 1 _ _ (numsT (bl s)) := (hrow.below (hO1.toBelow trivial)).rows encN_len (by omega)
   obtain ⟨p, cap, rfl, hcap, hlm, hcell⟩ := hrows
   have hbB := hbW.trans ((hO1.toBelow trivial).mono hbW.size)
   have hGB := hG.ext hbB
   obtain ⟨wB, hwB⟩ : ∃ x, x = wL := ⟨_, rfl⟩
   rw [← hwB] at hcell hbB hGB hO1
   refine SC.loop (α := Value × List (Int × Int) × Int) (fun x => [(3, .slice p (numsT (bl s)).length cap), (8, x.1), (9, .int .i64 x.2.2)]) (fun x v => Below wB.heap.size wB v ∧ Own' encR 224 2 wB.heap.size v x.1 x.2.1 ∧ ∃ i : Nat, x.2.2 = (i : Int) ∧ x.2.1 ++ pairsL ((numsT (bl s)).drop i) = pairsL (numsT (bl s)) ∧ i ≤ (numsT (bl s)).length + 1 ∧ x.2.1.length ≤ i) (fun x => (numsT (bl s)).length + 2 - x.2.2.toNat) (.slice none 0 0, [], 0) ?_ ?_ ?_
   · exact ⟨rfl, rfl, rfl, trivial⟩
   · exact ⟨by rw [hwB]; exact .refl _ _, Own'.nil, 0, rfl, by simp, by omega, by simp⟩
   rintro ⟨v3, xs, a⟩ wM ⟨hbW2, hrow3, i, ha, hfl, hil, hxl⟩
   simp only at hrow3 ha hfl hxl
   subst ha
   show SC _ _ _ _ _ _ _ [(3, .slice p (numsT (bl s)).length cap), (8, v3), (9, .int .i64 (i : Int))] _
   have hGv : Good wM := hGB.ext hbW2
   have hO10 := Own.start hGv
   have hbX := hbW2
   replace hbW := hbW2
   replace hrow := hrow3
   refine SC.seq ?_
   refine SC.sr ?_
   refine SO.mv ?_
   refine SO.v (.add rfl rfl rfl (by omega)) ?_
   refine SO.mv ?_
   refine SO.v (.lenA rfl rfl Tryz.underlying219) ?_
   refine SO.v (.lss rfl rfl rfl) ?_
   refine SO.nn ?_
   refine SC.dec rfl (fun c11 => ?_) (fun c11 => ?_)
   ·
    have hlt2 : i + 1 < (numsT (bl s)).length := by omega
    obtain ⟨g, rfl, hc⟩ := hcell i _ (List.getElem?_eq_getElem (by omega))
    have hc0 := hc 0 _ rfl
    obtain ⟨g2, hg2, hcB⟩ := hcell (i + 1) _ (List.getElem?_eq_getElem hlt2)
    cases hg2
    have hc1 : wB.cell? ⟨g, 0 + ((i : Int) + 1).toNat * 1, none⟩ = some (.int .i32 (numsT (bl s))[i + 1]) := by rw [show ((i : Int) + 1).toNat = i + 1 by omega]; exact hcB 0 _ rfl
    refine SC.skip ?_
    refine SQ.then_normal ?_
    refine SC.seq ?_
    refine SC.block ?_
    refine SC.draw mixed (fun v => Below wB.heap.size wB v) ?_
    have hO12 := Own.drew hO10
    refine SA.tm 0 rfl (hbX.trans ((hO12.toBelow trivial).mono hbX.size)) ?_
    refine SA.tm 1 rfl (hbX.trans ((hO12.toBelow trivial).mono hbX.size)) ?_
    refine SA.tm 2 rfl (hbX.trans ((hO12.toBelow trivial).mono hbX.size)) ?_
    refine SA.tk 3 rfl (hbX.trans ((hO12.toBelow trivial).mono hbX.size)) (fun v hv => .indexAddr rfl rfl rfl Tryz.underlying219 sz21 (by omega) (by omega)) ?_
    refine SA.tk 4 rfl (hbX.trans ((hO12.toBelow trivial).mono hbX.size)) (fun v hv => .load rfl rfl ag21 ((hv.cell (World.block_lt_of_cell? _ _ hc0)).trans hc0)) ?_
    refine SA.tm 5 rfl (hbX.trans ((hO12.toBelow trivial).mono hbX.size)) ?_
    refine SA.tm 6 rfl (hbX.trans ((hO12.toBelow trivial).mono hbX.size)) ?_
    refine SA.tk 7 rfl (hbX.trans ((hO12.toBelow trivial).mono hbX.size)) (fun v hv => .add rfl rfl rfl (by omega)) ?_
    refine SA.tk 8 rfl (hbX.trans ((hO12.toBelow trivial).mono hbX.size)) (fun v hv => .indexAddr rfl rfl rfl Tryz.underlying219 sz21 (by omega) (by omega)) ?_
    refine SA.tk 9 rfl (hbX.trans ((hO12.toBelow trivial).mono hbX.size)) (fun v hv => .load rfl rfl ag21 ((hv.cell (World.block_lt_of_cell? _ _ hc1)).trans hc1)) ?_
    refine SA.tk 10 rfl (hbX.trans ((hO12.toBelow trivial).mono hbX.size)) (fun v hv => .build rfl rfl (bd224_0_1_Ref3 _ _)) ?_
    refine SA.one 11 (by kernel_rfl) ?_
    refine SB.buildSlice hO12 rfl rfl rfl rfl rfl rfl (bs205_1_0_Ref3 _ _) ?_
    intro b13 w13 hb13 hO13
    refine ⟨(hbX.trans ((hO13.toBelow ⟨hb13, trivial⟩).mono hbX.size)), ?_⟩
    refine SA.one 12 (by kernel_rfl) ?_
    have hlt2 : i + 1 < (numsT (bl s)).length := by omega
    obtain ⟨v4, wA, happ, hrow2, hbA, hgA⟩ := Own'.push (hrow.below (hO13.toBelow ⟨hb13, trivial⟩)) encR_len encR_one Tryz.underlying205 inf224_ok inf224_z inf224_s inf224_b rfl (by decide) (by decide) ((numsT (bl s))[i], (numsT (bl s))[i + 1]) (hO13.at (i := 0) rfl) (by omega) (Nat.le_trans hbW.size (hO13.toBelow ⟨hb13, trivial⟩).size) 205
    have hbA2 := (hbW.trans ((hO13.toBelow ⟨hb13, trivial⟩).mono hbW.size)).trans hbA
    have hGA : Good wA := hGB.ext hbA2
    have hOA := Own.start hGA
    have hbX := hbA2
    refine SB.val rfl rfl rfl rfl (.builtin2 (v := v4) (w' := wA) rfl rfl rfl (fun cs => by simp [builtin, happ, Result.andThen])) (hbX.trans ((hOA.toBelow trivial).mono hbX.size)) ?_
    refine SA.ta 13 rfl (hbX.trans ((hOA.toBelow trivial).mono hbX.size)) ?_
    refine SA.done (by kernel_rfl) ?_
    refine SQ.block_normal ?_
    refine SQ.then_normal ?_
    refine SC.region ?_
    refine SO.mv ?_
    refine SO.v (.add rfl rfl rfl (by omega)) ?_
    refine SO.as ?_
    refine SO.nil ?_
    first | exact SQ.round (v4, xs ++ [((numsT (bl s))[i], (numsT (bl s))[i + 1])], (i : Int) + 2) (by simp only; omega) ⟨rfl, rfl, rfl, trivial⟩ ⟨hbA2, hrow2, i + 2, by simp only; omega, by rw [drop_two hlt2, pairsL] at hfl; simpa using hfl, by omega, by simp only [List.length_append, List.length_singleton]; omega⟩
   ·
    have hall : xs = pairsL (numsT (bl s)) := by
      have : pairsL ((numsT (bl s)).drop i) = [] := by
        by_cases e : i < (numsT (bl s)).length
        · rw [List.drop_eq_getElem_cons e, List.drop_eq_nil_of_le (by omega)]; rfl
        · rw [List.drop_eq_nil_of_le (by omega)]; rfl
      rw [this, List.append_nil] at hfl; exact hfl
    refine SC.exit ?_
    refine SQ.then_exit ?_
    refine SQ.then_exit ?_
    refine SQ.block_exit ?_
    refine SQ.then_normal ?_
    refine SC.sr ?_
    refine SO.mv ?_
    refine SO.as ?_
    refine SO.nn ?_
    refine SC.ret ?_
    refine SQ.out (.inl rfl) (res1 rfl rfl) ?_
    exact ⟨v3, rfl, by rw [← hall]; exact (hrow.below (hO10.toBelow trivial)).wide hbB.size, hbB.trans ((hbW.trans ((hO10.toBelow trivial).mono hbW.size)).mono hbB.size)⟩

end Go.Proofs.YtclgplkkajfenaaGreatDoor
