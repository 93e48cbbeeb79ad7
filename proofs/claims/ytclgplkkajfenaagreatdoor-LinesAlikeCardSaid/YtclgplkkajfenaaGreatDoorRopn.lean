/- rope.New. -/
import Derived.Test.YtclgplkkajfenaaGreatDoorRops
namespace Go.Proofs.YtclgplkkajfenaaGreatDoor
open Go Go.RowKit Ow
theorem row_slice {w : World} {base : Nat} {v : Value} {xs : List ByteArray} (h : w.ownsRow base 9 1 v xs.length (strsV xs)) (hne : xs ≠ []) :
    ∃ g cap, v = .slice (some ⟨g, 0, none⟩) xs.length cap ∧ xs.length ≤ cap ∧ cap ≤ 9223372036854775807 ∧ ∀ i x, xs[i]? = some x → w.cell? ⟨g, 0 + i, none⟩ = some (.string x) := by
  rcases h.2 with ⟨_, h0⟩ | ⟨g, cap, cur, h1, _, hg, h2, h3, _, h4⟩
  · exact absurd (List.eq_nil_of_length_eq_zero h0) hne
  · refine ⟨g, cap, h1, h2, by simp only [maxLen] at h3; omega, fun i x hx => ?_⟩
    refine cell_of (T := 9) (c := cur) (fz := (0, 0)) hg |>.trans ?_
    have hi := (List.getElem?_eq_some_iff.1 hx).1
    have h5 : (cur.toList.take (xs.length * 1))[i]? = some (Value.string x) := by rw [h4]; simp [strsV, hx]
    rw [List.getElem?_take_of_lt (by omega)] at h5
    simpa using h5
theorem big_sub {l _u : Option RT} {a b : List ByteArray} (h : Big l) (e : a ++ b = oL l) : ∀ x, x ∈ a ∨ x ∈ b → 32 ≤ x.size := fun x hx => h x (by rw [← e]; exact List.mem_append.2 hx)
theorem wf_put {a xs b : List ByteArray} {n : Nat} (ha : ∀ x ∈ a, 32 ≤ x.size) (hb : ∀ x ∈ b, 32 ≤ x.size) (hx : xs.length = 1 ∨ ∀ x ∈ xs, 32 ≤ x.size) (hn : (xs.map bl).flatten.length = n) (h : (a = [] ∧ b = []) ∨ 32 ≤ n) : Wf (a ++ xs ++ b) := by
  have all : (∀ x ∈ xs, 32 ≤ x.size) → Wf (a ++ xs ++ b) := fun h' => .inr fun x hx => by
    rcases List.mem_append.1 hx with hx | hx
    · rcases List.mem_append.1 hx with hx | hx
      · exact ha x hx
      · exact h' x hx
    · exact hb x hx
  rcases hx with h1 | h1
  · obtain ⟨x, rfl⟩ := List.length_eq_one_iff.1 h1
    rcases h with ⟨rfl, rfl⟩ | h
    · exact .inl rfl
    · refine all fun y hy => ?_
      simp only [List.mem_singleton] at hy
      subst hy
      have : y.size = n := by rw [← hn]; simp
      omega
  · exact all h1
theorem cut_txt {l u v : Option RT} {s : ByteArray} (h : oL u ++ s :: oL v = oL l) : txO l = txO u ++ bl s ++ txO v := by
  simp only [txO, ← h, List.map_append, List.map_cons, List.flatten_append, List.flatten_cons, List.append_assoc]
theorem txO_nil {l : Option RT} (h : oL l = []) : txO l = [] := by simp [txO, h]
theorem str_nil : bl ⟨#[]⟩ = [] := rfl

theorem mem_lenL {xs : List ByteArray} {x : ByteArray} (h : x ∈ xs) : x.size ≤ lenL xs := by
  induction xs with
  | nil => cases h
  | cons y ys ih =>
    rw [lenL_cons]
    rcases List.mem_cons.1 h with rfl | h
    · omega
    · have := ih h; omega

set_option maxRecDepth 20000 in
set_option maxHeartbeats 400000 in
theorem put_new (m : ByteArray) (w : World) (hG : Good w) (hz : m.size ≤ 34359738368) :
    Calls Tryz.prog 168 #[.pointer none, .string m, .pointer none] w fun e w' => ∃ (b : Nat) (t : RT), e = .returned (.pointer (some ⟨b, 0, none⟩)) ∧ t.At w' b ∧ t.txt = bl m ∧ Wf t.leaves ∧ Below w.heap.size w w' := by
  have hO0 := Own.start hG
  refine enter Tryz.func168 rfl rfl rfl 0 ?_
  refine SC.seq ?_
  refine SC.region ?_
  refine SO.val rfl rfl rfl rfl (.assign rfl rfl) ?_
  refine SO.nil ?_
  refine SQ.then_normal ?_
  refine SC.seq ?_
  refine SC.seq ?_
  refine SC.region ?_
  refine SO.val rfl rfl rfl rfl (.move rfl rfl) ?_
  refine SO.call rfl rfl rfl rfl (.callF rfl rfl en192) (short_nil _ (hO0.good hG)) ?_
  rintro _ w1 ⟨rfl, hb1⟩
  have hO1 := hO0.below hb1
  refine ⟨_, rfl, ?_⟩
  refine SO.nil ?_
  refine SQ.then_normal ?_
  refine SC.no rfl ?_
  refine SC.skip ?_
  refine SQ.then_normal ?_
  refine SC.seq ?_
  refine SC.seq ?_
  refine SC.region ?_
  refine SO.val rfl rfl rfl rfl (.move rfl rfl) ?_
  refine SO.call rfl rfl rfl rfl (.callF rfl rfl en192) (short_nil _ (hO1.good hG)) ?_
  rintro _ w2 ⟨rfl, hb2⟩
  have hO2 := hO1.below hb2
  refine ⟨_, rfl, ?_⟩
  refine SO.nil ?_
  refine SQ.then_normal ?_
  refine SC.no rfl ?_
  refine SC.skip ?_
  refine SQ.then_normal ?_
  refine SC.seq ?_
  refine SC.seq ?_
  refine SC.drawO mixed hO2 (fun hO3 => ?_)
  refine SA.take (by kernel_rfl) 0 rfl (by kernel_rfl) (by kernel_rfl) rfl rfl (fun _ _ _ h => h) rfl hO3 (fun v hv => .move rfl rfl) ?_
  refine SA.take (by kernel_rfl) 1 rfl (by kernel_rfl) (by kernel_rfl) rfl rfl (fun _ _ _ h => h) rfl hO3 (fun v hv => .strEq rfl rfl rfl) ?_
  refine SA.take (by kernel_rfl) 2 rfl (by kernel_rfl) (by kernel_rfl) rfl rfl (fun _ _ _ h => h) rfl hO3 (fun v hv => .move rfl rfl) ?_
  refine SA.dec 34 rfl (fun g4 => ?_) (fun g4 => ?_)
  ·
    have hm0 : m = ⟨#[]⟩ := g4
    refine SA.take (by kernel_rfl) 3 rfl (by kernel_rfl) (by kernel_rfl) rfl rfl (fun _ _ _ h => h) rfl hO3 (fun v hv => .move rfl rfl) ?_
    refine SA.take (by kernel_rfl) 4 rfl (by kernel_rfl) (by kernel_rfl) rfl rfl (fun _ _ _ h => h) rfl hO3 (fun v hv => .ptrEq (b := true) rfl rfl rfl Tryz.underlying208 rfl) ?_
    refine SA.take (by kernel_rfl) 5 rfl (by kernel_rfl) (by kernel_rfl) rfl rfl (fun _ _ _ h => h) rfl hO3 (fun v hv => .move rfl rfl) ?_
    refine SA.pass (by kernel_rfl) 6 rfl (by kernel_rfl) (by kernel_rfl) rfl rfl (fun _ _ _ h => h) rfl hO3 ?_
    refine SA.pass (by kernel_rfl) 7 rfl (by kernel_rfl) (by kernel_rfl) rfl rfl (fun _ _ _ h => h) rfl hO3 ?_
    refine SA.take (by kernel_rfl) 8 rfl (by kernel_rfl) (by kernel_rfl) rfl rfl (fun _ _ _ h => h) rfl hO3 (fun v hv => .pickT rfl rfl rfl) ?_
    refine SA.take (by kernel_rfl) 9 rfl (by kernel_rfl) (by kernel_rfl) rfl rfl (fun _ _ _ h => h) rfl hO3 (fun v hv => .move rfl rfl) ?_
    refine SA.pass (by kernel_rfl) 10 rfl (by kernel_rfl) (by kernel_rfl) rfl rfl (fun _ _ _ h => h) rfl hO3 ?_
    refine SA.pass (by kernel_rfl) 11 rfl (by kernel_rfl) (by kernel_rfl) rfl rfl (fun _ _ _ h => h) rfl hO3 ?_
    refine SA.pass (by kernel_rfl) 12 rfl (by kernel_rfl) (by kernel_rfl) rfl rfl (fun _ _ _ h => h) rfl hO3 ?_
    refine SA.pass (by kernel_rfl) 13 rfl (by kernel_rfl) (by kernel_rfl) rfl rfl (fun _ _ _ h => h) rfl hO3 ?_
    refine SA.pass (by kernel_rfl) 14 rfl (by kernel_rfl) (by kernel_rfl) rfl rfl (fun _ _ _ h => h) rfl hO3 ?_
    refine SA.pass (by kernel_rfl) 15 rfl (by kernel_rfl) (by kernel_rfl) rfl rfl (fun _ _ _ h => h) rfl hO3 ?_
    refine SA.pass (by kernel_rfl) 16 rfl (by kernel_rfl) (by kernel_rfl) rfl rfl (fun _ _ _ h => h) rfl hO3 ?_
    refine SA.pass (by kernel_rfl) 17 rfl (by kernel_rfl) (by kernel_rfl) rfl rfl (fun _ _ _ h => h) rfl hO3 ?_
    refine SA.pass (by kernel_rfl) 18 rfl (by kernel_rfl) (by kernel_rfl) rfl rfl (fun _ _ _ h => h) rfl hO3 ?_
    refine SA.pass (by kernel_rfl) 19 rfl (by kernel_rfl) (by kernel_rfl) rfl rfl (fun _ _ _ h => h) rfl hO3 ?_
    refine SA.one 20 (by kernel_rfl) ?_
    refine SB.pass rfl rfl rfl rfl hO3 ?_
    refine SA.take (by kernel_rfl) 21 rfl (by kernel_rfl) (by kernel_rfl) rfl rfl (fun _ _ _ h => h) rfl hO3 (fun v hv => .pickT rfl rfl rfl) ?_
    refine SA.take (by kernel_rfl) 22 rfl (by kernel_rfl) (by kernel_rfl) rfl rfl (fun _ _ _ h => h) rfl hO3 (fun v hv => .pickT rfl rfl rfl) ?_
    refine SA.done (by kernel_rfl) ?_
    refine SQ.then_normal ?_
    refine SC.yes rfl ?_
    refine SC.seq ?_
    refine SC.seq ?_
    refine SC.region ?_
    refine SO.val rfl rfl rfl rfl (.move rfl rfl) ?_
    refine SO.val rfl rfl rfl rfl (.move rfl rfl) ?_
    refine SO.call rfl rfl rfl rfl (.callF rfl rfl en194) (join_nl none _ (hO3.good hG)) ?_
    rintro _ w5 ⟨rfl, hb5⟩
    have hO5 := hO3.below hb5
    refine ⟨_, rfl, ?_⟩
    refine SO.val rfl rfl rfl rfl (.assign rfl rfl) ?_
    refine SO.nil ?_
    refine SQ.then_normal ?_
    refine SC.seq ?_
    refine SC.region ?_
    refine SO.val rfl rfl rfl rfl (.move rfl rfl) ?_
    refine SO.val rfl rfl rfl rfl (.ptrNe (b := false) rfl rfl rfl Tryz.underlying208 rfl) ?_
    refine SO.nil ?_
    refine SQ.then_normal ?_
    refine SC.no rfl ?_
    refine SC.skip ?_
    refine SQ.then_normal ?_
    refine SC.seq ?_
    refine SC.region ?_
    refine SO.call rfl rfl rfl rfl (.callF rfl rfl en195) (leaf_any _ _ (hO5.good hG) (by decide)) ?_
    rintro _ w6 ⟨bf, rfl, hbf, hnf, hb6⟩
    have hO6 := hO5.below hb6
    refine ⟨_, rfl, ?_⟩
    refine SO.val rfl rfl rfl rfl (.assign rfl rfl) ?_
    refine SO.nil ?_
    refine SQ.then_normal ?_
    refine SC.ret ?_
    refine SQ.then_ret ?_
    refine SQ.out (.inl rfl) (res1 rfl rfl) ?_
    first | exact ⟨_, _, rfl, hnf, by rw [hm0]; rfl, .inl rfl, hO6.toBelow trivial⟩ | exact ⟨_, tg, rfl, (htg.below (by assumption)).below (by assumption), by rw [tg.txt_leaves, hlg, hfl], by rw [hlg]; exact h32, hO6.toBelow trivial⟩
  ·
    refine SA.pass (by kernel_rfl) 3 rfl (by kernel_rfl) (by kernel_rfl) rfl rfl (fun _ _ _ h => h) rfl hO3 ?_
    refine SA.pass (by kernel_rfl) 4 rfl (by kernel_rfl) (by kernel_rfl) rfl rfl (fun _ _ _ h => h) rfl hO3 ?_
    refine SA.pass (by kernel_rfl) 5 rfl (by kernel_rfl) (by kernel_rfl) rfl rfl (fun _ _ _ h => h) rfl hO3 ?_
    refine SA.pass (by kernel_rfl) 6 rfl (by kernel_rfl) (by kernel_rfl) rfl rfl (fun _ _ _ h => h) rfl hO3 ?_
    refine SA.pass (by kernel_rfl) 7 rfl (by kernel_rfl) (by kernel_rfl) rfl rfl (fun _ _ _ h => h) rfl hO3 ?_
    refine SA.pass (by kernel_rfl) 8 rfl (by kernel_rfl) (by kernel_rfl) rfl rfl (fun _ _ _ h => h) rfl hO3 ?_
    refine SA.pass (by kernel_rfl) 9 rfl (by kernel_rfl) (by kernel_rfl) rfl rfl (fun _ _ _ h => h) rfl hO3 ?_
    refine SA.pass (by kernel_rfl) 10 rfl (by kernel_rfl) (by kernel_rfl) rfl rfl (fun _ _ _ h => h) rfl hO3 ?_
    refine SA.pass (by kernel_rfl) 11 rfl (by kernel_rfl) (by kernel_rfl) rfl rfl (fun _ _ _ h => h) rfl hO3 ?_
    refine SA.pass (by kernel_rfl) 12 rfl (by kernel_rfl) (by kernel_rfl) rfl rfl (fun _ _ _ h => h) rfl hO3 ?_
    refine SA.pass (by kernel_rfl) 13 rfl (by kernel_rfl) (by kernel_rfl) rfl rfl (fun _ _ _ h => h) rfl hO3 ?_
    refine SA.pass (by kernel_rfl) 14 rfl (by kernel_rfl) (by kernel_rfl) rfl rfl (fun _ _ _ h => h) rfl hO3 ?_
    refine SA.pass (by kernel_rfl) 15 rfl (by kernel_rfl) (by kernel_rfl) rfl rfl (fun _ _ _ h => h) rfl hO3 ?_
    refine SA.pass (by kernel_rfl) 16 rfl (by kernel_rfl) (by kernel_rfl) rfl rfl (fun _ _ _ h => h) rfl hO3 ?_
    refine SA.pass (by kernel_rfl) 17 rfl (by kernel_rfl) (by kernel_rfl) rfl rfl (fun _ _ _ h => h) rfl hO3 ?_
    refine SA.pass (by kernel_rfl) 18 rfl (by kernel_rfl) (by kernel_rfl) rfl rfl (fun _ _ _ h => h) rfl hO3 ?_
    refine SA.pass (by kernel_rfl) 19 rfl (by kernel_rfl) (by kernel_rfl) rfl rfl (fun _ _ _ h => h) rfl hO3 ?_
    refine SA.one 20 (by kernel_rfl) ?_
    refine SB.pass rfl rfl rfl rfl hO3 ?_
    refine SA.pass (by kernel_rfl) 21 rfl (by kernel_rfl) (by kernel_rfl) rfl rfl (fun _ _ _ h => h) rfl hO3 ?_
    refine SA.take (by kernel_rfl) 22 rfl (by kernel_rfl) (by kernel_rfl) rfl rfl (fun _ _ _ h => h) rfl hO3 (fun v hv => .pickF rfl rfl rfl) ?_
    refine SA.done (by kernel_rfl) ?_
    refine SQ.then_normal ?_
    refine SC.no rfl ?_
    refine SC.skip ?_
    refine SQ.then_normal ?_
    refine SC.block ?_
    refine SC.loop (α := Unit) (fun _x => [(0, .pointer none), (1, .string m), (2, .pointer none)]) (fun _x v => Ow.Own w [] v) (fun _x => 0) () ?_ ?_ ?_
    · exact ⟨rfl, rfl, rfl, trivial⟩
    · exact hO3
    rintro _ w8 hO8
    refine SC.block ?_
    refine SC.block ?_
    refine SC.seq ?_
    refine SC.drawO mixed hO8 (fun hO9 => ?_)
    refine SA.take (by kernel_rfl) 0 rfl (by kernel_rfl) (by kernel_rfl) rfl rfl (fun _ _ _ h => h) rfl hO9 (fun v hv => .move rfl rfl) ?_
    refine SA.take (by kernel_rfl) 1 rfl (by kernel_rfl) (by kernel_rfl) rfl rfl (fun _ _ _ h => h) rfl hO9 (fun v hv => .ptrNe (b := false) rfl rfl rfl Tryz.underlying208 rfl) ?_
    refine SA.take (by kernel_rfl) 2 rfl (by kernel_rfl) (by kernel_rfl) rfl rfl (fun _ _ _ h => h) rfl hO9 (fun v hv => .move rfl rfl) ?_
    refine SA.pass (by kernel_rfl) 3 rfl (by kernel_rfl) (by kernel_rfl) rfl rfl (fun _ _ _ h => h) rfl hO9 ?_
    refine SA.pass (by kernel_rfl) 4 rfl (by kernel_rfl) (by kernel_rfl) rfl rfl (fun _ _ _ h => h) rfl hO9 ?_
    refine SA.pass (by kernel_rfl) 5 rfl (by kernel_rfl) (by kernel_rfl) rfl rfl (fun _ _ _ h => h) rfl hO9 ?_
    refine SA.pass (by kernel_rfl) 6 rfl (by kernel_rfl) (by kernel_rfl) rfl rfl (fun _ _ _ h => h) rfl hO9 ?_
    refine SA.pass (by kernel_rfl) 7 rfl (by kernel_rfl) (by kernel_rfl) rfl rfl (fun _ _ _ h => h) rfl hO9 ?_
    refine SA.pass (by kernel_rfl) 8 rfl (by kernel_rfl) (by kernel_rfl) rfl rfl (fun _ _ _ h => h) rfl hO9 ?_
    refine SA.pass (by kernel_rfl) 9 rfl (by kernel_rfl) (by kernel_rfl) rfl rfl (fun _ _ _ h => h) rfl hO9 ?_
    refine SA.pass (by kernel_rfl) 10 rfl (by kernel_rfl) (by kernel_rfl) rfl rfl (fun _ _ _ h => h) rfl hO9 ?_
    refine SA.pass (by kernel_rfl) 11 rfl (by kernel_rfl) (by kernel_rfl) rfl rfl (fun _ _ _ h => h) rfl hO9 ?_
    refine SA.pass (by kernel_rfl) 12 rfl (by kernel_rfl) (by kernel_rfl) rfl rfl (fun _ _ _ h => h) rfl hO9 ?_
    refine SA.pass (by kernel_rfl) 13 rfl (by kernel_rfl) (by kernel_rfl) rfl rfl (fun _ _ _ h => h) rfl hO9 ?_
    refine SA.pass (by kernel_rfl) 14 rfl (by kernel_rfl) (by kernel_rfl) rfl rfl (fun _ _ _ h => h) rfl hO9 ?_
    refine SA.pass (by kernel_rfl) 15 rfl (by kernel_rfl) (by kernel_rfl) rfl rfl (fun _ _ _ h => h) rfl hO9 ?_
    refine SA.pass (by kernel_rfl) 16 rfl (by kernel_rfl) (by kernel_rfl) rfl rfl (fun _ _ _ h => h) rfl hO9 ?_
    refine SA.one 17 (by kernel_rfl) ?_
    refine SB.pass rfl rfl rfl rfl hO9 ?_
    refine SA.pass (by kernel_rfl) 18 rfl (by kernel_rfl) (by kernel_rfl) rfl rfl (fun _ _ _ h => h) rfl hO9 ?_
    refine SA.pass (by kernel_rfl) 19 rfl (by kernel_rfl) (by kernel_rfl) rfl rfl (fun _ _ _ h => h) rfl hO9 ?_
    refine SA.take (by kernel_rfl) 20 rfl (by kernel_rfl) (by kernel_rfl) rfl rfl (fun _ _ _ h => h) rfl hO9 (fun v hv => .pickF rfl rfl rfl) ?_
    refine SA.take (by kernel_rfl) 21 rfl (by kernel_rfl) (by kernel_rfl) rfl rfl (fun _ _ _ h => h) rfl hO9 (fun v hv => .assign rfl rfl) ?_
    refine SA.done (by kernel_rfl) ?_
    refine SQ.then_normal ?_
    refine SC.no rfl ?_
    refine SC.seq ?_
    refine SC.drawO mixed hO9 (fun hO10 => ?_)
    refine SA.take (by kernel_rfl) 0 rfl (by kernel_rfl) (by kernel_rfl) rfl rfl (fun _ _ _ h => h) rfl hO10 (fun v hv => .move rfl rfl) ?_
    refine SA.take (by kernel_rfl) 1 rfl (by kernel_rfl) (by kernel_rfl) rfl rfl (fun _ _ _ h => h) rfl hO10 (fun v hv => .ptrNe (b := false) rfl rfl rfl Tryz.underlying208 rfl) ?_
    refine SA.take (by kernel_rfl) 2 rfl (by kernel_rfl) (by kernel_rfl) rfl rfl (fun _ _ _ h => h) rfl hO10 (fun v hv => .move rfl rfl) ?_
    refine SA.pass (by kernel_rfl) 3 rfl (by kernel_rfl) (by kernel_rfl) rfl rfl (fun _ _ _ h => h) rfl hO10 ?_
    refine SA.pass (by kernel_rfl) 4 rfl (by kernel_rfl) (by kernel_rfl) rfl rfl (fun _ _ _ h => h) rfl hO10 ?_
    refine SA.pass (by kernel_rfl) 5 rfl (by kernel_rfl) (by kernel_rfl) rfl rfl (fun _ _ _ h => h) rfl hO10 ?_
    refine SA.pass (by kernel_rfl) 6 rfl (by kernel_rfl) (by kernel_rfl) rfl rfl (fun _ _ _ h => h) rfl hO10 ?_
    refine SA.pass (by kernel_rfl) 7 rfl (by kernel_rfl) (by kernel_rfl) rfl rfl (fun _ _ _ h => h) rfl hO10 ?_
    refine SA.pass (by kernel_rfl) 8 rfl (by kernel_rfl) (by kernel_rfl) rfl rfl (fun _ _ _ h => h) rfl hO10 ?_
    refine SA.pass (by kernel_rfl) 9 rfl (by kernel_rfl) (by kernel_rfl) rfl rfl (fun _ _ _ h => h) rfl hO10 ?_
    refine SA.pass (by kernel_rfl) 10 rfl (by kernel_rfl) (by kernel_rfl) rfl rfl (fun _ _ _ h => h) rfl hO10 ?_
    refine SA.pass (by kernel_rfl) 11 rfl (by kernel_rfl) (by kernel_rfl) rfl rfl (fun _ _ _ h => h) rfl hO10 ?_
    refine SA.pass (by kernel_rfl) 12 rfl (by kernel_rfl) (by kernel_rfl) rfl rfl (fun _ _ _ h => h) rfl hO10 ?_
    refine SA.pass (by kernel_rfl) 13 rfl (by kernel_rfl) (by kernel_rfl) rfl rfl (fun _ _ _ h => h) rfl hO10 ?_
    refine SA.pass (by kernel_rfl) 14 rfl (by kernel_rfl) (by kernel_rfl) rfl rfl (fun _ _ _ h => h) rfl hO10 ?_
    refine SA.pass (by kernel_rfl) 15 rfl (by kernel_rfl) (by kernel_rfl) rfl rfl (fun _ _ _ h => h) rfl hO10 ?_
    refine SA.pass (by kernel_rfl) 16 rfl (by kernel_rfl) (by kernel_rfl) rfl rfl (fun _ _ _ h => h) rfl hO10 ?_
    refine SA.pass (by kernel_rfl) 17 rfl (by kernel_rfl) (by kernel_rfl) rfl rfl (fun _ _ _ h => h) rfl hO10 ?_
    refine SA.one 18 (by kernel_rfl) ?_
    refine SB.pass rfl rfl rfl rfl hO10 ?_
    refine SA.pass (by kernel_rfl) 19 rfl (by kernel_rfl) (by kernel_rfl) rfl rfl (fun _ _ _ h => h) rfl hO10 ?_
    refine SA.pass (by kernel_rfl) 20 rfl (by kernel_rfl) (by kernel_rfl) rfl rfl (fun _ _ _ h => h) rfl hO10 ?_
    refine SA.take (by kernel_rfl) 21 rfl (by kernel_rfl) (by kernel_rfl) rfl rfl (fun _ _ _ h => h) rfl hO10 (fun v hv => .pickF rfl rfl rfl) ?_
    refine SA.take (by kernel_rfl) 22 rfl (by kernel_rfl) (by kernel_rfl) rfl rfl (fun _ _ _ h => h) rfl hO10 (fun v hv => .assign rfl rfl) ?_
    refine SA.done (by kernel_rfl) ?_
    refine SQ.then_normal ?_
    refine SC.no rfl ?_
    refine SC.seq ?_
    refine SC.region ?_
    refine SO.val rfl rfl rfl rfl (.move rfl rfl) ?_
    refine SO.val rfl rfl rfl rfl (.move rfl rfl) ?_
    refine SO.call rfl rfl rfl rfl (.callF rfl rfl en198) (cutUp_any m _ (hO10.good hG) hz) ?_
    rintro _ w11 ⟨v, xs, rfl, hrow, hfl, hne, h32, hxl, hb11⟩
    have hO11 := hO10.below hb11
    refine ⟨_, rfl, ?_⟩
    obtain ⟨g, cap, rfl, hcap1, hcap2, hcell⟩ := row_slice hrow hne
    refine SO.call rfl rfl rfl rfl (.callF rfl rfl en197) (grown_all _ xs g 0 cap _ (Nat.le_refl _) (hO11.good hG) (List.length_pos_iff.2 hne) hcap1 hcap2 (by omega) (fun x hx => by have := mem_lenL hx; rw [lenL, hfl, bl_length] at this; omega) hcell) ?_
    rintro _ w12 ⟨bg, tg, rfl, htg, hlg, hb12⟩
    have hO12 := hO11.below hb12
    refine ⟨_, rfl, ?_⟩
    refine SO.call rfl rfl rfl rfl (.callF rfl rfl en194) (join_nl _ _ (hO12.good hG)) ?_
    rintro _ w13 ⟨rfl, hb13⟩
    have hO13 := hO12.below hb13
    refine ⟨_, rfl, ?_⟩
    refine SO.val rfl rfl rfl rfl (.move rfl rfl) ?_
    refine SO.call rfl rfl rfl rfl (.callF rfl rfl en194) (join_nr bg _ (hO13.good hG)) ?_
    rintro _ w14 ⟨rfl, hb14⟩
    have hO14 := hO13.below hb14
    refine ⟨_, rfl, ?_⟩
    refine SO.val rfl rfl rfl rfl (.assign rfl rfl) ?_
    refine SO.nil ?_
    refine SQ.then_normal ?_
    refine SC.ret ?_
    refine SQ.block_ret ?_
    refine SQ.block_ret ?_
    refine SQ.then_ret ?_
    refine SQ.block_ret ?_
    refine SQ.out (.inl rfl) (res1 rfl rfl) ?_
    first | exact ⟨_, _, rfl, hnf, by rw [hm0]; rfl, .inl rfl, hO14.toBelow trivial⟩ | exact ⟨_, tg, rfl, (htg.below (by assumption)).below (by assumption), by rw [tg.txt_leaves, hlg, hfl], by rw [hlg]; exact h32, hO14.toBelow trivial⟩

theorem bd211_0_Ropn (x0 : Option Addr) : ∀ w, (Instr.build 211 [(0, .pointer x0)].toArray).run Tryz.prog w = .ok (.agg [.pointer x0].toArray) w := fun _ => by kernel_rfl
set_option maxRecDepth 20000 in
set_option maxHeartbeats 400000 in
/-- A rope, and its text. -/
def RopeAt (w : World) (b : Nat) (s : ByteArray) : Prop := ∃ (y : Nat) (t : RT), w.heap[b]? = some (.cells [.pointer (some ⟨y, 0, none⟩)].toArray 211 (0, 0)) ∧ t.At w y ∧ t.txt = bl s ∧ Wf t.leaves
theorem RopeAt.below {w w' : World} {b : Nat} {s : ByteArray} (h : RopeAt w b s) (hb : Below w.heap.size w w') : RopeAt w' b s := by
  obtain ⟨y, t, h1, h2, h3⟩ := h
  exact ⟨y, t, (hb.block b (lt_of_heap h1)).trans h1, h2.below hb, h3⟩
theorem rope_new (m : ByteArray) (w : World) (hG : Good w) (hz : m.size ≤ 34359738368) :
    Calls Tryz.prog 146 #[.string m] w fun e w' => ∃ b : Nat, e = .returned (.pointer (some ⟨b, 0, none⟩)) ∧ w.heap.size ≤ b ∧ RopeAt w' b m ∧ Below w.heap.size w w' := by
  have hO0 := Own.start hG
  refine enter Tryz.func146 rfl rfl rfl 0 ?_
  refine SC.seq ?_
  refine SC.region ?_
  refine SO.val rfl rfl rfl rfl (.assign rfl rfl) ?_
  refine SO.nil ?_
  refine SQ.then_normal ?_
  refine SC.seq ?_
  refine SC.region ?_
  refine SO.val rfl rfl rfl rfl (.move rfl rfl) ?_
  refine SO.call rfl rfl rfl rfl (.callF rfl rfl en168) (put_new _ _ (hO0.good hG) hz) ?_
  rintro _ w1 ⟨bp, tp, rfl, htp, htx, hwf, hb1⟩
  have hOb := hO0.below hb1
  have hGb := hOb.good hG
  have hBb := hOb.toBelow trivial
  have hO1 := Own.start hGb
  refine ⟨_, rfl, ?_⟩
  refine SO.val rfl rfl rfl rfl (.build rfl rfl (bd211_0_Ropn _)) ?_
  refine SO.box hO1 rfl rfl rfl rfl rfl [_] rfl ?_
  intro b2 w2 hb2 hO2
  refine SO.val rfl rfl rfl rfl (.assign rfl rfl) ?_
  refine SO.nil ?_
  refine SQ.then_normal ?_
  refine SC.ret ?_
  refine SQ.out (.inl rfl) (res1 rfl rfl) ?_
  have hE := hO2.toBelow ⟨hb2, trivial⟩
  exact ⟨_, rfl, Nat.le_trans hBb.size (by assumption), ⟨bp, tp, hO2.at (i := 0) rfl, htp.below hE, htx, hwf⟩, hBb.trans (hE.mono hBb.size)⟩

end Go.Proofs.YtclgplkkajfenaaGreatDoor
