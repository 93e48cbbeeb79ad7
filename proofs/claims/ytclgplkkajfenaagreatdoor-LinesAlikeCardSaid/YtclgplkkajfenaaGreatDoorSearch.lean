/- sort.Search. -/
import Derived.Test.YtclgplkkajfenaaGreatDoorUnj
import Derived.Test.YtclgplkkajfenaaGreatDoorOw6
namespace Go.Proofs.YtclgplkkajfenaaGreatDoor
open Go Go.RowKit Ow
set_option maxRecDepth 20000 in
set_option maxHeartbeats 400000 in
theorem search_any (n : Nat) (f : FuncId) (fs cs : Array Value) (p : Nat → Prop) [DecidablePred p] (w : World) (hG : Good w) (hn : n ≤ 4611686018427387904)
    (he : ∀ args w, (callFunc f args).run Tryz.prog w = .ok (.enter f args) w) (hp : ∀ i j, i ≤ j → j < n → p i → p j)
    (hf : ∀ i < n, ∀ w', Below w.heap.size w w' → Calls Tryz.prog f (fs ++ #[.int .i64 (i : Nat)] ++ cs) w' fun e w'' => e = .returned (.bool (decide (p i))) ∧ Below w'.heap.size w' w'') :
    Calls Tryz.prog 142 #[.int .i64 n, .func (.func f) fs cs] w fun e w' => ∃ r : Nat, e = .returned (.int .i64 r) ∧ r ≤ n ∧ (∀ t < r, ¬ p t) ∧ (∀ t, r ≤ t → t < n → p t) ∧ Below w.heap.size w w' := by
  have hO0 := Own.start hG
  refine enter Tryz.func142 rfl rfl rfl 0 ?_
  refine SC.seq ?_
  refine SC.region ?_
  refine SO.val rfl rfl rfl rfl (.assign rfl rfl) ?_
  refine SO.nil ?_
  refine SQ.then_normal ?_
  refine SC.seq ?_
  refine SC.region ?_
  refine SO.val rfl rfl rfl rfl (.move rfl rfl) ?_
  refine SO.val rfl rfl rfl rfl (.assign rfl rfl) ?_
  refine SO.val rfl rfl rfl rfl (.assign rfl rfl) ?_
  refine SO.nil ?_
  refine SQ.then_normal ?_
  refine SC.seq ?_
  refine SC.block ?_
  refine SC.loop (α := Nat × Nat) (fun x => [(0, .int .i64 (n : Int)), (1, .func (.func f) fs cs), (5, .int .i64 (x.1 : Int)), (6, .int .i64 (x.2 : Int))]) (fun x v => x.1 ≤ x.2 ∧ x.2 ≤ n ∧ (∀ t < x.1, ¬ p t) ∧ (∀ t, x.2 ≤ t → t < n → p t) ∧ Ow.Own w [] v) (fun x => x.2 - x.1) (0, n) ?_ ?_ ?_
  · exact ⟨rfl, rfl, rfl, rfl, trivial⟩
  · exact ⟨by simp, by simp, fun t h => by simp at h, fun t h1 h2 => by simp at h1; omega, hO0⟩
  rintro ⟨i, j⟩ w1 ⟨hij, hjn, hlo, hhi, hO1⟩
  simp only at hij hjn hlo hhi
  refine SC.seq ?_
  refine SC.seq ?_
  refine SC.region ?_
  refine SO.val rfl rfl rfl rfl (.move rfl rfl) ?_
  refine SO.val rfl rfl rfl rfl (.move rfl rfl) ?_
  refine SO.val rfl rfl rfl rfl (.lss rfl rfl rfl) ?_
  refine SO.nil ?_
  refine SQ.then_normal ?_
  refine SC.dec rfl (fun c2 => ?_) (fun c2 => ?_)
  ·
    refine SC.skip ?_
    refine SQ.then_normal ?_
    refine SC.block ?_
    refine SC.seq ?_
    refine SC.region ?_
    refine SO.val rfl rfl rfl rfl (.move rfl rfl) ?_
    refine SO.val rfl rfl rfl rfl (.move rfl rfl) ?_
    refine SO.val rfl rfl rfl rfl (.add rfl rfl rfl (by omega)) ?_
    refine SO.val rfl rfl rfl rfl (.convI rfl rfl (by rw [Tryz.underlying3]; rfl) Tryz.underlying207 (u64_in _ (by omega))) ?_
    refine SO.val rfl rfl rfl rfl (.shr1 rfl rfl rfl) ?_
    refine SO.val rfl rfl rfl rfl (.convI rfl rfl (by rw [Tryz.underlying207]; rfl) Tryz.underlying3 (IntWalk.i64_in _ (by omega))) ?_
    refine SO.val rfl rfl rfl rfl (.assign rfl rfl) ?_
    refine SO.nil ?_
    refine SQ.then_normal ?_
    refine SC.seq ?_
    obtain ⟨m, hm⟩ : ∃ m : Nat, ((i : Int) + j) / 2 = m := ⟨(i + j) / 2, by omega⟩
    have hmi : i ≤ m ∧ m < j := by omega
    have hc : Calls Tryz.prog f (fs ++ #[.int .i64 (((i : Int) + j) / 2)] ++ cs) w1 fun e w'' => e = .returned (.bool (decide (p m))) ∧ Below w1.heap.size w1 w'' := by rw [hm]; exact hf m (by omega) _ (hO1.toBelow trivial)
    refine SC.region ?_
    refine SO.val rfl rfl rfl rfl (.move rfl rfl) ?_
    refine SO.val rfl rfl rfl rfl (.move rfl rfl) ?_
    refine SO.call rfl rfl rfl rfl (.callV rfl rfl rfl he) (hc) ?_
    rintro _ w3 ⟨rfl, hb3⟩
    have hO3 := hO1.below hb3
    refine ⟨_, rfl, ?_⟩
    first | refine SO.val rfl rfl rfl rfl (.notD rfl rfl) ?_ | refine SO.val rfl rfl rfl rfl (.not rfl rfl) ?_
    refine SO.nil ?_
    refine SQ.then_normal ?_
    refine SC.dec rfl (fun c4 => ?_) (fun c4 => ?_)
    ·
      have hlo2 : ∀ t < m + 1, ¬ p t := fun t ht h => c4 (hp t m (by omega) (by omega) h)
      refine SC.region ?_
      refine SO.val rfl rfl rfl rfl (.move rfl rfl) ?_
      refine SO.val rfl rfl rfl rfl (.add rfl rfl rfl (by omega)) ?_
      refine SO.val rfl rfl rfl rfl (.assign rfl rfl) ?_
      refine SO.nil ?_
      refine SQ.block_normal ?_
      first | exact SQ.round (m + 1, j) (by simp only; omega) ⟨rfl, rfl, look_int rfl (by simp only; omega), rfl, trivial⟩ ⟨by simp only; omega, hjn, hlo2, hhi, hO3⟩ | exact SQ.round (i, m) (by simp only; omega) ⟨rfl, rfl, rfl, look_int rfl (by simp only; omega), trivial⟩ ⟨by simp only; omega, by simp only; omega, hlo, hhi2, hO3⟩
    ·
      have hhi2 : ∀ t, m ≤ t → t < n → p t := fun t h1 h2 => hp m t h1 h2 (Decidable.not_not.1 c4)
      refine SC.region ?_
      refine SO.val rfl rfl rfl rfl (.move rfl rfl) ?_
      refine SO.val rfl rfl rfl rfl (.assign rfl rfl) ?_
      refine SO.nil ?_
      refine SQ.block_normal ?_
      first | exact SQ.round (m + 1, j) (by simp only; omega) ⟨rfl, rfl, look_int rfl (by simp only; omega), rfl, trivial⟩ ⟨by simp only; omega, hjn, hlo2, hhi, hO3⟩ | exact SQ.round (i, m) (by simp only; omega) ⟨rfl, rfl, rfl, look_int rfl (by simp only; omega), trivial⟩ ⟨by simp only; omega, by simp only; omega, hlo, hhi2, hO3⟩
  ·
    refine SC.exit ?_
    refine SQ.then_exit ?_
    refine SQ.then_exit ?_
    refine SQ.block_exit ?_
    refine SQ.then_normal ?_
    refine SC.seq ?_
    refine SC.region ?_
    refine SO.val rfl rfl rfl rfl (.move rfl rfl) ?_
    refine SO.val rfl rfl rfl rfl (.assign rfl rfl) ?_
    refine SO.nil ?_
    refine SQ.then_normal ?_
    refine SC.ret ?_
    refine SQ.out (.inl rfl) (res1 rfl rfl) ?_
    exact ⟨i, rfl, by omega, hlo, fun t h1 h2 => hhi t (by omega) h2, hO1.toBelow trivial⟩

end Go.Proofs.YtclgplkkajfenaaGreatDoor
