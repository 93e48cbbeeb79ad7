/- rope.grown. -/
import Derived.Test.YtclgplkkajfenaaGreatDoorRopc
namespace Go.Proofs.YtclgplkkajfenaaGreatDoor
open Go Go.RowKit Ow
theorem leaves_ht {t : RT} {xs : List ByteArray} (h : t.leaves = xs) (hb : xs.length ≤ 1099511627776) : t.ht ≤ 4611686018427387904 := by
  have := t.ht_lt; rw [h] at this; omega

theorem calls_args {f : FuncId} {a a' : Array Value} {w : World} {R : Ending → World → Prop} (h : a = a') (hc : Calls Tryz.prog f a' w R) : Calls Tryz.prog f a w R := h ▸ hc

set_option maxRecDepth 20000 in
set_option maxHeartbeats 400000 in
theorem grown_step (xs : List ByteArray) (g of cap : Nat) (w : World) (hG : Good w) (hl : 1 ≤ xs.length) (hc : xs.length ≤ cap) (hm : cap ≤ 9223372036854775807) (hb : xs.length ≤ 1099511627776) (hz : ∀ x ∈ xs, x.size ≤ 4000000000000000000) (hx : ∀ i x, xs[i]? = some x → w.cell? ⟨g, of + i, none⟩ = some (.string x))
    (ih : ∀ (xs' : List ByteArray) (g of cap : Nat) (w : World), xs'.length < xs.length → Good w → 1 ≤ xs'.length → xs'.length ≤ cap → cap ≤ 9223372036854775807 → xs'.length ≤ 1099511627776 → (∀ x ∈ xs', x.size ≤ 4000000000000000000) → (∀ i x, xs'[i]? = some x → w.cell? ⟨g, of + i, none⟩ = some (.string x)) →
      Calls Tryz.prog 197 #[.slice (some ⟨g, of, none⟩) xs'.length cap] w fun e w' => ∃ (b : Nat) (t : RT), e = .returned (.pointer (some ⟨b, 0, none⟩)) ∧ t.At w' b ∧ t.leaves = xs' ∧ Below w.heap.size w w') :
    Calls Tryz.prog 197 #[.slice (some ⟨g, of, none⟩) xs.length cap] w fun e w' => ∃ (b : Nat) (t : RT), e = .returned (.pointer (some ⟨b, 0, none⟩)) ∧ t.At w' b ∧ t.leaves = xs ∧ Below w.heap.size w w' := by
  have hO0 := Own.start hG
  refine enter Tryz.func197 rfl rfl rfl 0 ?_
  refine SC.seq ?_
  refine SC.region ?_
  refine SO.val rfl rfl rfl rfl (.assign rfl rfl) ?_
  refine SO.nil ?_
  refine SQ.then_normal ?_
  refine SC.seq ?_
  refine SC.seq ?_
  refine SC.region ?_
  refine SO.val rfl rfl rfl rfl (.move rfl rfl) ?_
  refine SO.val rfl rfl rfl rfl (.lenA rfl rfl Tryz.underlying234) ?_
  refine SO.val rfl rfl rfl rfl (.eql rfl rfl rfl) ?_
  refine SO.nil ?_
  refine SQ.then_normal ?_
  refine SC.dec rfl (fun c1 => ?_) (fun c1 => ?_)
  ·
    obtain ⟨x, rfl⟩ : ∃ x, xs = [x] := List.length_eq_one_iff.1 (by omega)
    have hx0 := hx 0 x rfl
    have hzx := hz x (by simp)
    refine SC.seq ?_
    refine SC.region ?_
    refine SO.val rfl rfl rfl rfl (.move rfl rfl) ?_
    refine SO.val rfl rfl rfl rfl (.indexAddr rfl rfl rfl Tryz.underlying234 sz9 (by omega) (by simp)) ?_
    refine SO.val rfl rfl rfl rfl (.load rfl rfl ag9 (hO0.cellO trivial hx0)) ?_
    refine SO.call rfl rfl rfl rfl (.callF rfl rfl en195) (leaf_any _ _ (hO0.good hG) (by omega)) ?_
    rintro _ w2 ⟨bf2, rfl, hbf2, hnd2, hb2⟩
    have hO2 := hO0.below hb2
    refine ⟨_, rfl, ?_⟩
    refine SO.val rfl rfl rfl rfl (.assign rfl rfl) ?_
    refine SO.nil ?_
    refine SQ.then_normal ?_
    refine SC.ret ?_
    refine SQ.then_ret ?_
    refine SQ.out (.inl rfl) (res1 rfl rfl) ?_
    first | exact ⟨_, .leaf x, rfl, by assumption, rfl, hO2.toBelow trivial⟩ | exact ⟨bk, .knot ta tb, rfl, hnk, by simp only [RT.leaves]; rw [hla, hlb, List.take_append_drop], hO2.toBelow trivial⟩
  ·
    obtain ⟨hf, hhf⟩ : ∃ hf : Nat, (xs.length : Int) / 2 = hf := ⟨xs.length / 2, by omega⟩
    have hfr : 1 ≤ hf ∧ hf < xs.length := by omega
    have hl1 : (xs.take hf).length = hf := by simp; omega
    have hl2 : (xs.drop hf).length = xs.length - hf := by simp
    refine SC.skip ?_
    refine SQ.then_normal ?_
    refine SC.seq ?_
    refine SC.region ?_
    refine SO.val rfl rfl rfl rfl (.move rfl rfl) ?_
    refine SO.val rfl rfl rfl rfl (.lenA rfl rfl Tryz.underlying234) ?_
    refine SO.val rfl rfl rfl rfl (.quo rfl rfl rfl (by omega) (by omega)) ?_
    refine SO.val rfl rfl rfl rfl (.assign rfl rfl) ?_
    refine SO.nil ?_
    refine SQ.then_normal ?_
    refine SC.seq ?_
    refine SC.drawO mixed hO0 (fun hO4 => ?_)
    refine SA.take (by kernel_rfl) 0 rfl (by kernel_rfl) (by kernel_rfl) rfl rfl (fun _ _ _ h => h) rfl hO4 (fun v hv => .move rfl rfl) ?_
    refine SA.take (by kernel_rfl) 1 rfl (by kernel_rfl) (by kernel_rfl) rfl rfl (fun _ _ _ h => h) rfl hO4 (fun v hv => .move rfl rfl) ?_
    refine SA.take (by kernel_rfl) 2 rfl (by kernel_rfl) (by kernel_rfl) rfl rfl (fun _ _ _ h => h) rfl hO4 (fun v hv => .sliceGH (c := (hf : Int)) rfl rfl (by rw [← hhf]; rfl) Tryz.underlying234 sz9 (by omega)) ?_
    refine SA.take (by kernel_rfl) 4 rfl (by kernel_rfl) (by kernel_rfl) rfl rfl (fun _ _ _ h => h) rfl hO4 (fun v hv => .move rfl rfl) ?_
    refine SA.take (by kernel_rfl) 5 rfl (by kernel_rfl) (by kernel_rfl) rfl rfl (fun _ _ _ h => h) rfl hO4 (fun v hv => .move rfl rfl) ?_
    refine SA.take (by kernel_rfl) 6 rfl (by kernel_rfl) (by kernel_rfl) rfl rfl (fun _ _ _ h => h) rfl hO4 (fun v hv => .sliceGL (a := (hf : Int)) rfl rfl (by rw [← hhf]; rfl) Tryz.underlying234 sz9 (by omega) (by omega)) ?_
    refine SA.one 3 (by kernel_rfl) ?_
    refine SB.call rfl rfl rfl rfl (.callF rfl rfl en197) (calls_args (by rw [Int.toNat_natCast, hl1]) (ih (xs.take hf) g of cap _ (by omega) (hO4.good hG) (by omega) (by omega) hm (by omega) (fun x hx' => hz x (List.mem_of_mem_take hx')) (fun i x hi => hO4.cellO trivial (hx i x (by rw [List.getElem?_take] at hi; split at hi; exact hi; cases hi))))) ?_
    rintro _ w5 ⟨ba, ta, rfl, hta, hla, hb5⟩
    have hO5 := hO4.below hb5
    refine ⟨_, rfl, hO5, ?_⟩
    refine SA.one 7 (by kernel_rfl) ?_
    refine SB.call rfl rfl rfl rfl (.callF rfl rfl en197) (calls_args (by rw [Int.toNat_natCast, hl2]) (ih (xs.drop hf) g (of + hf) (cap - hf) _ (by omega) (hO5.good hG) (by omega) (by omega) (by omega) (by omega) (fun x hx' => hz x (List.mem_of_mem_drop hx')) (fun i x hi => by rw [Nat.add_assoc]; exact hO5.cellO trivial (hx (hf + i) x (by rw [List.getElem?_drop] at hi; exact hi))))) ?_
    rintro _ w6 ⟨bb, tb, rfl, htb, hlb, hb6⟩
    have hO6 := hO5.below hb6
    refine ⟨_, rfl, hO6, ?_⟩
    have hta2 := hta.below hb6
    refine SA.one 8 (by kernel_rfl) ?_
    refine SB.call rfl rfl rfl rfl (.callF rfl rfl en210) (knot_any ta tb _ _ _ (hO6.good hG) hta2 htb (leaves_ht hla (by omega)) (leaves_ht hlb (by omega))) ?_
    rintro _ w7 ⟨bk, rfl, hbk, hnk, hb7⟩
    have hO7 := hO6.below hb7
    refine ⟨_, rfl, hO7, ?_⟩
    refine SA.take (by kernel_rfl) 9 rfl (by kernel_rfl) (by kernel_rfl) rfl rfl (fun _ _ _ h => h) rfl hO7 (fun v hv => .assign rfl rfl) ?_
    refine SA.done (by kernel_rfl) ?_
    refine SQ.then_normal ?_
    refine SC.ret ?_
    refine SQ.out (.inl rfl) (res1 rfl rfl) ?_
    first | exact ⟨_, .leaf x, rfl, by assumption, rfl, hO7.toBelow trivial⟩ | exact ⟨bk, .knot ta tb, rfl, hnk, by simp only [RT.leaves]; rw [hla, hlb, List.take_append_drop], hO7.toBelow trivial⟩

theorem grown_all : ∀ (n : Nat) (xs : List ByteArray) (g of cap : Nat) (w : World), xs.length ≤ n → Good w → 1 ≤ xs.length → xs.length ≤ cap → cap ≤ 9223372036854775807 → xs.length ≤ 1099511627776 → (∀ x ∈ xs, x.size ≤ 4000000000000000000) → (∀ i x, xs[i]? = some x → w.cell? ⟨g, of + i, none⟩ = some (.string x)) →
      Calls Tryz.prog 197 #[.slice (some ⟨g, of, none⟩) xs.length cap] w fun e w' => ∃ (b : Nat) (t : RT), e = .returned (.pointer (some ⟨b, 0, none⟩)) ∧ t.At w' b ∧ t.leaves = xs ∧ Below w.heap.size w w'
  | 0, xs, _, _, _, _, h, _, h1, _, _, _, _, _ => by omega
  | n + 1, xs, g, of, cap, w, h, hG, h1, h2, h3, h4, h5, h6 => grown_step xs g of cap w hG h1 h2 h3 h4 h5 h6 fun xs' g' of' cap' w' hlt => grown_all n xs' g' of' cap' w' (by omega)

end Go.Proofs.YtclgplkkajfenaaGreatDoor
