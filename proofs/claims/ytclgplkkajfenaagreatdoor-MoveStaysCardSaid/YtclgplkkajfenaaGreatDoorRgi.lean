/- A range over a function whose body keeps an invariant of its own: rows that grow. -/
import Derived.Test.YtclgplkkajfenaaGreatDoorKeep
namespace Go.Proofs.YtclgplkkajfenaaGreatDoor
namespace Ow
open Go Go.RowKit
variable {P : Program} {ro : Option Nat} {n : Nat} {ops : Array Oper} {Q : Exit → Act → World → Prop} {N : Nat} {D : List Deferred} {e : Env} {w w0 : World} {o : Oper} {L : List (Nat × Obj)}
theorem KeepsFrom.comp {B : Nat} {A C E : World} (h : KeepsFrom B A C) (k : KeepsFrom B C E) : KeepsFrom B A E :=
  ⟨Nat.le_trans h.1 k.1, fun j o hB hj hc => k.2 j o hB (h.2 j o hB hj hc) hc⟩
theorem KeepsFrom.of_below {B : Nat} {A C : World} (h : Below A.heap.size A C) : KeepsFrom B A C := ⟨h.size, fun j _ _ hj _ => (h.block j (lt_of_heap hj)).trans hj⟩
theorem KeepsFrom.of_grown {B : Nat} {A C : World} {row : Option Nat} (h : A.grownBy C row) (hr : ∀ r, row = some r → ∃ c T f, A.heap[r]? = some (.cells c T f)) : KeepsFrom B A C :=
  ⟨h.size, fun j o _ hj hc => (h.block j (lt_of_heap hj) (fun e => by
    obtain ⟨c, T, f, hcl⟩ := hr j e.symm
    rw [hj] at hcl; cases hcl; cases hc)).trans hj⟩
def AssI {β : Type} (E : β → Env) (M : β → World → Prop) (B : Nat) (Kp : World → World → Prop) (I : World → Prop) (N : Nat) (W : World) : Act → World → Prop :=
  fun a W' => ∃ u, Fits (E u) a ∧ a.tmps.size = N ∧ a.defers = [] ∧ M u W' ∧ KeepsFrom B W W' ∧ Kp W W' ∧ I W'
theorem SQ.assignedI {β : Type} {E : β → Env} {M : β → World → Prop} {B : Nat} {Kp : World → World → Prop} {I : World → Prop} {W : World} {Q' : Exit → Act → World → Prop} (u : β) (hc : Cov e (E u)) (hM : M u w) (h1 : KeepsFrom B W w) (h2 : Kp W w) (h3 : I w) :
    SQ (Exit.then (AssI E M B Kp I N W) Q') .normal N [] e w := fun _ g1 g2 g3 => ⟨u, g3.cov hc, g1, g2, hM, h1, h2, h3⟩
def RoundI {α : Type} (B : Nat) (Kp : World → World → Prop) (I : List α → World → Prop) (xs : List α) (W : World) : Exit → Act → World → Prop :=
  ownPostG B Kp I (fun _ _ _ => False) xs W
theorem SQ.goesI {α : Type} {B : Nat} {Kp : World → World → Prop} {I : List α → World → Prop} {xs : List α} {W : World} (h1 : KeepsFrom B W w) (h2 : Kp W w) (h3 : I xs w) : SQ (RoundI B Kp I xs W) .normal N D e w := fun _ _ _ _ => ⟨h1, h2, h3⟩
theorem SC.rangeI {α β : Type} {g : Operand} {ps : List Nat} {assign body : Code} {gf : Nat} {lb : Array Value} (hg : ev e g = some (.func (.func gf) #[] lb))
    (eg : ∀ args w, (callFunc gf args).run P w = .ok (.enter gf args) w) {encs : α → List Value} {Kp : World → World → Prop} {S Sp : List α → Prop} {NN : Nat} (hn : 1 ≤ n)
    (hseq : SeqStopsK (Fc none) (n - 1) P gf lb (fun x => (encs x).toArray) Kp S Sp NN w) (hKt : ∀ {A B C : World}, Kp A B → Kp B C → Kp A C)
    (hKb : ∀ (W : World) (l : Nat) (o o' : Obj), w.heap.size ≤ l → W.heap[l]? = some o → o.isCells = false → o.isWalk = false → Kp W (W.putObj l o'))
    (hps : ∀ x, (encs x).length = ps.length) (hpN : ∀ p ∈ ps, p < N)
    (I : List α → World → Prop) (hI : OwnFrom w.heap.size I) (h0 : I [] w)
    (E : α → β → Env) (M : α → β → World → Prop) (hM : ∀ x u, OwnFrom w.heap.size (fun (_ : Unit) W => M x u W))
    (hassign : ∀ (l : Nat) (pre : List α) (x : α) (W : World), I pre W → w.heap.size ≤ W.heap.size →
      SC P (some l) (n - 1 - 1) assign (Exit.then (AssI (E x) (M x) w.heap.size Kp (I pre) N W) (fun _ _ _ => False)) N [] (penv (ps.zip (encs x)) e) W)
    (hbody : ∀ (l : Nat) (pre : List α) (x : α) (u : β) (W : World), I pre W → w.heap.size ≤ W.heap.size → M x u W → pre.length < NN →
      SC P (some l) (n - 1 - 1) body (RoundI w.heap.size Kp I (pre ++ [x]) W) N [] (E x u) W)
    (hdone : ∀ (d : Nat) (xs : List α) (W : World), w.heap.size ≤ d → S xs → I xs W → W.heap[d]? = some markO → SQ Q .normal N (coll d :: D) e W) :
    SC P none n (.rangeFunc g ps.toArray assign body) Q N D e w := by
  intro a h1 h2 h3
  refine wpIn_rangeFunc_ownH (F := Fc none) rfl hn (ev_eval h3 hg) trivial eg hseq hKt hKb (Below.refl _ _) (fun x => by simp [hps])
    (fun pre W => I pre W ∧ w.heap.size ≤ W.heap.size) (fun _ _ _ => False) ?_ ?_ ⟨h0, Nat.le_refl _⟩
    (fun x a' W => ∃ u, Fits (E x u) a' ∧ a'.tmps.size = N ∧ a'.defers = [] ∧ M x u W) ?_ ?_ ?_ ?_ ?_
  · exact fun s A B row hs hg hr => ⟨hI s A B row hs.1 hg hr, Nat.le_trans hs.2 hg.size⟩
  · exact fun c s A B row hs hg hr => hs
  · rintro x a' _ A B row ⟨u, g1, g2, g3, g4⟩ hg hr
    exact ⟨u, g1, g2, g3, hM x u () A B row g4 hg hr⟩
  · rintro l pre x W K ⟨hIW, hIw⟩ hK
    have hz := fits_foldl (N := N) (ps.zip (encs x)) e a.tmps [] h1 (fun p hp => hpN _ (List.of_mem_zip hp).1) h3
    refine wpIn_mono (hassign l pre x W hIW hIw _ (by simpa using hz.2) rfl (by simpa using hz.1)) fun ex a' W' hq => ?_
    cases ex with
    | normal =>
      obtain ⟨u, g1, g2, g3, g4, g5, g6, g7⟩ := hq
      exact hK a' W' g5 g6 ⟨g7, Nat.le_trans hIw g5.size⟩ ⟨u, g1, g2, g3, g4⟩
    | _ => exact hq
  · rintro l pre x a' W _ _ ⟨hIW, hIw⟩ ⟨u, g1, g2, g3, g4⟩ hlen
    refine wpIn_mono (hbody l pre x u W hIW hIw g4 hlen a' g2 g3 g1) fun ex a2 W' hq => ?_
    cases ex with
    | normal => exact ⟨hq.1, hq.2.1, hq.2.2, Nat.le_trans hIw hq.1.size⟩
    | _ => exact hq
  · rintro d xs W hd hS ⟨hIW, _⟩ hK
    exact hdone d xs W hd hS hIW hK _ h1 (by simp [h2, coll]) (fun t v ht => h3 t v ht)
  · rintro d c pre W hd hS hX hK
    exact hX.elim
end Ow
open Go Go.RowKit Ow
/-- A row stays where nothing is turned but what is no cells. -/
theorem Own'.from {α : Type} {enc : α → List Value} {E sz B : Nat} {w w' : World} {v : Value} {xs : List α} (h : Own' enc E sz B w v xs) {row : Option Nat} (hg : w.grownBy w' row) (hr : ∀ r, row = some r → ∃ o : Obj, w.heap[r]? = some o ∧ o.isCells = false) : Own' enc E sz B w' v xs := by
  refine World.ownsRow.kept h hg ?_
  obtain ⟨h1, h2 | ⟨g, cap, cur, rfl, h0, hc, rest⟩⟩ := h
  · exact .inl (by rw [h2.1]; rfl)
  · refine .inr fun e => ?_
    obtain ⟨o, ho, hoc⟩ := hr g e.symm
    rw [hc] at ho; cases ho; cases hoc
/-- What block a row lies in, if any, holds cells. -/
theorem Own'.isCells {α : Type} {enc : α → List Value} {E sz B : Nat} {w : World} {v : Value} {xs : List α} (h : Own' enc E sz B w v xs) : ∀ r, v.ownBlock = some r → ∃ c T f, w.heap[r]? = some (.cells c T f) := fun r hr => by
  obtain ⟨h1, h2 | ⟨g, cap, cur, rfl, h0, hc, rest⟩⟩ := h
  · rw [h2.1] at hr; cases hr
  · have e : some g = some r := hr
    cases e
    exact ⟨_, _, _, hc⟩
theorem Own'.slice' {α : Type} {enc : α → List Value} {E sz B : Nat} {w : World} {v : Value} {xs : List α} (h : Own' enc E sz B w v xs) (hx : xs ≠ []) : ∃ (g cap : Nat), v = .slice (some ⟨g, 0, none⟩) xs.length cap ∧ B ≤ g ∧ g < w.heap.size := by
  obtain ⟨h1, h2 | ⟨g, cap, cur, hv, h0, hc, rest⟩⟩ := h
  · exact absurd (List.length_eq_zero_iff.1 h2.2) hx
  · exact ⟨g, cap, hv, h0, lt_of_heap hc⟩
theorem encS_plain (x : Int × Int) : ∀ u ∈ encS x, plainV u = true := fun u hu => by
  simp only [encS, List.mem_cons, List.not_mem_nil, or_false] at hu
  rcases hu with rfl | rfl <;> rfl
/-- The end of the last span is set. -/
theorem Own'.setTo {B : Nat} {w : World} {g len cap : Nat} {xs : List (Int × Int)} {a b b' : Int} (h : Own' encS 41 2 B w (.slice (some ⟨g, 0, none⟩) len cap) (xs ++ [(a, b)])) :
    ∃ w', (storeCells ⟨g, xs.length * 2 + 1, none⟩ [.int .i64 b'] 0).run Tryz.prog w = .ok () w' ∧ Own' encS 41 2 B w' (.slice (some ⟨g, 0, none⟩) len cap) (xs ++ [(a, b')]) ∧ w.grownBy w' (some g) := by
  obtain ⟨h1, h2 | ⟨g', cap', cur, hv, hg0, hg, hcap, hmx, hsz, htk⟩⟩ := h
  · exact absurd h2.1 (by intro e; cases e)
  cases hv
  rw [List.length_append, List.length_singleton] at hcap htk h1
  obtain ⟨c⟩ := cur
  simp only [List.size_toArray] at hsz
  have hlen : xs.length * 2 + 1 + 0 + 1 ≤ c.length := by omega
  obtain ⟨w', r1, r2, r3, r4, r5, r6, r7⟩ := run_storeCells (P := Tryz.prog) g (xs.length * 2 + 1) 41 [.int .i64 b'] 0 c w hg hlen (fun v hv => by simp only [List.mem_singleton] at hv; subst hv; rfl)
  refine ⟨w', r1, ?_, ⟨r2, r3, r4, by omega, fun k _ hk => r7 k (fun e => hk (by rw [e]))⟩⟩
  refine ⟨flat_len encS_len _, .inr ⟨g, cap, _, by rw [List.length_append, List.length_append]; rfl, hg0, by rw [Nat.add_zero] at r6; exact r6, by rw [List.length_append]; exact hcap, hmx, by rw [List.size_toArray, setRow_length, hsz], ?_⟩⟩
  rw [List.length_append, List.length_singleton]
  show (setRow c (xs.length * 2 + 1) [.int .i64 b']).take ((xs.length + 1) * 2) = _
  have htk' : c.take ((xs.length + 1) * 2) = (xs.map encS).flatten ++ [.int .i64 a, .int .i64 b] := by
    have : (List.map encS (xs ++ [(a, b)])).flatten = (xs.map encS).flatten ++ [.int .i64 a, .int .i64 b] := by simp [encS]
    rw [← this]; exact htk
  have hfl : ((xs.map encS).flatten).length = xs.length * 2 := flat_len encS_len xs
  have hc : c = (xs.map encS).flatten ++ [.int .i64 a] ++ [.int .i64 b] ++ c.drop ((xs.length + 1) * 2) := by
    rw [List.append_assoc (xs.map encS).flatten]
    show c = (xs.map encS).flatten ++ [.int .i64 a, .int .i64 b] ++ _
    rw [← htk']; simp
  have e1 : setRow c (xs.length * 2 + 1) [.int .i64 b'] = (xs.map encS).flatten ++ [.int .i64 a] ++ [.int .i64 b'] ++ c.drop ((xs.length + 1) * 2) := by
    have := setRow_app [.int .i64 b'] ((xs.map encS).flatten ++ [.int .i64 a]) (c.drop ((xs.length + 1) * 2)) [.int .i64 b] rfl
    rw [← hc] at this
    rw [List.length_append, hfl] at this
    exact this
  rw [e1, List.take_append_of_le_length (by simp only [List.length_append, hfl, List.length_singleton]; omega), List.take_of_length_le (by simp only [List.length_append, hfl, List.length_singleton]; omega)]
  simp [encS]
end Go.Proofs.YtclgplkkajfenaaGreatDoor
