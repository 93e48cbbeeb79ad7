/- The calculus' rules: code, regions, loops, calls, ends. -/
import Derived.Test.YtclgplkkajfenaaGreatDoorOw
import Derived.TacticsIn
namespace Go.Proofs.YtclgplkkajfenaaGreatDoor
namespace Ow
open Go Go.RowKit
variable {P : Program} {ro : Option Nat} {n : Nat} {ops : Array Oper} {Q : Exit → Act → World → Prop} {N : Nat} {D : List Deferred} {e : Env} {w : World}

def Fc (ro : Option Nat) : Fence := { Fence.wide with round := ro }
theorem calls_Fc {f : FuncId} {args : Array Value} {R : Ending → World → Prop} (h : Calls P f args w R) : CallsIn (Fc ro) n P f args w R :=
  (callsIn_wide (n := n)).2 h

/-- Code, from what the temporaries and the world hold. -/
def SC (P : Program) (ro : Option Nat) (n : Nat) (c : Code) (Q : Exit → Act → World → Prop) (N : Nat) (D : List Deferred) (e : Env) (w : World) : Prop :=
  ∀ a : Act, a.tmps.size = N → a.defers = D → Fits e a → c.wpIn (Fc ro) n P Q a w
def SQ (Q : Exit → Act → World → Prop) (x : Exit) (N : Nat) (D : List Deferred) (e : Env) (w : World) : Prop :=
  ∀ a : Act, a.tmps.size = N → a.defers = D → Fits e a → Q x a w
def SO (P : Program) (ro : Option Nat) (n : Nat) (ops : Array Oper) (l : List Oper) (Q : Exit → Act → World → Prop) (N : Nat) (D : List Deferred) (e : Env) (w : World) : Prop :=
  ∀ a : Act, a.tmps.size = N → a.defers = D → Fits e a → wpListIn (Fc ro) n P ops Q l a w

theorem SC.cov {c : Code} {e' : Env} (hc : Cov e e') (h : SC P ro n c Q N D e' w) : SC P ro n c Q N D e w := fun a h1 h2 h3 => h a h1 h2 (h3.cov hc)
theorem SO.cov {l : List Oper} {e' : Env} (hc : Cov e e') (h : SO P ro n ops l Q N D e' w) : SO P ro n ops l Q N D e w := fun a h1 h2 h3 => h a h1 h2 (h3.cov hc)
theorem SQ.cov {x : Exit} {e' : Env} (hc : Cov e e') (h : SQ Q x N D e' w) : SQ Q x N D e w := fun a h1 h2 h3 => h a h1 h2 (h3.cov hc)

/-! ### Code -/
theorem SC.seq {x y : Code} (h : SC P ro n x (Exit.then (y.wpIn (Fc ro) n P Q) Q) N D e w) : SC P ro n (.seq x y) Q N D e w := fun a h1 h2 h3 => wpIn_seq (h a h1 h2 h3)
theorem SC.skip (h : SQ Q .normal N D e w) : SC P ro n .skip Q N D e w := fun a h1 h2 h3 => wpIn_skip (h a h1 h2 h3)
theorem SC.ret (h : SQ Q .ret N D e w) : SC P ro n .ret Q N D e w := fun a h1 h2 h3 => wpIn_ret (h a h1 h2 h3)
theorem SC.exit {id : Nat} (h : SQ Q (.exit id) N D e w) : SC P ro n (.exit id) Q N D e w := fun a h1 h2 h3 => wpIn_exit (h a h1 h2 h3)
theorem SC.block {id : Nat} {c : Code} (h : SC P ro n c (Exit.inBlock id Q) N D e w) : SC P ro n (.block id c) Q N D e w := fun a h1 h2 h3 => wpIn_block (h a h1 h2 h3)
theorem SC.region {id : Nat} {l : List Oper} (h : SO P ro n l.toArray l Q N D e w) : SC P ro n (.region id l.toArray false) Q N D e w := fun a h1 h2 h3 => wpIn_region_lit (h a h1 h2 h3)
theorem SC.yes {c : Operand} {x y : Code} (hc : ev e c = some (.bool true)) (h : SC P ro n x Q N D e w) : SC P ro n (.cond c x y) Q N D e w :=
  fun a h1 h2 h3 => wpIn_cond_true (ev_eval h3 hc) (h a h1 h2 h3)
theorem SC.no {c : Operand} {x y : Code} (hc : ev e c = some (.bool false)) (h : SC P ro n y Q N D e w) : SC P ro n (.cond c x y) Q N D e w :=
  fun a h1 h2 h3 => wpIn_cond_false (ev_eval h3 hc) (h a h1 h2 h3)
theorem SC.bool {c : Operand} {x y : Code} {b : Bool} (hc : ev e c = some (.bool b)) (h1 : b = true → SC P ro n x Q N D e w) (h2 : b = false → SC P ro n y Q N D e w) : SC P ro n (.cond c x y) Q N D e w := by
  cases b
  · exact SC.no hc (h2 rfl)
  · exact SC.yes hc (h1 rfl)
theorem SC.dec {c : Operand} {x y : Code} {p : Prop} [Decidable p] (hc : ev e c = some (.bool (decide p))) (h1 : p → SC P ro n x Q N D e w) (h2 : ¬ p → SC P ro n y Q N D e w) : SC P ro n (.cond c x y) Q N D e w := by
  by_cases hp : p
  · exact SC.yes (by rw [hc, decide_eq_true hp]) (h1 hp)
  · exact SC.no (by rw [hc, decide_eq_false hp]) (h2 hp)

theorem SQ.then_normal {y : Code} {Q' : Exit → Act → World → Prop} (h : SC P ro n y Q N D e w) : SQ (Exit.then (y.wpIn (Fc ro) n P Q) Q') .normal N D e w := h
theorem SQ.then_ret {K : Act → World → Prop} (h : SQ Q .ret N D e w) : SQ (Exit.then K Q) .ret N D e w := h
theorem SQ.then_exit {K : Act → World → Prop} {id : Nat} (h : SQ Q (.exit id) N D e w) : SQ (Exit.then K Q) (.exit id) N D e w := h
theorem SQ.block_normal {id : Nat} (h : SQ Q .normal N D e w) : SQ (Exit.inBlock id Q) .normal N D e w := h
theorem SQ.block_ret {id : Nat} (h : SQ Q .ret N D e w) : SQ (Exit.inBlock id Q) .ret N D e w := h
theorem SQ.block_exit {id : Nat} (h : SQ Q .normal N D e w) : SQ (Exit.inBlock id Q) (.exit id) N D e w := fun a h1 h2 h3 => by
  simp only [Exit.inBlock, if_true]; exact h a h1 h2 h3
theorem SQ.block_pass {id id' : Nat} (hne : Nat.beq id' id = false) (h : SQ Q (.exit id') N D e w) : SQ (Exit.inBlock id Q) (.exit id') N D e w := fun a h1 h2 h3 => by
  have : id' ≠ id := fun e => by subst e; simp at hne
  simp only [Exit.inBlock, if_neg this]; exact h a h1 h2 h3

/-! ### Loops: what holds at a round's head is said of a ghost x -/
def LoopK {α : Type} (I : α → Env) (M : α → World → Prop) (m : α → Nat) (x : α) (N : Nat) (D : List Deferred) : Act → World → Prop :=
  fun a w => ∃ x', m x' < m x ∧ Fits (I x') a ∧ a.tmps.size = N ∧ a.defers = D ∧ M x' w
theorem SQ.round {α : Type} {I : α → Env} {M : α → World → Prop} {m : α → Nat} {x : α} (x' : α) (hm : m x' < m x) (hc : Cov e (I x')) (hM : M x' w) :
    SQ (Exit.then (LoopK I M m x N D) Q) .normal N D e w := fun _ h1 h2 h3 => ⟨x', hm, h3.cov hc, h1, h2, hM⟩
theorem SC.loop {α : Type} {c : Code} (I : α → Env) (M : α → World → Prop) (m : α → Nat) (x₀ : α) (hc : Cov e (I x₀)) (h0 : M x₀ w)
    (round : ∀ x w, M x w → SC P ro n c (Exit.then (LoopK I M m x N D) Q) N D (I x) w) : SC P ro n (.loop c) Q N D e w := by
  intro a h1 h2 h3
  let Inv : Act → World → α → Prop := fun a w x => Fits (I x) a ∧ a.tmps.size = N ∧ a.defers = D ∧ M x w
  have least : ∀ a w, (∃ x, Inv a w x) → ∃ x, Inv a w x ∧ ∀ y, Inv a w y → m x ≤ m y := fun a w ⟨x, hx⟩ => by
    have key : ∀ k, ∀ x, m x = k → Inv a w x → ∃ x, Inv a w x ∧ ∀ y, Inv a w y → m x ≤ m y := by
      intro k
      induction k using Nat.strongRecOn with
      | _ k ih =>
        intro x hk hx
        by_cases h : ∃ y, Inv a w y ∧ m y < m x
        · obtain ⟨y, hy, hlt⟩ := h
          exact ih (m y) (by omega) y rfl hy
        · exact ⟨x, hx, fun y hy => Nat.le_of_not_lt fun hlt => h ⟨y, hy, hlt⟩⟩
    exact key _ x rfl hx
  let μ : Act → World → Nat := fun a w => open Classical in if h : ∃ x, Inv a w x then m (Classical.choose (least a w h)) else 0
  refine wpIn_loop (fun a w => ∃ x, Inv a w x) μ ⟨x₀, h3.cov hc, h1, h2, h0⟩ fun a w hI => ?_
  have hch := Classical.choose_spec (least a w hI)
  have hμ : μ a w = m (Classical.choose (least a w hI)) := by simp only [μ]; rw [dif_pos hI]
  revert hch hμ
  generalize Classical.choose (least a w hI) = x
  intro ⟨⟨f1, f2, f3, f4⟩, _⟩ hμ
  refine wpIn_mono (round x w f4 a f2 f3 f1) fun ex a' w' hq => ?_
  cases ex with
  | normal =>
    obtain ⟨x', hm, g1, g2, g3, g4⟩ := hq
    have hI' : ∃ x, Inv a' w' x := ⟨x', g1, g2, g3, g4⟩
    refine ⟨hI', ?_⟩
    have hle := (Classical.choose_spec (least a' w' hI')).2 x' ⟨g1, g2, g3, g4⟩
    have : μ a' w' = m (Classical.choose (least a' w' hI')) := by simp only [μ]; rw [dif_pos hI']
    show μ a' w' < μ a w
    omega
  | _ => exact hq

/-! ### Operations -/
/-- What an operation does, from what the temporaries hold. -/
def Res (P : Program) (e : Env) (o : Oper) (w : World) (r : Result Next) : Prop := ∀ a : Act, Fits e a → (execOp a.eval o).run P w = r
def plainOp : Op → Bool | .defer _ => false | .select .. => false | _ => true
theorem semAt_plain {o : Oper} (h : plainOp o.op = true) (ρ : Operand → Value) : o.semAt ro ρ = execOp ρ o :=
  Oper.semAt_eq ro ρ o fun c hc => by rw [hc] at h; cases h

/-- Is the operation carried out? -/
def gok (ops : Array Oper) (e : Env) (o : Oper) : Option Bool :=
  match o.guard with
  | none => some true
  | some (j, want) =>
    match (ops[j]?).bind (·.dst) with
    | some t => match look e t with
      | some (.bool b) => some (b == want)
      | some (.tuple _) => some false
      | _ => none
    | none => none
theorem gok_wanted {o : Oper} {b : Bool} (h : gok ops e o = some b) {a : Act} (hf : Fits e a) : Region.wanted o (yielded ops a.tmps) = b := by
  unfold gok at h
  unfold Region.wanted
  cases hg : o.guard with
  | none => rw [hg] at h; simpa using h
  | some g =>
    obtain ⟨j, want⟩ := g
    rw [hg] at h
    simp only at h ⊢
    cases hj : (ops[j]?).bind (·.dst) with
    | none => rw [hj] at h; cases h
    | some t =>
      rw [hj] at h
      simp only at h
      cases hl : look e t with
      | none => rw [hl] at h; cases h
      | some v =>
        rw [hl] at h
        cases v <;> simp only [reduceCtorEq] at h
        · rename_i b'
          have := hf _ _ hl
          simp only [yielded, hj, Option.bind_some, this]
          injection h
        · have := hf _ _ hl
          simp only [yielded, hj, Option.bind_some, this]
          injection h

theorem SO.nil (h : SQ Q .normal N D e w) : SO P ro n ops [] Q N D e w := fun a h1 h2 h3 => h a h1 h2 h3
theorem wideFn (f : FuncId) : (Fc ro).fn f := trivial

theorem SO.val {o : Oper} {l : List Oper} {d : Nat} {v : Value} {w' : World} (hg : gok ops e o = some true) (hp : plainOp o.op = true) (hd : o.dst = some d) (hN : Nat.blt d N = true)
    (hr : Res P e o w (.ok (.value v) w')) (h : SO P ro n ops l Q N D ((d, v) :: e) w') : SO P ro n ops (o :: l) Q N D e w := by
  intro a h1 h2 h3
  unfold wpListIn
  rw [if_pos (gok_wanted hg h3)]
  refine ⟨fun f _ => wideFn f, ?_⟩
  show o.uponIn (Fc ro) n P a _ Q ((o.semAt ro a.eval).run P w)
  rw [semAt_plain hp, hr a h3, Oper.uponIn_value, hd]
  have hN' : d < N := Nat.le_of_ble_eq_true hN
  exact h _ (by rw [size_put]; exact h1) (by rw [defers_put]; exact h2) (h3.put (by omega))
theorem SO.eff {o : Oper} {l : List Oper} {w' : World} (hg : gok ops e o = some true) (hp : plainOp o.op = true) (hd : o.dst = none)
    (hr : Res P e o w (.ok .skip w')) (h : SO P ro n ops l Q N D e w') : SO P ro n ops (o :: l) Q N D e w := by
  intro a h1 h2 h3
  unfold wpListIn
  rw [if_pos (gok_wanted hg h3)]
  refine ⟨fun f _ => wideFn f, ?_⟩
  show o.uponIn (Fc ro) n P a _ Q ((o.semAt ro a.eval).run P w)
  rw [semAt_plain hp, hr a h3, Oper.uponIn_skip, hd]
  exact h a h1 h2 h3
theorem SO.pass {o : Oper} {l : List Oper} {d : Nat} (hg : gok ops e o = some false) (hd : o.dst = some d) (hN : Nat.blt d N = true)
    (h : SO P ro n ops l Q N D ((d, undef) :: e) w) : SO P ro n ops (o :: l) Q N D e w := by
  intro a h1 h2 h3
  unfold wpListIn
  rw [if_neg (by rw [gok_wanted hg h3]; decide)]
  refine ⟨fun f _ => wideFn f, ?_⟩
  rw [hd]
  have hN' : d < N := Nat.le_of_ble_eq_true hN
  exact h _ (by rw [size_put]; exact h1) (by rw [defers_put]; exact h2) (h3.put (by omega))
theorem SO.passN {o : Oper} {l : List Oper} (hg : gok ops e o = some false) (hd : o.dst = none)
    (h : SO P ro n ops l Q N D e w) : SO P ro n ops (o :: l) Q N D e w := by
  intro a h1 h2 h3
  unfold wpListIn
  rw [if_neg (by rw [gok_wanted hg h3]; decide)]
  refine ⟨fun f _ => wideFn f, ?_⟩
  rw [hd]
  exact h a h1 h2 h3
/-- A call, by its contract. -/
theorem SO.call {o : Oper} {l : List Oper} {d f : Nat} {args : Array Value} {w1 : World} {R : Ending → World → Prop} (hg : gok ops e o = some true) (hp : plainOp o.op = true) (hd : o.dst = some d) (hN : Nat.blt d N = true)
    (hr : Res P e o w (.ok (.enter f args) w1)) (hc : Calls P f args w1 R)
    (h : ∀ x w', R x w' → ∃ v, x = .returned v ∧ SO P ro n ops l Q N D ((d, v) :: e) w') : SO P ro n ops (o :: l) Q N D e w := by
  intro a h1 h2 h3
  unfold wpListIn
  rw [if_pos (gok_wanted hg h3)]
  refine ⟨fun f _ => wideFn f, ?_⟩
  show o.uponIn (Fc ro) n P a _ Q ((o.semAt ro a.eval).run P w)
  rw [semAt_plain hp, hr a h3, Oper.uponIn_enter, hd]
  have hN' : d < N := Nat.le_of_ble_eq_true hN
  refine ⟨fun h => by simp [Fc, Fence.wide] at h, (calls_Fc hc).mono fun x w' hx => ?_⟩
  obtain ⟨v, rfl, hk⟩ := h x w' hx
  exact hk _ (by rw [size_put]; exact h1) (by rw [defers_put]; exact h2) (h3.put (by omega))
/-- A bool in a temporary: one way or the other. -/
theorem SO.bool {l : List Oper} (t : Nat) {b : Bool} (hl : look e t = some (.bool b)) (h1 : b = true → SO P ro n ops l Q N D ((t, .bool true) :: e) w)
    (h2 : b = false → SO P ro n ops l Q N D ((t, .bool false) :: e) w) : SO P ro n ops l Q N D e w := by
  intro a g1 g2 g3
  cases b
  · refine h2 rfl a g1 g2 fun k v hk => ?_
    by_cases e' : t = k
    · subst e'; rw [look_same] at hk; cases hk; exact g3 _ _ hl
    · rw [look_other _ _ e'] at hk; exact g3 _ _ hk
  · refine h1 rfl a g1 g2 fun k v hk => ?_
    by_cases e' : t = k
    · subst e'; rw [look_same] at hk; cases hk; exact g3 _ _ hl
    · rw [look_other _ _ e'] at hk; exact g3 _ _ hk
theorem SO.dec {l : List Oper} (t : Nat) {p : Prop} [Decidable p] (hl : look e t = some (.bool (decide p))) (h1 : p → SO P ro n ops l Q N D ((t, .bool true) :: e) w)
    (h2 : ¬ p → SO P ro n ops l Q N D ((t, .bool false) :: e) w) : SO P ro n ops l Q N D e w :=
  SO.bool t hl (fun h => h1 (of_decide_eq_true h)) (fun h => h2 (of_decide_eq_false h))

/-! ### Into a function and out of it -/
def argEnv : List Value → Nat → Env
  | [], _ => []
  | v :: r, k => (k, v) :: argEnv r (k + 1)
theorem argEnv_look (l : List Value) : ∀ k t v, look (argEnv l k) t = some v → k ≤ t ∧ l[t - k]? = some v := by
  induction l with
  | nil => intro k t v h; simp [argEnv, look] at h
  | cons x r ih =>
    intro k t v h
    by_cases e : k = t
    · subst e; rw [argEnv, look_same] at h; cases h; simp
    · rw [argEnv, look_other _ _ e] at h
      obtain ⟨h1, h2⟩ := ih _ _ _ h
      refine ⟨by omega, ?_⟩
      rw [show t - k = (t - (k + 1)) + 1 by omega]
      simpa using h2
theorem enter {f : FuncId} {fn : Func} {c : Code} {args : List Value} {N : Nat} {R : Ending → World → Prop} (hf : P.funcs[f]? = some fn) (hb : fn.body = some c) (hN : fn.ntmps = N)
    (hl : Nat.ble args.length N = true) (n : Nat) (h : SC P none n c (bodyPost P fn R) N [] (argEnv args 0) w) : Calls P f args.toArray w R := by
  refine (callsIn_wide (n := n)).1 ?_
  have hl' : args.length ≤ N := Nat.le_of_ble_eq_true hl
  refine callsIn_of_wp hf hb trivial (h _ ?_ rfl ?_) rfl
  · simp [hN]; omega
  · intro t v ht
    obtain ⟨_, h2⟩ := argEnv_look _ _ _ _ ht
    have hlt : t < args.length := by
      rcases Nat.lt_or_ge t args.length with h' | h'
      · exact h'
      · rw [Nat.sub_zero, List.getElem?_eq_none h'] at h2; cases h2
    show (args.toArray ++ Array.replicate _ undef)[t]? = some v
    rw [Array.getElem?_append_left (by simpa using hlt)]
    simpa using h2

theorem SQ.out {fn : Func} {R : Ending → World → Prop} {v : Value} {x : Exit} (hx : x = .ret ∨ x = .normal)
    (hr : ∀ a : Act, Fits e a → (results fn a.tmps).run P w = .ok v w) (hR : R (.returned v) w) : SQ (bodyPost P fn R) x N [] e w := by
  intro a _ h2 h3
  rcases hx with rfl | rfl
  · exact ⟨h2, v, hr a h3, hR⟩
  · exact ⟨h2, v, hr a h3, hR⟩
theorem fits_getD {a : Act} (h : Fits e a) {t : Nat} {v : Value} (hl : look e t = some v) : a.tmps.getD t undef = v := by
  have := h _ _ hl; simp [Array.getD_eq_getD_getElem?, this]
theorem res0 {fn : Func} (h : fn.results = #[]) (a : Act) (_ : Fits e a) : (results fn a.tmps).run P w = .ok (.tuple #[]) w := results_none h _ _ _
theorem res1 {fn : Func} {t : Nat} {v : Value} (h : fn.results = #[.tmp t]) (hl : look e t = some v) (a : Act) (hf : Fits e a) : (results fn a.tmps).run P w = .ok v w := by
  rw [results_tmp h, fits_getD hf hl]
theorem res2 {fn : Func} {t u : Nat} {v v' : Value} (h : fn.results = #[.tmp t, .tmp u]) (hl : look e t = some v) (hl' : look e u = some v') (a : Act) (hf : Fits e a) :
    (results fn a.tmps).run P w = .ok (.tuple #[v, v']) w := by
  rw [results_tmp2 h, fits_getD hf hl, fits_getD hf hl']
theorem res3 {fn : Func} {t u x : Nat} {v v' v2 : Value} (h : fn.results = #[.tmp t, .tmp u, .tmp x]) (hl : look e t = some v) (hl' : look e u = some v') (hl2 : look e x = some v2) (a : Act) (hf : Fits e a) :
    (results fn a.tmps).run P w = .ok (.tuple #[v, v', v2]) w := by
  have h0 := hf _ _ hl; have h1 := hf _ _ hl'; have h2 := hf _ _ hl2
  simp [results, h, h0, h1, h2, go_sem]
theorem res4 {fn : Func} {t u x y : Nat} {v v' v2 v3 : Value} (h : fn.results = #[.tmp t, .tmp u, .tmp x, .tmp y]) (hl : look e t = some v) (hl' : look e u = some v') (hl2 : look e x = some v2) (hl3 : look e y = some v3) (a : Act) (hf : Fits e a) :
    (results fn a.tmps).run P w = .ok (.tuple #[v, v', v2, v3]) w := by
  have h0 := hf _ _ hl; have h1 := hf _ _ hl'; have h2 := hf _ _ hl2; have h3 := hf _ _ hl3
  simp [results, h, h0, h1, h2, h3, go_sem]
end Ow
end Go.Proofs.YtclgplkkajfenaaGreatDoor
