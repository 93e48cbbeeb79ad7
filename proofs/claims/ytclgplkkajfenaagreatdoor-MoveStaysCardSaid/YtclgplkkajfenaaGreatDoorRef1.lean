/- The reference: units, one by one. -/
import Derived.Test.YtclgplkkajfenaaGreatDoorRws
namespace Go.Proofs.YtclgplkkajfenaaGreatDoor
open Go Go.RowKit Ow
/-- What a first byte says: its number, and how many bytes follow. -/
def leadC (b : Int) : Int := if b < 128 then b else if 192 ≤ b ∧ b < 224 then b - 192 else if 224 ≤ b ∧ b < 240 then b - 224 else if 240 ≤ b ∧ b < 248 then b - 240 else 0
def leadM (b : Int) : Int := if b < 128 then 0 else if 192 ≤ b ∧ b < 224 then 1 else if 224 ≤ b ∧ b < 240 then 2 else if 240 ≤ b ∧ b < 248 then 3 else -1
def sizeC (c : Int) : Int := if c < 128 then 1 else if c < 2048 then 2 else if c < 65536 then 3 else 4
def scal (c : Int) : Prop := c ≥ 0 ∧ c ≤ 1114111 ∧ (c < 55296 ∨ c > 57343)
instance (c : Int) : Decidable (scal c) := by unfold scal; infer_instance
/-- The number behind so many bytes. -/
def accC (l : Bs) (c : Int) : Nat → Int
  | 0 => c
  | n + 1 => accC l c n * 64 + by' l (n + 1) - 128
theorem leadM_range (b : Int) : -1 ≤ leadM b ∧ leadM b ≤ 3 := by unfold leadM; repeat' split <;> omega
theorem leadC_range {b : Int} (h : 0 ≤ b ∧ b ≤ 255) : 0 ≤ leadC b ∧ leadC b ≤ 127 := by unfold leadC; repeat' split <;> omega
theorem accC_range (l : Bs) (c : Int) (h : 0 ≤ c ∧ c ≤ 127) : ∀ n, n ≤ 3 → (∀ t, 1 ≤ t → t ≤ n → 128 ≤ by' l t ∧ by' l t ≤ 191) → 0 ≤ accC l c n ∧ accC l c n ≤ 33554431 := by
  intro n hn ht
  have h1 := fun t a b => ht t a b
  match n, hn with
  | 0, _ => exact ⟨h.1, by simp only [accC]; omega⟩
  | 1, _ =>
    have := h1 1 (by omega) (by omega)
    simp only [accC, Nat.reduceAdd]; omega
  | 2, _ =>
    have := h1 1 (by omega) (by omega); have := h1 2 (by omega) (by omega)
    simp only [accC, Nat.reduceAdd]; omega
  | 3, _ =>
    have := h1 1 (by omega) (by omega); have := h1 2 (by omega) (by omega); have := h1 3 (by omega) (by omega)
    simp only [accC, Nat.reduceAdd]; omega
theorem accC_range2 (l : Bs) (c : Int) (h : 0 ≤ c ∧ c ≤ 127) : ∀ n, n ≤ 2 → (∀ t, 1 ≤ t → t ≤ n → 128 ≤ by' l t ∧ by' l t ≤ 191) → 0 ≤ accC l c n ∧ accC l c n ≤ 524287 := by
  intro n hn ht
  have h1 := fun t a b => ht t a b
  match n, hn with
  | 0, _ => exact ⟨h.1, by simp only [accC]; omega⟩
  | 1, _ =>
    have := h1 1 (by omega) (by omega)
    simp only [accC, Nat.reduceAdd]; omega
  | 2, _ =>
    have := h1 1 (by omega) (by omega); have := h1 2 (by omega) (by omega)
    simp only [accC, Nat.reduceAdd]; omega
theorem con_iff {l : Bs} {k : Nat} : con l k = true ↔ k < l.length ∧ 128 ≤ by' l k ∧ by' l k ≤ 191 := by
  unfold con
  rw [Bool.and_eq_true, decide_eq_true_eq, beq_iff_eq]
  constructor
  · rintro ⟨h1, h2⟩; exact ⟨h1, by omega⟩
  · rintro ⟨h1, h2⟩; exact ⟨h1, by omega⟩
theorem con_false {l : Bs} {k : Nat} (h : ¬ (k < l.length ∧ 128 ≤ by' l k ∧ by' l k ≤ 191)) : con l k = false := by
  rw [← Bool.not_eq_true]; exact fun h' => h (con_iff.1 h')
theorem okRune_iff (n : Nat) : okRune n = true ↔ n < 55296 ∨ (57344 ≤ n ∧ n ≤ 1114111) := by unfold okRune; simp
/-- The first unit's character, as the reference finds it. -/
theorem uch_bad {l : Bs} (hm : leadM (by' l 0) < 0 ∨ (l.length : Int) ≤ leadM (by' l 0) ∨ ∃ t : Nat, 1 ≤ t ∧ (t : Int) ≤ leadM (by' l 0) ∧ ¬ (128 ≤ by' l t ∧ by' l t ≤ 191)) (hl : 0 < l.length) : uch l = -1 := by
  have hb := by_lt l 0
  have key : ∀ t : Nat, 1 ≤ t → (t : Int) ≤ leadM (by' l 0) → ¬ (t < l.length ∧ 128 ≤ by' l t ∧ by' l t ≤ 191) → uch l = -1 := by
    intro t h1 h2 h3
    have hc := con_false h3
    have hr := leadM_range (by' l 0)
    unfold leadM at h2
    unfold uch un
    dsimp only
    by_cases e0 : by' l 0 < 128
    · rw [if_pos (by omega)] at h2; omega
    rw [if_neg e0]
    rw [if_neg (by omega)] at h2
    by_cases e1 : by' l 0 / 32 == 6 && con l 1
    · exfalso
      simp only [Bool.and_eq_true, beq_iff_eq] at e1
      rw [if_pos (by omega)] at h2
      obtain rfl : t = 1 := by omega
      rw [hc] at e1; exact Bool.noConfusion e1.2
    rw [if_neg e1]
    by_cases e2 : by' l 0 / 16 == 14 && con l 1 && con l 2
    · exfalso
      simp only [Bool.and_eq_true, beq_iff_eq] at e2
      rw [if_neg (by omega), if_pos (by omega)] at h2
      obtain rfl | rfl : t = 1 ∨ t = 2 := by omega
      · rw [hc] at e2; exact Bool.noConfusion e2.1.2
      · rw [hc] at e2; exact Bool.noConfusion e2.2
    rw [if_neg e2]
    by_cases e3 : by' l 0 / 8 == 30 && con l 1 && con l 2 && con l 3
    · exfalso
      simp only [Bool.and_eq_true, beq_iff_eq] at e3
      rw [if_neg (by omega), if_neg (by omega), if_pos (by omega)] at h2
      obtain rfl | rfl | rfl : t = 1 ∨ t = 2 ∨ t = 3 := by omega
      · rw [hc] at e3; exact Bool.noConfusion e3.1.1.2
      · rw [hc] at e3; exact Bool.noConfusion e3.1.2
      · rw [hc] at e3; exact Bool.noConfusion e3.2
    rw [if_neg e3]
  rcases hm with hm | hm | ⟨t, h1, h2, h3⟩
  · unfold leadM at hm
    unfold uch un
    dsimp only
    have e0 : ¬ by' l 0 < 128 := fun e => by rw [if_pos (by omega)] at hm; omega
    rw [if_neg e0, if_neg, if_neg, if_neg]
    · intro h
      simp only [Bool.and_eq_true, beq_iff_eq] at h
      rw [if_neg (by omega), if_neg (by omega), if_neg (by omega), if_pos (by omega)] at hm; omega
    · intro h
      simp only [Bool.and_eq_true, beq_iff_eq] at h
      rw [if_neg (by omega), if_neg (by omega), if_pos (by omega)] at hm; omega
    · intro h
      simp only [Bool.and_eq_true, beq_iff_eq] at h
      rw [if_neg (by omega), if_pos (by omega)] at hm; omega
  · exact key l.length (by omega) hm (by omega)
  · exact key t h1 h2 (fun h => h3 h.2)
theorem uch_good {l : Bs} {m : Nat} (hm : leadM (by' l 0) = m) (hlen : m < l.length) (ht : ∀ t, 1 ≤ t → t ≤ m → 128 ≤ by' l t ∧ by' l t ≤ 191) :
    uch l = if scal (accC l (leadC (by' l 0)) m) ∧ sizeC (accC l (leadC (by' l 0)) m) = m + 1 then accC l (leadC (by' l 0)) m else -1 := by
  have hb := by_lt l 0
  have hc : ∀ t, 1 ≤ t → t ≤ m → con l t = true := fun t h1 h2 => con_iff.2 ⟨by omega, ht t h1 h2⟩
  have hr := leadM_range (by' l 0)
  unfold leadM at hm hr
  unfold uch un
  dsimp only
  by_cases e0 : by' l 0 < 128
  · rw [if_pos (by omega)] at hm
    obtain rfl : m = 0 := by omega
    have hL : leadC (by' l 0) = by' l 0 := by unfold leadC; rw [if_pos (by omega)]
    rw [if_pos e0]
    simp only [accC, hL]
    rw [if_pos ⟨by unfold scal; omega, by unfold sizeC; rw [if_pos (by omega)]; rfl⟩]
  rw [if_neg e0]
  rw [if_neg (by omega)] at hm
  by_cases e1 : (192 : Int) ≤ by' l 0 ∧ (by' l 0 : Int) < 224
  · rw [if_pos e1] at hm
    obtain rfl : m = 1 := by omega
    have hL : leadC (by' l 0) = by' l 0 - 192 := by unfold leadC; rw [if_neg (by omega), if_pos e1]
    have h1 := ht 1 (by omega) (by omega)
    have hA : accC l (by' l 0 - 192 : Int) 1 = (by' l 0 % 32 * 64 + by' l 1 % 64 : Nat) := by simp only [accC, Nat.reduceAdd]; omega
    rw [hL, hA, if_pos (by simp only [Bool.and_eq_true, beq_iff_eq]; exact ⟨by omega, hc 1 (by omega) (by omega)⟩)]
    unfold scal sizeC
    by_cases e2 : by' l 0 % 32 * 64 + by' l 1 % 64 ≥ 128
    · rw [if_pos e2, if_pos ⟨by omega, by rw [if_neg (by omega), if_pos (by omega)]; rfl⟩]
    · rw [if_neg e2, if_neg (fun h => by have := h.2; rw [if_pos (by omega)] at this; omega)]
  rw [if_neg (by simp only [Bool.and_eq_true, beq_iff_eq]; omega)]
  rw [if_neg e1] at hm
  by_cases e2 : (224 : Int) ≤ by' l 0 ∧ (by' l 0 : Int) < 240
  · rw [if_pos e2] at hm
    obtain rfl : m = 2 := by omega
    have hL : leadC (by' l 0) = by' l 0 - 224 := by unfold leadC; rw [if_neg (by omega), if_neg e1, if_pos e2]
    have h1 := ht 1 (by omega) (by omega)
    have h2 := ht 2 (by omega) (by omega)
    have hA : accC l (by' l 0 - 224 : Int) 2 = (by' l 0 % 16 * 4096 + by' l 1 % 64 * 64 + by' l 2 % 64 : Nat) := by simp only [accC, Nat.reduceAdd]; omega
    rw [hL, hA, if_pos (by simp only [Bool.and_eq_true, beq_iff_eq]; exact ⟨⟨by omega, hc 1 (by omega) (by omega)⟩, hc 2 (by omega) (by omega)⟩)]
    unfold scal sizeC
    generalize hn : by' l 0 % 16 * 4096 + by' l 1 % 64 * 64 + by' l 2 % 64 = n
    have hnb : n < 65536 := by omega
    by_cases e3 : (decide (n ≥ 2048) && okRune n) = true
    · rw [if_pos e3]
      simp only [Bool.and_eq_true, decide_eq_true_eq, okRune_iff] at e3
      rw [if_pos ⟨by omega, by rw [if_neg (by omega), if_neg (by omega), if_pos (by omega)]; rfl⟩]
    · rw [if_neg e3]
      simp only [Bool.and_eq_true, decide_eq_true_eq, okRune_iff] at e3
      rw [if_neg]
      rintro ⟨g1, g2⟩
      by_cases e4 : n ≥ 2048
      · exact e3 ⟨e4, by omega⟩
      · split at g2
        · omega
        · rw [if_pos (by omega)] at g2; omega
  rw [if_neg (by simp only [Bool.and_eq_true, beq_iff_eq]; omega)]
  rw [if_neg e2] at hm
  by_cases e3 : (240 : Int) ≤ by' l 0 ∧ (by' l 0 : Int) < 248
  · rw [if_pos e3] at hm
    obtain rfl : m = 3 := by omega
    have hL : leadC (by' l 0) = by' l 0 - 240 := by unfold leadC; rw [if_neg (by omega), if_neg e1, if_neg e2, if_pos e3]
    have h1 := ht 1 (by omega) (by omega)
    have h2 := ht 2 (by omega) (by omega)
    have h3 := ht 3 (by omega) (by omega)
    have hA : accC l (by' l 0 - 240 : Int) 3 = (by' l 0 % 8 * 262144 + by' l 1 % 64 * 4096 + by' l 2 % 64 * 64 + by' l 3 % 64 : Nat) := by simp only [accC, Nat.reduceAdd]; omega
    rw [hL, hA, if_pos (by simp only [Bool.and_eq_true, beq_iff_eq]; exact ⟨⟨⟨by omega, hc 1 (by omega) (by omega)⟩, hc 2 (by omega) (by omega)⟩, hc 3 (by omega) (by omega)⟩)]
    unfold scal sizeC
    generalize hn : by' l 0 % 8 * 262144 + by' l 1 % 64 * 4096 + by' l 2 % 64 * 64 + by' l 3 % 64 = n
    by_cases e4 : (decide (n ≥ 65536) && okRune n) = true
    · rw [if_pos e4]
      simp only [Bool.and_eq_true, decide_eq_true_eq, okRune_iff] at e4
      rw [if_pos ⟨by omega, by rw [if_neg (by omega), if_neg (by omega), if_neg (by omega)]; rfl⟩]
    · rw [if_neg e4]
      simp only [Bool.and_eq_true, decide_eq_true_eq, okRune_iff] at e4
      rw [if_neg]
      rintro ⟨g1, g2⟩
      by_cases e5 : n ≥ 65536
      · exact e4 ⟨e5, by omega⟩
      · split at g2
        · omega
        · split at g2
          · omega
          · rw [if_pos (by omega)] at g2; omega
  · rw [if_neg e3] at hm; omega
/-- A character's unit has its size. -/
theorem usz_size {l : Bs} (_hl : 0 < l.length) : (usz l : Int) = if uch l ≥ 0 then sizeC (uch l) else 1 := by
  unfold usz uch un sizeC
  dsimp only
  have hb := by_lt l 0
  repeat' split
  all_goals simp only [Bool.and_eq_true, decide_eq_true_eq, beq_iff_eq, okRune_iff] at *
  all_goals first | rfl | omega

set_option maxRecDepth 20000 in
set_option maxHeartbeats 400000 in
theorem refsize_any (c : Int) (w : World) (hG : Good w) :
    Calls Tryz.prog 165 #[.int .i32 c] w fun e w' => e = .returned (.int .i64 (sizeC c)) ∧ Below w.heap.size w w' := by
  have hO0 := Own.start hG
  refine enter Tryz.func165 rfl rfl rfl 0 ?_
  refine SC.sr ?_
  refine SO.as ?_
  refine SO.nn ?_
  refine SC.seq ?_
  refine SC.block ?_
  refine SC.sr ?_
  refine SO.mv ?_
  refine SO.v (.lss rfl rfl rfl) ?_
  refine SO.as ?_
  refine SO.nn ?_
  refine SC.dec rfl (fun c1 => ?_) (fun c1 => ?_)
  ·
   refine SC.sr ?_
   refine SO.as ?_
   refine SO.nn ?_
   refine SC.ret ?_
   refine SQ.block_ret ?_
   refine SQ.then_ret ?_
   refine SQ.out (.inl rfl) (res1 rfl rfl) ?_
   refine ⟨?_, hO0.toBelow trivial⟩
   unfold sizeC
   (repeat' split) <;> first | rfl | (exfalso; omega)
  ·
   refine SC.sr ?_
   refine SO.mv ?_
   refine SO.v (.lss rfl rfl rfl) ?_
   refine SO.as ?_
   refine SO.nn ?_
   refine SC.dec rfl (fun c3 => ?_) (fun c3 => ?_)
   ·
    refine SC.sr ?_
    refine SO.as ?_
    refine SO.nn ?_
    refine SC.ret ?_
    refine SQ.block_ret ?_
    refine SQ.then_ret ?_
    refine SQ.out (.inl rfl) (res1 rfl rfl) ?_
    refine ⟨?_, hO0.toBelow trivial⟩
    unfold sizeC
    (repeat' split) <;> first | rfl | (exfalso; omega)
   ·
    refine SC.sr ?_
    refine SO.mv ?_
    refine SO.v (.lss rfl rfl rfl) ?_
    refine SO.as ?_
    refine SO.nn ?_
    refine SC.dec rfl (fun c5 => ?_) (fun c5 => ?_)
    ·
     refine SC.sr ?_
     refine SO.as ?_
     refine SO.nn ?_
     refine SC.ret ?_
     refine SQ.block_ret ?_
     refine SQ.then_ret ?_
     refine SQ.out (.inl rfl) (res1 rfl rfl) ?_
     refine ⟨?_, hO0.toBelow trivial⟩
     unfold sizeC
     (repeat' split) <;> first | rfl | (exfalso; omega)
    ·
     refine SC.skip ?_
     refine SQ.block_normal ?_
     refine SQ.then_normal ?_
     refine SC.sr ?_
     refine SO.as ?_
     refine SO.nn ?_
     refine SC.ret ?_
     refine SQ.out (.inl rfl) (res1 rfl rfl) ?_
     refine ⟨?_, hO0.toBelow trivial⟩
     unfold sizeC
     (repeat' split) <;> first | rfl | (exfalso; omega)

set_option maxRecDepth 20000 in
set_option maxHeartbeats 400000 in
theorem reflead_any (b : Int) (w : World) (hG : Good w) (hb : 0 ≤ b ∧ b ≤ 255) :
    Calls Tryz.prog 189 #[.int .u8 b] w fun e w' => e = .returned (.tuple #[.int .i32 (leadC b), .int .i64 (leadM b)]) ∧ Below w.heap.size w w' := by
  have hO0 := Own.start hG
  refine enter Tryz.func189 rfl rfl rfl 0 ?_
  refine SC.sr ?_
  refine SO.as ?_
  refine SO.as ?_
  refine SO.nn ?_
  refine SC.seq ?_
  refine SC.block ?_
  refine SC.sr ?_
  refine SO.mv ?_
  refine SO.v (.lss rfl rfl rfl) ?_
  refine SO.as ?_
  refine SO.nn ?_
  refine SC.dec rfl (fun c1 => ?_) (fun c1 => ?_)
  ·
   refine SC.sr ?_
   refine SO.mv ?_
   refine SO.v (.conv5_21 rfl rfl (by omega)) ?_
   refine SO.as ?_
   refine SO.as ?_
   refine SO.nn ?_
   refine SC.ret ?_
   refine SQ.block_ret ?_
   refine SQ.then_ret ?_
   refine SQ.out (.inl rfl) (res2 rfl rfl rfl) ?_
   refine ⟨?_, hO0.toBelow trivial⟩
   unfold leadC leadM
   (repeat' split) <;> first | rfl | (exfalso; omega)
  ·
   refine SC.sr ?_
   refine SO.mv ?_
   refine SO.v (.geq rfl rfl rfl) ?_
   refine SO.mv ?_
   refine SO.dec 12 rfl (fun g3 => ?_) (fun g3 => ?_)
   ·
    refine SO.mv ?_
    refine SO.v (.lss rfl rfl rfl) ?_
    refine SO.v (.pickT rfl rfl rfl) ?_
    refine SO.as ?_
    refine SO.nn ?_
    refine SC.dec rfl (fun c4 => ?_) (fun c4 => ?_)
    ·
     refine SC.sr ?_
     refine SO.mv ?_
     refine SO.v (.conv5_21 rfl rfl (by omega)) ?_
     refine SO.v (.sub32 rfl rfl rfl (by omega)) ?_
     refine SO.as ?_
     refine SO.as ?_
     refine SO.nn ?_
     refine SC.ret ?_
     refine SQ.block_ret ?_
     refine SQ.then_ret ?_
     refine SQ.out (.inl rfl) (res2 rfl rfl rfl) ?_
     refine ⟨?_, hO0.toBelow trivial⟩
     unfold leadC leadM
     (repeat' split) <;> first | rfl | (exfalso; omega)
    ·
     refine SC.sr ?_
     refine SO.mv ?_
     refine SO.v (.geq rfl rfl rfl) ?_
     refine SO.mv ?_
     refine SO.dec 22 rfl (fun g6 => ?_) (fun g6 => ?_)
     ·
      refine SO.mv ?_
      refine SO.v (.lss rfl rfl rfl) ?_
      refine SO.v (.pickT rfl rfl rfl) ?_
      refine SO.as ?_
      refine SO.nn ?_
      refine SC.dec rfl (fun c7 => ?_) (fun c7 => ?_)
      ·
       refine SC.sr ?_
       refine SO.mv ?_
       refine SO.v (.conv5_21 rfl rfl (by omega)) ?_
       refine SO.v (.sub32 rfl rfl rfl (by omega)) ?_
       refine SO.as ?_
       refine SO.as ?_
       refine SO.nn ?_
       refine SC.ret ?_
       refine SQ.block_ret ?_
       refine SQ.then_ret ?_
       refine SQ.out (.inl rfl) (res2 rfl rfl rfl) ?_
       refine ⟨?_, hO0.toBelow trivial⟩
       unfold leadC leadM
       (repeat' split) <;> first | rfl | (exfalso; omega)
      ·
       refine SC.sr ?_
       refine SO.mv ?_
       refine SO.v (.geq rfl rfl rfl) ?_
       refine SO.mv ?_
       refine SO.dec 32 rfl (fun g9 => ?_) (fun g9 => ?_)
       ·
        refine SO.mv ?_
        refine SO.v (.lss rfl rfl rfl) ?_
        refine SO.v (.pickT rfl rfl rfl) ?_
        refine SO.as ?_
        refine SO.nn ?_
        refine SC.dec rfl (fun c10 => ?_) (fun c10 => ?_)
        ·
         refine SC.sr ?_
         refine SO.mv ?_
         refine SO.v (.conv5_21 rfl rfl (by omega)) ?_
         refine SO.v (.sub32 rfl rfl rfl (by omega)) ?_
         refine SO.as ?_
         refine SO.as ?_
         refine SO.nn ?_
         refine SC.ret ?_
         refine SQ.block_ret ?_
         refine SQ.then_ret ?_
         refine SQ.out (.inl rfl) (res2 rfl rfl rfl) ?_
         refine ⟨?_, hO0.toBelow trivial⟩
         unfold leadC leadM
         (repeat' split) <;> first | rfl | (exfalso; omega)
        ·
         refine SC.skip ?_
         refine SQ.block_normal ?_
         refine SQ.then_normal ?_
         refine SC.sr ?_
         refine SO.as ?_
         refine SO.as ?_
         refine SO.nn ?_
         refine SC.ret ?_
         refine SQ.out (.inl rfl) (res2 rfl rfl rfl) ?_
         refine ⟨?_, hO0.toBelow trivial⟩
         unfold leadC leadM
         (repeat' split) <;> first | rfl | (exfalso; omega)
       ·
        refine SO.ps ?_
        refine SO.ps ?_
        refine SO.v (.pickF rfl rfl rfl) ?_
        refine SO.as ?_
        refine SO.nn ?_
        refine SC.no rfl ?_
        refine SC.skip ?_
        refine SQ.block_normal ?_
        refine SQ.then_normal ?_
        refine SC.sr ?_
        refine SO.as ?_
        refine SO.as ?_
        refine SO.nn ?_
        refine SC.ret ?_
        refine SQ.out (.inl rfl) (res2 rfl rfl rfl) ?_
        refine ⟨?_, hO0.toBelow trivial⟩
        unfold leadC leadM
        (repeat' split) <;> first | rfl | (exfalso; omega)
     ·
      refine SO.ps ?_
      refine SO.ps ?_
      refine SO.v (.pickF rfl rfl rfl) ?_
      refine SO.as ?_
      refine SO.nn ?_
      refine SC.no rfl ?_
      refine SC.sr ?_
      refine SO.mv ?_
      refine SO.v (.geq rfl rfl rfl) ?_
      refine SO.mv ?_
      refine SO.dec 32 rfl (fun g14 => ?_) (fun g14 => ?_)
      ·
       refine SO.mv ?_
       refine SO.v (.lss rfl rfl rfl) ?_
       refine SO.v (.pickT rfl rfl rfl) ?_
       refine SO.as ?_
       refine SO.nn ?_
       refine SC.dec rfl (fun c15 => ?_) (fun c15 => ?_)
       ·
        refine SC.sr ?_
        refine SO.mv ?_
        refine SO.v (.conv5_21 rfl rfl (by omega)) ?_
        refine SO.v (.sub32 rfl rfl rfl (by omega)) ?_
        refine SO.as ?_
        refine SO.as ?_
        refine SO.nn ?_
        refine SC.ret ?_
        refine SQ.block_ret ?_
        refine SQ.then_ret ?_
        refine SQ.out (.inl rfl) (res2 rfl rfl rfl) ?_
        refine ⟨?_, hO0.toBelow trivial⟩
        unfold leadC leadM
        (repeat' split) <;> first | rfl | (exfalso; omega)
       ·
        refine SC.skip ?_
        refine SQ.block_normal ?_
        refine SQ.then_normal ?_
        refine SC.sr ?_
        refine SO.as ?_
        refine SO.as ?_
        refine SO.nn ?_
        refine SC.ret ?_
        refine SQ.out (.inl rfl) (res2 rfl rfl rfl) ?_
        refine ⟨?_, hO0.toBelow trivial⟩
        unfold leadC leadM
        (repeat' split) <;> first | rfl | (exfalso; omega)
      ·
       refine SO.ps ?_
       refine SO.ps ?_
       refine SO.v (.pickF rfl rfl rfl) ?_
       refine SO.as ?_
       refine SO.nn ?_
       refine SC.no rfl ?_
       refine SC.skip ?_
       refine SQ.block_normal ?_
       refine SQ.then_normal ?_
       refine SC.sr ?_
       refine SO.as ?_
       refine SO.as ?_
       refine SO.nn ?_
       refine SC.ret ?_
       refine SQ.out (.inl rfl) (res2 rfl rfl rfl) ?_
       refine ⟨?_, hO0.toBelow trivial⟩
       unfold leadC leadM
       (repeat' split) <;> first | rfl | (exfalso; omega)
   ·
    refine SO.ps ?_
    refine SO.ps ?_
    refine SO.v (.pickF rfl rfl rfl) ?_
    refine SO.as ?_
    refine SO.nn ?_
    refine SC.no rfl ?_
    refine SC.sr ?_
    refine SO.mv ?_
    refine SO.v (.geq rfl rfl rfl) ?_
    refine SO.mv ?_
    refine SO.dec 22 rfl (fun g19 => ?_) (fun g19 => ?_)
    ·
     refine SO.mv ?_
     refine SO.v (.lss rfl rfl rfl) ?_
     refine SO.v (.pickT rfl rfl rfl) ?_
     refine SO.as ?_
     refine SO.nn ?_
     refine SC.dec rfl (fun c20 => ?_) (fun c20 => ?_)
     ·
      refine SC.sr ?_
      refine SO.mv ?_
      refine SO.v (.conv5_21 rfl rfl (by omega)) ?_
      refine SO.v (.sub32 rfl rfl rfl (by omega)) ?_
      refine SO.as ?_
      refine SO.as ?_
      refine SO.nn ?_
      refine SC.ret ?_
      refine SQ.block_ret ?_
      refine SQ.then_ret ?_
      refine SQ.out (.inl rfl) (res2 rfl rfl rfl) ?_
      refine ⟨?_, hO0.toBelow trivial⟩
      unfold leadC leadM
      (repeat' split) <;> first | rfl | (exfalso; omega)
     ·
      refine SC.sr ?_
      refine SO.mv ?_
      refine SO.v (.geq rfl rfl rfl) ?_
      refine SO.mv ?_
      refine SO.dec 32 rfl (fun g22 => ?_) (fun g22 => ?_)
      ·
       refine SO.mv ?_
       refine SO.v (.lss rfl rfl rfl) ?_
       refine SO.v (.pickT rfl rfl rfl) ?_
       refine SO.as ?_
       refine SO.nn ?_
       refine SC.dec rfl (fun c23 => ?_) (fun c23 => ?_)
       ·
        refine SC.sr ?_
        refine SO.mv ?_
        refine SO.v (.conv5_21 rfl rfl (by omega)) ?_
        refine SO.v (.sub32 rfl rfl rfl (by omega)) ?_
        refine SO.as ?_
        refine SO.as ?_
        refine SO.nn ?_
        refine SC.ret ?_
        refine SQ.block_ret ?_
        refine SQ.then_ret ?_
        refine SQ.out (.inl rfl) (res2 rfl rfl rfl) ?_
        refine ⟨?_, hO0.toBelow trivial⟩
        unfold leadC leadM
        (repeat' split) <;> first | rfl | (exfalso; omega)
       ·
        refine SC.skip ?_
        refine SQ.block_normal ?_
        refine SQ.then_normal ?_
        refine SC.sr ?_
        refine SO.as ?_
        refine SO.as ?_
        refine SO.nn ?_
        refine SC.ret ?_
        refine SQ.out (.inl rfl) (res2 rfl rfl rfl) ?_
        refine ⟨?_, hO0.toBelow trivial⟩
        unfold leadC leadM
        (repeat' split) <;> first | rfl | (exfalso; omega)
      ·
       refine SO.ps ?_
       refine SO.ps ?_
       refine SO.v (.pickF rfl rfl rfl) ?_
       refine SO.as ?_
       refine SO.nn ?_
       refine SC.no rfl ?_
       refine SC.skip ?_
       refine SQ.block_normal ?_
       refine SQ.then_normal ?_
       refine SC.sr ?_
       refine SO.as ?_
       refine SO.as ?_
       refine SO.nn ?_
       refine SC.ret ?_
       refine SQ.out (.inl rfl) (res2 rfl rfl rfl) ?_
       refine ⟨?_, hO0.toBelow trivial⟩
       unfold leadC leadM
       (repeat' split) <;> first | rfl | (exfalso; omega)
    ·
     refine SO.ps ?_
     refine SO.ps ?_
     refine SO.v (.pickF rfl rfl rfl) ?_
     refine SO.as ?_
     refine SO.nn ?_
     refine SC.no rfl ?_
     refine SC.sr ?_
     refine SO.mv ?_
     refine SO.v (.geq rfl rfl rfl) ?_
     refine SO.mv ?_
     refine SO.dec 32 rfl (fun g27 => ?_) (fun g27 => ?_)
     ·
      refine SO.mv ?_
      refine SO.v (.lss rfl rfl rfl) ?_
      refine SO.v (.pickT rfl rfl rfl) ?_
      refine SO.as ?_
      refine SO.nn ?_
      refine SC.dec rfl (fun c28 => ?_) (fun c28 => ?_)
      ·
       refine SC.sr ?_
       refine SO.mv ?_
       refine SO.v (.conv5_21 rfl rfl (by omega)) ?_
       refine SO.v (.sub32 rfl rfl rfl (by omega)) ?_
       refine SO.as ?_
       refine SO.as ?_
       refine SO.nn ?_
       refine SC.ret ?_
       refine SQ.block_ret ?_
       refine SQ.then_ret ?_
       refine SQ.out (.inl rfl) (res2 rfl rfl rfl) ?_
       refine ⟨?_, hO0.toBelow trivial⟩
       unfold leadC leadM
       (repeat' split) <;> first | rfl | (exfalso; omega)
      ·
       refine SC.skip ?_
       refine SQ.block_normal ?_
       refine SQ.then_normal ?_
       refine SC.sr ?_
       refine SO.as ?_
       refine SO.as ?_
       refine SO.nn ?_
       refine SC.ret ?_
       refine SQ.out (.inl rfl) (res2 rfl rfl rfl) ?_
       refine ⟨?_, hO0.toBelow trivial⟩
       unfold leadC leadM
       (repeat' split) <;> first | rfl | (exfalso; omega)
     ·
      refine SO.ps ?_
      refine SO.ps ?_
      refine SO.v (.pickF rfl rfl rfl) ?_
      refine SO.as ?_
      refine SO.nn ?_
      refine SC.no rfl ?_
      refine SC.skip ?_
      refine SQ.block_normal ?_
      refine SQ.then_normal ?_
      refine SC.sr ?_
      refine SO.as ?_
      refine SO.as ?_
      refine SO.nn ?_
      refine SC.ret ?_
      refine SQ.out (.inl rfl) (res2 rfl rfl rfl) ?_
      refine ⟨?_, hO0.toBelow trivial⟩
      unfold leadC leadM
      (repeat' split) <;> first | rfl | (exfalso; omega)

set_option maxRecDepth 20000 in
set_option maxHeartbeats 400000 in
theorem refscalar_any (c : Int) (w : World) (hG : Good w) :
    Calls Tryz.prog 190 #[.int .i32 c] w fun e w' => e = .returned (.bool (decide (scal c))) ∧ Below w.heap.size w w' := by
  have hO0 := Own.start hG
  refine enter Tryz.func190 rfl rfl rfl 0 ?_
  refine SC.sr ?_
  refine SO.as ?_
  refine SO.nn ?_
  refine SC.sr ?_
  refine SO.mv ?_
  refine SO.v (.geq rfl rfl rfl) ?_
  refine SO.mv ?_
  refine SO.dec 5 rfl (fun g1 => ?_) (fun g1 => ?_)
  ·
   refine SO.mv ?_
   refine SO.v (.leq rfl rfl rfl) ?_
   refine SO.v (.pickT rfl rfl rfl) ?_
   refine SO.mv ?_
   refine SO.dec 9 rfl (fun g2 => ?_) (fun g2 => ?_)
   ·
    refine SO.mv ?_
    refine SO.v (.lss rfl rfl rfl) ?_
    refine SO.mv ?_
    refine SO.dec 12 rfl (fun g3 => ?_) (fun g3 => ?_)
    ·
     refine SO.ps ?_
     refine SO.ps ?_
     refine SO.v (.pickT rfl rfl rfl) ?_
     refine SO.v (.pickT rfl rfl rfl) ?_
     refine SO.as ?_
     refine SO.nn ?_
     refine SC.ret ?_
     refine SQ.out (.inl rfl) (res1 rfl rfl) ?_
     refine ⟨?_, hO0.toBelow trivial⟩
     (rw [decide_eq_true (show scal c by unfold scal; omega)])
    ·
     refine SO.mv ?_
     refine SO.v (.gtr rfl rfl rfl) ?_
     refine SO.v (.pickF rfl rfl rfl) ?_
     refine SO.v (.pickT rfl rfl rfl) ?_
     refine SO.as ?_
     refine SO.nn ?_
     refine SC.ret ?_
     refine SQ.out (.inl rfl) (res1 rfl rfl) ?_
     refine ⟨?_, hO0.toBelow trivial⟩
     (congr 2; exact decide_eq_decide.2 (by unfold scal; omega))
   ·
    refine SO.ps ?_
    refine SO.ps ?_
    refine SO.ps ?_
    refine SO.ps ?_
    refine SO.ps ?_
    refine SO.ps ?_
    refine SO.v (.pickF rfl rfl rfl) ?_
    refine SO.as ?_
    refine SO.nn ?_
    refine SC.ret ?_
    refine SQ.out (.inl rfl) (res1 rfl rfl) ?_
    refine ⟨?_, hO0.toBelow trivial⟩
    (rw [decide_eq_false (show ¬ scal c by unfold scal; omega)])
  ·
   refine SO.ps ?_
   refine SO.ps ?_
   refine SO.v (.pickF rfl rfl rfl) ?_
   refine SO.mv ?_
   refine SO.ps ?_
   refine SO.ps ?_
   refine SO.ps ?_
   refine SO.ps ?_
   refine SO.ps ?_
   refine SO.ps ?_
   refine SO.v (.pickF rfl rfl rfl) ?_
   refine SO.as ?_
   refine SO.nn ?_
   refine SC.ret ?_
   refine SQ.out (.inl rfl) (res1 rfl rfl) ?_
   refine ⟨?_, hO0.toBelow trivial⟩
   (rw [decide_eq_false (show ¬ scal c by unfold scal; omega)])

set_option maxRecDepth 20000 in
set_option maxHeartbeats 400000 in
theorem refbegins_any (s : ByteArray) (w : World) (hG : Good w) (hs : 0 < s.size) (_hz : s.size ≤ 4611686018427387904) :
    Calls Tryz.prog 164 #[.string s] w fun e w' => e = .returned (.int .i32 (uch (bl s))) ∧ Below w.heap.size w w' := by
  have hlen : 0 < (bl s).length := hs
  have hb0 := by_lt (bl s) 0
  have hmr := leadM_range (by' (bl s) 0 : Nat)
  have hcr := leadC_range (b := (by' (bl s) 0 : Nat)) (by omega)
  have hsz := bl_length s
  have hO0 := Own.start hG
  refine enter Tryz.func164 rfl rfl rfl 0 ?_
  refine SC.sr ?_
  refine SO.as ?_
  refine SO.nn ?_
  refine SC.sr ?_
  refine SO.mv ?_
  refine SO.v (.indexS0 rfl rfl rfl Tryz.underlying9 hs) ?_
  refine SO.call rfl rfl rfl rfl (.callF rfl rfl en189) (reflead_any _ _ (hO0.good hG) (by have := by_lt (bl s) 0; omega)) ?_
  rintro _ w1 ⟨rfl, hb1⟩
  have hO1 := hO0.below hb1
  refine ⟨_, rfl, ?_⟩
  refine SO.mv ?_
  refine SO.v (.extract rfl rfl rfl) ?_
  refine SO.v (.extract rfl rfl rfl) ?_
  refine SO.as ?_
  refine SO.as ?_
  refine SO.nn ?_
  refine SC.seq ?_
  refine SC.sr ?_
  refine SO.mv ?_
  refine SO.v (.lss rfl rfl rfl) ?_
  refine SO.mv ?_
  refine SO.dec 14 rfl (fun g2 => ?_) (fun g2 => ?_)
  ·
   have hres : uch (bl s) = -1 := uch_bad (.inl (by omega)) hlen
   refine SO.ps ?_
   refine SO.ps ?_
   refine SO.ps ?_
   refine SO.ps ?_
   refine SO.v (.pickT rfl rfl rfl) ?_
   refine SO.nn ?_
   refine SC.yes rfl ?_
   refine SC.sr ?_
   refine SO.as ?_
   refine SO.nn ?_
   refine SC.ret ?_
   refine SQ.then_ret ?_
   refine SQ.out (.inl rfl) (res1 rfl rfl) ?_
   refine ⟨?_, hO1.toBelow trivial⟩
   rw [hres]
  ·
   have hmn : 0 ≤ leadM (by' (bl s) 0 : Nat) := by omega
   refine SO.mv ?_
   refine SO.v (.lenS rfl rfl Tryz.underlying9) ?_
   refine SO.mv ?_
   refine SO.v (.leq rfl rfl rfl) ?_
   refine SO.v (.pickF rfl rfl rfl) ?_
   refine SO.nn ?_
   refine SC.dec rfl (fun c4 => ?_) (fun c4 => ?_)
   ·
    have hres : uch (bl s) = -1 := uch_bad (.inr (.inl (by omega))) hlen
    refine SC.sr ?_
    refine SO.as ?_
    refine SO.nn ?_
    refine SC.ret ?_
    refine SQ.then_ret ?_
    refine SQ.out (.inl rfl) (res1 rfl rfl) ?_
    refine ⟨?_, hO1.toBelow trivial⟩
    rw [hres]
   ·
    refine SC.skip ?_
    refine SQ.then_normal ?_
    refine SC.seq ?_
    refine SC.sr ?_
    refine SO.as ?_
    refine SO.nn ?_
    refine SC.block ?_
    refine SC.loop (α := Nat) (fun x => [(0, .string s), (3, .int .i32 (accC (bl s) (leadC (by' (bl s) 0 : Nat)) x)), (4, .int .i64 (leadM (by' (bl s) 0 : Nat))), (5, .int .i64 ((x : Int) + 1))]) (fun x v => (x : Int) ≤ leadM (by' (bl s) 0 : Nat) ∧ (∀ t, 1 ≤ t → t ≤ x → 128 ≤ by' (bl s) t ∧ by' (bl s) t ≤ 191) ∧ Ow.Own w [] v) (fun x => 4 - x) 0 ?_ ?_ ?_
    · exact ⟨rfl, rfl, rfl, rfl, trivial⟩
    · exact ⟨by omega, fun t h1 h2 => by omega, hO1⟩
    rintro x w6 ⟨hx, hall, hO6⟩
    have har := accC_range (bl s) (leadC (by' (bl s) 0 : Nat)) hcr x (by omega) hall
    refine SC.seq ?_
    refine SC.sr ?_
    refine SO.mv ?_
    refine SO.mv ?_
    refine SO.v (.leq rfl rfl rfl) ?_
    refine SO.nn ?_
    refine SC.dec rfl (fun c7 => ?_) (fun c7 => ?_)
    ·
     have har2 := accC_range2 (bl s) (leadC (by' (bl s) 0 : Nat)) hcr x (by omega) hall
     have hxb := by_lt (bl s) ((x : Int) + 1).toNat
     have hxe : ((x : Int) + 1).toNat = x + 1 := by omega
     rw [hxe] at hxb
     refine SC.skip ?_
     refine SQ.then_normal ?_
     refine SC.seq ?_
     refine SC.block ?_
     refine SC.seq ?_
     refine SC.sr ?_
     refine SO.mv ?_
     refine SO.mv ?_
     refine SO.v (.indexS rfl rfl rfl Tryz.underlying9 (by omega)) ?_
     refine SO.v (.lss rfl rfl rfl) ?_
     refine SO.mv ?_
     refine SO.dec 29 rfl (fun g8 => ?_) (fun g8 => ?_)
     ·
      have hres1 : ¬ (128 ≤ by' (bl s) (x + 1) ∧ by' (bl s) (x + 1) ≤ 191) := by rw [← hxe]; omega
      have hres : uch (bl s) = -1 := uch_bad (.inr (.inr ⟨x + 1, by omega, by omega, hres1⟩)) hlen
      refine SO.ps ?_
      refine SO.ps ?_
      refine SO.ps ?_
      refine SO.ps ?_
      refine SO.v (.pickT rfl rfl rfl) ?_
      refine SO.nn ?_
      refine SC.yes rfl ?_
      refine SC.sr ?_
      refine SO.as ?_
      refine SO.nn ?_
      refine SC.ret ?_
      refine SQ.then_ret ?_
      refine SQ.block_ret ?_
      refine SQ.then_ret ?_
      refine SQ.then_ret ?_
      refine SQ.block_ret ?_
      refine SQ.then_ret ?_
      refine SQ.out (.inl rfl) (res1 rfl rfl) ?_
      refine ⟨?_, hO6.toBelow trivial⟩
      rw [hres]
     ·
      refine SO.mv ?_
      refine SO.mv ?_
      refine SO.v (.indexS rfl rfl rfl Tryz.underlying9 (by omega)) ?_
      refine SO.v (.gtr rfl rfl rfl) ?_
      refine SO.v (.pickF rfl rfl rfl) ?_
      refine SO.nn ?_
      refine SC.dec rfl (fun c10 => ?_) (fun c10 => ?_)
      ·
       have hres : uch (bl s) = -1 := uch_bad (.inr (.inr ⟨x + 1, by omega, by omega, by rw [← hxe]; omega⟩)) hlen
       refine SC.sr ?_
       refine SO.as ?_
       refine SO.nn ?_
       refine SC.ret ?_
       refine SQ.then_ret ?_
       refine SQ.block_ret ?_
       refine SQ.then_ret ?_
       refine SQ.then_ret ?_
       refine SQ.block_ret ?_
       refine SQ.then_ret ?_
       refine SQ.out (.inl rfl) (res1 rfl rfl) ?_
       refine ⟨?_, hO6.toBelow trivial⟩
       rw [hres]
      ·
       have hby : 128 ≤ by' (bl s) ((x : Int) + 1).toNat ∧ by' (bl s) ((x : Int) + 1).toNat ≤ 191 := by omega
       have hall2 : ∀ t, 1 ≤ t → t ≤ x + 1 → 128 ≤ by' (bl s) t ∧ by' (bl s) t ≤ 191 := fun t h1 h2 => by
           by_cases e : t = x + 1
           · subst e; rw [← hxe]; exact hby
           · exact hall t h1 (by omega)
       rw [hxe] at hby
       refine SC.skip ?_
       refine SQ.then_normal ?_
       refine SC.region ?_
       refine SO.mv ?_
       refine SO.v (.mul32 rfl rfl rfl (by omega)) ?_
       refine SO.mv ?_
       refine SO.mv ?_
       refine SO.v (.indexS rfl rfl rfl Tryz.underlying9 (by omega)) ?_
       refine SO.v (.conv5_21 rfl rfl (by omega)) ?_
       refine SO.v (.add32 rfl rfl rfl (by omega)) ?_
       refine SO.v (.sub32 rfl rfl rfl (by omega)) ?_
       refine SO.as ?_
       refine SO.nil ?_
       refine SQ.block_normal ?_
       refine SQ.then_normal ?_
       refine SC.region ?_
       refine SO.mv ?_
       refine SO.v (.add rfl rfl rfl (by omega)) ?_
       refine SO.as ?_
       refine SO.nil ?_
       refine SQ.round (x + 1) (by omega) ⟨rfl, rfl, rfl, rfl, trivial⟩ ⟨by omega, hall2, hO6⟩
    ·
     obtain ⟨m, hm⟩ := Int.eq_ofNat_of_zero_le (show 0 ≤ leadM (by' (bl s) 0 : Nat) by omega)
     obtain rfl : x = m := by omega
     have hgood := uch_good (l := bl s) (m := x) hm (by omega) hall
     refine SC.exit ?_
     refine SQ.then_exit ?_
     refine SQ.then_exit ?_
     refine SQ.block_exit ?_
     refine SQ.then_normal ?_
     refine SC.seq ?_
     refine SC.sr ?_
     refine SO.mv ?_
     refine SO.call rfl rfl rfl rfl (.callF rfl rfl en190) (refscalar_any _ _ (hO6.good hG)) ?_
     rintro _ w12 ⟨rfl, hb12⟩
     have hO12 := hO6.below hb12
     refine ⟨_, rfl, ?_⟩
     refine SO.v (.notD rfl rfl) ?_
     refine SO.mv ?_
     refine SO.dec 46 rfl (fun g13 => ?_) (fun g13 => ?_)
     ·
      refine SO.ps ?_
      refine SO.ps ?_
      refine SO.ps ?_
      refine SO.ps ?_
      refine SO.ps ?_
      refine SO.v (.pickT rfl rfl rfl) ?_
      refine SO.nn ?_
      refine SC.yes rfl ?_
      refine SC.sr ?_
      refine SO.as ?_
      refine SO.nn ?_
      refine SC.ret ?_
      refine SQ.then_ret ?_
      refine SQ.out (.inl rfl) (res1 rfl rfl) ?_
      refine ⟨?_, hO12.toBelow trivial⟩
      rw [hgood, if_neg (fun h => absurd h.1 (by assumption))]
     ·
      refine SO.mv ?_
      refine SO.call rfl rfl rfl rfl (.callF rfl rfl en165) (refsize_any _ _ (hO12.good hG)) ?_
      rintro _ w15 ⟨rfl, hb15⟩
      have hO15 := hO12.below hb15
      refine ⟨_, rfl, ?_⟩
      refine SO.mv ?_
      refine SO.v (.add rfl rfl rfl (by omega)) ?_
      refine SO.v (.neq rfl rfl rfl) ?_
      refine SO.v (.pickF rfl rfl rfl) ?_
      refine SO.nn ?_
      refine SC.dec rfl (fun c16 => ?_) (fun c16 => ?_)
      ·
       refine SC.sr ?_
       refine SO.as ?_
       refine SO.nn ?_
       refine SC.ret ?_
       refine SQ.then_ret ?_
       refine SQ.out (.inl rfl) (res1 rfl rfl) ?_
       refine ⟨?_, hO15.toBelow trivial⟩
       rw [hgood, if_neg (fun h => by omega)]
      ·
       refine SC.skip ?_
       refine SQ.then_normal ?_
       refine SC.sr ?_
       refine SO.mv ?_
       refine SO.as ?_
       refine SO.nn ?_
       refine SC.ret ?_
       refine SQ.out (.inl rfl) (res1 rfl rfl) ?_
       refine ⟨?_, hO15.toBelow trivial⟩
       rw [hgood, if_pos ⟨Decidable.not_not.1 (by assumption), by omega⟩]

end Go.Proofs.YtclgplkkajfenaaGreatDoor
