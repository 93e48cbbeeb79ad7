/- words: Ahead, Behind. -/
import Derived.Test.YtclgplkkajfenaaGreatDoorWor3
namespace Go.Proofs.YtclgplkkajfenaaGreatDoor
open Go Go.RowKit Ow
def wAhF : List (Int × Int) → Int → Int → Int
  | [], _, n => n
  | c :: r, a, n => if c.2 > a then c.2 else wAhF r a n
def wBeF : List (Int × Int) → Int → Int → Int
  | [], _, f => f
  | c :: r, a, f => wBeF r a (if c.1 < a then c.1 else f)
def wAhead (s : ByteArray) (a : Int) : Int := wAhF (wSpans (bl s)) (min (max a 0) s.size) s.size
def wBehind (s : ByteArray) (a : Int) : Int := wBeF (wSpans (bl s)) (min (max a 0) s.size) 0
theorem wSpans_len (l : Bs) : (wSpans l).length ≤ l.length := Nat.le_trans (wFold_len l _ _ rfl).1 (clusters_length l)
theorem wAhF_drop (xs : List (Int × Int)) (x : Nat) (h : x < xs.length) (a n : Int) : wAhF (xs.drop x) a n = if (xs[x]).2 > a then (xs[x]).2 else wAhF (xs.drop (x + 1)) a n := by
  rw [List.drop_eq_getElem_cons h, wAhF]
theorem wBeF_drop (xs : List (Int × Int)) (x : Nat) (h : x < xs.length) (a f : Int) : wBeF (xs.drop x) a f = wBeF (xs.drop (x + 1)) a (if (xs[x]).1 < a then (xs[x]).1 else f) := by
  rw [List.drop_eq_getElem_cons h, wBeF]

set_option maxRecDepth 20000 in
set_option maxHeartbeats 400000 in
theorem ahead_any (s : ByteArray) (a : Int) (w : World) (hG : Good w) (hz : s.size ≤ 1099511627776) :
    Calls Tryz.prog 203 #[.string s, .int .i64 a] w fun e w' => e = .returned (.int .i64 (wAhead s a)) ∧ Below w.heap.size w w' := by
  obtain ⟨a2, ha2⟩ : ∃ a2, a2 = min (max a 0) (s.size : Int) := ⟨_, rfl⟩
  have hO0 := Own.start hG
  refine enter Tryz.func203 rfl rfl rfl 0 ?_
  refine SC.sr ?_
  refine SO.as ?_
  refine SO.nn ?_
  refine SC.sr ?_
  refine SO.mv ?_
  refine SO.v (.maxI rfl rfl rfl) ?_
  refine SO.mv ?_
  refine SO.v (.lenS rfl rfl Tryz.underlying9) ?_
  refine SO.v (.minI rfl rfl rfl) ?_
  refine SO.as ?_
  refine SO.nn ?_
  refine SC.seq ?_
  refine SC.sr ?_
  refine SO.mv ?_
  refine SO.call rfl rfl rfl rfl (.callF rfl rfl en213) (wspans_any s _ (hO0.good hG) hz) ?_
  rintro _ w1 ⟨v, rfl, hrow, hb1⟩
  have hOb := hO0.below hb1
  have hGb := hOb.good hG
  have hBb := hOb.toBelow trivial
  have hsl := wSpans_len (bl s)
  rw [bl_length] at hsl
  obtain ⟨gv, capv, rfl, hcapv, hmv, hcellv⟩ := hrow.rows encS_len (by omega)
  have hO1 := Own.start hGb
  refine ⟨_, rfl, ?_⟩
  refine SO.v (.lenA rfl rfl Tryz.underlying111) ?_
  refine SO.mv ?_
  refine SO.nn ?_
  refine SC.block ?_
  refine SC.loop (α := Nat) (fun x => [(0, .string s), (1, .int .i64 (min (max a 0) (s.size : Int))), (13, .slice gv (wSpans (bl s)).length capv), (14, .int .i64 ((wSpans (bl s)).length : Int)), (15, .int .i64 (x : Int))]) (fun x v => x ≤ (wSpans (bl s)).length ∧ wAhF ((wSpans (bl s)).drop x) (min (max a 0) (s.size : Int)) s.size = wAhead s a ∧ Ow.Own w1 [] v) (fun x => (wSpans (bl s)).length - x) 0 ?_ ?_ ?_
  · exact ⟨rfl, rfl, rfl, rfl, rfl, trivial⟩
  · exact ⟨Nat.zero_le _, rfl, hO1⟩
  rintro x w2 ⟨hx, hit, hO2⟩
  refine SC.sr ?_
  refine SO.v (.lss rfl rfl rfl) ?_
  refine SO.nn ?_
  refine SC.seq ?_
  refine SC.dec rfl (fun c3 => ?_) (fun c3 => ?_)
  ·
   have hx2 : x < (wSpans (bl s)).length := by omega
   obtain ⟨c, hc⟩ : ∃ c, ((wSpans (bl s)))[x]'hx2 = c := ⟨_, rfl⟩
   obtain ⟨gx, rfl, hcx⟩ := hcellv x c (by rw [List.getElem?_eq_getElem hx2, hc])
   rw [← Int.toNat_natCast x] at hcx
   have hcw := fun j u hu => hcx j u hu
   rw [wAhF_drop (wSpans (bl s)) x hx2, hc] at hit
   refine SC.skip ?_
   refine SQ.then_normal ?_
   refine SC.seq ?_
   refine SC.block ?_
   refine SC.sr ?_
   refine SO.v (.indexAddr rfl rfl rfl Tryz.underlying111 sz41 (by omega) (by omega)) ?_
   refine SO.v (.loadN (cs := [_, _]) rfl rfl ag41 sz41 (fun j u hj => (hO2.cellO trivial (hcw j u hj)))) ?_
   refine SO.alloc hO2 rfl rfl rfl rfl zv41 [_, _] rfl ?_
   intro b4 w4 hb4 hO4
   refine SO.store hO4 (i := 0) rfl rfl rfl rfl rfl rfl sz41 rfl rfl [(_, .cells [_, _].toArray _ _)] rfl ?_
   intro w5 hO5
   refine SO.nn ?_
   refine SC.sr ?_
   refine SO.v (.fieldAddr rfl rfl fa41_1) ?_
   refine SO.v (.load rfl rfl ag3 (cell_of' (hO5.at (i := 0) rfl) rfl)) ?_
   refine SO.mv ?_
   refine SO.v (.gtr rfl rfl rfl) ?_
   refine SO.nn ?_
   refine SC.dec rfl (fun c6 => ?_) (fun c6 => ?_)
   ·
    rw [if_pos (by assumption)] at hit
    refine SC.sr ?_
    refine SO.v (.fieldAddr rfl rfl fa41_1) ?_
    refine SO.v (.load rfl rfl ag3 (cell_of' (hO5.at (i := 0) rfl) rfl)) ?_
    refine SO.as ?_
    refine SO.nn ?_
    refine SC.ret ?_
    refine SQ.block_ret ?_
    refine SQ.then_ret ?_
    refine SQ.then_ret ?_
    refine SQ.block_ret ?_
    refine SQ.then_ret ?_
    refine SQ.out (.inl rfl) (res1 rfl rfl) ?_
    exact ⟨by rw [← hit]; rfl, hBb.trans ((hO5.toBelow ⟨hb4, trivial⟩).mono hBb.size)⟩
   ·
    rw [if_neg (by assumption)] at hit
    have hit2 := hit
    refine SC.skip ?_
    refine SQ.block_normal ?_
    refine SQ.then_normal ?_
    refine SC.region ?_
    refine SO.v (.add rfl rfl rfl (by omega)) ?_
    refine SO.mv ?_
    refine SO.nil ?_
    refine SQ.round (x + 1) (by omega) ⟨rfl, rfl, rfl, rfl, rfl, trivial⟩ ⟨by omega, hit2, (hO5.tail hb4)⟩
  ·
   have hno : wAhead s a = s.size := by rw [← hit, List.drop_of_length_le (by omega)]; rfl
   refine SC.exit ?_
   refine SQ.then_exit ?_
   refine SQ.then_exit ?_
   refine SQ.block_exit ?_
   refine SQ.then_normal ?_
   refine SC.sr ?_
   refine SO.mv ?_
   refine SO.v (.lenS rfl rfl Tryz.underlying9) ?_
   refine SO.as ?_
   refine SO.nn ?_
   refine SC.ret ?_
   refine SQ.out (.inl rfl) (res1 rfl rfl) ?_
   exact ⟨by rw [hno], hBb.trans ((hO2.toBelow trivial).mono hBb.size)⟩

set_option maxRecDepth 20000 in
set_option maxHeartbeats 400000 in
theorem behind_any (s : ByteArray) (a : Int) (w : World) (hG : Good w) (hz : s.size ≤ 1099511627776) :
    Calls Tryz.prog 202 #[.string s, .int .i64 a] w fun e w' => e = .returned (.int .i64 (wBehind s a)) ∧ Below w.heap.size w w' := by
  have hO0 := Own.start hG
  refine enter Tryz.func202 rfl rfl rfl 0 ?_
  refine SC.sr ?_
  refine SO.as ?_
  refine SO.nn ?_
  refine SC.sr ?_
  refine SO.mv ?_
  refine SO.v (.maxI rfl rfl rfl) ?_
  refine SO.mv ?_
  refine SO.v (.lenS rfl rfl Tryz.underlying9) ?_
  refine SO.v (.minI rfl rfl rfl) ?_
  refine SO.as ?_
  refine SO.nn ?_
  refine SC.sr ?_
  refine SO.as ?_
  refine SO.nn ?_
  refine SC.seq ?_
  refine SC.sr ?_
  refine SO.mv ?_
  refine SO.call rfl rfl rfl rfl (.callF rfl rfl en213) (wspans_any s _ (hO0.good hG) hz) ?_
  rintro _ w1 ⟨v, rfl, hrow, hb1⟩
  have hOb := hO0.below hb1
  have hGb := hOb.good hG
  have hBb := hOb.toBelow trivial
  have hsl := wSpans_len (bl s)
  rw [bl_length] at hsl
  obtain ⟨gv, capv, rfl, hcapv, hmv, hcellv⟩ := hrow.rows encS_len (by omega)
  have hO1 := Own.start hGb
  refine ⟨_, rfl, ?_⟩
  refine SO.v (.lenA rfl rfl Tryz.underlying111) ?_
  refine SO.mv ?_
  refine SO.nn ?_
  refine SC.block ?_
  refine SC.loop (α := Nat × Int) (fun x => [(0, .string s), (1, .int .i64 (min (max a 0) (s.size : Int))), (5, .int .i64 x.2), (14, .slice gv (wSpans (bl s)).length capv), (15, .int .i64 ((wSpans (bl s)).length : Int)), (16, .int .i64 (x.1 : Int))]) (fun x v => x.1 ≤ (wSpans (bl s)).length ∧ wBeF ((wSpans (bl s)).drop x.1) (min (max a 0) (s.size : Int)) x.2 = wBehind s a ∧ Ow.Own w1 [] v) (fun x => (wSpans (bl s)).length - x.1) (0, 0) ?_ ?_ ?_
  · exact ⟨rfl, rfl, rfl, rfl, rfl, rfl, trivial⟩
  · exact ⟨Nat.zero_le _, rfl, hO1⟩
  rintro ⟨x, f⟩ w2 ⟨hx, hit, hO2⟩
  simp only at hx hit
  show SC _ _ _ _ _ _ _ [(0, .string s), (1, .int .i64 (min (max a 0) (s.size : Int))), (5, .int .i64 f), (14, .slice gv (wSpans (bl s)).length capv), (15, .int .i64 ((wSpans (bl s)).length : Int)), (16, .int .i64 (x : Int))] _
  refine SC.sr ?_
  refine SO.v (.lss rfl rfl rfl) ?_
  refine SO.nn ?_
  refine SC.seq ?_
  refine SC.dec rfl (fun c3 => ?_) (fun c3 => ?_)
  ·
   have hx2 : x < (wSpans (bl s)).length := by omega
   obtain ⟨c, hc⟩ : ∃ c, ((wSpans (bl s)))[x]'hx2 = c := ⟨_, rfl⟩
   obtain ⟨gx, rfl, hcx⟩ := hcellv x c (by rw [List.getElem?_eq_getElem hx2, hc])
   rw [← Int.toNat_natCast x] at hcx
   have hcw := fun j u hu => hcx j u hu
   rw [wBeF_drop (wSpans (bl s)) x hx2, hc] at hit
   refine SC.skip ?_
   refine SQ.then_normal ?_
   refine SC.seq ?_
   refine SC.block ?_
   refine SC.sr ?_
   refine SO.v (.indexAddr rfl rfl rfl Tryz.underlying111 sz41 (by omega) (by omega)) ?_
   refine SO.v (.loadN (cs := [_, _]) rfl rfl ag41 sz41 (fun j u hj => (hO2.cellO trivial (hcw j u hj)))) ?_
   refine SO.alloc hO2 rfl rfl rfl rfl zv41 [_, _] rfl ?_
   intro b4 w4 hb4 hO4
   refine SO.store hO4 (i := 0) rfl rfl rfl rfl rfl rfl sz41 rfl rfl [(_, .cells [_, _].toArray _ _)] rfl ?_
   intro w5 hO5
   refine SO.nn ?_
   refine SC.sr ?_
   refine SO.v (.fieldAddr rfl rfl fa41_0) ?_
   refine SO.v (.load rfl rfl ag3 (cell_of' (hO5.at (i := 0) rfl) rfl)) ?_
   refine SO.mv ?_
   refine SO.v (.lss rfl rfl rfl) ?_
   refine SO.nn ?_
   refine SC.dec rfl (fun c6 => ?_) (fun c6 => ?_)
   ·
    rw [if_pos (by assumption)] at hit
    refine SC.region ?_
    refine SO.v (.fieldAddr rfl rfl fa41_0) ?_
    refine SO.v (.load rfl rfl ag3 (cell_of' (hO5.at (i := 0) rfl) rfl)) ?_
    refine SO.as ?_
    refine SO.nil ?_
    refine SQ.block_normal ?_
    refine SQ.then_normal ?_
    refine SC.region ?_
    refine SO.v (.add rfl rfl rfl (by omega)) ?_
    refine SO.mv ?_
    refine SO.nil ?_
    first | exact SQ.round (x + 1, _) (by simp only; omega) ⟨rfl, rfl, rfl, rfl, rfl, rfl, trivial⟩ ⟨by simp only; omega, hit, (hO5.tail hb4)⟩
   ·
    rw [if_neg (by assumption)] at hit
    refine SC.skip ?_
    refine SQ.block_normal ?_
    refine SQ.then_normal ?_
    refine SC.region ?_
    refine SO.v (.add rfl rfl rfl (by omega)) ?_
    refine SO.mv ?_
    refine SO.nil ?_
    first | exact SQ.round (x + 1, _) (by simp only; omega) ⟨rfl, rfl, rfl, rfl, rfl, rfl, trivial⟩ ⟨by simp only; omega, hit, (hO5.tail hb4)⟩
  ·
   have hno : wBehind s a = f := by rw [← hit, List.drop_of_length_le (by omega)]; rfl
   refine SC.exit ?_
   refine SQ.then_exit ?_
   refine SQ.then_exit ?_
   refine SQ.block_exit ?_
   refine SQ.then_normal ?_
   refine SC.sr ?_
   refine SO.mv ?_
   refine SO.as ?_
   refine SO.nn ?_
   refine SC.ret ?_
   refine SQ.out (.inl rfl) (res1 rfl rfl) ?_
   exact ⟨by rw [hno], hBb.trans ((hO2.toBelow trivial).mono hBb.size)⟩

end Go.Proofs.YtclgplkkajfenaaGreatDoor
