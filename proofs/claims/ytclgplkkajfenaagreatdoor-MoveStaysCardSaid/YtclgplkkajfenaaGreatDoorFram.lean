/- What a walk gives, as the rows ask it; arguments opened; closed facts. -/
import Derived.Test.YtclgplkkajfenaaGreatDoorCards
import Derived.Test.YtclgplkkajfenaaGreatDoorTie
import Derived.Test.YtclgplkkajfenaaGreatDoorCalc
import Derived.WalkKit
import Derived.ProofKit
import Derived.OpenShut
import Derived.Deep.DeepHandedRow
import Derived.Lib.LaidU8
import Derived.SevenTiedAt
import Derived.Carry
import Derived.Deep.Strs
import Derived.JoinedCond
/- What a law's walk gives, as the row asks it: the input is read, and reads as it did. -/
           namespace Go.Proofs.YtclgplkkajfenaaGreatDoor.Frame
open Go Go.ChangeShapes Go.WideShapes Go.ChangeAt Go.RowKit
section
variable {H : Type} {enc : TypeId × Value → H} {P : Program}
theorem trodAll_stays (hl : laidOutB P = true) {W W' : World} {sp : Nat → Bool} : ∀ {ts : List TypeId} {vs : List Value} {ds : List (DataW H)} {ps : List MemPlace}, (∀ t ∈ ts, P.readableRec t = true ∧ t < P.types.size) →
    DataW.TrodAll enc P W 0 (fun _ => true) true ts vs ds ps → (∀ p ∈ ps, W.sameAt W' p) → (∀ p ∈ ps, sp p.block = true) → DataW.TrodAll enc P W' 0 sp true ts vs ds ps
  | [], _, _, _, _, h, _, _ => by
    obtain ⟨rfl, rfl, rfl⟩ := trodAll_nil h
    exact trodAll_mk0
  | t :: ts, _, _, _, hr, h, hs, hp => by
    obtain ⟨v, vs', d, ds', p, q, rfl, rfl, rfl, h1, h2⟩ := trodAll_cons h
    refine trodAll_cons_mk (WideElems.Trod_stays hl (hr t (by simp)).1 (hr t (by simp)).2 h1 (fun x hx => hs x (List.mem_append.2 (.inl hx))) (fun x hx => hp x (List.mem_append.2 (.inl hx))))
      (trodAll_stays hl (fun u hu => hr u (List.mem_cons_of_mem _ hu)) h2 (fun x hx => hs x (List.mem_append.2 (.inr hx))) (fun x hx => hp x (List.mem_append.2 (.inr hx))))
theorem post_true {f : Func} {s : ChangeSpec} {apart fresh handsOn again : Bool} {W W' : World} {args : Array Value} {ds gs : List (DataW H)} {before : List MemPlace} (hl : laidOutB P = true)
    (hpar : ∀ t ∈ f.params.toList, P.readableRec t = true ∧ t < P.types.size) (hvars : s.vars = []) (hrt : f.resultTypes = #[4]) (h4 : P.underlying 4 = some .bool)
    (hW : DataW.Whole enc P f.params.toList s.vars apart W args.toList ds gs before) (hfn : s.fn H (ds ++ gs) = { results := [.lit (.bool true)], args := ds }) (hb : Below W.heap.size W W') :
    s.post enc P f apart fresh handsOn again W args (.bool true) W' := by
  have hW0 := hW
  obtain ⟨pa, pv, hA, hV, rfl, hz, hn⟩ := hW
  rw [hvars] at hV
  obtain ⟨rfl, rfl⟩ := trodVars_none hV
  have hlt := hW0.lt
  have hres : ∀ (b : Nat) (sp : Nat → Bool) (hd : Bool), DataW.TrodAll enc P W' b sp hd f.resultTypes.toList ((Value.bool true).resultList f.resultTypes.size) (s.fn H (ds ++ [])).results [] := fun b sp hd => by
    rw [hfn, hrt]; exact trodAll_mk1 (shut_bool h4 _)
  have hargs : ∀ sp : Nat → Bool, (∀ p ∈ pa ++ [], sp p.block = true) → DataW.TrodAll enc P W' 0 sp true f.params.toList args.toList (s.fn H (ds ++ [])).args pa := fun sp hsp => by
    rw [hfn]
    exact trodAll_stays hl hpar hA (fun p hp => hb.same (hlt p (by simpa using hp))) (fun p hp => hsp p (by simpa using hp))
  have hvs : ∀ sp : Nat → Bool, DataW.TrodVars enc P W' sp s.vars (s.fn H (ds ++ [])).vars [] := fun sp => by rw [hvars, hfn]; exact hV
  have hold : ∀ p ∈ pa ++ [], (fun b => decide (b < W.heap.size)) p.block = true := fun p hp => by simpa using hlt p hp
  refine ⟨ds, [], pa ++ [], [], pa, [], hW0, hres _ _ _, hargs _ hold, hvs _, World.keptBut_mono (fun p hp => ⟨hp, ?_⟩) (hb.frame (· ∈ pa ++ [])), fun _ => ?_⟩
  · simp only [List.append_nil] at hp
    exact Or.inr (Or.inl hp)
  · refine ⟨ok_one hrt rfl (okWide_bool_mk h4 _), _, _, ([] ++ pa) ++ [], ⟨[] ++ pa, [], trodAll_append (hargs _ (fun _ _ => rfl)) (hres _ _ _), hvs _, rfl, ?_, ?_⟩, ?_⟩
    · intro b off hp
      have hp' : (MemPlace.cell b off) ∈ pa ++ [] := by simpa using hp
      rw [hb.frozen (hlt _ hp')]
      exact hz b off hp'
    · intro ha
      have := hn ha
      simpa using this
    · intro p hp _
      simpa using hp
end
/-- The row's list: the library's two tables. -/
def laidL : List (String × DataW Unit) := [("unicode/utf8.acceptRanges", Rows.laid_unicode_utf8_acceptRanges), ("unicode/utf8.first", Rows.laid_unicode_utf8_first)]
theorem acc_eq : Rows.laid_unicode_utf8_acceptRanges = Lib.acceptData := by kernel_rfl
theorem first_eq : Rows.laid_unicode_utf8_first = Lib.firstData := by kernel_rfl
theorem noHandle : (laidL.filter fun x => x.2.handleName?.isSome) = [] := by kernel_rfl
theorem good_of {W : World} (h : laidMetH Tryz.prog laidL W) : Good W := by
  unfold laidMetH at h
  rw [noHandle] at h
  have h' : laidMet Tryz.prog laidL W := h
  have m1 : ("unicode/utf8.acceptRanges", Lib.acceptData) ∈ laidL := by rw [← acc_eq]; exact .head _
  have m2 : ("unicode/utf8.first", Lib.firstData) ∈ laidL := by rw [← first_eq]; exact .tail _ (.head _)
  exact utf8Tabs_of_reads (ρ := Tryz.lays260_ren) Tryz.lays260 ⟨by kernel_rfl, by kernel_rfl, by kernel_rfl, by kernel_rfl, by kernel_rfl, by kernel_rfl, by kernel_rfl⟩ (Lib.laidMet.reads h' m2) (Lib.laidMet.reads h' m1)
def relay (c : Array Value) : Obj → Obj
  | .cells _ t frozen => .cells c t frozen
  | o => o
def firstC : Array Value := ((List.range 256).map fun c => Value.int .u8 (Lib.firstT c : Int)).toArray
def accC : Array Value := (((List.range 16).map fun i => [Value.int .u8 (Lib.accLo i : Int), Value.int .u8 (Lib.accHi i : Int)]).flatten).toArray
/-- A world for the witness: the settled one, the tables holding what their initialisers lay. -/
noncomputable def laidWorld (os : Os) : World :=
  { World.holding Tryz.prog os ⟨#[], #[], []⟩ with heap := ((World.holding Tryz.prog os ⟨#[], #[], []⟩).heap.modify 0 (relay firstC)).modify 1 (relay accC) }
theorem own : ownKnob Tryz.prog.godebug = none := by kernel_rfl
theorem lays : laidOutB Tryz.prog = true := by kernel_rfl
end Go.Proofs.YtclgplkkajfenaaGreatDoor.Frame
/- The laws' arguments, opened. -/
namespace Go.Proofs.YtclgplkkajfenaaGreatDoor.Frame
open Go Go.ChangeShapes Go.WideShapes Go.ChangeAt Go.RowKit
set_option maxRecDepth 100000
section
variable {P : Program} {W : World} {base : Nat} {t : TypeId} {v : Value}
theorem g_str (ht : P.underlying t = some .string) (h : Cell.okWide P W .any base t v) : ∃ s, v = .string s := by
  simp only [Cell.okWide, ht, Cell.ok] at h
  cases v <;> simp at h
  exact ⟨_, rfl⟩
theorem g_int (ht : P.underlying t = some (.int .i64)) (h : Cell.okWide P W .any base t v) : ∃ n, v = .int .i64 n ∧ -9223372036854775808 ≤ n ∧ n ≤ 9223372036854775807 := by
  simp only [Cell.okWide, ht, Cell.ok] at h
  cases v <;> simp at h
  obtain ⟨rfl, h2⟩ := h
  refine ⟨_, rfl, ?_⟩
  simp [IntKind.has, IntKind.min, IntKind.max, IntKind.signed, IntKind.bits] at h2
  omega
theorem g_struct {fs : Array Field} (ht : P.underlying t = some (.struct fs)) (h : Value.okWide P W .any base t v) : ∃ cs, v = .agg cs ∧ cs.size = P.cellsOf t ∧ Row.okWide P W .any base t cs := by
  unfold Value.okWide at h; rw [ht] at h; exact h
theorem g_flat (ht : P.underlying t = some (.int .i64)) (h : Value.okWide P W .any base t v) : Cell.okWide P W .any base t v := by
  unfold Value.okWide at h; rw [ht] at h; exact h
end
variable {W : World} {base : Nat} {v : Value}
theorem cell_str (h : Cell.okWide Tryz.prog W .any base 9 v) : ∃ s, v = .string s := g_str Tryz.underlying9 h
theorem cell_int (h : Cell.okWide Tryz.prog W .any base 3 v) : ∃ n, v = .int .i64 n ∧ -9223372036854775808 ≤ n ∧ n ≤ 9223372036854775807 := g_int Tryz.underlying3 h
theorem arr2 {cs : Array Value} (h : cs.size = 2) : ∃ a b, cs = #[a, b] := by
  obtain ⟨l⟩ := cs
  match l, h with
  | [a, b], _ => exact ⟨a, b, rfl⟩
theorem arr3 {cs : Array Value} (h : cs.size = 3) : ∃ a b c, cs = #[a, b, c] := by
  obtain ⟨l⟩ := cs
  match l, h with
  | [a, b, c], _ => exact ⟨a, b, c, rfl⟩
theorem open23 (h : Value.okWide Tryz.prog W .any base 23 v) : ∃ s k, v = .agg #[.string s, .int .i64 k] := by
  obtain ⟨cs, rfl, hs, ts, hts, _, hc⟩ := g_struct Tryz.underlying23 h
  obtain ⟨a, b, rfl⟩ := arr2 (hs.trans (by kernel_rfl))
  obtain rfl : ts = [9, 3] := Option.some.inj (hts.symm.trans (by kernel_rfl))
  obtain ⟨u, h1, h2⟩ := hc 0 a rfl
  obtain rfl : u = 9 := (Option.some.inj h1).symm
  obtain ⟨u, h3, h4⟩ := hc 1 b rfl
  obtain rfl : u = 3 := (Option.some.inj h3).symm
  obtain ⟨s, rfl⟩ := cell_str h2
  obtain ⟨k, rfl, _⟩ := cell_int h4
  exact ⟨s, k, rfl⟩
theorem open49 (h : Value.okWide Tryz.prog W .any base 49 v) : ∃ n l c, v = .agg #[.int .i64 n, .int .i64 l, .int .i64 c] := by
  obtain ⟨cs, rfl, hs, ts, hts, _, hc⟩ := g_struct Tryz.underlying49 h
  obtain ⟨a, b, c, rfl⟩ := arr3 (hs.trans (by kernel_rfl))
  obtain rfl : ts = [3, 3, 3] := Option.some.inj (hts.symm.trans (by kernel_rfl))
  obtain ⟨u, h1, h2⟩ := hc 0 a rfl
  obtain rfl : u = 3 := (Option.some.inj h1).symm
  obtain ⟨u, h3, h4⟩ := hc 1 b rfl
  obtain rfl : u = 3 := (Option.some.inj h3).symm
  obtain ⟨u, h5, h6⟩ := hc 2 c rfl
  obtain rfl : u = 3 := (Option.some.inj h5).symm
  obtain ⟨n, rfl, _⟩ := cell_int h2
  obtain ⟨l, rfl, _⟩ := cell_int h4
  obtain ⟨q, rfl, _⟩ := cell_int h6
  exact ⟨n, l, q, rfl⟩
theorem open3 (h : Value.okWide Tryz.prog W .any base 3 v) : ∃ n, v = .int .i64 n ∧ -9223372036854775808 ≤ n ∧ n ≤ 9223372036854775807 := by
  exact cell_int (g_flat Tryz.underlying3 h)
end Go.Proofs.YtclgplkkajfenaaGreatDoor.Frame
/- Closed facts on the program: how it was made, and what the rows' frame asks of it, whichever the law. -/
  namespace Go.Proofs.YtclgplkkajfenaaGreatDoor.Frame
open Go Go.ChangeShapes Go.WideShapes Go.ChangeAt Go.RowKit
set_option maxRecDepth 100000
theorem io : Tryz.prog.initOrder = "harness 056fa145219ffdc7d906cdf64f2f4eae4c0083f6245b3a2940b815484193903b cut at bodkin/bodkinlaw11.LinesColumns bodkin/bodkinlaw11.LinesBack bodkin/bodkinlaw11.LinesAlike bodkin/bodkinlaw11.LinesSpans bodkin/bodkinlaw11.LinesTile bodkin/bodkinlaw11.LinesNil bodkin/bodkinlaw09.StoreTexts bodkin/bodkinlaw11.LinesKeeps bodkin/bodkinlaw09.StorePlays bodkin/bodkinlaw09.StoreUnseen bodkin/bodkinlaw09.StoreClones bodkin/bodkinlaw09.StoreEnds bodkin/bodkinlaw11.LinesWalks bodkin/bodkinlaw16.MoveWalks bodkin/bodkinlaw16.MoveStays bodkin/bodkinlaw16.MoveGoal bodkin/bodkinlaw16.MovePlaces bodkin/bodkinlaw16.MoveGoes" := by kernel_rfl
def ioN : List Nat := [104, 97, 114, 110, 101, 115, 115, 32, 48, 53, 54, 102, 97, 49, 52, 53, 50, 49, 57, 102, 102, 100, 99, 55, 100, 57, 48, 54, 99, 100, 102, 54, 52, 102, 50, 102, 52, 101, 97, 101, 52, 99, 48, 48, 56, 51, 102, 54, 50, 52, 53, 98, 51, 97, 50, 57, 52, 48, 98, 56, 49, 53, 52, 56, 52, 49, 57, 51, 57, 48, 51, 98, 32, 99, 117, 116, 32, 97, 116, 32, 98, 111, 100, 107, 105, 110, 47, 98, 111, 100, 107, 105, 110, 108, 97, 119, 49, 49, 46, 76, 105, 110, 101, 115, 67, 111, 108, 117, 109, 110, 115, 32, 98, 111, 100, 107, 105, 110, 47, 98, 111, 100, 107, 105, 110, 108, 97, 119, 49, 49, 46, 76, 105, 110, 101, 115, 66, 97, 99, 107, 32, 98, 111, 100, 107, 105, 110, 47, 98, 111, 100, 107, 105, 110, 108, 97, 119, 49, 49, 46, 76, 105, 110, 101, 115, 65, 108, 105, 107, 101, 32, 98, 111, 100, 107, 105, 110, 47, 98, 111, 100, 107, 105, 110, 108, 97, 119, 49, 49, 46, 76, 105, 110, 101, 115, 83, 112, 97, 110, 115, 32, 98, 111, 100, 107, 105, 110, 47, 98, 111, 100, 107, 105, 110, 108, 97, 119, 49, 49, 46, 76, 105, 110, 101, 115, 84, 105, 108, 101, 32, 98, 111, 100, 107, 105, 110, 47, 98, 111, 100, 107, 105, 110, 108, 97, 119, 49, 49, 46, 76, 105, 110, 101, 115, 78, 105, 108, 32, 98, 111, 100, 107, 105, 110, 47, 98, 111, 100, 107, 105, 110, 108, 97, 119, 48, 57, 46, 83, 116, 111, 114, 101, 84, 101, 120, 116, 115, 32, 98, 111, 100, 107, 105, 110, 47, 98, 111, 100, 107, 105, 110, 108, 97, 119, 49, 49, 46, 76, 105, 110, 101, 115, 75, 101, 101, 112, 115, 32, 98, 111, 100, 107, 105, 110, 47, 98, 111, 100, 107, 105, 110, 108, 97, 119, 48, 57, 46, 83, 116, 111, 114, 101, 80, 108, 97, 121, 115, 32, 98, 111, 100, 107, 105, 110, 47, 98, 111, 100, 107, 105, 110, 108, 97, 119, 48, 57, 46, 83, 116, 111, 114, 101, 85, 110, 115, 101, 101, 110, 32, 98, 111, 100, 107, 105, 110, 47, 98, 111, 100, 107, 105, 110, 108, 97, 119, 48, 57, 46, 83, 116, 111, 114, 101, 67, 108, 111, 110, 101, 115, 32, 98, 111, 100, 107, 105, 110, 47, 98, 111, 100, 107, 105, 110, 108, 97, 119, 48, 57, 46, 83, 116, 111, 114, 101, 69, 110, 100, 115, 32, 98, 111, 100, 107, 105, 110, 47, 98, 111, 100, 107, 105, 110, 108, 97, 119, 49, 49, 46, 76, 105, 110, 101, 115, 87, 97, 108, 107, 115, 32, 98, 111, 100, 107, 105, 110, 47, 98, 111, 100, 107, 105, 110, 108, 97, 119, 49, 54, 46, 77, 111, 118, 101, 87, 97, 108, 107, 115, 32, 98, 111, 100, 107, 105, 110, 47, 98, 111, 100, 107, 105, 110, 108, 97, 119, 49, 54, 46, 77, 111, 118, 101, 83, 116, 97, 121, 115, 32, 98, 111, 100, 107, 105, 110, 47, 98, 111, 100, 107, 105, 110, 108, 97, 119, 49, 54, 46, 77, 111, 118, 101, 71, 111, 97, 108, 32, 98, 111, 100, 107, 105, 110, 47, 98, 111, 100, 107, 105, 110, 108, 97, 119, 49, 54, 46, 77, 111, 118, 101, 80, 108, 97, 99, 101, 115, 32, 98, 111, 100, 107, 105, 110, 47, 98, 111, 100, 107, 105, 110, 108, 97, 119, 49, 54, 46, 77, 111, 118, 101, 71, 111, 101, 115]
theorem iol : Tryz.prog.initOrder.toList = ioN.map Char.ofNat := by
  rw [io]
  exact (congrArg String.toList (show _ = String.ofList (ioN.map Char.ofNat) from by kernel_rfl)).trans (String.toList_ofList)
theorem make1 : Tryz.prog.make = some .cut := by
  unfold Program.make; rw [iol]; kernel_rfl
theorem enter1 : Tryz.prog.mayEnter = true := by
  unfold Program.mayEnter; rw [iol]; kernel_rfl
theorem lifts1 : Tryz.prog.liftsFinal = false := by kernel_rfl
theorem maps1 : mapsRowed Tryz.prog = true := by kernel_rfl
theorem stops1 : Tryz.prog.stops = [] := by kernel_rfl
theorem knobs1 : Tryz.prog.stopKnobs = [] := by kernel_rfl
theorem keys1 : Tryz.prog.plainKeys = true := by kernel_rfl
theorem heard1 : Tryz.prog.stopsHeard = true := by kernel_rfl
end Go.Proofs.YtclgplkkajfenaaGreatDoor.Frame
/- Closed facts on the program: its head, its looks. -/
namespace Go.Proofs.YtclgplkkajfenaaGreatDoor.Frame
open Go Go.ChangeShapes Go.WideShapes Go.ChangeAt Go.RowKit
set_option maxRecDepth 100000
theorem and_ok {a b : Bool} (h : a = true) (k : b = true) : (a && b) = true := by rw [h, k]; rfl
theorem looks1 : Tryz.prog.looks [] = true := by kernel_rfl
theorem main1 : Tryz.prog.mainIs = some (true, "056fa145219ffdc7d906cdf64f2f4eae4c0083f6245b3a2940b815484193903b".toList) := by
  unfold Program.mainIs; rw [iol]; kernel_rfl
end Go.Proofs.YtclgplkkajfenaaGreatDoor.Frame
