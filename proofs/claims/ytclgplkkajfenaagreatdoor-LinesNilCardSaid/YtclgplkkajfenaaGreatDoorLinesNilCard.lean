/- LinesNil: for every input the law returns true, and each argument reads as it read before. -/
import Derived.Test.YtclgplkkajfenaaGreatDoorFram
import Derived.Test.YtclgplkkajfenaaGreatDoorNilw
import Derived.Test.YtclgplkkajfenaaGreatDoorOpo
namespace Go.Proofs.YtclgplkkajfenaaGreatDoor.LinesNil
open Go Go.ChangeShapes Go.WideShapes Go.ChangeAt Go.RowKit Frame
set_option maxRecDepth 100000
theorem contract (H : Type) (enc : TypeId × Value → H) (W : World) (base : Nat) (args : Array Value) (ds gs : List (DataW H)) (before : List MemPlace)
    (hval : ∀ (j : Nat) t v, Tryz.f8.params[j]? = some t → args[j]? = some v → Value.okWide Tryz.prog W .any base t v)
    (hW : DataW.Whole enc Tryz.prog Tryz.f8.params.toList Rows.linesNilSpec.vars false W args.toList ds gs before) (hL : laidMetH Tryz.prog Rows.linesNilRow.laid W) :
    Calls Tryz.prog 8 args W fun e W' => ∃ v, e = .returned v ∧ Rows.linesNilSpec.post enc Tryz.prog Tryz.f8 false true false false W args v W' := by
  have hW' := hW
  obtain ⟨p, q, hA, hV, rfl, hfz, hnd⟩ := hW
  obtain ⟨rfl, rfl⟩ := trodVars_none hV
  have hpar : Tryz.f8.params.toList = [3, 37] := by kernel_rfl
  rw [hpar] at hA
  obtain ⟨v0, vs0, d0, ds0, p0, q0, hargs, rfl, rfl, h0, r0⟩ := trodAll_cons hA
  obtain ⟨v1, vs1, d1, ds1, p1, q1, rfl, rfl, rfl, h1, r1⟩ := trodAll_cons r0
  obtain ⟨rfl, rfl, rfl⟩ := trodAll_nil r1
  obtain rfl : args = #[v0, v1] := by cases args; simp_all
  have hG : Good W := good_of hL
  obtain ⟨a0, rfl, ab⟩ := open3 (hval 0 3 v0 (by kernel_rfl) rfl)
  obtain ⟨b0, b1, rfl⟩ := open37 (hval 1 37 v1 (by kernel_rfl) rfl)
  refine (nil_any a0 b0 b1 W hG).mono ?_
  rintro e W' ⟨rfl, hb⟩
  refine ⟨_, rfl, post_true lays ?_ rfl (by kernel_rfl) Tryz.underlying4 hW' rfl hb⟩
  rw [hpar]
  intro t ht
  simp only [List.mem_cons, List.not_mem_nil, or_false] at ht
  rcases ht with rfl | rfl <;> exact ⟨by kernel_rfl, of_decide_eq_true (by kernel_rfl)⟩
def wargs : Array Value := #[.int .i64 0, .agg #[.int .i64 0, .int .i64 0]]
theorem laid_met (os : Os) : laidMet Tryz.prog Rows.linesNilRow.laid ((laidWorld os).forCall (fun _ _ => 0) ⟨#[], wargs, []⟩).memory :=
  laidMet_of_run' 8 (by kernel_rfl) (by kernel_rfl)
theorem reads (os : Os) {H : Type} (enc : TypeId × Value → H) : ∃ places, DataW.whole enc Tryz.prog ((laidWorld os).forCall (fun _ _ => 0) ⟨#[], wargs, []⟩).memory Tryz.f8.params.toList Rows.linesNilSpec.vars false wargs.toList 8 =
    some ([.lit (.int .i64 0), .agg [.lit (.int .i64 0), .lit (.int .i64 0)]], [], places) :=
  ⟨[], by kernel_rfl⟩
theorem laid_metH (os : Os) : laidMetH Tryz.prog Rows.linesNilRow.laid ((laidWorld os).forCall (fun _ _ => 0) ⟨#[], wargs, []⟩).memory := by
  have h := laid_met os
  have e : (Rows.linesNilRow.laid.filter fun x => x.2.handleName?.isSome) = [] := by kernel_rfl
  unfold laidMetH
  rw [e]
  exact h
theorem sized (os : Os) {H : Type} (enc : TypeId × Value → H) : (OpenSpec.ofChange Rows.linesNilSpec).bare.sizedB enc Tryz.prog Tryz.f8 false ((laidWorld os).forCall (fun _ _ => 0) ⟨#[], wargs, []⟩).memory wargs 8 = true := by kernel_rfl
theorem pre (os : Os) (H : Type) (enc : TypeId × Value → H) : (OpenSpec.ofChange Rows.linesNilSpec).preRow enc Tryz.prog Tryz.f8 Rows.linesNilRow.domain false Rows.linesNilRow.laid ((laidWorld os).forCall (fun _ _ => 0) ⟨#[], wargs, []⟩).memory wargs := by
  obtain ⟨places, hx⟩ := reads os enc
  exact OpenSpec.preRow_of_cond 8 hx (by kernel_rfl) (fun k hk => by cases hk) (sized os enc) (laid_metH os)
theorem w2 (os : Os) : ((laidWorld os).forCall (fun _ _ => 0) ⟨#[], wargs, []⟩).variablesB Tryz.prog = true := by kernel_rfl
theorem w3 (os : Os) : (((laidWorld os).forCall (fun _ _ => 0) ⟨#[], wargs, []⟩).heap.toList.drop Tryz.prog.globals.size).take ((begin Tryz.prog (fun _ _ => 0) default).world.heap.size - Tryz.prog.globals.size) = (begin Tryz.prog (fun _ _ => 0) default).world.heap.toList.drop Tryz.prog.globals.size := by kernel_rfl
theorem w4 (os : Os) : Input.okWideB Tryz.prog ((laidWorld os).forCall (fun _ _ => 0) ⟨#[], wargs, []⟩) 8 ⟨#[], wargs, []⟩ = true := by kernel_rfl
theorem wit (os : Os) (H : Type) (enc : TypeId × Value → H) : ∃ (w : World) (tape : Tape) (i : Input), w.os = os ∧ (w.forCall tape i).Shaped Tryz.checked.prog ∧ i.vars = [] ∧ Input.okWide Tryz.checked.prog (w.forCall tape i) .any w.heap.size 8 i ∧
      (OpenSpec.ofChange Rows.linesNilSpec).preRow enc Tryz.checked.prog Tryz.f8 Rows.linesNilRow.domain false Rows.linesNilRow.laid (w.forCall tape i).memory i.args ∧ ({ modest := false } : Assume).holds Tryz.checked.prog (lone (Frame.enter Tryz.checked.prog 8 i.args .normal) [] (w.forCall tape i)) :=
  witness_row_at (enc := enc) (C := Tryz.checked) (fn := Tryz.f8) false (laidWorld os) wargs rfl (w2 os) (w3 os) (w4 os) (pre os H enc)
theorem lifted (os : Os) (started : os.Started) (H : Type) (enc : TypeId × Value → H) (F : Stop.Interp) :
    ReturnsInHanded {} Tryz.checked os 8 .any ((OpenSpec.ofChange Rows.linesNilSpec).preRow enc Tryz.prog Tryz.f8 Rows.linesNilRow.domain false Rows.linesNilRow.laid) (((OpenSpec.ofChange Rows.linesNilSpec).at F).post enc Tryz.prog Tryz.f8 false true false false) :=
  returnsInHanded_of_row (C := Tryz.checked) (s := OpenSpec.ofChange Rows.linesNilSpec) own started (show Tryz.prog.inits.idxOf? 8 = none by kernel_rfl) Tryz.func8 (wit os H enc)
    (fun W base args ds gs before hval hW _ _ _ hL _ _ => contract H enc W base args ds gs before hval hW hL)
/-! ### the closed facts -/
theorem k0 : (Rows.linesNilRow.wf (OpenSpec.ofChange (OpenSpec.ofChange Rows.linesNilSpec).bare)) = true := by kernel_rfl
theorem k3 : (Tryz.f8.params.all (Tryz.prog.readableRec ·)) = true := by kernel_rfl
theorem k4 : (namedTie Tryz.prog Rows.linesNilRow.named (OpenSpec.ofChange Rows.linesNilSpec).bare.vars) = true := by kernel_rfl
theorem k5 : ((Rows.linesNilRow.stops == [])) = true := by kernel_rfl
theorem k6 : ((Tryz.prog.stops == [])) = true := by rw [stops1]; kernel_rfl
theorem k7 : ((Rows.linesNilRow.knobs == [])) = true := by kernel_rfl
theorem k8 : ((Tryz.prog.stopKnobs == [])) = true := by rw [knobs1]; kernel_rfl
theorem k9 : ((Rows.linesNilRow.inPlace == Tryz.prog.inPlace 8)) = true := by kernel_rfl
theorem k10 : ((Rows.linesNilRow.unfollowed == Tryz.prog.unfollowed 8)) = true := by kernel_rfl
theorem k11 : ((Rows.linesNilRow.recurses == Tryz.prog.recurses 8)) = true := by kernel_rfl
theorem k12 : ((Rows.linesNilRow.named == Tryz.prog.varsNamed 8)) = true := by kernel_rfl
theorem k13 : ((Rows.linesNilRow.maps == (Tryz.f8.params.toList ++ (OpenSpec.ofChange Rows.linesNilSpec).bare.plain.varTypes Tryz.prog).any (Tryz.prog.mapsRec ·))) = true := by kernel_rfl
theorem k14 : ((Rows.linesNilRow.ifaces == (Tryz.f8.params.toList ++ (OpenSpec.ofChange Rows.linesNilSpec).bare.plain.varTypes Tryz.prog).any (Tryz.prog.ifacesRec ·))) = true := by kernel_rfl
theorem k15 : ((Rows.linesNilRow.mapsOut == Tryz.prog.mapsAmong Tryz.f8.resultTypes.toList)) = true := by kernel_rfl
theorem k16 : ((Rows.linesNilRow.loops == (Tryz.f8.params.toList ++ (OpenSpec.ofChange Rows.linesNilSpec).bare.plain.varTypes Tryz.prog).any (Tryz.prog.loopsFrom ·))) = true := by kernel_rfl
theorem k17 : ((Rows.linesNilRow.wideKeys == (Tryz.f8.params.toList ++ (OpenSpec.ofChange Rows.linesNilSpec).bare.plain.varTypes Tryz.prog ++ Tryz.f8.resultTypes.toList).any (Tryz.prog.wideKeysFrom ·))) = true := by kernel_rfl
theorem k18 : ((OpenSpec.ofChange Rows.linesNilSpec).bare.vars.all (Tryz.prog.varReadable ·)) = true := by kernel_rfl
theorem k19 : (Tryz.f8.resultTypes.all (fun t => Tryz.prog.readableRec t && decide (t < Tryz.prog.types.size))) = true := by kernel_rfl
theorem k20 : ((Rows.linesNilRow.ifacesOut == Tryz.f8.resultTypes.toList.any (Tryz.prog.ifacesRec ·))) = true := by kernel_rfl
theorem k21 : ((Rows.linesNilRow.loopsOut == Tryz.f8.resultTypes.toList.any (Tryz.prog.loopsFrom ·))) = true := by kernel_rfl
theorem k22 : ((Rows.linesNilRow.plainKeys == Tryz.prog.plainKeys)) = true := by rw [keys1]; kernel_rfl
theorem k23 : (Rows.linesNilRow.shortTexts.isNone) = true := by kernel_rfl
theorem k26 : ((Rows.linesNilRow.lifted == Tryz.prog.liftsFinal)) = true := by rw [lifts1]; kernel_rfl
theorem k27 : ((Tryz.prog.make == some Rows.linesNilRow.make)) = true := by rw [make1]; kernel_rfl
theorem k28 : ((Rows.linesNilRow.kinds == (if Rows.linesNilRow.domain.isEmpty then [] else Tryz.f8.params.toList.map fun t => match Tryz.prog.underlying t with | some (.int k) => some k | _ => none))) = true := by kernel_rfl
theorem k29 : ((Rows.linesNilRow.pinned == Rows.linesNilRow.pinnedBy)) = true := by kernel_rfl
theorem k30 : ((Rows.linesNilRow.veiled == (Tryz.f8.params.toList ++ (OpenSpec.ofChange Rows.linesNilSpec).bare.plain.varTypes Tryz.prog ++ Tryz.f8.resultTypes.toList).any (Tryz.prog.veiledRec ·))) = true := by kernel_rfl
theorem k31 : (Rows.linesNilRow.veiledFits Tryz.prog Tryz.f8.params.toList (Tryz.f8.params.toList ++ (OpenSpec.ofChange Rows.linesNilSpec).bare.plain.varTypes Tryz.prog ++ Tryz.f8.resultTypes.toList)) = true := by kernel_rfl
theorem closed : joinedFacts Tryz.prog 8 Tryz.f8 (OpenSpec.ofChange Rows.linesNilSpec).bare Rows.linesNilRow = true := by
  unfold joinedFacts
  exact and_ok (and_ok (and_ok (and_ok (and_ok (and_ok (and_ok (and_ok (and_ok (and_ok (and_ok (and_ok (and_ok (and_ok (and_ok (and_ok (and_ok (and_ok (and_ok (and_ok (and_ok (and_ok (and_ok (and_ok (and_ok (and_ok (and_ok (and_ok (and_ok (and_ok (and_ok k0 lays) maps1) k3) k4) k5) k6) k7) k8) k9) k10) k11) k12) k13) k14) k15) k16) k17) k18) k19) k20) k21) k22) k23) heard1) enter1) k26) k27) k28) k29) k30) k31
theorem named1 : Tryz.prog.funcNamed "bodkin/bodkinlaw11.LinesNil" = some 8 := by kernel_rfl
theorem inst1 : Tryz.f8.isInstance Tryz.prog Rows.linesNilRow.origin Rows.linesNilRow.targs := of_decide_eq_true (by kernel_rfl)
theorem wrap1 : Tryz.f8.isWrapper Tryz.prog Rows.linesNilRow.wrapper Rows.linesNilRow.mainSum := by unfold Func.isWrapper; first | (rw [if_pos (by decide +kernel)]; kernel_rfl) | (rw [if_neg (by decide +kernel)]; exact ⟨rfl, rfl⟩)
theorem said : Rows.LinesNilSaid :=
  OpenClaim.holds_of_cond 8 Tryz.f8 rfl rfl rfl rfl rfl rfl rfl ⟨rfl, rfl, rfl, rfl, rfl⟩ rfl rfl rfl rfl rfl named1 Tryz.func8 closed inst1 wrap1
    (fun os started H enc _ F => by rw [OpenClaim.pre_eq_preRow]; exact lifted os started H enc F)
theorem stand : ∀ t ∈ Tryz.f8.params.toList, Tryz.prog.wantsStandIn t = false := by
  have hpar : Tryz.f8.params.toList = [3, 37] := by kernel_rfl
  rw [hpar]
  intro t hm
  simp only [List.mem_cons, List.not_mem_nil, or_false] at hm
  rcases hm with rfl | rfl <;> kernel_rfl
theorem plain (f : FuncId) (fn : Func) (hf : Tryz.pinned.checked.prog.funcNamed "bodkin/bodkinlaw11.LinesNil" = some f) (hfn : Tryz.pinned.checked.prog.funcs[f]? = some fn) :
    true = Tryz.pinned.checked.prog.looks [] ∧ ∀ (j : Nat) t, fn.params[j]? = some t → Tryz.pinned.checked.prog.wantsStandIn t = false := by
  obtain rfl : f = 8 := Option.some.inj (hf.symm.trans named1)
  obtain rfl : fn = Tryz.f8 := (Option.some.inj (Tryz.func8.symm.trans hfn)).symm
  exact ⟨looks1.symm, fun j t ht => stand t (by simpa using Array.mem_of_getElem? ht)⟩
theorem text1 : Rows.linesNilRow.wfByText (OpenSpec.ofChange Rows.linesNilSpec) = true := by kernel_rfl
theorem by1 : false = Rows.linesNilRow.goesBy Tryz.prog := by kernel_rfl
end Go.Proofs.YtclgplkkajfenaaGreatDoor.LinesNil
namespace Go.Proofs.YtclgplkkajfenaaGreatDoor
open Go
theorem linesNil_holds : Rows.LinesNilCardSaid :=
  Claim7.holds_tied_plain_at .later [] _ _ _ _ LinesNil.said (fun _ h => by cases h) LinesNil.text1 (fun _ h => by cases h) linesNil_row_tie rfl ⟨rfl, rfl⟩ Frame.main1 rfl LinesNil.plain LinesNil.by1
end Go.Proofs.YtclgplkkajfenaaGreatDoor
