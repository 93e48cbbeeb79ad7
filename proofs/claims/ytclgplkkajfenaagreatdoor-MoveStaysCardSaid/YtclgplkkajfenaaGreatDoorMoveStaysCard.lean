/- MoveStays: for every input the law returns true, and each argument reads as it read before. -/
import Derived.Test.YtclgplkkajfenaaGreatDoorFram
import Derived.Test.YtclgplkkajfenaaGreatDoorMstw
import Derived.Test.YtclgplkkajfenaaGreatDoorOpp
namespace Go.Proofs.YtclgplkkajfenaaGreatDoor.MoveStays
open Go Go.ChangeShapes Go.WideShapes Go.ChangeAt Go.RowKit Frame
set_option maxRecDepth 100000
theorem contract (H : Type) (enc : TypeId × Value → H) (W : World) (base : Nat) (args : Array Value) (ds gs : List (DataW H)) (before : List MemPlace)
    (hval : ∀ (j : Nat) t v, Tryz.f17.params[j]? = some t → args[j]? = some v → Value.okWide Tryz.prog W .any base t v)
    (hW : DataW.Whole enc Tryz.prog Tryz.f17.params.toList Rows.moveStaysSpec.vars false W args.toList ds gs before) (hL : laidMetH Tryz.prog Rows.moveStaysRow.laid W) :
    Calls Tryz.prog 17 args W fun e W' => ∃ v, e = .returned v ∧ Rows.moveStaysSpec.post enc Tryz.prog Tryz.f17 false true false false W args v W' := by
  have hW' := hW
  obtain ⟨p, q, hA, hV, rfl, hfz, hnd⟩ := hW
  obtain ⟨rfl, rfl⟩ := trodVars_none hV
  have hpar : Tryz.f17.params.toList = [5, 9, 3, 5] := by kernel_rfl
  rw [hpar] at hA
  obtain ⟨v0, vs0, d0, ds0, p0, q0, hargs, rfl, rfl, h0, r0⟩ := trodAll_cons hA
  obtain ⟨v1, vs1, d1, ds1, p1, q1, rfl, rfl, rfl, h1, r1⟩ := trodAll_cons r0
  obtain ⟨v2, vs2, d2, ds2, p2, q2, rfl, rfl, rfl, h2, r2⟩ := trodAll_cons r1
  obtain ⟨v3, vs3, d3, ds3, p3, q3, rfl, rfl, rfl, h3, r3⟩ := trodAll_cons r2
  obtain ⟨rfl, rfl, rfl⟩ := trodAll_nil r3
  obtain rfl : args = #[v0, v1, v2, v3] := by cases args; simp_all
  have hG : Good W := good_of hL
  obtain ⟨a0, rfl, ab⟩ := open5 (hval 0 5 v0 (by kernel_rfl) rfl)
  obtain ⟨b0, rfl⟩ := open9 (hval 1 9 v1 (by kernel_rfl) rfl)
  obtain ⟨c0, rfl, cb⟩ := open3 (hval 2 3 v2 (by kernel_rfl) rfl)
  obtain ⟨d0, rfl, db⟩ := open5 (hval 3 5 v3 (by kernel_rfl) rfl)
  refine (stays_any a0 b0 c0 d0 W hG ab db).mono ?_
  rintro e W' ⟨rfl, hb⟩
  refine ⟨_, rfl, post_true lays ?_ rfl (by kernel_rfl) Tryz.underlying4 hW' rfl hb⟩
  rw [hpar]
  intro t ht
  simp only [List.mem_cons, List.not_mem_nil, or_false] at ht
  rcases ht with rfl | rfl | rfl | rfl <;> exact ⟨by kernel_rfl, of_decide_eq_true (by kernel_rfl)⟩
def wargs : Array Value := #[.int .u8 0, .string ⟨#[]⟩, .int .i64 0, .int .u8 0]
theorem laid_met (os : Os) : laidMet Tryz.prog Rows.moveStaysRow.laid ((laidWorld os).forCall (fun _ _ => 0) ⟨#[], wargs, []⟩).memory :=
  laidMet_of_run' 8 (by kernel_rfl) (by kernel_rfl)
theorem reads (os : Os) {H : Type} (enc : TypeId × Value → H) : ∃ places, DataW.whole enc Tryz.prog ((laidWorld os).forCall (fun _ _ => 0) ⟨#[], wargs, []⟩).memory Tryz.f17.params.toList Rows.moveStaysSpec.vars false wargs.toList 8 =
    some ([.lit (.int .u8 0), .lit (.string []), .lit (.int .i64 0), .lit (.int .u8 0)], [], places) :=
  ⟨[], by kernel_rfl⟩
theorem laid_metH (os : Os) : laidMetH Tryz.prog Rows.moveStaysRow.laid ((laidWorld os).forCall (fun _ _ => 0) ⟨#[], wargs, []⟩).memory := by
  have h := laid_met os
  have e : (Rows.moveStaysRow.laid.filter fun x => x.2.handleName?.isSome) = [] := by kernel_rfl
  unfold laidMetH
  rw [e]
  exact h
theorem sized (os : Os) {H : Type} (enc : TypeId × Value → H) : (OpenSpec.ofChange Rows.moveStaysSpec).bare.sizedB enc Tryz.prog Tryz.f17 false ((laidWorld os).forCall (fun _ _ => 0) ⟨#[], wargs, []⟩).memory wargs 8 = true := by kernel_rfl
theorem pre (os : Os) (H : Type) (enc : TypeId × Value → H) : (OpenSpec.ofChange Rows.moveStaysSpec).preRow enc Tryz.prog Tryz.f17 Rows.moveStaysRow.domain false Rows.moveStaysRow.laid ((laidWorld os).forCall (fun _ _ => 0) ⟨#[], wargs, []⟩).memory wargs := by
  obtain ⟨places, hx⟩ := reads os enc
  exact OpenSpec.preRow_of_cond 8 hx (by kernel_rfl) (fun k hk => by cases hk) (sized os enc) (laid_metH os)
theorem w2 (os : Os) : ((laidWorld os).forCall (fun _ _ => 0) ⟨#[], wargs, []⟩).variablesB Tryz.prog = true := by kernel_rfl
theorem w3 (os : Os) : (((laidWorld os).forCall (fun _ _ => 0) ⟨#[], wargs, []⟩).heap.toList.drop Tryz.prog.globals.size).take ((begin Tryz.prog (fun _ _ => 0) default).world.heap.size - Tryz.prog.globals.size) = (begin Tryz.prog (fun _ _ => 0) default).world.heap.toList.drop Tryz.prog.globals.size := by kernel_rfl
theorem w4 (os : Os) : Input.okWideB Tryz.prog ((laidWorld os).forCall (fun _ _ => 0) ⟨#[], wargs, []⟩) 17 ⟨#[], wargs, []⟩ = true := by kernel_rfl
theorem wit (os : Os) (H : Type) (enc : TypeId × Value → H) : ∃ (w : World) (tape : Tape) (i : Input), w.os = os ∧ (w.forCall tape i).Shaped Tryz.checked.prog ∧ i.vars = [] ∧ Input.okWide Tryz.checked.prog (w.forCall tape i) .any w.heap.size 17 i ∧
      (OpenSpec.ofChange Rows.moveStaysSpec).preRow enc Tryz.checked.prog Tryz.f17 Rows.moveStaysRow.domain false Rows.moveStaysRow.laid (w.forCall tape i).memory i.args ∧ ({ modest := false } : Assume).holds Tryz.checked.prog (lone (Frame.enter Tryz.checked.prog 17 i.args .normal) [] (w.forCall tape i)) :=
  witness_row_at (enc := enc) (C := Tryz.checked) (fn := Tryz.f17) false (laidWorld os) wargs rfl (w2 os) (w3 os) (w4 os) (pre os H enc)
theorem lifted (os : Os) (started : os.Started) (H : Type) (enc : TypeId × Value → H) (F : Stop.Interp) :
    ReturnsInHanded {} Tryz.checked os 17 .any ((OpenSpec.ofChange Rows.moveStaysSpec).preRow enc Tryz.prog Tryz.f17 Rows.moveStaysRow.domain false Rows.moveStaysRow.laid) (((OpenSpec.ofChange Rows.moveStaysSpec).at F).post enc Tryz.prog Tryz.f17 false true false false) :=
  returnsInHanded_of_row (C := Tryz.checked) (s := OpenSpec.ofChange Rows.moveStaysSpec) own started (show Tryz.prog.inits.idxOf? 17 = none by kernel_rfl) Tryz.func17 (wit os H enc)
    (fun W base args ds gs before hval hW _ _ _ hL _ _ => contract H enc W base args ds gs before hval hW hL)
/-! ### the closed facts -/
theorem k0 : (Rows.moveStaysRow.wf (OpenSpec.ofChange (OpenSpec.ofChange Rows.moveStaysSpec).bare)) = true := by kernel_rfl
theorem k3 : (Tryz.f17.params.all (Tryz.prog.readableRec ·)) = true := by kernel_rfl
theorem k4 : (namedTie Tryz.prog Rows.moveStaysRow.named (OpenSpec.ofChange Rows.moveStaysSpec).bare.vars) = true := by kernel_rfl
theorem k5 : ((Rows.moveStaysRow.stops == [])) = true := by kernel_rfl
theorem k6 : ((Tryz.prog.stops == [])) = true := by rw [stops1]; kernel_rfl
theorem k7 : ((Rows.moveStaysRow.knobs == [])) = true := by kernel_rfl
theorem k8 : ((Tryz.prog.stopKnobs == [])) = true := by rw [knobs1]; kernel_rfl
theorem k9 : ((Rows.moveStaysRow.inPlace == Tryz.prog.inPlace 17)) = true := by kernel_rfl
theorem k10 : ((Rows.moveStaysRow.unfollowed == Tryz.prog.unfollowed 17)) = true := by kernel_rfl
theorem k11 : ((Rows.moveStaysRow.recurses == Tryz.prog.recurses 17)) = true := by kernel_rfl
theorem k12 : ((Rows.moveStaysRow.named == Tryz.prog.varsNamed 17)) = true := by kernel_rfl
theorem k13 : ((Rows.moveStaysRow.maps == (Tryz.f17.params.toList ++ (OpenSpec.ofChange Rows.moveStaysSpec).bare.plain.varTypes Tryz.prog).any (Tryz.prog.mapsRec ·))) = true := by kernel_rfl
theorem k14 : ((Rows.moveStaysRow.ifaces == (Tryz.f17.params.toList ++ (OpenSpec.ofChange Rows.moveStaysSpec).bare.plain.varTypes Tryz.prog).any (Tryz.prog.ifacesRec ·))) = true := by kernel_rfl
theorem k15 : ((Rows.moveStaysRow.mapsOut == Tryz.prog.mapsAmong Tryz.f17.resultTypes.toList)) = true := by kernel_rfl
theorem k16 : ((Rows.moveStaysRow.loops == (Tryz.f17.params.toList ++ (OpenSpec.ofChange Rows.moveStaysSpec).bare.plain.varTypes Tryz.prog).any (Tryz.prog.loopsFrom ·))) = true := by kernel_rfl
theorem k17 : ((Rows.moveStaysRow.wideKeys == (Tryz.f17.params.toList ++ (OpenSpec.ofChange Rows.moveStaysSpec).bare.plain.varTypes Tryz.prog ++ Tryz.f17.resultTypes.toList).any (Tryz.prog.wideKeysFrom ·))) = true := by kernel_rfl
theorem k18 : ((OpenSpec.ofChange Rows.moveStaysSpec).bare.vars.all (Tryz.prog.varReadable ·)) = true := by kernel_rfl
theorem k19 : (Tryz.f17.resultTypes.all (fun t => Tryz.prog.readableRec t && decide (t < Tryz.prog.types.size))) = true := by kernel_rfl
theorem k20 : ((Rows.moveStaysRow.ifacesOut == Tryz.f17.resultTypes.toList.any (Tryz.prog.ifacesRec ·))) = true := by kernel_rfl
theorem k21 : ((Rows.moveStaysRow.loopsOut == Tryz.f17.resultTypes.toList.any (Tryz.prog.loopsFrom ·))) = true := by kernel_rfl
theorem k22 : ((Rows.moveStaysRow.plainKeys == Tryz.prog.plainKeys)) = true := by rw [keys1]; kernel_rfl
theorem k23 : (Rows.moveStaysRow.shortTexts.isNone) = true := by kernel_rfl
theorem k26 : ((Rows.moveStaysRow.lifted == Tryz.prog.liftsFinal)) = true := by rw [lifts1]; kernel_rfl
theorem k27 : ((Tryz.prog.make == some Rows.moveStaysRow.make)) = true := by rw [make1]; kernel_rfl
theorem k28 : ((Rows.moveStaysRow.kinds == (if Rows.moveStaysRow.domain.isEmpty then [] else Tryz.f17.params.toList.map fun t => match Tryz.prog.underlying t with | some (.int k) => some k | _ => none))) = true := by kernel_rfl
theorem k29 : ((Rows.moveStaysRow.pinned == Rows.moveStaysRow.pinnedBy)) = true := by kernel_rfl
theorem k30 : ((Rows.moveStaysRow.veiled == (Tryz.f17.params.toList ++ (OpenSpec.ofChange Rows.moveStaysSpec).bare.plain.varTypes Tryz.prog ++ Tryz.f17.resultTypes.toList).any (Tryz.prog.veiledRec ·))) = true := by kernel_rfl
theorem k31 : (Rows.moveStaysRow.veiledFits Tryz.prog Tryz.f17.params.toList (Tryz.f17.params.toList ++ (OpenSpec.ofChange Rows.moveStaysSpec).bare.plain.varTypes Tryz.prog ++ Tryz.f17.resultTypes.toList)) = true := by kernel_rfl
theorem closed : joinedFacts Tryz.prog 17 Tryz.f17 (OpenSpec.ofChange Rows.moveStaysSpec).bare Rows.moveStaysRow = true := by
  unfold joinedFacts
  exact and_ok (and_ok (and_ok (and_ok (and_ok (and_ok (and_ok (and_ok (and_ok (and_ok (and_ok (and_ok (and_ok (and_ok (and_ok (and_ok (and_ok (and_ok (and_ok (and_ok (and_ok (and_ok (and_ok (and_ok (and_ok (and_ok (and_ok (and_ok (and_ok (and_ok (and_ok k0 lays) maps1) k3) k4) k5) k6) k7) k8) k9) k10) k11) k12) k13) k14) k15) k16) k17) k18) k19) k20) k21) k22) k23) heard1) enter1) k26) k27) k28) k29) k30) k31
theorem named1 : Tryz.prog.funcNamed "bodkin/bodkinlaw16.MoveStays" = some 17 := by kernel_rfl
theorem inst1 : Tryz.f17.isInstance Tryz.prog Rows.moveStaysRow.origin Rows.moveStaysRow.targs := of_decide_eq_true (by kernel_rfl)
theorem wrap1 : Tryz.f17.isWrapper Tryz.prog Rows.moveStaysRow.wrapper Rows.moveStaysRow.mainSum := by unfold Func.isWrapper; first | (rw [if_pos (by decide +kernel)]; kernel_rfl) | (rw [if_neg (by decide +kernel)]; exact ⟨rfl, rfl⟩)
theorem said : Rows.MoveStaysSaid :=
  OpenClaim.holds_of_cond 17 Tryz.f17 rfl rfl rfl rfl rfl rfl rfl ⟨rfl, rfl, rfl, rfl, rfl⟩ rfl rfl rfl rfl rfl named1 Tryz.func17 closed inst1 wrap1
    (fun os started H enc _ F => by rw [OpenClaim.pre_eq_preRow]; exact lifted os started H enc F)
theorem stand : ∀ t ∈ Tryz.f17.params.toList, Tryz.prog.wantsStandIn t = false := by
  have hpar : Tryz.f17.params.toList = [5, 9, 3, 5] := by kernel_rfl
  rw [hpar]
  intro t hm
  simp only [List.mem_cons, List.not_mem_nil, or_false] at hm
  rcases hm with rfl | rfl | rfl | rfl <;> kernel_rfl
theorem plain (f : FuncId) (fn : Func) (hf : Tryz.pinned.checked.prog.funcNamed "bodkin/bodkinlaw16.MoveStays" = some f) (hfn : Tryz.pinned.checked.prog.funcs[f]? = some fn) :
    true = Tryz.pinned.checked.prog.looks [] ∧ ∀ (j : Nat) t, fn.params[j]? = some t → Tryz.pinned.checked.prog.wantsStandIn t = false := by
  obtain rfl : f = 17 := Option.some.inj (hf.symm.trans named1)
  obtain rfl : fn = Tryz.f17 := (Option.some.inj (Tryz.func17.symm.trans hfn)).symm
  exact ⟨looks1.symm, fun j t ht => stand t (by simpa using Array.mem_of_getElem? ht)⟩
theorem text1 : Rows.moveStaysRow.wfByText (OpenSpec.ofChange Rows.moveStaysSpec) = true := by kernel_rfl
theorem by1 : false = Rows.moveStaysRow.goesBy Tryz.prog := by kernel_rfl
end Go.Proofs.YtclgplkkajfenaaGreatDoor.MoveStays
namespace Go.Proofs.YtclgplkkajfenaaGreatDoor
open Go
theorem moveStays_holds : Rows.MoveStaysCardSaid :=
  Claim7.holds_tied_plain_at .later [] _ _ _ _ MoveStays.said (fun _ h => by cases h) MoveStays.text1 (fun _ h => by cases h) moveStays_row_tie rfl ⟨rfl, rfl⟩ Frame.main1 rfl MoveStays.plain MoveStays.by1
end Go.Proofs.YtclgplkkajfenaaGreatDoor
