/- The law ExecMissing: the tied card: for every input, the laid variable as the text lays it, the call returns true, and its arguments read as before. -/
import Derived.Test.YtonmkjcilepdcaaGreatDoorRows
import Derived.Test.YtonmkjcilepdcaaGreatDoorCards
import Derived.Test.YtonmkjcilepdcaaGreatDoorTie
import Derived.Test.YtonmkjcilepdcaaGreatDoorLawExecMissing
import Derived.Test.YtonmkjcilepdcaaGreatDoorOpenS
import Derived.WalkKit
import Derived.ProofKit
import Derived.OpenShut
import Derived.ShutString
import Derived.ChangeOld
import Derived.Below
import Derived.Laws.IdiomArrays
import Derived.SizedLaws
import Derived.LaidMore
import Derived.Lay
import Derived.SevenTiedAt
import Derived.Stop.Joined
namespace Go.Proofs.YtonmkjcilepdcaaGreatDoor.execMissingDone
open Go.ChangeShapes Go.WideShapes Go.ChangeAt Go.RowKit
set_option linter.unusedVariables false

theorem own : ownKnob Tryz.prog.godebug = none := by kernel_rfl
theorem laidOut : laidOutB Tryz.prog = true := by kernel_rfl

set_option maxHeartbeats 1000000 in
set_option maxRecDepth 100000 in
theorem lifted (os : Os) (started : os.Started) (H : Type) (enc : TypeId × Value → H) :
    ReturnsInHanded {} Tryz.checked os 3 .any (fun w args => (Rows.execMissingSpec.pre enc Tryz.prog Tryz.f3 Rows.execMissingRow.domain false w args ∧ laidMetH Tryz.prog Rows.execMissingRow.laid w) ∧ sizedMet enc Tryz.prog Tryz.f3 (OpenSpec.ofChange Rows.execMissingSpec) false w args) (Rows.execMissingSpec.post enc Tryz.prog Tryz.f3 false true false false) := by
  refine returnsInHanded_of_change_and (C := Tryz.checked) (X := fun w _ => laidMetH Tryz.prog Rows.execMissingRow.laid w) (fun _ _ _ hh h => h.of_heap hh) own started (by kernel_rfl) Tryz.func3
    (ChangeSpec.witness_shaped (enc := enc) (C := Tryz.checked) (os := os) (X := fun w _ => laidMetH Tryz.prog Rows.execMissingRow.laid w) false (World.laidAll Tryz.prog os Rows.execMissingRow.laid) #[((zeroOf Tryz.prog 29).getD undef), ((zeroOf Tryz.prog 33).getD undef)] 8 (World.laidAll_os _ _ _)
      (World.shaped_of_ZipB (by kernel_rfl) (by kernel_rfl)) (by kernel_rfl) (by kernel_rfl) (by kernel_rfl)
      (by rw [MakeChecks.laidMetH_plain _ _ _ (by kernel_rfl)]; exact laidMet_laidAll _ (by kernel_rfl) (by kernel_rfl))) ?_
  intro W base args ds gs before hval0 hW hcnd _ hL _
  have hval : ∀ (j : Nat) t v, Tryz.f3.params[j]? = some t → args[j]? = some v → Value.okWide Tryz.prog W .any base t v := hval0
  have hW' := hW
  obtain ⟨p, q, hA0, hV, rfl, hfz, hnd⟩ := hW
  have hA : DataW.TrodAll enc Tryz.prog W 0 (fun _ => true) true Tryz.f3.params.toList args.toList ds p := hA0
  rw [Tryz.params3] at hA hval
  obtain ⟨v0, vs0, d0, ds0, p0, q0, hargs, rfl, rfl, h0, r0⟩ := trodAll_cons hA
  obtain ⟨v1, vs1, d1, ds1, p1, q1, rfl, rfl, rfl, h1, r1⟩ := trodAll_cons r0
  obtain ⟨rfl, rfl, rfl⟩ := trodAll_nil r1
  obtain rfl : args = #[v0, v1] := by cases args; simp_all
  obtain ⟨rfl, rfl⟩ := trodVars_none hV
  have k0 := h0
  have lt0 : ∀ x ∈ p0, x.block < W.heap.size := by obtain ⟨m, hm⟩ := k0; exact DataW.trod_lt m _ _ _ hm
  have gt0 := Gt.of_trod h0
  obtain ⟨cs0, rfl, hz0, hr0⟩ := open_struct (by kernel_rfl) (hval 0 29 v0 rfl rfl)
  obtain ⟨f0, hf0⟩ := open_typed hr0 hz0 (by kernel_rfl)
  rw [show Tryz.prog.cellsOf 29 = 33 from by kernel_rfl] at hz0
  have k1 := h1
  have lt1 : ∀ x ∈ p1, x.block < W.heap.size := by obtain ⟨m, hm⟩ := k1; exact DataW.trod_lt m _ _ _ hm
  have gt1 := Gt.of_trod h1
  obtain ⟨cs1, rfl, hz1, hr1⟩ := open_struct (by kernel_rfl) (hval 1 33 v1 rfl rfl)
  obtain ⟨f1, hf1⟩ := open_typed hr1 hz1 (by kernel_rfl)
  rw [show Tryz.prog.cellsOf 33 = 57 from by kernel_rfl] at hz1
  clear hA0 hval0
  refine (Fn.out (execMissing_law cs0 ⟨f0, hf0⟩ cs1 ⟨f1, hf1⟩ W gt0 hz0 gt1 hz1)).mono fun e W' ⟨v, N, he, bel, hv, _⟩ => ?_
  subst he hv
  exact ⟨_, rfl, _, _, _, [], _, [], hW', trodAll_mk1 (shut_bool Tryz.underlying4 _), (trodAll_cons_mk (Below.trod laidOut (by kernel_rfl) (of_decide_eq_true (by kernel_rfl)) k0 bel lt0) (trodAll_cons_mk (Below.trod laidOut (by kernel_rfl) (of_decide_eq_true (by kernel_rfl)) k1 bel lt1) trodAll_mk0)), rfl, bel.frame _, fun h => by cases h⟩

theorem j0 : (Rows.execMissingRow.wf (OpenSpec.ofChange Rows.execMissingSpec)) = true := by kernel_rfl
theorem j1 : (laidOutB Tryz.prog) = true := by kernel_rfl
theorem j2 : (mapsRowed Tryz.prog) = true := by kernel_rfl
theorem j3 : (Tryz.f3.params.all (Tryz.prog.readableRec ·)) = true := by kernel_rfl
theorem j4 : (namedTie Tryz.prog Rows.execMissingRow.named Rows.execMissingSpec.vars) = true := by kernel_rfl
theorem j5 : (Rows.execMissingRow.stops == []) = true := by kernel_rfl
theorem j6 : (Tryz.prog.stops == []) = true := by kernel_rfl
theorem j7 : (Rows.execMissingRow.knobs == []) = true := by kernel_rfl
theorem j8 : (Tryz.prog.stopKnobs == []) = true := by kernel_rfl
theorem j9 : (Rows.execMissingRow.inPlace == Tryz.prog.inPlace 3) = true := by kernel_rfl
theorem j10 : (Rows.execMissingRow.unfollowed == Tryz.prog.unfollowed 3) = true := by kernel_rfl
theorem j11 : (Rows.execMissingRow.recurses == Tryz.prog.recurses 3) = true := by kernel_rfl
theorem j12 : (Rows.execMissingRow.named == Tryz.prog.varsNamed 3) = true := by kernel_rfl
theorem j13 : (Rows.execMissingRow.maps == (Tryz.f3.params.toList ++ Rows.execMissingSpec.plain.varTypes Tryz.prog).any (Tryz.prog.mapsRec ·)) = true := by kernel_rfl
theorem j14 : (Rows.execMissingRow.ifaces == (Tryz.f3.params.toList ++ Rows.execMissingSpec.plain.varTypes Tryz.prog).any (Tryz.prog.ifacesRec ·)) = true := by kernel_rfl
theorem j15 : (Rows.execMissingRow.mapsOut == Tryz.prog.mapsAmong Tryz.f3.resultTypes.toList) = true := by kernel_rfl
theorem j16 : (Rows.execMissingRow.loops == (Tryz.f3.params.toList ++ Rows.execMissingSpec.plain.varTypes Tryz.prog).any (Tryz.prog.loopsFrom ·)) = true := by kernel_rfl
theorem j17 : (Rows.execMissingRow.wideKeys == (Tryz.f3.params.toList ++ Rows.execMissingSpec.plain.varTypes Tryz.prog ++ Tryz.f3.resultTypes.toList).any (Tryz.prog.wideKeysFrom ·)) = true := by kernel_rfl
theorem j18 : (Rows.execMissingSpec.vars.all (Tryz.prog.varReadable ·)) = true := by kernel_rfl
theorem j19 : (Tryz.f3.resultTypes.all (fun t => Tryz.prog.readableRec t && decide (t < Tryz.prog.types.size))) = true := by kernel_rfl
theorem j20 : (Rows.execMissingRow.ifacesOut == Tryz.f3.resultTypes.toList.any (Tryz.prog.ifacesRec ·)) = true := by kernel_rfl
theorem j21 : (Rows.execMissingRow.loopsOut == Tryz.f3.resultTypes.toList.any (Tryz.prog.loopsFrom ·)) = true := by kernel_rfl
theorem j22 : (Rows.execMissingRow.plainKeys == Tryz.prog.plainKeys) = true := by kernel_rfl
theorem j23 : (Rows.execMissingRow.shortTexts.isNone) = true := by kernel_rfl
theorem j24 : (Tryz.prog.stopsHeard) = true := by kernel_rfl
theorem j25 : (Tryz.prog.mayEnter) = true := by kernel_rfl
theorem j26 : (Rows.execMissingRow.lifted == Tryz.prog.liftsFinal) = true := by kernel_rfl
theorem j27 : (Tryz.prog.make == some Rows.execMissingRow.make) = true := by kernel_rfl
theorem j28 : (Rows.execMissingRow.kinds == (if Rows.execMissingRow.domain.isEmpty then [] else Tryz.f3.params.toList.map fun t => match Tryz.prog.underlying t with | some (.int k) => some k | _ => none)) = true := by kernel_rfl
theorem j29 : (Rows.execMissingRow.pinned == Rows.execMissingRow.pinnedBy) = true := by kernel_rfl
theorem j30 : (Rows.execMissingRow.veiled == (Tryz.f3.params.toList ++ Rows.execMissingSpec.plain.varTypes Tryz.prog ++ Tryz.f3.resultTypes.toList).any (Tryz.prog.veiledRec ·)) = true := by kernel_rfl
theorem j31 : (Rows.execMissingRow.veiledFits Tryz.prog Tryz.f3.params.toList (Tryz.f3.params.toList ++ Rows.execMissingSpec.plain.varTypes Tryz.prog ++ Tryz.f3.resultTypes.toList)) = true := by kernel_rfl
theorem and2 {a b : Bool} (h : a = true) (g : b = true) : (a && b) = true := by rw [h, g]; rfl
set_option maxRecDepth 100000 in
theorem closed : joinedFacts Tryz.prog 3 Tryz.f3 Rows.execMissingSpec Rows.execMissingRow = true := (and2 (and2 (and2 (and2 (and2 (and2 (and2 (and2 (and2 (and2 (and2 (and2 (and2 (and2 (and2 (and2 (and2 (and2 (and2 (and2 (and2 (and2 (and2 (and2 (and2 (and2 (and2 (and2 (and2 (and2 (and2 j0 j1) j2) j3) j4) j5) j6) j7) j8) j9) j10) j11) j12) j13) j14) j15) j16) j17) j18) j19) j20) j21) j22) j23) j24) j25) j26) j27) j28) j29) j30) j31)
theorem nm : Tryz.prog.funcNamed "smithy/smithylaw20.ExecMissing" = some 3 := by kernel_rfl
theorem inst : Tryz.f3.isInstance Tryz.prog Rows.execMissingRow.origin Rows.execMissingRow.targs := of_decide_eq_true (by kernel_rfl)
theorem wrap : Tryz.f3.isWrapper Tryz.prog Rows.execMissingRow.wrapper Rows.execMissingRow.mainSum := by unfold Func.isWrapper; first | (rw [if_pos (by decide +kernel)]; kernel_rfl) | (rw [if_neg (by decide +kernel)]; exact ⟨rfl, rfl⟩)
theorem over : Rows.execMissingRow.holds Tryz.pinned (OpenSpec.ofChange Rows.execMissingSpec) :=
  OpenClaim.holds_of_wide 3 Tryz.f3 rfl rfl rfl rfl rfl rfl rfl ⟨rfl, rfl, rfl, rfl, rfl⟩ rfl rfl rfl rfl rfl nm Tryz.func3 closed inst wrap
    (fun os started H enc _ => lifted os started H enc)

theorem stand (f : FuncId) (fn : Func) (hf : Tryz.prog.funcNamed "smithy/smithylaw20.ExecMissing" = some f) (hfn : Tryz.prog.funcs[f]? = some fn) : f = 3 ∧ fn = Tryz.f3 := by
  obtain rfl : f = 3 := Option.some.inj (nm.symm.trans hf) |>.symm
  exact ⟨rfl, (Option.some.inj (Tryz.func3.symm.trans hfn)).symm⟩
theorem hall : ([29, 33].all fun u => !Tryz.prog.wantsStandIn u) = true := by kernel_rfl
theorem wbt : Rows.execMissingRow.wfByText (OpenSpec.ofChange Rows.execMissingSpec) = true := by kernel_rfl
theorem mi : Tryz.prog.mainIs = some (true, "9cc8716b76cce3e3e5a936bd0994a7dbcad8f5160432e7ec89a334769736eb4c".toList) := by kernel_rfl
theorem lks : true = Tryz.prog.looks [] := by kernel_rfl
theorem fany : Tryz.prog.funcs.any Func.goes = false := by kernel_rfl
theorem gby : false = Rows.execMissingRow.goesBy Tryz.prog := gby_of rfl fany
theorem proved : Rows.ExecMissingCardSaid :=
  Claim7.holds_tied_plain_at .later [] [.data, .data, .data, .data, .data, .data, .data] true (true, "9cc8716b76cce3e3e5a936bd0994a7dbcad8f5160432e7ec89a334769736eb4c") true over (fun _ h => by cases h) wbt (fun _ h => by cases h) execMissing_row_tie rfl ⟨rfl, rfl⟩ mi rfl
    (fun f fn hf hfn => by
      obtain ⟨rfl, rfl⟩ := stand f fn hf hfn
      exact ⟨lks, fun j t ht => by
        rw [Tryz.params3] at ht
        have hm : t ∈ [29, 33] := by simpa using Array.mem_of_getElem? ht
        exact (show Tryz.prog.wantsStandIn t = false by simpa using List.all_eq_true.1 hall t hm)⟩)
    gby
#print axioms proved
end Go.Proofs.YtonmkjcilepdcaaGreatDoor.execMissingDone
