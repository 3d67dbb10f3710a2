/-
  klippelaw53.QueryTexts: for any query, the law returns true: query.Shape and query.Text answer what the document says, and query.Parse reads the text again.
  Conditions: the package-level variables that the row lists hold what the program's text lays (the card ties them); nothing else is asked.
-/
import Derived.Test.YtjcfejncjdhplaaGreatDoorRows
import Derived.JoinedOf
import Derived.KernelRfl
import Derived.Test.YtjcfejncjdhplaaGreatDoorRowAT
import Derived.Test.YtjcfejncjdhplaaGreatDoorLiftT
import Derived.Test.YtjcfejncjdhplaaGreatDoorTieT
import Derived.Test.YtjcfejncjdhplaaGreatDoorCards
import Derived.SevenTiedAt
set_option linter.unusedSectionVars false
set_option linter.unusedVariables false
set_option linter.unusedSimpArgs false
namespace Go.Proofs.YtjcfejncjdhplaaGreatDoor
open Go
set_option maxRecDepth 100000
abbrev rowC : OpenClaim := Rows.queryTextsRow
abbrev spcC : ChangeSpec := Rows.queryTextsSpec
noncomputable abbrev typesC : List TypeId := Tryz.f4.params.toList ++ spcC.plain.varTypes Tryz.prog
theorem b1 : (rowC.maps == typesC.any (Tryz.prog.mapsRec ·)) = true := by kernel_rfl
theorem b2 : (rowC.ifaces == typesC.any (Tryz.prog.ifacesRec ·)) = true := by kernel_rfl
theorem b3 : (rowC.mapsOut == Tryz.prog.mapsAmong Tryz.f4.resultTypes.toList) = true := by kernel_rfl
theorem b4 : (rowC.loops == typesC.any (Tryz.prog.loopsFrom ·)) = true := by kernel_rfl
theorem b5 : (rowC.wideKeys == (typesC ++ Tryz.f4.resultTypes.toList).any (Tryz.prog.wideKeysFrom ·)) = true := by kernel_rfl
theorem b6 : spcC.vars.all (Tryz.prog.varReadable ·) = true := by kernel_rfl
theorem b7 : Tryz.f4.resultTypes.all (fun t => Tryz.prog.readableRec t && decide (t < Tryz.prog.types.size)) = true := by kernel_rfl
theorem b8 : (rowC.ifacesOut == Tryz.f4.resultTypes.toList.any (Tryz.prog.ifacesRec ·)) = true := by kernel_rfl
theorem b9 : (rowC.loopsOut == Tryz.f4.resultTypes.toList.any (Tryz.prog.loopsFrom ·)) = true := by kernel_rfl
theorem b10 : (rowC.plainKeys == Tryz.prog.plainKeys) = true := by kernel_rfl
theorem b11 : rowC.shortTexts.isNone = true := by kernel_rfl
theorem b12 : Tryz.prog.stopsHeard = true := by kernel_rfl
theorem b13 : Tryz.prog.mayEnter = true := by kernel_rfl
theorem b14 : (rowC.lifted == Tryz.prog.liftsFinal) = true := by kernel_rfl
theorem b15 : (Tryz.prog.make == some rowC.make) = true := by kernel_rfl
theorem b16 : (rowC.kinds == (if rowC.domain.isEmpty then [] else Tryz.f4.params.toList.map fun t => match Tryz.prog.underlying t with | some (.int k) => some k | _ => none)) = true := by kernel_rfl
theorem b17 : (rowC.pinned == rowC.pinnedBy) = true := by kernel_rfl
theorem b18 : (rowC.veiled == (typesC ++ Tryz.f4.resultTypes.toList).any (Tryz.prog.veiledRec ·)) = true := by kernel_rfl
theorem b19 : rowC.veiledFits Tryz.prog Tryz.f4.params.toList (typesC ++ Tryz.f4.resultTypes.toList) = true := by kernel_rfl
theorem bInst : Tryz.f4.isInstance Tryz.prog rowC.origin rowC.targs := of_decide_eq_true (by kernel_rfl)
theorem bWrap : Tryz.f4.isWrapper Tryz.prog rowC.wrapper rowC.mainSum := by
  unfold Func.isWrapper
  first
    | (rw [if_pos (by decide +kernel)]; kernel_rfl)
    | (rw [if_neg (by decide +kernel)]; exact ⟨rfl, rfl⟩)
end Go.Proofs.YtjcfejncjdhplaaGreatDoor
namespace Go.Proofs.YtjcfejncjdhplaaGreatDoor
open Go
set_option maxRecDepth 100000
theorem and_tt {a b : Bool} (h : a = true) (h' : b = true) : (a && b) = true := by rw [h, h']; rfl
theorem and_l {a b : Bool} (h : (a && b) = true) : a = true := (Bool.and_eq_true _ _ ▸ h : a = true ∧ b = true).1
theorem and_r {a b : Bool} (h : (a && b) = true) : b = true := (Bool.and_eq_true _ _ ▸ h : a = true ∧ b = true).2
theorem joined : joinedFacts Tryz.prog 4 Tryz.f4 spcC rowC = true :=
  and_tt (and_tt (and_tt (and_tt (and_tt (and_tt (and_tt (and_tt (and_tt (and_tt (and_tt (and_tt (and_tt (and_tt (and_tt (and_tt (and_tt (and_tt (and_tt (and_tt (and_tt (and_tt (and_tt (and_tt (and_tt (and_tt (and_tt (and_tt (and_tt (and_tt (and_tt j1 j2) j3)
    (and_l (and_l (and_l (and_l (and_l j4)))))) (and_r (and_l (and_l (and_l (and_l j4)))))) (and_r (and_l (and_l (and_l j4))))) (and_r (and_l (and_l j4)))) (and_r (and_l j4))) (and_r j4)) j5) j6) j7) j8) b1) b2) b3) b4) b5) b6) b7) b8) b9) b10) b11) b12) b13) b14) b15) b16) b17) b18) b19
theorem cWf : rowC.wfByText (OpenSpec.ofChange spcC) = true := by kernel_rfl
theorem cMain : Tryz.prog.mainIs = some (true, "4069e3c7a61c0b6ed4b4eecc13fb4af6b18d2d1d474d48358473c740ffe4129a".toList) := by kernel_rfl
theorem cLooks : true = Tryz.prog.looks [] := by kernel_rfl
theorem noGo : Tryz.prog.funcs.any Func.goes = false := by kernel_rfl
theorem goes_none {P : Program} (h : P.funcs.any Func.goes = false) (f : FuncId) : P.goes f = false := by
  have hf : ∀ g : Nat, (P.funcs[g]?).any Func.goes = false := fun g => by
    cases e : P.funcs[g]? with
    | none => rfl
    | some fn =>
      have := Array.any_eq_false.1 h g (Array.getElem?_eq_some_iff.1 e).1
      rw [(Array.getElem?_eq_some_iff.1 e).2] at this
      simpa using this
  unfold Program.goes
  rw [h]
  simp [hf]
theorem goesBy_none {P : Program} (h : P.funcs.any Func.goes = false) (c : OpenClaim) : false = c.goesBy P := by
  unfold OpenClaim.goesBy Program.goesAt Program.goesFrom
  have hn : ∀ o : Option FuncId, o.any P.goes = false := fun o => by
    cases o with
    | none => rfl
    | some f => exact goes_none h f
  have hi : P.inits.toList.any P.goes = false := List.any_eq_false.2 fun x _ => by rw [goes_none h x]; decide
  rw [hn, hi]
  cases c.start <;> rfl
theorem cGoes : false = rowC.goesBy Tryz.prog := goesBy_none noGo rowC
theorem cStand : ([26].all fun u => !Tryz.prog.wantsStandIn u) = true := by kernel_rfl
theorem queryTexts_bare : Rows.QueryTextsSaid :=
  OpenClaim.holds_of_wide 4 Tryz.f4 rfl rfl rfl rfl rfl rfl rfl ⟨rfl, rfl, rfl, rfl, rfl⟩ rfl rfl rfl rfl rfl fNamed Tryz.func4 joined bInst bWrap
    (fun os started H enc _ => lifted os started H enc)
theorem queryTexts_holds : Rows.QueryTextsCardSaid :=
  Claim7.holds_tied_plain_at .later [] [.data, .data, .data, .sentinel, .sentinel, .pinned, .data] true (true, "4069e3c7a61c0b6ed4b4eecc13fb4af6b18d2d1d474d48358473c740ffe4129a") true
    queryTexts_bare (fun _ h => by cases h) cWf (fun _ h => by cases h) row_tieT rfl ⟨rfl, rfl⟩ cMain rfl
    (fun f fn hf hfn => by
      obtain rfl : f = 4 := Option.some.inj (fNamed.symm.trans hf) |>.symm
      obtain rfl : fn = Tryz.f4 := (Option.some.inj (Tryz.func4.symm.trans hfn)).symm
      exact ⟨cLooks, fun j t ht => by
        have ht : (#[26] : Array TypeId)[j]? = some t := by rw [← Tryz.params4]; exact ht
        have hm : t ∈ [26] := by simpa using Array.mem_of_getElem? ht
        exact (show Tryz.prog.wantsStandIn t = false by simpa using List.all_eq_true.1 cStand t hm)⟩)
    cGoes
#print axioms queryTexts_holds
end Go.Proofs.YtjcfejncjdhplaaGreatDoor
