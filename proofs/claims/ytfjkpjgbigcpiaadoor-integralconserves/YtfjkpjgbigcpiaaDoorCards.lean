/-
  DERIVED. GIVEN WITH THE SEED: THE CARDS: each row of YtfjkpjgbigcpiaaDoorRows.lean that lists a variable, with what it lists TIED to the program's text (the seventh form; the later family's looks); each row that meets fmt, with fmt's text TOLD by the authors' own Lean function (tested against real Go, not proved from fmt's source: count such statements apart). THE CARD IS WHAT COUNTS. Prove the row's statement (the work); the ties are given (YtfjkpjgbigcpiaaDoorTie.lean); close each card by the builder's one call (the guide's Derived/Test/ToyasCard.lean, 'card_holds'). Laid BY PROGRAM, IN A SANDBOX (cutbox-door.mjs). By AI agents, Wed Nov 11 2026. No macro, syntax, notation, axiom, sorry.
-/
import Derived.Test.YtfjkpjgbigcpiaaDoorRows
import GoSem.ClaimSeven
namespace Go.Proofs.YtfjkpjgbigcpiaaDoor
namespace Rows

/-- THE TIED CARD OF 'queuelablaw21.IntegralMatchesReference'. -/
def integralMatchesReferenceCard : Claim7 := { stood := { row := integralMatchesReferenceRow, standIns := [], harness := (true, "105d156e0701894084c3f098812b09192154abd4eeca6a17becc14797918a3c7"), looks := false }, kinds := [], alts := [], laidByText := true, laidKinds := [.data], laidTests := true, laidLooks := .later }
def IntegralMatchesReferenceCardSaid : Prop := Claim7.holds Tryd.pinned (.plain (OpenSpec.ofChange integralMatchesReferenceSpec)) integralMatchesReferenceCard

/-- THE TIED CARD OF 'queuelablaw21.IntegralConserves'. -/
def integralConservesCard : Claim7 := { stood := { row := integralConservesRow, standIns := [], harness := (true, "105d156e0701894084c3f098812b09192154abd4eeca6a17becc14797918a3c7"), looks := false }, kinds := [], alts := [], laidByText := true, laidKinds := [.data], laidTests := true, laidLooks := .later }
def IntegralConservesCardSaid : Prop := Claim7.holds Tryd.pinned (.plain (OpenSpec.ofChange integralConservesSpec)) integralConservesCard

/-- THE TIED CARD OF 'queuelablaw21.IntegralCalm'. -/
def integralCalmCard : Claim7 := { stood := { row := integralCalmRow, standIns := [], harness := (true, "105d156e0701894084c3f098812b09192154abd4eeca6a17becc14797918a3c7"), looks := false }, kinds := [], alts := [], laidByText := true, laidKinds := [.data], laidTests := true, laidLooks := .later }
def IntegralCalmCardSaid : Prop := Claim7.holds Tryd.pinned (.plain (OpenSpec.ofChange integralCalmSpec)) integralCalmCard

/-- THE TIED CARD OF 'queuelablaw21.IntegralCertain'. -/
def integralCertainCard : Claim7 := { stood := { row := integralCertainRow, standIns := [], harness := (true, "105d156e0701894084c3f098812b09192154abd4eeca6a17becc14797918a3c7"), looks := false }, kinds := [], alts := [], laidByText := true, laidKinds := [.data], laidTests := true, laidLooks := .later }
def IntegralCertainCardSaid : Prop := Claim7.holds Tryd.pinned (.plain (OpenSpec.ofChange integralCertainSpec)) integralCertainCard

/-- THE TIED CARD OF 'queuelablaw21.IntegralDirection'. -/
def integralDirectionCard : Claim7 := { stood := { row := integralDirectionRow, standIns := [], harness := (true, "105d156e0701894084c3f098812b09192154abd4eeca6a17becc14797918a3c7"), looks := false }, kinds := [], alts := [], laidByText := true, laidKinds := [.data], laidTests := true, laidLooks := .later }
def IntegralDirectionCardSaid : Prop := Claim7.holds Tryd.pinned (.plain (OpenSpec.ofChange integralDirectionSpec)) integralDirectionCard

/-- THE TIED CARD OF 'queuelablaw21.IntegralPeriod'. -/
def integralPeriodCard : Claim7 := { stood := { row := integralPeriodRow, standIns := [], harness := (true, "105d156e0701894084c3f098812b09192154abd4eeca6a17becc14797918a3c7"), looks := false }, kinds := [], alts := [], laidByText := true, laidKinds := [.data], laidTests := true, laidLooks := .later }
def IntegralPeriodCardSaid : Prop := Claim7.holds Tryd.pinned (.plain (OpenSpec.ofChange integralPeriodSpec)) integralPeriodCard

/-- THE TIED CARD OF 'queuelablaw21.IntegralRises'. -/
def integralRisesCard : Claim7 := { stood := { row := integralRisesRow, standIns := [], harness := (true, "105d156e0701894084c3f098812b09192154abd4eeca6a17becc14797918a3c7"), looks := false }, kinds := [], alts := [], laidByText := true, laidKinds := [.data], laidTests := true, laidLooks := .later }
def IntegralRisesCardSaid : Prop := Claim7.holds Tryd.pinned (.plain (OpenSpec.ofChange integralRisesSpec)) integralRisesCard

/-- THE SECOND FORM's CARD OF 'queuelablaw21.IntegralMatchesReference'. -/
def integralMatchesReferenceUptoCard : Claim7 := { stood := { row := integralMatchesReferenceUptoRow, standIns := [], harness := (true, "105d156e0701894084c3f098812b09192154abd4eeca6a17becc14797918a3c7"), looks := false }, kinds := [], alts := [], laidByText := true, laidKinds := [.data], laidTests := true, laidLooks := .later }
def IntegralMatchesReferenceUptoCardSaid : Prop := Claim7.holds Tryd.pinned (.plain (OpenSpec.upto integralMatchesReferenceSpec)) integralMatchesReferenceUptoCard

/-- THE SECOND FORM's CARD OF 'queuelablaw21.IntegralConserves'. -/
def integralConservesUptoCard : Claim7 := { stood := { row := integralConservesUptoRow, standIns := [], harness := (true, "105d156e0701894084c3f098812b09192154abd4eeca6a17becc14797918a3c7"), looks := false }, kinds := [], alts := [], laidByText := true, laidKinds := [.data], laidTests := true, laidLooks := .later }
def IntegralConservesUptoCardSaid : Prop := Claim7.holds Tryd.pinned (.plain (OpenSpec.upto integralConservesSpec)) integralConservesUptoCard

/-- THE SECOND FORM's CARD OF 'queuelablaw21.IntegralCalm'. -/
def integralCalmUptoCard : Claim7 := { stood := { row := integralCalmUptoRow, standIns := [], harness := (true, "105d156e0701894084c3f098812b09192154abd4eeca6a17becc14797918a3c7"), looks := false }, kinds := [], alts := [], laidByText := true, laidKinds := [.data], laidTests := true, laidLooks := .later }
def IntegralCalmUptoCardSaid : Prop := Claim7.holds Tryd.pinned (.plain (OpenSpec.upto integralCalmSpec)) integralCalmUptoCard

/-- THE SECOND FORM's CARD OF 'queuelablaw21.IntegralCertain'. -/
def integralCertainUptoCard : Claim7 := { stood := { row := integralCertainUptoRow, standIns := [], harness := (true, "105d156e0701894084c3f098812b09192154abd4eeca6a17becc14797918a3c7"), looks := false }, kinds := [], alts := [], laidByText := true, laidKinds := [.data], laidTests := true, laidLooks := .later }
def IntegralCertainUptoCardSaid : Prop := Claim7.holds Tryd.pinned (.plain (OpenSpec.upto integralCertainSpec)) integralCertainUptoCard

/-- THE SECOND FORM's CARD OF 'queuelablaw21.IntegralDirection'. -/
def integralDirectionUptoCard : Claim7 := { stood := { row := integralDirectionUptoRow, standIns := [], harness := (true, "105d156e0701894084c3f098812b09192154abd4eeca6a17becc14797918a3c7"), looks := false }, kinds := [], alts := [], laidByText := true, laidKinds := [.data], laidTests := true, laidLooks := .later }
def IntegralDirectionUptoCardSaid : Prop := Claim7.holds Tryd.pinned (.plain (OpenSpec.upto integralDirectionSpec)) integralDirectionUptoCard

/-- THE SECOND FORM's CARD OF 'queuelablaw21.IntegralPeriod'. -/
def integralPeriodUptoCard : Claim7 := { stood := { row := integralPeriodUptoRow, standIns := [], harness := (true, "105d156e0701894084c3f098812b09192154abd4eeca6a17becc14797918a3c7"), looks := false }, kinds := [], alts := [], laidByText := true, laidKinds := [.data], laidTests := true, laidLooks := .later }
def IntegralPeriodUptoCardSaid : Prop := Claim7.holds Tryd.pinned (.plain (OpenSpec.upto integralPeriodSpec)) integralPeriodUptoCard

/-- THE SECOND FORM's CARD OF 'queuelablaw21.IntegralRises'. -/
def integralRisesUptoCard : Claim7 := { stood := { row := integralRisesUptoRow, standIns := [], harness := (true, "105d156e0701894084c3f098812b09192154abd4eeca6a17becc14797918a3c7"), looks := false }, kinds := [], alts := [], laidByText := true, laidKinds := [.data], laidTests := true, laidLooks := .later }
def IntegralRisesUptoCardSaid : Prop := Claim7.holds Tryd.pinned (.plain (OpenSpec.upto integralRisesSpec)) integralRisesUptoCard
end Rows
end Go.Proofs.YtfjkpjgbigcpiaaDoor
