/-
  DERIVED. GIVEN WITH THE SEED: THE CARDS: each row of YteabhojpkhaknaaGreatDoorRows.lean that lists a variable, with what it lists TIED to the program's text (the seventh form; the later family's looks); each row that meets fmt, with fmt's text TOLD by the authors' own Lean function (tested against real Go, not proved from fmt's source: count such statements apart). THE CARD IS WHAT COUNTS. Prove the row's statement (the work); the ties are given (YteabhojpkhaknaaGreatDoorTie.lean); close each card by the builder's one call (the guide's Derived/Test/ToyasCard.lean, 'card_holds'). Laid BY PROGRAM, IN A SANDBOX (cutbox-door.mjs). By AI agents, Wed Nov 11 2026. No macro, syntax, notation, axiom, sorry.
-/
import Derived.Test.YteabhojpkhaknaaGreatDoorRows
import GoSem.ClaimSeven
namespace Go.Proofs.YteabhojpkhaknaaGreatDoor
namespace Rows

/-- THE TIED CARD OF 'nautiluslaw14.PlainLists'. -/
def plainListsCard : Claim7 := { stood := { row := plainListsRow, standIns := [], harness := (true, "83ecb7b39c2f1af4b71828c5a72d15455465da43de386fb38755c754432d6376"), looks := false }, kinds := [], alts := [], laidByText := true, laidKinds := [.data, .pinned], laidTests := true, laidLooks := .later }
def PlainListsCardSaid : Prop := Claim7.holds Tryz.pinned (.plain (OpenSpec.ofChange plainListsSpec)) plainListsCard

/-- THE TIED CARD OF 'nautiluslaw14.PlainSizes'. -/
def plainSizesCard : Claim7 := { stood := { row := plainSizesRow, standIns := [], harness := (true, "83ecb7b39c2f1af4b71828c5a72d15455465da43de386fb38755c754432d6376"), looks := false }, kinds := [], alts := [], laidByText := true, laidKinds := [.data, .pinned], laidTests := true, laidLooks := .later }
def PlainSizesCardSaid : Prop := Claim7.holds Tryz.pinned (.plain (OpenSpec.ofChange plainSizesSpec)) plainSizesCard

/-- THE TIED CARD OF 'nautiluslaw14.PlainDeep'. -/
def plainDeepCard : Claim7 := { stood := { row := plainDeepRow, standIns := [], harness := (true, "83ecb7b39c2f1af4b71828c5a72d15455465da43de386fb38755c754432d6376"), looks := false }, kinds := [], alts := [], laidByText := true, laidKinds := [.data, .pinned], laidTests := true, laidLooks := .later }
def PlainDeepCardSaid : Prop := Claim7.holds Tryz.pinned (.plain (OpenSpec.ofChange plainDeepSpec)) plainDeepCard

/-- THE TIED CARD OF 'nautiluslaw22.HistTurns'. -/
def histTurnsCard : Claim7 := { stood := { row := histTurnsRow, standIns := [], harness := (true, "83ecb7b39c2f1af4b71828c5a72d15455465da43de386fb38755c754432d6376"), looks := false }, kinds := [], alts := [], laidByText := true, laidKinds := [.data, .pinned], laidTests := true, laidLooks := .later }
def HistTurnsCardSaid : Prop := Claim7.holds Tryz.pinned (.plain (OpenSpec.ofChange histTurnsSpec)) histTurnsCard

/-- THE TIED CARD OF 'nautiluslaw22.HistNames'. -/
def histNamesCard : Claim7 := { stood := { row := histNamesRow, standIns := [], harness := (true, "83ecb7b39c2f1af4b71828c5a72d15455465da43de386fb38755c754432d6376"), looks := false }, kinds := [], alts := [], laidByText := true, laidKinds := [.data, .pinned], laidTests := true, laidLooks := .later }
def HistNamesCardSaid : Prop := Claim7.holds Tryz.pinned (.plain (OpenSpec.ofChange histNamesSpec)) histNamesCard

/-- THE TIED CARD OF 'nautiluslaw22.HistNone'. -/
def histNoneCard : Claim7 := { stood := { row := histNoneRow, standIns := [], harness := (true, "83ecb7b39c2f1af4b71828c5a72d15455465da43de386fb38755c754432d6376"), looks := false }, kinds := [], alts := [], laidByText := true, laidKinds := [.data, .pinned], laidTests := true, laidLooks := .later }
def HistNoneCardSaid : Prop := Claim7.holds Tryz.pinned (.plain (OpenSpec.ofChange histNoneSpec)) histNoneCard

/-- THE TIED CARD OF 'nautiluslaw20.CleanChooses'. -/
def cleanChoosesCard : Claim7 := { stood := { row := cleanChoosesRow, standIns := [], harness := (true, "83ecb7b39c2f1af4b71828c5a72d15455465da43de386fb38755c754432d6376"), looks := false }, kinds := [], alts := [], laidByText := true, laidKinds := [.data, .pinned], laidTests := true, laidLooks := .later }
def CleanChoosesCardSaid : Prop := Claim7.holds Tryz.pinned (.plain (OpenSpec.ofChange cleanChoosesSpec)) cleanChoosesCard

/-- THE TIED CARD OF 'nautiluslaw20.CleanSteps'. -/
def cleanStepsCard : Claim7 := { stood := { row := cleanStepsRow, standIns := [], harness := (true, "83ecb7b39c2f1af4b71828c5a72d15455465da43de386fb38755c754432d6376"), looks := false }, kinds := [], alts := [], laidByText := true, laidKinds := [.data, .pinned], laidTests := true, laidLooks := .later }
def CleanStepsCardSaid : Prop := Claim7.holds Tryz.pinned (.plain (OpenSpec.ofChange cleanStepsSpec)) cleanStepsCard

/-- THE SECOND FORM's CARD OF 'nautiluslaw14.PlainLists'. -/
def plainListsUptoCard : Claim7 := { stood := { row := plainListsUptoRow, standIns := [], harness := (true, "83ecb7b39c2f1af4b71828c5a72d15455465da43de386fb38755c754432d6376"), looks := false }, kinds := [], alts := [], laidByText := true, laidKinds := [.data, .pinned], laidTests := true, laidLooks := .later }
def PlainListsUptoCardSaid : Prop := Claim7.holds Tryz.pinned (.plain (OpenSpec.upto plainListsSpec)) plainListsUptoCard

/-- THE SECOND FORM's CARD OF 'nautiluslaw14.PlainSizes'. -/
def plainSizesUptoCard : Claim7 := { stood := { row := plainSizesUptoRow, standIns := [], harness := (true, "83ecb7b39c2f1af4b71828c5a72d15455465da43de386fb38755c754432d6376"), looks := false }, kinds := [], alts := [], laidByText := true, laidKinds := [.data, .pinned], laidTests := true, laidLooks := .later }
def PlainSizesUptoCardSaid : Prop := Claim7.holds Tryz.pinned (.plain (OpenSpec.upto plainSizesSpec)) plainSizesUptoCard

/-- THE SECOND FORM's CARD OF 'nautiluslaw14.PlainDeep'. -/
def plainDeepUptoCard : Claim7 := { stood := { row := plainDeepUptoRow, standIns := [], harness := (true, "83ecb7b39c2f1af4b71828c5a72d15455465da43de386fb38755c754432d6376"), looks := false }, kinds := [], alts := [], laidByText := true, laidKinds := [.data, .pinned], laidTests := true, laidLooks := .later }
def PlainDeepUptoCardSaid : Prop := Claim7.holds Tryz.pinned (.plain (OpenSpec.upto plainDeepSpec)) plainDeepUptoCard

/-- THE SECOND FORM's CARD OF 'nautiluslaw22.HistTurns'. -/
def histTurnsUptoCard : Claim7 := { stood := { row := histTurnsUptoRow, standIns := [], harness := (true, "83ecb7b39c2f1af4b71828c5a72d15455465da43de386fb38755c754432d6376"), looks := false }, kinds := [], alts := [], laidByText := true, laidKinds := [.data, .pinned], laidTests := true, laidLooks := .later }
def HistTurnsUptoCardSaid : Prop := Claim7.holds Tryz.pinned (.plain (OpenSpec.upto histTurnsSpec)) histTurnsUptoCard

/-- THE SECOND FORM's CARD OF 'nautiluslaw22.HistNames'. -/
def histNamesUptoCard : Claim7 := { stood := { row := histNamesUptoRow, standIns := [], harness := (true, "83ecb7b39c2f1af4b71828c5a72d15455465da43de386fb38755c754432d6376"), looks := false }, kinds := [], alts := [], laidByText := true, laidKinds := [.data, .pinned], laidTests := true, laidLooks := .later }
def HistNamesUptoCardSaid : Prop := Claim7.holds Tryz.pinned (.plain (OpenSpec.upto histNamesSpec)) histNamesUptoCard

/-- THE SECOND FORM's CARD OF 'nautiluslaw22.HistNone'. -/
def histNoneUptoCard : Claim7 := { stood := { row := histNoneUptoRow, standIns := [], harness := (true, "83ecb7b39c2f1af4b71828c5a72d15455465da43de386fb38755c754432d6376"), looks := false }, kinds := [], alts := [], laidByText := true, laidKinds := [.data, .pinned], laidTests := true, laidLooks := .later }
def HistNoneUptoCardSaid : Prop := Claim7.holds Tryz.pinned (.plain (OpenSpec.upto histNoneSpec)) histNoneUptoCard

/-- THE SECOND FORM's CARD OF 'nautiluslaw20.CleanChooses'. -/
def cleanChoosesUptoCard : Claim7 := { stood := { row := cleanChoosesUptoRow, standIns := [], harness := (true, "83ecb7b39c2f1af4b71828c5a72d15455465da43de386fb38755c754432d6376"), looks := false }, kinds := [], alts := [], laidByText := true, laidKinds := [.data, .pinned], laidTests := true, laidLooks := .later }
def CleanChoosesUptoCardSaid : Prop := Claim7.holds Tryz.pinned (.plain (OpenSpec.upto cleanChoosesSpec)) cleanChoosesUptoCard

/-- THE SECOND FORM's CARD OF 'nautiluslaw20.CleanSteps'. -/
def cleanStepsUptoCard : Claim7 := { stood := { row := cleanStepsUptoRow, standIns := [], harness := (true, "83ecb7b39c2f1af4b71828c5a72d15455465da43de386fb38755c754432d6376"), looks := false }, kinds := [], alts := [], laidByText := true, laidKinds := [.data, .pinned], laidTests := true, laidLooks := .later }
def CleanStepsUptoCardSaid : Prop := Claim7.holds Tryz.pinned (.plain (OpenSpec.upto cleanStepsSpec)) cleanStepsUptoCard
end Rows
end Go.Proofs.YteabhojpkhaknaaGreatDoor
