/-
  DERIVED. GIVEN WITH THE SEED: THE CARDS: each row of YtdjdbgilimjagaaDoorRows.lean that lists a variable, with what it lists TIED to the program's text (the seventh form; the later family's looks); each row that meets fmt, with fmt's text TOLD by the authors' own Lean function (tested against real Go, not proved from fmt's source: count such statements apart). THE CARD IS WHAT COUNTS. Prove the row's statement (the work); the ties are given (YtdjdbgilimjagaaDoorTie.lean); close each card by the builder's one call (the guide's Derived/Test/ToyasCard.lean, 'card_holds'). Laid BY PROGRAM, IN A SANDBOX (cutbox-door.mjs). By AI agents, Wed Nov 11 2026. No macro, syntax, notation, axiom, sorry.
-/
import Derived.Test.YtdjdbgilimjagaaDoorRows
import GoSem.ClaimSeven
namespace Go.Proofs.YtdjdbgilimjagaaDoor
namespace Rows

/-- THE TIED CARD OF 'cleatlaw05.CodeWord'. -/
def codeWordCard : Claim7 := { stood := { row := codeWordRow, standIns := [], harness := (true, "c3a7918d206da473af031b65cdb337f064bebe2dd0bbd507a79751c903ac9ed1"), looks := true }, kinds := [], alts := [], laidByText := true, laidKinds := [.data], laidTests := true, laidLooks := .later }
def CodeWordCardSaid : Prop := Claim7.holds Tryd.pinned (.plain (OpenSpec.ofChange codeWordSpec)) codeWordCard

/-- THE TIED CARD OF 'cleatlaw05.CodeBit'. -/
def codeBitCard : Claim7 := { stood := { row := codeBitRow, standIns := [], harness := (true, "c3a7918d206da473af031b65cdb337f064bebe2dd0bbd507a79751c903ac9ed1"), looks := true }, kinds := [], alts := [], laidByText := true, laidKinds := [.data], laidTests := true, laidLooks := .later }
def CodeBitCardSaid : Prop := Claim7.holds Tryd.pinned (.plain (OpenSpec.ofChange codeBitSpec)) codeBitCard

/-- THE TIED CARD OF 'cleatlaw05.CodeFields'. -/
def codeFieldsCard : Claim7 := { stood := { row := codeFieldsRow, standIns := [], harness := (true, "c3a7918d206da473af031b65cdb337f064bebe2dd0bbd507a79751c903ac9ed1"), looks := true }, kinds := [], alts := [], laidByText := true, laidKinds := [.data], laidTests := true, laidLooks := .later }
def CodeFieldsCardSaid : Prop := Claim7.holds Tryd.pinned (.plain (OpenSpec.ofChange codeFieldsSpec)) codeFieldsCard

/-- THE TIED CARD OF 'cleatlaw26.FixLeads'. -/
def fixLeadsCard : Claim7 := { stood := { row := fixLeadsRow, standIns := [], harness := (true, "c3a7918d206da473af031b65cdb337f064bebe2dd0bbd507a79751c903ac9ed1"), looks := true }, kinds := [], alts := [], laidByText := true, laidKinds := [.data], laidTests := true, laidLooks := .later }
def FixLeadsCardSaid : Prop := Claim7.holds Tryd.pinned (.plain (OpenSpec.ofChange fixLeadsSpec)) fixLeadsCard

/-- THE TIED CARD OF 'cleatlaw26.FixOnly'. -/
def fixOnlyCard : Claim7 := { stood := { row := fixOnlyRow, standIns := [], harness := (true, "c3a7918d206da473af031b65cdb337f064bebe2dd0bbd507a79751c903ac9ed1"), looks := true }, kinds := [], alts := [], laidByText := true, laidKinds := [.data], laidTests := true, laidLooks := .later }
def FixOnlyCardSaid : Prop := Claim7.holds Tryd.pinned (.plain (OpenSpec.ofChange fixOnlySpec)) fixOnlyCard

/-- THE TIED CARD OF 'cleatlaw26.FixMoved'. -/
def fixMovedCard : Claim7 := { stood := { row := fixMovedRow, standIns := [], harness := (true, "c3a7918d206da473af031b65cdb337f064bebe2dd0bbd507a79751c903ac9ed1"), looks := true }, kinds := [], alts := [], laidByText := true, laidKinds := [.data], laidTests := true, laidLooks := .later }
def FixMovedCardSaid : Prop := Claim7.holds Tryd.pinned (.plain (OpenSpec.ofChange fixMovedSpec)) fixMovedCard

/-- THE TIED CARD OF 'cleatlaw04.InstRenamed'. -/
def instRenamedCard : Claim7 := { stood := { row := instRenamedRow, standIns := [], harness := (true, "c3a7918d206da473af031b65cdb337f064bebe2dd0bbd507a79751c903ac9ed1"), looks := true }, kinds := [], alts := [], laidByText := true, laidKinds := [.data], laidTests := true, laidLooks := .later }
def InstRenamedCardSaid : Prop := Claim7.holds Tryd.pinned (.plain (OpenSpec.ofChange instRenamedSpec)) instRenamedCard

/-- THE SECOND FORM's CARD OF 'cleatlaw05.CodeWord'. -/
def codeWordUptoCard : Claim7 := { stood := { row := codeWordUptoRow, standIns := [], harness := (true, "c3a7918d206da473af031b65cdb337f064bebe2dd0bbd507a79751c903ac9ed1"), looks := true }, kinds := [], alts := [], laidByText := true, laidKinds := [.data], laidTests := true, laidLooks := .later }
def CodeWordUptoCardSaid : Prop := Claim7.holds Tryd.pinned (.plain (OpenSpec.upto codeWordSpec)) codeWordUptoCard

/-- THE SECOND FORM's CARD OF 'cleatlaw05.CodeBit'. -/
def codeBitUptoCard : Claim7 := { stood := { row := codeBitUptoRow, standIns := [], harness := (true, "c3a7918d206da473af031b65cdb337f064bebe2dd0bbd507a79751c903ac9ed1"), looks := true }, kinds := [], alts := [], laidByText := true, laidKinds := [.data], laidTests := true, laidLooks := .later }
def CodeBitUptoCardSaid : Prop := Claim7.holds Tryd.pinned (.plain (OpenSpec.upto codeBitSpec)) codeBitUptoCard

/-- THE SECOND FORM's CARD OF 'cleatlaw05.CodeFields'. -/
def codeFieldsUptoCard : Claim7 := { stood := { row := codeFieldsUptoRow, standIns := [], harness := (true, "c3a7918d206da473af031b65cdb337f064bebe2dd0bbd507a79751c903ac9ed1"), looks := true }, kinds := [], alts := [], laidByText := true, laidKinds := [.data], laidTests := true, laidLooks := .later }
def CodeFieldsUptoCardSaid : Prop := Claim7.holds Tryd.pinned (.plain (OpenSpec.upto codeFieldsSpec)) codeFieldsUptoCard

/-- THE SECOND FORM's CARD OF 'cleatlaw26.FixLeads'. -/
def fixLeadsUptoCard : Claim7 := { stood := { row := fixLeadsUptoRow, standIns := [], harness := (true, "c3a7918d206da473af031b65cdb337f064bebe2dd0bbd507a79751c903ac9ed1"), looks := true }, kinds := [], alts := [], laidByText := true, laidKinds := [.data], laidTests := true, laidLooks := .later }
def FixLeadsUptoCardSaid : Prop := Claim7.holds Tryd.pinned (.plain (OpenSpec.upto fixLeadsSpec)) fixLeadsUptoCard

/-- THE SECOND FORM's CARD OF 'cleatlaw26.FixOnly'. -/
def fixOnlyUptoCard : Claim7 := { stood := { row := fixOnlyUptoRow, standIns := [], harness := (true, "c3a7918d206da473af031b65cdb337f064bebe2dd0bbd507a79751c903ac9ed1"), looks := true }, kinds := [], alts := [], laidByText := true, laidKinds := [.data], laidTests := true, laidLooks := .later }
def FixOnlyUptoCardSaid : Prop := Claim7.holds Tryd.pinned (.plain (OpenSpec.upto fixOnlySpec)) fixOnlyUptoCard

/-- THE SECOND FORM's CARD OF 'cleatlaw26.FixMoved'. -/
def fixMovedUptoCard : Claim7 := { stood := { row := fixMovedUptoRow, standIns := [], harness := (true, "c3a7918d206da473af031b65cdb337f064bebe2dd0bbd507a79751c903ac9ed1"), looks := true }, kinds := [], alts := [], laidByText := true, laidKinds := [.data], laidTests := true, laidLooks := .later }
def FixMovedUptoCardSaid : Prop := Claim7.holds Tryd.pinned (.plain (OpenSpec.upto fixMovedSpec)) fixMovedUptoCard

/-- THE SECOND FORM's CARD OF 'cleatlaw04.InstRenamed'. -/
def instRenamedUptoCard : Claim7 := { stood := { row := instRenamedUptoRow, standIns := [], harness := (true, "c3a7918d206da473af031b65cdb337f064bebe2dd0bbd507a79751c903ac9ed1"), looks := true }, kinds := [], alts := [], laidByText := true, laidKinds := [.data], laidTests := true, laidLooks := .later }
def InstRenamedUptoCardSaid : Prop := Claim7.holds Tryd.pinned (.plain (OpenSpec.upto instRenamedSpec)) instRenamedUptoCard
end Rows
end Go.Proofs.YtdjdbgilimjagaaDoor
