/-
  DERIVED. GIVEN WITH THE SEED: THE CARDS: each row of YtbekhaioddmliaaDoorRows.lean that lists a variable, with what it lists TIED to the program's text (the seventh form; the later family's looks); each row that meets fmt, with fmt's text TOLD by the authors' own Lean function (tested against real Go, not proved from fmt's source: count such statements apart). THE CARD IS WHAT COUNTS. Prove the row's statement (the work); the ties are given (YtbekhaioddmliaaDoorTie.lean); close each card by the builder's one call (the guide's Derived/Test/ToyasCard.lean, 'card_holds'). Laid BY PROGRAM, IN A SANDBOX (cutbox-door.mjs). By AI agents, Wed Nov 11 2026. No macro, syntax, notation, axiom, sorry.
-/
import Derived.Test.YtbekhaioddmliaaDoorRows
import GoSem.ClaimSeven
namespace Go.Proofs.YtbekhaioddmliaaDoor
namespace Rows

/-- THE TIED CARD OF 'smithyardlaw3.ConfigChecksMatchSpec'. -/
def configChecksMatchSpecCard : Claim7 := { stood := { row := configChecksMatchSpecRow, standIns := [], harness := (true, "6f06fcff64699bc395c602673424631f0bf6169a24104a1d43795a24c224e43b"), looks := false }, kinds := [], alts := [], laidByText := true, laidKinds := [.data, .pinned], laidTests := true, laidLooks := .later }
def ConfigChecksMatchSpecCardSaid : Prop := Claim7.holds Tryd.pinned (.plain (OpenSpec.ofChange configChecksMatchSpecSpec)) configChecksMatchSpecCard

/-- THE TIED CARD OF 'smithyardlaw3.ConfigHoldsMatchesSpec'. -/
def configHoldsMatchesSpecCard : Claim7 := { stood := { row := configHoldsMatchesSpecRow, standIns := [], harness := (true, "6f06fcff64699bc395c602673424631f0bf6169a24104a1d43795a24c224e43b"), looks := false }, kinds := [], alts := [], laidByText := true, laidKinds := [.data, .pinned], laidTests := true, laidLooks := .later }
def ConfigHoldsMatchesSpecCardSaid : Prop := Claim7.holds Tryd.pinned (.plain (OpenSpec.ofChange configHoldsMatchesSpecSpec)) configHoldsMatchesSpecCard

/-- THE TIED CARD OF 'smithyardlaw3.ConfigToolsMatchSpec'. -/
def configToolsMatchSpecCard : Claim7 := { stood := { row := configToolsMatchSpecRow, standIns := [], harness := (true, "6f06fcff64699bc395c602673424631f0bf6169a24104a1d43795a24c224e43b"), looks := false }, kinds := [], alts := [], laidByText := true, laidKinds := [.data, .pinned], laidTests := true, laidLooks := .later }
def ConfigToolsMatchSpecCardSaid : Prop := Claim7.holds Tryd.pinned (.plain (OpenSpec.ofChange configToolsMatchSpecSpec)) configToolsMatchSpecCard

/-- THE TIED CARD OF 'smithyardlaw3.ConfigToolsFewerKinds'. -/
def configToolsFewerKindsCard : Claim7 := { stood := { row := configToolsFewerKindsRow, standIns := [], harness := (true, "6f06fcff64699bc395c602673424631f0bf6169a24104a1d43795a24c224e43b"), looks := false }, kinds := [], alts := [], laidByText := true, laidKinds := [.data, .pinned], laidTests := true, laidLooks := .later }
def ConfigToolsFewerKindsCardSaid : Prop := Claim7.holds Tryd.pinned (.plain (OpenSpec.ofChange configToolsFewerKindsSpec)) configToolsFewerKindsCard

/-- THE TIED CARD OF 'smithyardlaw3.ConfigTextsMatchSpec'. -/
def configTextsMatchSpecCard : Claim7 := { stood := { row := configTextsMatchSpecRow, standIns := [], harness := (true, "6f06fcff64699bc395c602673424631f0bf6169a24104a1d43795a24c224e43b"), looks := false }, kinds := [], alts := [], laidByText := true, laidKinds := [.data, .pinned], laidTests := true, laidLooks := .later }
def ConfigTextsMatchSpecCardSaid : Prop := Claim7.holds Tryd.pinned (.plain (OpenSpec.ofChange configTextsMatchSpecSpec)) configTextsMatchSpecCard

/-- THE TIED CARD OF 'smithyardlaw3.ConfigReadsMatchSpec'. -/
def configReadsMatchSpecCard : Claim7 := { stood := { row := configReadsMatchSpecRow, standIns := [], harness := (true, "6f06fcff64699bc395c602673424631f0bf6169a24104a1d43795a24c224e43b"), looks := false }, kinds := [], alts := [], laidByText := true, laidKinds := [.data, .pinned], laidTests := true, laidLooks := .later }
def ConfigReadsMatchSpecCardSaid : Prop := Claim7.holds Tryd.pinned (.plain (OpenSpec.ofChange configReadsMatchSpecSpec)) configReadsMatchSpecCard

/-- THE TIED CARD OF 'smithyardlaw3.ConfigWithMatchesSpec'. -/
def configWithMatchesSpecCard : Claim7 := { stood := { row := configWithMatchesSpecRow, standIns := [], harness := (true, "6f06fcff64699bc395c602673424631f0bf6169a24104a1d43795a24c224e43b"), looks := false }, kinds := [], alts := [], laidByText := true, laidKinds := [.data, .pinned], laidTests := true, laidLooks := .later }
def ConfigWithMatchesSpecCardSaid : Prop := Claim7.holds Tryd.pinned (.plain (OpenSpec.ofChange configWithMatchesSpecSpec)) configWithMatchesSpecCard

/-- THE TIED CARD OF 'smithyardlaw3.ConfigAllMatchesSpec'. -/
def configAllMatchesSpecCard : Claim7 := { stood := { row := configAllMatchesSpecRow, standIns := [], harness := (true, "6f06fcff64699bc395c602673424631f0bf6169a24104a1d43795a24c224e43b"), looks := false }, kinds := [], alts := [], laidByText := true, laidKinds := [.data, .pinned], laidTests := true, laidLooks := .later }
def ConfigAllMatchesSpecCardSaid : Prop := Claim7.holds Tryd.pinned (.plain (OpenSpec.ofChange configAllMatchesSpecSpec)) configAllMatchesSpecCard

/-- THE TIED CARD OF 'smithyardlaw3.ConfigAllHasOnly'. -/
def configAllHasOnlyCard : Claim7 := { stood := { row := configAllHasOnlyRow, standIns := [], harness := (true, "6f06fcff64699bc395c602673424631f0bf6169a24104a1d43795a24c224e43b"), looks := false }, kinds := [], alts := [], laidByText := true, laidKinds := [.data, .pinned], laidTests := true, laidLooks := .later }
def ConfigAllHasOnlyCardSaid : Prop := Claim7.holds Tryd.pinned (.plain (OpenSpec.ofChange configAllHasOnlySpec)) configAllHasOnlyCard

/-- THE TIED CARD OF 'smithyardlaw3.ConfigChosenIsOne'. -/
def configChosenIsOneCard : Claim7 := { stood := { row := configChosenIsOneRow, standIns := [], harness := (true, "6f06fcff64699bc395c602673424631f0bf6169a24104a1d43795a24c224e43b"), looks := false }, kinds := [], alts := [], laidByText := true, laidKinds := [.data, .pinned], laidTests := true, laidLooks := .later }
def ConfigChosenIsOneCardSaid : Prop := Claim7.holds Tryd.pinned (.plain (OpenSpec.ofChange configChosenIsOneSpec)) configChosenIsOneCard

/-- THE TIED CARD OF 'smithyardlaw3.ConfigChosenThenAdd'. -/
def configChosenThenAddCard : Claim7 := { stood := { row := configChosenThenAddRow, standIns := [], harness := (true, "6f06fcff64699bc395c602673424631f0bf6169a24104a1d43795a24c224e43b"), looks := false }, kinds := [], alts := [], laidByText := true, laidKinds := [.data, .pinned], laidTests := true, laidLooks := .later }
def ConfigChosenThenAddCardSaid : Prop := Claim7.holds Tryd.pinned (.plain (OpenSpec.ofChange configChosenThenAddSpec)) configChosenThenAddCard

/-- THE SECOND FORM's CARD OF 'smithyardlaw3.ConfigChecksMatchSpec'. -/
def configChecksMatchSpecUptoCard : Claim7 := { stood := { row := configChecksMatchSpecUptoRow, standIns := [], harness := (true, "6f06fcff64699bc395c602673424631f0bf6169a24104a1d43795a24c224e43b"), looks := false }, kinds := [], alts := [], laidByText := true, laidKinds := [.data, .pinned], laidTests := true, laidLooks := .later }
def ConfigChecksMatchSpecUptoCardSaid : Prop := Claim7.holds Tryd.pinned (.plain (OpenSpec.upto configChecksMatchSpecSpec)) configChecksMatchSpecUptoCard

/-- THE SECOND FORM's CARD OF 'smithyardlaw3.ConfigHoldsMatchesSpec'. -/
def configHoldsMatchesSpecUptoCard : Claim7 := { stood := { row := configHoldsMatchesSpecUptoRow, standIns := [], harness := (true, "6f06fcff64699bc395c602673424631f0bf6169a24104a1d43795a24c224e43b"), looks := false }, kinds := [], alts := [], laidByText := true, laidKinds := [.data, .pinned], laidTests := true, laidLooks := .later }
def ConfigHoldsMatchesSpecUptoCardSaid : Prop := Claim7.holds Tryd.pinned (.plain (OpenSpec.upto configHoldsMatchesSpecSpec)) configHoldsMatchesSpecUptoCard

/-- THE SECOND FORM's CARD OF 'smithyardlaw3.ConfigToolsMatchSpec'. -/
def configToolsMatchSpecUptoCard : Claim7 := { stood := { row := configToolsMatchSpecUptoRow, standIns := [], harness := (true, "6f06fcff64699bc395c602673424631f0bf6169a24104a1d43795a24c224e43b"), looks := false }, kinds := [], alts := [], laidByText := true, laidKinds := [.data, .pinned], laidTests := true, laidLooks := .later }
def ConfigToolsMatchSpecUptoCardSaid : Prop := Claim7.holds Tryd.pinned (.plain (OpenSpec.upto configToolsMatchSpecSpec)) configToolsMatchSpecUptoCard

/-- THE SECOND FORM's CARD OF 'smithyardlaw3.ConfigToolsFewerKinds'. -/
def configToolsFewerKindsUptoCard : Claim7 := { stood := { row := configToolsFewerKindsUptoRow, standIns := [], harness := (true, "6f06fcff64699bc395c602673424631f0bf6169a24104a1d43795a24c224e43b"), looks := false }, kinds := [], alts := [], laidByText := true, laidKinds := [.data, .pinned], laidTests := true, laidLooks := .later }
def ConfigToolsFewerKindsUptoCardSaid : Prop := Claim7.holds Tryd.pinned (.plain (OpenSpec.upto configToolsFewerKindsSpec)) configToolsFewerKindsUptoCard

/-- THE SECOND FORM's CARD OF 'smithyardlaw3.ConfigTextsMatchSpec'. -/
def configTextsMatchSpecUptoCard : Claim7 := { stood := { row := configTextsMatchSpecUptoRow, standIns := [], harness := (true, "6f06fcff64699bc395c602673424631f0bf6169a24104a1d43795a24c224e43b"), looks := false }, kinds := [], alts := [], laidByText := true, laidKinds := [.data, .pinned], laidTests := true, laidLooks := .later }
def ConfigTextsMatchSpecUptoCardSaid : Prop := Claim7.holds Tryd.pinned (.plain (OpenSpec.upto configTextsMatchSpecSpec)) configTextsMatchSpecUptoCard

/-- THE SECOND FORM's CARD OF 'smithyardlaw3.ConfigReadsMatchSpec'. -/
def configReadsMatchSpecUptoCard : Claim7 := { stood := { row := configReadsMatchSpecUptoRow, standIns := [], harness := (true, "6f06fcff64699bc395c602673424631f0bf6169a24104a1d43795a24c224e43b"), looks := false }, kinds := [], alts := [], laidByText := true, laidKinds := [.data, .pinned], laidTests := true, laidLooks := .later }
def ConfigReadsMatchSpecUptoCardSaid : Prop := Claim7.holds Tryd.pinned (.plain (OpenSpec.upto configReadsMatchSpecSpec)) configReadsMatchSpecUptoCard

/-- THE SECOND FORM's CARD OF 'smithyardlaw3.ConfigWithMatchesSpec'. -/
def configWithMatchesSpecUptoCard : Claim7 := { stood := { row := configWithMatchesSpecUptoRow, standIns := [], harness := (true, "6f06fcff64699bc395c602673424631f0bf6169a24104a1d43795a24c224e43b"), looks := false }, kinds := [], alts := [], laidByText := true, laidKinds := [.data, .pinned], laidTests := true, laidLooks := .later }
def ConfigWithMatchesSpecUptoCardSaid : Prop := Claim7.holds Tryd.pinned (.plain (OpenSpec.upto configWithMatchesSpecSpec)) configWithMatchesSpecUptoCard

/-- THE SECOND FORM's CARD OF 'smithyardlaw3.ConfigAllMatchesSpec'. -/
def configAllMatchesSpecUptoCard : Claim7 := { stood := { row := configAllMatchesSpecUptoRow, standIns := [], harness := (true, "6f06fcff64699bc395c602673424631f0bf6169a24104a1d43795a24c224e43b"), looks := false }, kinds := [], alts := [], laidByText := true, laidKinds := [.data, .pinned], laidTests := true, laidLooks := .later }
def ConfigAllMatchesSpecUptoCardSaid : Prop := Claim7.holds Tryd.pinned (.plain (OpenSpec.upto configAllMatchesSpecSpec)) configAllMatchesSpecUptoCard

/-- THE SECOND FORM's CARD OF 'smithyardlaw3.ConfigAllHasOnly'. -/
def configAllHasOnlyUptoCard : Claim7 := { stood := { row := configAllHasOnlyUptoRow, standIns := [], harness := (true, "6f06fcff64699bc395c602673424631f0bf6169a24104a1d43795a24c224e43b"), looks := false }, kinds := [], alts := [], laidByText := true, laidKinds := [.data, .pinned], laidTests := true, laidLooks := .later }
def ConfigAllHasOnlyUptoCardSaid : Prop := Claim7.holds Tryd.pinned (.plain (OpenSpec.upto configAllHasOnlySpec)) configAllHasOnlyUptoCard

/-- THE SECOND FORM's CARD OF 'smithyardlaw3.ConfigChosenIsOne'. -/
def configChosenIsOneUptoCard : Claim7 := { stood := { row := configChosenIsOneUptoRow, standIns := [], harness := (true, "6f06fcff64699bc395c602673424631f0bf6169a24104a1d43795a24c224e43b"), looks := false }, kinds := [], alts := [], laidByText := true, laidKinds := [.data, .pinned], laidTests := true, laidLooks := .later }
def ConfigChosenIsOneUptoCardSaid : Prop := Claim7.holds Tryd.pinned (.plain (OpenSpec.upto configChosenIsOneSpec)) configChosenIsOneUptoCard

/-- THE SECOND FORM's CARD OF 'smithyardlaw3.ConfigChosenThenAdd'. -/
def configChosenThenAddUptoCard : Claim7 := { stood := { row := configChosenThenAddUptoRow, standIns := [], harness := (true, "6f06fcff64699bc395c602673424631f0bf6169a24104a1d43795a24c224e43b"), looks := false }, kinds := [], alts := [], laidByText := true, laidKinds := [.data, .pinned], laidTests := true, laidLooks := .later }
def ConfigChosenThenAddUptoCardSaid : Prop := Claim7.holds Tryd.pinned (.plain (OpenSpec.upto configChosenThenAddSpec)) configChosenThenAddUptoCard
end Rows
end Go.Proofs.YtbekhaioddmliaaDoor
