/-
  DERIVED. GIVEN WITH THE SEED: THE CARDS: each row of YtjlpgakoedigoaaDoorRows.lean that lists a variable, with what it lists TIED to the program's text (the seventh form; the later family's looks); each row that meets fmt, with fmt's text TOLD by the authors' own Lean function (tested against real Go, not proved from fmt's source: count such statements apart). THE CARD IS WHAT COUNTS. Prove the row's statement (the work); the ties are given (YtjlpgakoedigoaaDoorTie.lean); close each card by the builder's one call (the guide's Derived/Test/ToyasCard.lean, 'card_holds'). Laid BY PROGRAM, IN A SANDBOX (cutbox-door.mjs). By AI agents, Wed Nov 11 2026. No macro, syntax, notation, axiom, sorry.
-/
import Derived.Test.YtjlpgakoedigoaaDoorRows
import GoSem.ClaimSeven
namespace Go.Proofs.YtjlpgakoedigoaaDoor
namespace Rows

/-- THE TIED CARD OF 'betonylaw26.BackTexts'. -/
def backTextsCard : Claim7 := { stood := { row := backTextsRow, standIns := [], harness := (true, "33d6caebee3412698fc367f36b8a7bdf9ef99164ea2657f894b07a53c0dca0de"), looks := false }, kinds := [], alts := [], laidByText := true, laidKinds := [.data, .pinned], laidTests := true, laidLooks := .later }
def BackTextsCardSaid : Prop := Claim7.holds Tryd.pinned (.plain (OpenSpec.ofChange backTextsSpec)) backTextsCard

/-- THE TIED CARD OF 'betonylaw26.BackRing'. -/
def backRingCard : Claim7 := { stood := { row := backRingRow, standIns := [], harness := (true, "33d6caebee3412698fc367f36b8a7bdf9ef99164ea2657f894b07a53c0dca0de"), looks := false }, kinds := [], alts := [], laidByText := true, laidKinds := [.data, .pinned], laidTests := true, laidLooks := .later }
def BackRingCardSaid : Prop := Claim7.holds Tryd.pinned (.plain (OpenSpec.ofChange backRingSpec)) backRingCard

/-- THE TIED CARD OF 'betonylaw26.BackOwn'. -/
def backOwnCard : Claim7 := { stood := { row := backOwnRow, standIns := [], harness := (true, "33d6caebee3412698fc367f36b8a7bdf9ef99164ea2657f894b07a53c0dca0de"), looks := false }, kinds := [], alts := [], laidByText := true, laidKinds := [.data, .pinned], laidTests := true, laidLooks := .later }
def BackOwnCardSaid : Prop := Claim7.holds Tryd.pinned (.plain (OpenSpec.ofChange backOwnSpec)) backOwnCard

/-- THE TIED CARD OF 'betonylaw26.BackPlays'. -/
def backPlaysCard : Claim7 := { stood := { row := backPlaysRow, standIns := [], harness := (true, "33d6caebee3412698fc367f36b8a7bdf9ef99164ea2657f894b07a53c0dca0de"), looks := false }, kinds := [], alts := [], laidByText := true, laidKinds := [.data, .pinned], laidTests := true, laidLooks := .later }
def BackPlaysCardSaid : Prop := Claim7.holds Tryd.pinned (.plain (OpenSpec.ofChange backPlaysSpec)) backPlaysCard

/-- THE SECOND FORM's CARD OF 'betonylaw26.BackTexts'. -/
def backTextsUptoCard : Claim7 := { stood := { row := backTextsUptoRow, standIns := [], harness := (true, "33d6caebee3412698fc367f36b8a7bdf9ef99164ea2657f894b07a53c0dca0de"), looks := false }, kinds := [], alts := [], laidByText := true, laidKinds := [.data, .pinned], laidTests := true, laidLooks := .later }
def BackTextsUptoCardSaid : Prop := Claim7.holds Tryd.pinned (.plain (OpenSpec.upto backTextsSpec)) backTextsUptoCard

/-- THE SECOND FORM's CARD OF 'betonylaw26.BackRing'. -/
def backRingUptoCard : Claim7 := { stood := { row := backRingUptoRow, standIns := [], harness := (true, "33d6caebee3412698fc367f36b8a7bdf9ef99164ea2657f894b07a53c0dca0de"), looks := false }, kinds := [], alts := [], laidByText := true, laidKinds := [.data, .pinned], laidTests := true, laidLooks := .later }
def BackRingUptoCardSaid : Prop := Claim7.holds Tryd.pinned (.plain (OpenSpec.upto backRingSpec)) backRingUptoCard

/-- THE SECOND FORM's CARD OF 'betonylaw26.BackOwn'. -/
def backOwnUptoCard : Claim7 := { stood := { row := backOwnUptoRow, standIns := [], harness := (true, "33d6caebee3412698fc367f36b8a7bdf9ef99164ea2657f894b07a53c0dca0de"), looks := false }, kinds := [], alts := [], laidByText := true, laidKinds := [.data, .pinned], laidTests := true, laidLooks := .later }
def BackOwnUptoCardSaid : Prop := Claim7.holds Tryd.pinned (.plain (OpenSpec.upto backOwnSpec)) backOwnUptoCard

/-- THE SECOND FORM's CARD OF 'betonylaw26.BackPlays'. -/
def backPlaysUptoCard : Claim7 := { stood := { row := backPlaysUptoRow, standIns := [], harness := (true, "33d6caebee3412698fc367f36b8a7bdf9ef99164ea2657f894b07a53c0dca0de"), looks := false }, kinds := [], alts := [], laidByText := true, laidKinds := [.data, .pinned], laidTests := true, laidLooks := .later }
def BackPlaysUptoCardSaid : Prop := Claim7.holds Tryd.pinned (.plain (OpenSpec.upto backPlaysSpec)) backPlaysUptoCard
end Rows
end Go.Proofs.YtjlpgakoedigoaaDoor
