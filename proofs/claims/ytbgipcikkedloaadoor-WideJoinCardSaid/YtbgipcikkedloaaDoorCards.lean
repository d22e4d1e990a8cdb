/-
  DERIVED. GIVEN WITH THE SEED: THE CARDS: each row of YtbgipcikkedloaaDoorRows.lean that lists a variable, with what it lists TIED to the program's text (the seventh form; the later family's looks); each row that meets fmt, with fmt's text TOLD by the authors' own Lean function (tested against real Go, not proved from fmt's source: count such statements apart). THE CARD IS WHAT COUNTS. Prove the row's statement (the work); the ties are given (YtbgipcikkedloaaDoorTie.lean); close each card by the builder's one call (the guide's Derived/Test/ToyasCard.lean, 'card_holds'). Laid BY PROGRAM, IN A SANDBOX (cutbox-door.mjs). By AI agents, Wed Nov 11 2026. No macro, syntax, notation, axiom, sorry.
-/
import Derived.Test.YtbgipcikkedloaaDoorRows
import GoSem.ClaimSeven
namespace Go.Proofs.YtbgipcikkedloaaDoor
namespace Rows

/-- THE TIED CARD OF 'betonylaw03.WideTells'. -/
def wideTellsCard : Claim7 := { stood := { row := wideTellsRow, standIns := [], harness := (true, "1dd5758dff86a9c9ec08edbdf2caae533aeac4100cf122b88b61b43550daa817"), looks := false }, kinds := [], alts := [], laidByText := true, laidKinds := [.widerDeep, .widerDeep], laidTests := true, laidLooks := .later }
def WideTellsCardSaid : Prop := Claim7.holds Tryd.pinned (.plain (OpenSpec.ofChange wideTellsSpec)) wideTellsCard

/-- THE TIED CARD OF 'betonylaw03.WideFits'. -/
def wideFitsCard : Claim7 := { stood := { row := wideFitsRow, standIns := [], harness := (true, "1dd5758dff86a9c9ec08edbdf2caae533aeac4100cf122b88b61b43550daa817"), looks := false }, kinds := [], alts := [], laidByText := true, laidKinds := [.widerDeep, .widerDeep], laidTests := true, laidLooks := .later }
def WideFitsCardSaid : Prop := Claim7.holds Tryd.pinned (.plain (OpenSpec.ofChange wideFitsSpec)) wideFitsCard

/-- THE TIED CARD OF 'betonylaw03.WideJoin'. -/
def wideJoinCard : Claim7 := { stood := { row := wideJoinRow, standIns := [], harness := (true, "1dd5758dff86a9c9ec08edbdf2caae533aeac4100cf122b88b61b43550daa817"), looks := false }, kinds := [], alts := [], laidByText := true, laidKinds := [.widerDeep, .widerDeep], laidTests := true, laidLooks := .later }
def WideJoinCardSaid : Prop := Claim7.holds Tryd.pinned (.plain (OpenSpec.ofChange wideJoinSpec)) wideJoinCard

/-- THE SECOND FORM's CARD OF 'betonylaw03.WideTells'. -/
def wideTellsUptoCard : Claim7 := { stood := { row := wideTellsUptoRow, standIns := [], harness := (true, "1dd5758dff86a9c9ec08edbdf2caae533aeac4100cf122b88b61b43550daa817"), looks := false }, kinds := [], alts := [], laidByText := true, laidKinds := [.widerDeep, .widerDeep], laidTests := true, laidLooks := .later }
def WideTellsUptoCardSaid : Prop := Claim7.holds Tryd.pinned (.plain (OpenSpec.upto wideTellsSpec)) wideTellsUptoCard

/-- THE SECOND FORM's CARD OF 'betonylaw03.WideFits'. -/
def wideFitsUptoCard : Claim7 := { stood := { row := wideFitsUptoRow, standIns := [], harness := (true, "1dd5758dff86a9c9ec08edbdf2caae533aeac4100cf122b88b61b43550daa817"), looks := false }, kinds := [], alts := [], laidByText := true, laidKinds := [.widerDeep, .widerDeep], laidTests := true, laidLooks := .later }
def WideFitsUptoCardSaid : Prop := Claim7.holds Tryd.pinned (.plain (OpenSpec.upto wideFitsSpec)) wideFitsUptoCard

/-- THE SECOND FORM's CARD OF 'betonylaw03.WideJoin'. -/
def wideJoinUptoCard : Claim7 := { stood := { row := wideJoinUptoRow, standIns := [], harness := (true, "1dd5758dff86a9c9ec08edbdf2caae533aeac4100cf122b88b61b43550daa817"), looks := false }, kinds := [], alts := [], laidByText := true, laidKinds := [.widerDeep, .widerDeep], laidTests := true, laidLooks := .later }
def WideJoinUptoCardSaid : Prop := Claim7.holds Tryd.pinned (.plain (OpenSpec.upto wideJoinSpec)) wideJoinUptoCard
end Rows
end Go.Proofs.YtbgipcikkedloaaDoor
