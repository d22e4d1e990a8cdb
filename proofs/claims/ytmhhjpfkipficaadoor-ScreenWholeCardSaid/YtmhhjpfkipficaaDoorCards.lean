/-
  DERIVED. GIVEN WITH THE SEED: THE CARDS: each row of YtmhhjpfkipficaaDoorRows.lean that lists a variable, with what it lists TIED to the program's text (the seventh form; the later family's looks); each row that meets fmt, with fmt's text TOLD by the authors' own Lean function (tested against real Go, not proved from fmt's source: count such statements apart). THE CARD IS WHAT COUNTS. Prove the row's statement (the work); the ties are given (YtmhhjpfkipficaaDoorTie.lean); close each card by the builder's one call (the guide's Derived/Test/ToyasCard.lean, 'card_holds'). Laid BY PROGRAM, IN A SANDBOX (cutbox-door.mjs). By AI agents, Wed Nov 11 2026. No macro, syntax, notation, axiom, sorry.
-/
import Derived.Test.YtmhhjpfkipficaaDoorRows
import GoSem.ClaimSeven
namespace Go.Proofs.YtmhhjpfkipficaaDoor
namespace Rows

/-- THE TIED CARD OF 'betonylaw24.ScreenText'. -/
def screenTextCard : Claim7 := { stood := { row := screenTextRow, standIns := [], harness := (true, "bc7e672acdc89efce9fc7deb009bd667ab34e7fb1310a83a0334bfd2e7070a6c"), looks := false }, kinds := [], alts := [], laidByText := true, laidKinds := [.widerDeep, .widerDeep], laidTests := true, laidLooks := .later }
def ScreenTextCardSaid : Prop := Claim7.holds Tryd.pinned (.plain (OpenSpec.ofChange screenTextSpec)) screenTextCard

/-- THE TIED CARD OF 'betonylaw24.ScreenMoves'. -/
def screenMovesCard : Claim7 := { stood := { row := screenMovesRow, standIns := [], harness := (true, "bc7e672acdc89efce9fc7deb009bd667ab34e7fb1310a83a0334bfd2e7070a6c"), looks := false }, kinds := [], alts := [], laidByText := true, laidKinds := [.widerDeep, .widerDeep], laidTests := true, laidLooks := .later }
def ScreenMovesCardSaid : Prop := Claim7.holds Tryd.pinned (.plain (OpenSpec.ofChange screenMovesSpec)) screenMovesCard

/-- THE TIED CARD OF 'betonylaw24.ScreenWhole'. -/
def screenWholeCard : Claim7 := { stood := { row := screenWholeRow, standIns := [], harness := (true, "bc7e672acdc89efce9fc7deb009bd667ab34e7fb1310a83a0334bfd2e7070a6c"), looks := false }, kinds := [], alts := [], laidByText := true, laidKinds := [.widerDeep, .widerDeep], laidTests := true, laidLooks := .later }
def ScreenWholeCardSaid : Prop := Claim7.holds Tryd.pinned (.plain (OpenSpec.ofChange screenWholeSpec)) screenWholeCard

/-- THE TIED CARD OF 'betonylaw24.ScreenErase'. -/
def screenEraseCard : Claim7 := { stood := { row := screenEraseRow, standIns := [], harness := (true, "bc7e672acdc89efce9fc7deb009bd667ab34e7fb1310a83a0334bfd2e7070a6c"), looks := false }, kinds := [], alts := [], laidByText := true, laidKinds := [.widerDeep, .widerDeep], laidTests := true, laidLooks := .later }
def ScreenEraseCardSaid : Prop := Claim7.holds Tryd.pinned (.plain (OpenSpec.ofChange screenEraseSpec)) screenEraseCard

/-- THE TIED CARD OF 'betonylaw24.ScreenScrolls'. -/
def screenScrollsCard : Claim7 := { stood := { row := screenScrollsRow, standIns := [], harness := (true, "bc7e672acdc89efce9fc7deb009bd667ab34e7fb1310a83a0334bfd2e7070a6c"), looks := false }, kinds := [], alts := [], laidByText := true, laidKinds := [.widerDeep, .widerDeep], laidTests := true, laidLooks := .later }
def ScreenScrollsCardSaid : Prop := Claim7.holds Tryd.pinned (.plain (OpenSpec.ofChange screenScrollsSpec)) screenScrollsCard

/-- THE SECOND FORM's CARD OF 'betonylaw24.ScreenText'. -/
def screenTextUptoCard : Claim7 := { stood := { row := screenTextUptoRow, standIns := [], harness := (true, "bc7e672acdc89efce9fc7deb009bd667ab34e7fb1310a83a0334bfd2e7070a6c"), looks := false }, kinds := [], alts := [], laidByText := true, laidKinds := [.widerDeep, .widerDeep], laidTests := true, laidLooks := .later }
def ScreenTextUptoCardSaid : Prop := Claim7.holds Tryd.pinned (.plain (OpenSpec.upto screenTextSpec)) screenTextUptoCard

/-- THE SECOND FORM's CARD OF 'betonylaw24.ScreenMoves'. -/
def screenMovesUptoCard : Claim7 := { stood := { row := screenMovesUptoRow, standIns := [], harness := (true, "bc7e672acdc89efce9fc7deb009bd667ab34e7fb1310a83a0334bfd2e7070a6c"), looks := false }, kinds := [], alts := [], laidByText := true, laidKinds := [.widerDeep, .widerDeep], laidTests := true, laidLooks := .later }
def ScreenMovesUptoCardSaid : Prop := Claim7.holds Tryd.pinned (.plain (OpenSpec.upto screenMovesSpec)) screenMovesUptoCard

/-- THE SECOND FORM's CARD OF 'betonylaw24.ScreenWhole'. -/
def screenWholeUptoCard : Claim7 := { stood := { row := screenWholeUptoRow, standIns := [], harness := (true, "bc7e672acdc89efce9fc7deb009bd667ab34e7fb1310a83a0334bfd2e7070a6c"), looks := false }, kinds := [], alts := [], laidByText := true, laidKinds := [.widerDeep, .widerDeep], laidTests := true, laidLooks := .later }
def ScreenWholeUptoCardSaid : Prop := Claim7.holds Tryd.pinned (.plain (OpenSpec.upto screenWholeSpec)) screenWholeUptoCard

/-- THE SECOND FORM's CARD OF 'betonylaw24.ScreenErase'. -/
def screenEraseUptoCard : Claim7 := { stood := { row := screenEraseUptoRow, standIns := [], harness := (true, "bc7e672acdc89efce9fc7deb009bd667ab34e7fb1310a83a0334bfd2e7070a6c"), looks := false }, kinds := [], alts := [], laidByText := true, laidKinds := [.widerDeep, .widerDeep], laidTests := true, laidLooks := .later }
def ScreenEraseUptoCardSaid : Prop := Claim7.holds Tryd.pinned (.plain (OpenSpec.upto screenEraseSpec)) screenEraseUptoCard

/-- THE SECOND FORM's CARD OF 'betonylaw24.ScreenScrolls'. -/
def screenScrollsUptoCard : Claim7 := { stood := { row := screenScrollsUptoRow, standIns := [], harness := (true, "bc7e672acdc89efce9fc7deb009bd667ab34e7fb1310a83a0334bfd2e7070a6c"), looks := false }, kinds := [], alts := [], laidByText := true, laidKinds := [.widerDeep, .widerDeep], laidTests := true, laidLooks := .later }
def ScreenScrollsUptoCardSaid : Prop := Claim7.holds Tryd.pinned (.plain (OpenSpec.upto screenScrollsSpec)) screenScrollsUptoCard
end Rows
end Go.Proofs.YtmhhjpfkipficaaDoor
