/-
  DERIVED. GIVEN WITH THE SEED: THE CARDS: each row of YtpgpbhbpamgboaaDoorRows.lean that lists a variable, with what it lists TIED to the program's text (the seventh form; the later family's looks); each row that meets fmt, with fmt's text TOLD by the authors' own Lean function (tested against real Go, not proved from fmt's source: count such statements apart). THE CARD IS WHAT COUNTS. Prove the row's statement (the work); the ties are given (YtpgpbhbpamgboaaDoorTie.lean); close each card by the builder's one call (the guide's Derived/Test/ToyasCard.lean, 'card_holds'). Laid BY PROGRAM, IN A SANDBOX (cutbox-door.mjs). By AI agents, Wed Nov 11 2026. No macro, syntax, notation, axiom, sorry.
-/
import Derived.Test.YtpgpbhbpamgboaaDoorRows
import GoSem.ClaimSeven
namespace Go.Proofs.YtpgpbhbpamgboaaDoor
namespace Rows

/-- THE TIED CARD OF 'betonylaw25.CharsetPlain'. -/
def charsetPlainCard : Claim7 := { stood := { row := charsetPlainRow, standIns := [], harness := (true, "484487cdda924eae7c727113467e7e280769e9d7e5b28714b98355cc5240a816"), looks := false }, kinds := [], alts := [], laidByText := true, laidKinds := [.data], laidTests := true, laidLooks := .later }
def CharsetPlainCardSaid : Prop := Claim7.holds Tryd.pinned (.plain (OpenSpec.ofChange charsetPlainSpec)) charsetPlainCard

/-- THE TIED CARD OF 'betonylaw25.CharsetHolds'. -/
def charsetHoldsCard : Claim7 := { stood := { row := charsetHoldsRow, standIns := [], harness := (true, "484487cdda924eae7c727113467e7e280769e9d7e5b28714b98355cc5240a816"), looks := false }, kinds := [], alts := [], laidByText := true, laidKinds := [.data], laidTests := true, laidLooks := .later }
def CharsetHoldsCardSaid : Prop := Claim7.holds Tryd.pinned (.plain (OpenSpec.ofChange charsetHoldsSpec)) charsetHoldsCard

/-- THE TIED CARD OF 'betonylaw25.CharsetPlays'. -/
def charsetPlaysCard : Claim7 := { stood := { row := charsetPlaysRow, standIns := [], harness := (true, "484487cdda924eae7c727113467e7e280769e9d7e5b28714b98355cc5240a816"), looks := false }, kinds := [], alts := [], laidByText := true, laidKinds := [.data], laidTests := true, laidLooks := .later }
def CharsetPlaysCardSaid : Prop := Claim7.holds Tryd.pinned (.plain (OpenSpec.ofChange charsetPlaysSpec)) charsetPlaysCard

/-- THE SECOND FORM's CARD OF 'betonylaw25.CharsetPlain'. -/
def charsetPlainUptoCard : Claim7 := { stood := { row := charsetPlainUptoRow, standIns := [], harness := (true, "484487cdda924eae7c727113467e7e280769e9d7e5b28714b98355cc5240a816"), looks := false }, kinds := [], alts := [], laidByText := true, laidKinds := [.data], laidTests := true, laidLooks := .later }
def CharsetPlainUptoCardSaid : Prop := Claim7.holds Tryd.pinned (.plain (OpenSpec.upto charsetPlainSpec)) charsetPlainUptoCard

/-- THE SECOND FORM's CARD OF 'betonylaw25.CharsetHolds'. -/
def charsetHoldsUptoCard : Claim7 := { stood := { row := charsetHoldsUptoRow, standIns := [], harness := (true, "484487cdda924eae7c727113467e7e280769e9d7e5b28714b98355cc5240a816"), looks := false }, kinds := [], alts := [], laidByText := true, laidKinds := [.data], laidTests := true, laidLooks := .later }
def CharsetHoldsUptoCardSaid : Prop := Claim7.holds Tryd.pinned (.plain (OpenSpec.upto charsetHoldsSpec)) charsetHoldsUptoCard

/-- THE SECOND FORM's CARD OF 'betonylaw25.CharsetPlays'. -/
def charsetPlaysUptoCard : Claim7 := { stood := { row := charsetPlaysUptoRow, standIns := [], harness := (true, "484487cdda924eae7c727113467e7e280769e9d7e5b28714b98355cc5240a816"), looks := false }, kinds := [], alts := [], laidByText := true, laidKinds := [.data], laidTests := true, laidLooks := .later }
def CharsetPlaysUptoCardSaid : Prop := Claim7.holds Tryd.pinned (.plain (OpenSpec.upto charsetPlaysSpec)) charsetPlaysUptoCard
end Rows
end Go.Proofs.YtpgpbhbpamgboaaDoor
