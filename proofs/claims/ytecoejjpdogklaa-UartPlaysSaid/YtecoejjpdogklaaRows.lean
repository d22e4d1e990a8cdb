/-
  No cell of these rows narrows 'for every input' (looked for: loops, veiled, ifaces, maps, wideKeys, modest, calm, conditions, laid).
  DERIVED. THE GIVEN ROWS OF THIS SEAT. 11 by the template 'for every input the law returns true; each argument reads behind the call as it read before'; 0 by the template 'total and deterministic' (their statements: YtecoejjpdogklaaTotals.lean).
  GIVEN WITH THE SEED: the statements are not yours to turn. If you find one false, say at which input.
  Laid BY PROGRAM, IN A SANDBOX (cutbox-rows.mjs): the forced cells as the released guide's own fill.sh prints them over the translation 3cf06dcbaa24a7c3… (all of the seat's roots in one cut). By AI agents, Wed Nov 11 2026. No macro, syntax, notation, axiom, sorry.
-/
import Derived.Test.YtecoejjpdogklaaChecked
import GoSem.Claim
import GoSem.ClaimJoined
import GoSem.ClaimMapViews
import Derived.JoinedTies
import Derived.KernelRfl
namespace Go.Proofs.Ytecoejjpdogklaa
/- THE CELL 'sum', in the pinned program and in every row, IS THE sha256 OF THE DUMP (.gsa) THAT YtecoejjpdogklaaProg.lean LOADS. Nothing in Lean hashes anything: it is a label: what it is worth is what the hold of that sum in a sandbox is worth. -/
noncomputable def Try.pinned : Pinned := { name := "ytecoejjpdogklaa", sum := "3cf06dcbaa24a7c3e4fca3dc831e6e83a023ebfe4eeef196c03f6aafeaa7edfe", checked := Try.checked }
namespace Rows
def none {H : Type} : Left H := { results := [], args := [] }

/-- 'betonylaw20.PatienceTells': WHATEVER THE INPUT: true; the input reads as it did. -/
def patienceTellsSpec : ChangeSpec := { name := "patienceTells", fn := fun _ => fun
  | [d1, d2, d3, d4, d5] => { results := [.lit (.bool true)], args := [d1, d2, d3, d4, d5] }
  | _ => none }
def patienceTellsRow : OpenClaim := { program := "ytecoejjpdogklaa", sum := "3cf06dcbaa24a7c3e4fca3dc831e6e83a023ebfe4eeef196c03f6aafeaa7edfe", func := "betony/betonylaw20.PatienceTells", spec := "patienceTells", apart := false }
def PatienceTellsSaid : Prop := patienceTellsRow.holds Try.pinned (OpenSpec.ofChange patienceTellsSpec)

/-- ITS FALSE NEIGHBOUR: 'it returns false'. Refute it at one input. -/
def patienceTellsWrong : ChangeSpec := { name := "patienceTells", fn := fun _ => fun
  | [d1, d2, d3, d4, d5] => { results := [.lit (.bool false)], args := [d1, d2, d3, d4, d5] }
  | _ => none }
def PatienceTellsWrongFalsely : Prop := patienceTellsRow.holds Try.pinned (OpenSpec.ofChange patienceTellsWrong)

/-- 'betonylaw20.PatienceEnds': WHATEVER THE INPUT: true; the input reads as it did. -/
def patienceEndsSpec : ChangeSpec := { name := "patienceEnds", fn := fun _ => fun
  | [d1, d2, d3, d4] => { results := [.lit (.bool true)], args := [d1, d2, d3, d4] }
  | _ => none }
def patienceEndsRow : OpenClaim := { program := "ytecoejjpdogklaa", sum := "3cf06dcbaa24a7c3e4fca3dc831e6e83a023ebfe4eeef196c03f6aafeaa7edfe", func := "betony/betonylaw20.PatienceEnds", spec := "patienceEnds", apart := false }
def PatienceEndsSaid : Prop := patienceEndsRow.holds Try.pinned (OpenSpec.ofChange patienceEndsSpec)

/-- ITS FALSE NEIGHBOUR: 'it returns false'. Refute it at one input. -/
def patienceEndsWrong : ChangeSpec := { name := "patienceEnds", fn := fun _ => fun
  | [d1, d2, d3, d4] => { results := [.lit (.bool false)], args := [d1, d2, d3, d4] }
  | _ => none }
def PatienceEndsWrongFalsely : Prop := patienceEndsRow.holds Try.pinned (OpenSpec.ofChange patienceEndsWrong)

/-- 'betonylaw20.PatienceMore': WHATEVER THE INPUT: true; the input reads as it did. -/
def patienceMoreSpec : ChangeSpec := { name := "patienceMore", fn := fun _ => fun
  | [d1, d2, d3, d4, d5] => { results := [.lit (.bool true)], args := [d1, d2, d3, d4, d5] }
  | _ => none }
def patienceMoreRow : OpenClaim := { program := "ytecoejjpdogklaa", sum := "3cf06dcbaa24a7c3e4fca3dc831e6e83a023ebfe4eeef196c03f6aafeaa7edfe", func := "betony/betonylaw20.PatienceMore", spec := "patienceMore", apart := false }
def PatienceMoreSaid : Prop := patienceMoreRow.holds Try.pinned (OpenSpec.ofChange patienceMoreSpec)

/-- ITS FALSE NEIGHBOUR: 'it returns false'. Refute it at one input. -/
def patienceMoreWrong : ChangeSpec := { name := "patienceMore", fn := fun _ => fun
  | [d1, d2, d3, d4, d5] => { results := [.lit (.bool false)], args := [d1, d2, d3, d4, d5] }
  | _ => none }
def PatienceMoreWrongFalsely : Prop := patienceMoreRow.holds Try.pinned (OpenSpec.ofChange patienceMoreWrong)

/-- 'betonylaw04.RectCells': WHATEVER THE INPUT: true; the input reads as it did. -/
def rectCellsSpec : ChangeSpec := { name := "rectCells", fn := fun _ => fun
  | [d1, d2, d3, d4] => { results := [.lit (.bool true)], args := [d1, d2, d3, d4] }
  | _ => none }
def rectCellsRow : OpenClaim := { program := "ytecoejjpdogklaa", sum := "3cf06dcbaa24a7c3e4fca3dc831e6e83a023ebfe4eeef196c03f6aafeaa7edfe", func := "betony/betonylaw04.RectCells", spec := "rectCells", apart := false }
def RectCellsSaid : Prop := rectCellsRow.holds Try.pinned (OpenSpec.ofChange rectCellsSpec)

/-- ITS FALSE NEIGHBOUR: 'it returns false'. Refute it at one input. -/
def rectCellsWrong : ChangeSpec := { name := "rectCells", fn := fun _ => fun
  | [d1, d2, d3, d4] => { results := [.lit (.bool false)], args := [d1, d2, d3, d4] }
  | _ => none }
def RectCellsWrongFalsely : Prop := rectCellsRow.holds Try.pinned (OpenSpec.ofChange rectCellsWrong)

/-- 'betonylaw04.RectFar': WHATEVER THE INPUT: true; the input reads as it did. -/
def rectFarSpec : ChangeSpec := { name := "rectFar", fn := fun _ => fun
  | [d1, d2, d3] => { results := [.lit (.bool true)], args := [d1, d2, d3] }
  | _ => none }
def rectFarRow : OpenClaim := { program := "ytecoejjpdogklaa", sum := "3cf06dcbaa24a7c3e4fca3dc831e6e83a023ebfe4eeef196c03f6aafeaa7edfe", func := "betony/betonylaw04.RectFar", spec := "rectFar", apart := false }
def RectFarSaid : Prop := rectFarRow.holds Try.pinned (OpenSpec.ofChange rectFarSpec)

/-- ITS FALSE NEIGHBOUR: 'it returns false'. Refute it at one input. -/
def rectFarWrong : ChangeSpec := { name := "rectFar", fn := fun _ => fun
  | [d1, d2, d3] => { results := [.lit (.bool false)], args := [d1, d2, d3] }
  | _ => none }
def RectFarWrongFalsely : Prop := rectFarRow.holds Try.pinned (OpenSpec.ofChange rectFarWrong)

/-- 'betonylaw09.UartOrder': WHATEVER THE INPUT: true; the input reads as it did. -/
def uartOrderSpec : ChangeSpec := { name := "uartOrder", fn := fun _ => fun
  | [d1, d2, d3] => { results := [.lit (.bool true)], args := [d1, d2, d3] }
  | _ => none }
def uartOrderRow : OpenClaim := { program := "ytecoejjpdogklaa", sum := "3cf06dcbaa24a7c3e4fca3dc831e6e83a023ebfe4eeef196c03f6aafeaa7edfe", func := "betony/betonylaw09.UartOrder", spec := "uartOrder", apart := false }
def UartOrderSaid : Prop := uartOrderRow.holds Try.pinned (OpenSpec.ofChange uartOrderSpec)

/-- ITS FALSE NEIGHBOUR: 'it returns false'. Refute it at one input. -/
def uartOrderWrong : ChangeSpec := { name := "uartOrder", fn := fun _ => fun
  | [d1, d2, d3] => { results := [.lit (.bool false)], args := [d1, d2, d3] }
  | _ => none }
def UartOrderWrongFalsely : Prop := uartOrderRow.holds Try.pinned (OpenSpec.ofChange uartOrderWrong)

/-- 'betonylaw09.UartPlays': WHATEVER THE INPUT: true; the input reads as it did. -/
def uartPlaysSpec : ChangeSpec := { name := "uartPlays", fn := fun _ => fun
  | [d1, d2] => { results := [.lit (.bool true)], args := [d1, d2] }
  | _ => none }
def uartPlaysRow : OpenClaim := { program := "ytecoejjpdogklaa", sum := "3cf06dcbaa24a7c3e4fca3dc831e6e83a023ebfe4eeef196c03f6aafeaa7edfe", func := "betony/betonylaw09.UartPlays", spec := "uartPlays", apart := false }
def UartPlaysSaid : Prop := uartPlaysRow.holds Try.pinned (OpenSpec.ofChange uartPlaysSpec)

/-- ITS FALSE NEIGHBOUR: 'it returns false'. Refute it at one input. -/
def uartPlaysWrong : ChangeSpec := { name := "uartPlays", fn := fun _ => fun
  | [d1, d2] => { results := [.lit (.bool false)], args := [d1, d2] }
  | _ => none }
def UartPlaysWrongFalsely : Prop := uartPlaysRow.holds Try.pinned (OpenSpec.ofChange uartPlaysWrong)

/-- 'betonylaw09.UartSends': WHATEVER THE INPUT: true; the input reads as it did. -/
def uartSendsSpec : ChangeSpec := { name := "uartSends", fn := fun _ => fun
  | [d1, d2, d3] => { results := [.lit (.bool true)], args := [d1, d2, d3] }
  | _ => none }
def uartSendsRow : OpenClaim := { program := "ytecoejjpdogklaa", sum := "3cf06dcbaa24a7c3e4fca3dc831e6e83a023ebfe4eeef196c03f6aafeaa7edfe", func := "betony/betonylaw09.UartSends", spec := "uartSends", apart := false }
def UartSendsSaid : Prop := uartSendsRow.holds Try.pinned (OpenSpec.ofChange uartSendsSpec)

/-- ITS FALSE NEIGHBOUR: 'it returns false'. Refute it at one input. -/
def uartSendsWrong : ChangeSpec := { name := "uartSends", fn := fun _ => fun
  | [d1, d2, d3] => { results := [.lit (.bool false)], args := [d1, d2, d3] }
  | _ => none }
def UartSendsWrongFalsely : Prop := uartSendsRow.holds Try.pinned (OpenSpec.ofChange uartSendsWrong)

/-- 'betonylaw07.FifoKeeps': WHATEVER THE INPUT: true; the input reads as it did. -/
def fifoKeepsSpec : ChangeSpec := { name := "fifoKeeps", fn := fun _ => fun
  | [d1, d2, d3] => { results := [.lit (.bool true)], args := [d1, d2, d3] }
  | _ => none }
def fifoKeepsRow : OpenClaim := { program := "ytecoejjpdogklaa", sum := "3cf06dcbaa24a7c3e4fca3dc831e6e83a023ebfe4eeef196c03f6aafeaa7edfe", func := "betony/betonylaw07.FifoKeeps", spec := "fifoKeeps", unfollowed := true, recurses := true, apart := false }
def FifoKeepsSaid : Prop := fifoKeepsRow.holds Try.pinned (OpenSpec.ofChange fifoKeepsSpec)

/-- ITS FALSE NEIGHBOUR: 'it returns false'. Refute it at one input. -/
def fifoKeepsWrong : ChangeSpec := { name := "fifoKeeps", fn := fun _ => fun
  | [d1, d2, d3] => { results := [.lit (.bool false)], args := [d1, d2, d3] }
  | _ => none }
def FifoKeepsWrongFalsely : Prop := fifoKeepsRow.holds Try.pinned (OpenSpec.ofChange fifoKeepsWrong)

/-- 'betonylaw07.FifoCounts': WHATEVER THE INPUT: true; the input reads as it did. -/
def fifoCountsSpec : ChangeSpec := { name := "fifoCounts", fn := fun _ => fun
  | [d1, d2, d3] => { results := [.lit (.bool true)], args := [d1, d2, d3] }
  | _ => none }
def fifoCountsRow : OpenClaim := { program := "ytecoejjpdogklaa", sum := "3cf06dcbaa24a7c3e4fca3dc831e6e83a023ebfe4eeef196c03f6aafeaa7edfe", func := "betony/betonylaw07.FifoCounts", spec := "fifoCounts", unfollowed := true, recurses := true, apart := false }
def FifoCountsSaid : Prop := fifoCountsRow.holds Try.pinned (OpenSpec.ofChange fifoCountsSpec)

/-- ITS FALSE NEIGHBOUR: 'it returns false'. Refute it at one input. -/
def fifoCountsWrong : ChangeSpec := { name := "fifoCounts", fn := fun _ => fun
  | [d1, d2, d3] => { results := [.lit (.bool false)], args := [d1, d2, d3] }
  | _ => none }
def FifoCountsWrongFalsely : Prop := fifoCountsRow.holds Try.pinned (OpenSpec.ofChange fifoCountsWrong)

/-- 'betonylaw04.RectTells': WHATEVER THE INPUT: true; the input reads as it did. -/
def rectTellsSpec : ChangeSpec := { name := "rectTells", fn := fun _ => fun
  | [d1, d2] => { results := [.lit (.bool true)], args := [d1, d2] }
  | _ => none }
def rectTellsRow : OpenClaim := { program := "ytecoejjpdogklaa", sum := "3cf06dcbaa24a7c3e4fca3dc831e6e83a023ebfe4eeef196c03f6aafeaa7edfe", func := "betony/betonylaw04.RectTells", spec := "rectTells", apart := false }
def RectTellsSaid : Prop := rectTellsRow.holds Try.pinned (OpenSpec.ofChange rectTellsSpec)

/-- ITS FALSE NEIGHBOUR: 'it returns false'. Refute it at one input. -/
def rectTellsWrong : ChangeSpec := { name := "rectTells", fn := fun _ => fun
  | [d1, d2] => { results := [.lit (.bool false)], args := [d1, d2] }
  | _ => none }
def RectTellsWrongFalsely : Prop := rectTellsRow.holds Try.pinned (OpenSpec.ofChange rectTellsWrong)

/- THE SECOND FORM. 'bulk': how many values and letters a reading holds, each counted each time it is reached (what is shared counts as often as it is met; a slice's spare places count too). A statement '..UptoSaid' is the law's where the arguments, and the package variables that the reading takes, are together of bulk at most 1048576: NARROWER than '..Said'. Prove '..Said' where nothing that the law and all that it calls make is longer than what came in: it says more and counts as full. Else prove '..UptoSaid'. A law counts once. -/
mutual
def uptoBulk {H : Type} : DataW H → Nat
  | .lit (.string bytes) => bytes.length + 1
  | .lit _ => 1
  | .nil => 1
  | .ptr d => uptoBulk d + 1
  | .slice elems spare => uptoBulkAll elems + uptoBulkAll spare + 1
  | .agg parts => uptoBulkAll parts + 1
  | .iface _ d => uptoBulk d + 1
  | .map entries => uptoBulkEntries entries + 1
  | .held _ => 1
def uptoBulkAll {H : Type} : List (DataW H) → Nat
  | [] => 0
  | d :: r => uptoBulk d + uptoBulkAll r
def uptoBulkEntries {H : Type} : List (Lit × DataW H) → Nat
  | [] => 0
  | x :: r => uptoBulkEntry x + uptoBulkEntries r
def uptoBulkEntry {H : Type} : Lit × DataW H → Nat
  | (.string bytes, d) => bytes.length + uptoBulk d + 1
  | (_, d) => uptoBulk d + 1
 end
def uptoSmall : (H : Type) → List (DataW H) → Bool := fun _ ds => decide (uptoBulkAll ds ≤ 1048576)
def OpenSpec.upto (s : _root_.Go.ChangeSpec) : _root_.Go.OpenSpec := { _root_.Go.OpenSpec.ofChange s with cond := some uptoSmall }

/-- 'betonylaw20.PatienceTells', WHERE WHAT IT READS IS OF BULK AT MOST 1048576: true; the input reads as it did. -/
def patienceTellsUptoRow : OpenClaim := { program := "ytecoejjpdogklaa", sum := "3cf06dcbaa24a7c3e4fca3dc831e6e83a023ebfe4eeef196c03f6aafeaa7edfe", func := "betony/betonylaw20.PatienceTells", spec := "patienceTells", apart := false, narrowed := true }
def PatienceTellsUptoSaid : Prop := patienceTellsUptoRow.holds Try.pinned (OpenSpec.upto patienceTellsSpec)

/-- 'betonylaw20.PatienceEnds', WHERE WHAT IT READS IS OF BULK AT MOST 1048576: true; the input reads as it did. -/
def patienceEndsUptoRow : OpenClaim := { program := "ytecoejjpdogklaa", sum := "3cf06dcbaa24a7c3e4fca3dc831e6e83a023ebfe4eeef196c03f6aafeaa7edfe", func := "betony/betonylaw20.PatienceEnds", spec := "patienceEnds", apart := false, narrowed := true }
def PatienceEndsUptoSaid : Prop := patienceEndsUptoRow.holds Try.pinned (OpenSpec.upto patienceEndsSpec)

/-- 'betonylaw20.PatienceMore', WHERE WHAT IT READS IS OF BULK AT MOST 1048576: true; the input reads as it did. -/
def patienceMoreUptoRow : OpenClaim := { program := "ytecoejjpdogklaa", sum := "3cf06dcbaa24a7c3e4fca3dc831e6e83a023ebfe4eeef196c03f6aafeaa7edfe", func := "betony/betonylaw20.PatienceMore", spec := "patienceMore", apart := false, narrowed := true }
def PatienceMoreUptoSaid : Prop := patienceMoreUptoRow.holds Try.pinned (OpenSpec.upto patienceMoreSpec)

/-- 'betonylaw04.RectCells', WHERE WHAT IT READS IS OF BULK AT MOST 1048576: true; the input reads as it did. -/
def rectCellsUptoRow : OpenClaim := { program := "ytecoejjpdogklaa", sum := "3cf06dcbaa24a7c3e4fca3dc831e6e83a023ebfe4eeef196c03f6aafeaa7edfe", func := "betony/betonylaw04.RectCells", spec := "rectCells", apart := false, narrowed := true }
def RectCellsUptoSaid : Prop := rectCellsUptoRow.holds Try.pinned (OpenSpec.upto rectCellsSpec)

/-- 'betonylaw04.RectFar', WHERE WHAT IT READS IS OF BULK AT MOST 1048576: true; the input reads as it did. -/
def rectFarUptoRow : OpenClaim := { program := "ytecoejjpdogklaa", sum := "3cf06dcbaa24a7c3e4fca3dc831e6e83a023ebfe4eeef196c03f6aafeaa7edfe", func := "betony/betonylaw04.RectFar", spec := "rectFar", apart := false, narrowed := true }
def RectFarUptoSaid : Prop := rectFarUptoRow.holds Try.pinned (OpenSpec.upto rectFarSpec)

/-- 'betonylaw09.UartOrder', WHERE WHAT IT READS IS OF BULK AT MOST 1048576: true; the input reads as it did. -/
def uartOrderUptoRow : OpenClaim := { program := "ytecoejjpdogklaa", sum := "3cf06dcbaa24a7c3e4fca3dc831e6e83a023ebfe4eeef196c03f6aafeaa7edfe", func := "betony/betonylaw09.UartOrder", spec := "uartOrder", apart := false, narrowed := true }
def UartOrderUptoSaid : Prop := uartOrderUptoRow.holds Try.pinned (OpenSpec.upto uartOrderSpec)

/-- 'betonylaw09.UartPlays', WHERE WHAT IT READS IS OF BULK AT MOST 1048576: true; the input reads as it did. -/
def uartPlaysUptoRow : OpenClaim := { program := "ytecoejjpdogklaa", sum := "3cf06dcbaa24a7c3e4fca3dc831e6e83a023ebfe4eeef196c03f6aafeaa7edfe", func := "betony/betonylaw09.UartPlays", spec := "uartPlays", apart := false, narrowed := true }
def UartPlaysUptoSaid : Prop := uartPlaysUptoRow.holds Try.pinned (OpenSpec.upto uartPlaysSpec)

/-- 'betonylaw09.UartSends', WHERE WHAT IT READS IS OF BULK AT MOST 1048576: true; the input reads as it did. -/
def uartSendsUptoRow : OpenClaim := { program := "ytecoejjpdogklaa", sum := "3cf06dcbaa24a7c3e4fca3dc831e6e83a023ebfe4eeef196c03f6aafeaa7edfe", func := "betony/betonylaw09.UartSends", spec := "uartSends", apart := false, narrowed := true }
def UartSendsUptoSaid : Prop := uartSendsUptoRow.holds Try.pinned (OpenSpec.upto uartSendsSpec)

/-- 'betonylaw07.FifoKeeps', WHERE WHAT IT READS IS OF BULK AT MOST 1048576: true; the input reads as it did. -/
def fifoKeepsUptoRow : OpenClaim := { program := "ytecoejjpdogklaa", sum := "3cf06dcbaa24a7c3e4fca3dc831e6e83a023ebfe4eeef196c03f6aafeaa7edfe", func := "betony/betonylaw07.FifoKeeps", spec := "fifoKeeps", unfollowed := true, recurses := true, apart := false, narrowed := true }
def FifoKeepsUptoSaid : Prop := fifoKeepsUptoRow.holds Try.pinned (OpenSpec.upto fifoKeepsSpec)

/-- 'betonylaw07.FifoCounts', WHERE WHAT IT READS IS OF BULK AT MOST 1048576: true; the input reads as it did. -/
def fifoCountsUptoRow : OpenClaim := { program := "ytecoejjpdogklaa", sum := "3cf06dcbaa24a7c3e4fca3dc831e6e83a023ebfe4eeef196c03f6aafeaa7edfe", func := "betony/betonylaw07.FifoCounts", spec := "fifoCounts", unfollowed := true, recurses := true, apart := false, narrowed := true }
def FifoCountsUptoSaid : Prop := fifoCountsUptoRow.holds Try.pinned (OpenSpec.upto fifoCountsSpec)

/-- 'betonylaw04.RectTells', WHERE WHAT IT READS IS OF BULK AT MOST 1048576: true; the input reads as it did. -/
def rectTellsUptoRow : OpenClaim := { program := "ytecoejjpdogklaa", sum := "3cf06dcbaa24a7c3e4fca3dc831e6e83a023ebfe4eeef196c03f6aafeaa7edfe", func := "betony/betonylaw04.RectTells", spec := "rectTells", apart := false, narrowed := true }
def RectTellsUptoSaid : Prop := rectTellsUptoRow.holds Try.pinned (OpenSpec.upto rectTellsSpec)

end Rows
end Go.Proofs.Ytecoejjpdogklaa
