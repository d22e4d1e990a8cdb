/- Short names. -/
import Derived.Test.YtlcklnbgknhhkaaHwB
namespace Go.HW
open Go
abbrev ud : Value := undef
abbrev Ap (l : List Value) (n : Nat) : List Value := l ++ List.replicate n undef
abbrev Aq (l : List Value) (n : Nat) (r : List Value) : List Value := l ++ (List.replicate n undef ++ r)
abbrev Ad (D : Nat → Value) (i n : Nat) (r : List Value) : List Value := (List.range' i n).map D ++ r
end Go.HW
