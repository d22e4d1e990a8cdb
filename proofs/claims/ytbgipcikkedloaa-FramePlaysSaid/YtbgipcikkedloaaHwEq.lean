/- Equality of structs and arrays of numbers and bools: helpers. -/
import Derived.Test.YtbgipcikkedloaaHwPlan
import Derived.DeepKeys
import Derived.KernelRfl
namespace Go.HW
open Go
theorem okC_i {k : IntKind} {ks : List (Option IntKind)} {l : List Value} (h : okC (some k :: ks) l) : ∃ a r, l = .int k a :: r ∧ okC ks r := by
  match l, h with
  | .int k' a :: r, h => exact ⟨a, r, by rw [h.1], h.2⟩
theorem okC_b {ks : List (Option IntKind)} {l : List Value} (h : okC (none :: ks) l) : ∃ a r, l = .bool a :: r ∧ okC ks r := by
  match l, h with
  | .bool a :: r, h => exact ⟨a, r, rfl, h⟩
theorem okC_n {l : List Value} (h : okC [] l) : l = [] := by
  match l, h with
  | [], _ => rfl
theorem ite_ok {a b : Int} {y : Bool} {w : World} : (if a = b then Result.ok y w else Result.ok false w) = Result.ok (a == b && y) w := by
  by_cases h : a = b <;> simp [h]
theorem ite_okb {a b y : Bool} {w : World} : (if a = b then Result.ok y w else Result.ok false w) = Result.ok (a == b && y) w := by
  by_cases h : a = b <;> simp [h]
theorem ite_ok2 {b y : Bool} {w : World} : (if b = false then Result.ok false w else Result.ok y w) = Result.ok (b && y) w := by
  cases b <;> rfl
end Go.HW
