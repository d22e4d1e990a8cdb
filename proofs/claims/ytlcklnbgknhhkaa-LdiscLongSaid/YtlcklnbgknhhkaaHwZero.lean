/- A new slice of whatever bytes (internal/bytealg.MakeNoZero); a slice of three. -/
import Derived.Test.YtlcklnbgknhhkaaHwA
import Derived.Laws.AppendOwn
import Derived.Laws.Entries
import Derived.Laws.NewFold
import Derived.Laws.Externs
namespace Go.HW
open Go

def sSl3 (x : Value) (lo : Option Value) (hi mx : Value) (sz : Nat) (K : Value → Prop) : Prop := ∃ (a : Option Addr) (n c l h m : Nat) (k k' : IntKind), x = .slice a n c ∧ bnd lo 0 l ∧ hi = .int k (h : Int) ∧ mx = .int k' (m : Int) ∧ l ≤ h ∧ h ≤ m ∧ m ≤ c ∧ K (cutV a l h m sz)
theorem run_bounds3 {P : Program} (w : World) {lo : Option Value} {n c l h m : Nat} {k k' : IntKind} (hl : bnd lo 0 l) (h1 : l ≤ h) (h2 : h ≤ m) (h3 : m ≤ c) : (Instr.sliceBounds true n c lo (some (.int k (h : Int))) (some (.int k' (m : Int)))).run P w = .ok (l, h, m) w := by
  have b1 : ∀ (y : Nat) (q : Nat) (code : BoundsCode) (k : IntKind), q ≤ y → (Instr.sliceBound (.int k (q : Int)) y code).run P w = .ok q w := fun y q code k hq => by
    unfold Instr.sliceBound
    have : (0 : Int) ≤ (q : Int) ∧ (q : Int) ≤ (y : Int) := by omega
    simp [go_sem, asIntOf, hq]
  unfold Instr.sliceBounds
  cases lo with
  | none => simp only [bnd] at hl; subst hl; simp [go_sem, b1 c m _ k' h3, b1 m h _ k h2]; intro hlt; omega
  | some x =>
    obtain ⟨k2, rfl⟩ := hl
    simp [go_sem, b1 c m _ k' h3, b1 m h _ k h2, b1 h l _ k2 h1]; rw [if_pos h2, if_pos h1]
/-- n bytes anew, of whatever values, with room for more. -/
def sMkNZ (h : Heap) (x : Value) (e : Nat) (K : Value → Heap → Prop) : Prop := ∃ n : Nat, x = .int .i64 (n : Int) ∧ n ≤ 281474976710656 ∧ ∀ bs : List Int, n ≤ bs.length → (n ≤ maxLen → bs.length ≤ maxLen) → K (.slice (some ⟨h.size, 0, none⟩) n bs.length) (h.push (.cells (bs.map fun b => Value.int .u8 b).toArray e))
theorem digits_u8 : ∀ (n t : Nat) (acc : Array Value) (b : List Int), acc = (b.map fun x => Value.int .u8 x).toArray → ∃ bs : List Int, Extern.BytealgMakeNoZero.digits n t acc = (bs.map fun x => Value.int .u8 x).toArray ∧ bs.length = b.length + n
  | 0, t, acc, b, h => ⟨b, h, rfl⟩
  | n + 1, t, acc, b, h => by
    obtain ⟨bs, e, l⟩ := digits_u8 n (t / 256) (acc.push (.int .u8 (Int.ofNat (t % 256)))) (b ++ [Int.ofNat (t % 256)]) (by rw [h]; simp)
    exact ⟨bs, e, by rw [l]; simp; omega⟩
theorem run_mnz {P : Program} (w : World) (ps : Array TypeId) (t e : TypeId) (ht : P.underlying t = some (.slice e)) (n : Nat) (hn : n ≤ 281474976710656) :
    ∃ bs : List Int, (Extern.BytealgMakeNoZero.makeNoZero ps #[t] #[.int .i64 n]).run P w = .ok (.slice (some ⟨w.heap.size, 0, none⟩) n bs.length) (w.drew.drew.alloc (.cells (bs.map fun b => Value.int .u8 b).toArray e)) ∧ n ≤ bs.length ∧ (n ≤ maxLen → bs.length ≤ maxLen) := by
  have hdef : Extern.BytealgMakeNoZero.makeNoZero ps #[t] #[.int .i64 n] =
      (do
        let .slice elem ← underlying t | stuck "bytealg.MakeNoZero: slice type expected"
        if (n : Int) < 0 || (n : Int) > 2 ^ 48 then runtimePanic (.error "makeslice: len out of range")
        let cap ← choose (.appendCap (n : Int).toNat 0 elem)
        askRoom cap
        let bytes ← choose (.extern "internal/bytealg.MakeNoZero.bytes" 0)
        let a ← newRow elem (Extern.BytealgMakeNoZero.digits cap bytes #[])
        pure (.slice (some a) (n : Int).toNat cap)) := rfl
  obtain ⟨bs, e1, l1⟩ := digits_u8 (grownCap w n 0 e) ((Question.extern "internal/bytealg.MakeNoZero.bytes" 0).cut (w.tape (w.drawn + 1) (.extern "internal/bytealg.MakeNoZero.bytes" 0))) #[] [] rfl
  have hr : (Extern.BytealgMakeNoZero.makeNoZero ps #[t] #[.int .i64 n]).run P w = .ok (.slice (some ⟨w.heap.size, 0, none⟩) n bs.length) (w.drew.drew.alloc (.cells (bs.map fun b => Value.int .u8 b).toArray e)) := by
    rw [hdef]
    have k1 : ¬ (n : Int) < 0 := by omega
    have k2 : ¬ (281474976710656 : Int) < (n : Int) := by omega
    rw [← e1, l1]
    simp [run_underlying ht, k1, k2, Question.forced, newRow, grownCap]
  have l1 : bs.length = grownCap w n 0 e := by rw [l1]; simp
  refine ⟨bs, hr, ?_, fun hm => ?_⟩
  · rw [l1]; exact grownCap_ge w n 0 e
  · rw [l1]; exact grownCap_le_maxLen w n 0 e hm
section
variable {P : Program} {ρ : Operand → Value}
variable {dst : Option Tmp} {tp : TypeId} {pos : String} {after : Array Edge} {g : Option (Nat × Bool)}
theorem p_sl3 {X Y Z : Operand} {x y z : Value} {t e sz : Nat} {lo : Option Operand} {vl : Option Value} {K : Value → Prop} (ht : P.underlying t = some (.slice e)) (hs : ∀ w, (sizeOf e).run P w = .ok sz w) (hx : ρ X = x) (hl : lo.map ρ = vl) (hy : ρ Y = y) (hz : ρ Z = z) (H : sSl3 x vl y z sz K) :
    ∃ v, PY P ρ ⟨dst, .slice t X lo (some Y) (some Z), tp, pos, after, g⟩ v ∧ K v := by
  obtain ⟨a, n, c, l, h, m, k, k', rfl, h1, rfl, rfl, h3, h4, h5, hk⟩ := H
  refine ⟨_, fun w => ?_, hk⟩
  have hu' : ∀ w, (underlying t).run P w = .ok (.slice e) w := fun w => by simp [underlying, go_sem, ht]
  have e1 : execOp ρ ⟨dst, .slice t X lo (some Y) (some Z), tp, pos, after, g⟩ = Sem.bind (Instr.sliceAt t (ρ X) (lo.map ρ) (some (ρ Y)) (some (ρ Z))) fun v => Sem.pure (Next.value v) := rfl
  have hb := run_bounds3 (P := P) w (n := n) (k := k) (k' := k') h1 h3 h4 h5
  have : (Instr.sliceAt t (.slice a n c) vl (some (.int k (h : Int))) (some (.int k' (m : Int)))).run P w = .ok (cutV a l h m sz) w := by
    unfold Instr.sliceAt
    simp only [Sem.run_bind, hu', Result.andThen_ok]
    unfold Instr.slice
    simp only [Sem.run_bind, hu', Result.andThen_ok, hb, hs, Sem.run_pure]
    rfl
  rw [e1, hx, hl, hy, hz, run_bindS, this]
  rfl
theorem d_mnz {h : Heap} {K : Value → Heap → Prop} {f : FuncId} {fn : Func} {X : Operand} {x : Value} {ts : Array TypeId} {ps : Array TypeId} {t e : Nat} (hf : P.funcs[f]? = some fn) (hname : (fn.name == "runtime.NumGoroutine") = false) (hb : fn.body.isNone = true) (hn : Extern.findNext fn = none) (he : Extern.find fn = some (Extern.BytealgMakeNoZero.makeNoZero ps #[t])) (ht : P.underlying t = some (.slice e)) (hr : ρ (.func f) = .func (.func f) #[] #[]) (hx : ρ X = x) (H : sMkNZ h x e K) :
    Does P ρ ⟨dst, .call ⟨.value (.func f), #[X], ts⟩, tp, pos, after, g⟩ h K := by
  obtain ⟨n, rfl, hn', hk⟩ := H
  intro w hw
  obtain ⟨bs, h1, h2, h3⟩ := run_mnz (P := P) w ps t e ht n hn'
  have hc := run_callFunc_extern (P := P) hf hname hb hn he #[.int .i64 (n : Int)] w
  rw [h1] at hc
  refine .inl ⟨.slice (some ⟨w.heap.size, 0, none⟩) n bs.length, w.drew.drew.alloc (.cells (bs.map fun b => Value.int .u8 b).toArray e), ?_, ?_, ⟨rfl, rfl, rfl⟩⟩
  rotate_left
  · show K _ (w.heap.push _)
    rw [hw]
    exact hk bs h2 h3
  · have hX : (#[X] : Array Operand).map ρ = #[.int .i64 (n : Int)] := by simp [hx]
    have := hc
    simp [execOp, go_sem, resolve, hr, Deferred.ofValue, invoke, hx, this, hw]
end
end Go.HW
