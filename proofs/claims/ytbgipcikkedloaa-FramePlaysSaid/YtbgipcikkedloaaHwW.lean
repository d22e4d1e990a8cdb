/- The steps once more over goals that nothing unfolds. -/
import Derived.Test.YtbgipcikkedloaaHwOps3
namespace Go.HW
open Go

structure WL (P : Program) (ops : Array Oper) (Q : Exit → Act → World → Prop) (l : List Oper) (a : Act) (w : World) : Prop where
  out : wpList P ops Q l a w
structure WQ (P : Program) (ops : Array Oper) (w0 : World) (Q : Act → Prop) (l : List Oper) (a : Act) : Prop where
  out : wpQuiet P ops (SameHeap w0) Q l a
structure WM (P : Program) (ops : Array Oper) (C : World → Prop) (E need pu : Nat → Bool) (Q : Act → World → Prop) (L : List Nat) (a : Act) (w : World) : Prop where
  out : wpMx P ops C E need pu Q L a w

section plain
variable {P : Program} {ops : Array Oper} {Q : Exit → Act → World → Prop} {a : Act} {w w0 : World} {rest : List Oper} {o : Oper} {h : Heap}
theorem ls_p {d : Option Tmp} (hd : o.dst = d) {K : Value → Prop} (hg : Region.wanted o (yielded ops a.tmps) = true) (hy : ∃ v, PY P a.eval o v ∧ K v) (next : ∀ v, K v → WL P ops Q rest (a.put d v) w) : WL P ops Q (o :: rest) a w :=
  ⟨s_p hd hg hy fun v hk => (next v hk).out⟩
theorem ls_y {d : Option Tmp} (hd : o.dst = d) {K : Value → Prop} (hg : Region.wanted o (yielded ops a.tmps) = true) (A : At w0 w h) (hy : ∃ v, Yields P a.eval o h v ∧ K v) (next : ∀ v, K v → WL P ops Q rest (a.put d v) w) : WL P ops Q (o :: rest) a w :=
  ⟨s_y hd hg A hy fun v hk => (next v hk).out⟩
theorem ls_d {d : Option Tmp} (hdst : o.dst = d) {R : Value → Heap → Prop} (hg : Region.wanted o (yielded ops a.tmps) = true) (A : At w0 w h) (hd : Does P a.eval o h R) (next : ∀ v h' w', R v h' → At w0 w' h' → WL P ops Q rest (a.put d v) w') : WL P ops Q (o :: rest) a w :=
  ⟨s_d hdst hg A hd fun v h' w' hr A' => (next v h' w' hr A').out⟩
section
variable {dst : Option Tmp} {tp : TypeId} {pos : String} {after : Array Edge} {g : Option (Nat × Bool)} {c X Y : Operand} {x y : Value}
theorem ls_move (hg : Region.wanted ⟨dst, .move X, tp, pos, after, g⟩ (yielded ops a.tmps) = true) (hx : a.eval X = x) (next : WL P ops Q rest (a.put dst x) w) : WL P ops Q (⟨dst, .move X, tp, pos, after, g⟩ :: rest) a w := ⟨s_move hg hx next.out⟩
theorem ls_assign (hg : Region.wanted ⟨dst, .assign X, tp, pos, after, g⟩ (yielded ops a.tmps) = true) (hx : a.eval X = x) (next : WL P ops Q rest (a.put dst x) w) : WL P ops Q (⟨dst, .assign X, tp, pos, after, g⟩ :: rest) a w := ⟨s_assign hg hx next.out⟩
theorem ls_pick_t (hg : Region.wanted ⟨dst, .pick c X Y, tp, pos, after, g⟩ (yielded ops a.tmps) = true) (hc : a.eval c = .bool true) (hx : a.eval X = x) (next : WL P ops Q rest (a.put dst x) w) : WL P ops Q (⟨dst, .pick c X Y, tp, pos, after, g⟩ :: rest) a w := ⟨s_pick_t hg hc hx next.out⟩
theorem ls_pick_f (hg : Region.wanted ⟨dst, .pick c X Y, tp, pos, after, g⟩ (yielded ops a.tmps) = true) (hc : a.eval c = .bool false) (hy : a.eval Y = y) (next : WL P ops Q rest (a.put dst y) w) : WL P ops Q (⟨dst, .pick c X Y, tp, pos, after, g⟩ :: rest) a w := ⟨s_pick_f hg hc hy next.out⟩
end
theorem ls_skip {d : Option Tmp} (hd : o.dst = d) (hg : Region.wanted o (yielded ops a.tmps) = false) (next : WL P ops Q rest (a.put d undef) w) : WL P ops Q (o :: rest) a w := ⟨s_skip hd hg next.out⟩
theorem ls_nil (next : Q .normal a w) : WL P ops Q [] a w := ⟨next⟩
end plain
section plain2
variable {P : Program} {ops l : List Oper} {Q : Exit → Act → World → Prop} {a : Act} {w : World} {h : Heap} {x : Value}
theorem ls_and (n : List Unit) (J : (Value → Prop) → Act → World → Prop) {M : (Value → Prop) → Prop} {K : Value → Prop} (H : sAnd x M K)
    (hm : x = .bool true → M K → WL P ops.toArray (Exit.then (J K) fun _ _ _ => False) (tk n l) a w) (hs : x = .bool false → K (.bool false) → WL P ops.toArray (Exit.then (J K) fun _ _ _ => False) (tk n l) a w)
    (hJ : ∀ a w, J K a w → WL P ops.toArray Q (dp n l) a w) : WL P ops.toArray Q l a w :=
  ⟨s_and n J H (fun e m => (hm e m).out) (fun e m => (hs e m).out) fun a w j => (hJ a w j).out⟩
theorem ls_or (n : List Unit) (J : (Value → Prop) → Act → World → Prop) {M : (Value → Prop) → Prop} {K : Value → Prop} (H : sOr x M K)
    (hm : x = .bool false → M K → WL P ops.toArray (Exit.then (J K) fun _ _ _ => False) (tk n l) a w) (hs : x = .bool true → K (.bool true) → WL P ops.toArray (Exit.then (J K) fun _ _ _ => False) (tk n l) a w)
    (hJ : ∀ a w, J K a w → WL P ops.toArray Q (dp n l) a w) : WL P ops.toArray Q l a w :=
  ⟨s_or n J H (fun e m => (hm e m).out) (fun e m => (hs e m).out) fun a w j => (hJ a w j).out⟩
theorem ls_andh (n : List Unit) (J : (Value → Heap → Prop) → Act → World → Prop) {M : (Value → Heap → Prop) → Prop} {K : Value → Heap → Prop} (H : sAndH x h M K)
    (hm : x = .bool true → M K → WL P ops.toArray (Exit.then (J K) fun _ _ _ => False) (tk n l) a w) (hs : x = .bool false → K (.bool false) h → WL P ops.toArray (Exit.then (J K) fun _ _ _ => False) (tk n l) a w)
    (hJ : ∀ a w, J K a w → WL P ops.toArray Q (dp n l) a w) : WL P ops.toArray Q l a w :=
  ⟨s_andh n J H (fun e m => (hm e m).out) (fun e m => (hs e m).out) fun a w j => (hJ a w j).out⟩
theorem ls_orh (n : List Unit) (J : (Value → Heap → Prop) → Act → World → Prop) {M : (Value → Heap → Prop) → Prop} {K : Value → Heap → Prop} (H : sOrH x h M K)
    (hm : x = .bool false → M K → WL P ops.toArray (Exit.then (J K) fun _ _ _ => False) (tk n l) a w) (hs : x = .bool true → K (.bool true) h → WL P ops.toArray (Exit.then (J K) fun _ _ _ => False) (tk n l) a w)
    (hJ : ∀ a w, J K a w → WL P ops.toArray Q (dp n l) a w) : WL P ops.toArray Q l a w :=
  ⟨s_orh n J H (fun e m => (hm e m).out) (fun e m => (hs e m).out) fun a w j => (hJ a w j).out⟩
end plain2
section quiet
variable {P : Program} {ops : Array Oper} {Q : Act → Prop} {a : Act} {w w0 : World} {rest : List Oper} {o : Oper} {h : Heap}
theorem lq_p {d : Option Tmp} (hd : o.dst = d) {K : Value → Prop} (hg : Region.wanted o (yielded ops a.tmps) = true) (hy : ∃ v, PY P a.eval o v ∧ K v) (next : ∀ v, K v → WQ P ops w Q rest (a.put d v)) : WQ P ops w Q (o :: rest) a :=
  ⟨q_p hd hg hy fun v hk => (next v hk).out⟩
theorem lq_y {d : Option Tmp} (hd : o.dst = d) {K : Value → Prop} (hg : Region.wanted o (yielded ops a.tmps) = true) (A : At w0 w h) (hy : ∃ v, Yields P a.eval o h v ∧ K v) (next : ∀ v, K v → WQ P ops w Q rest (a.put d v)) : WQ P ops w Q (o :: rest) a :=
  ⟨q_y hd hg A hy fun v hk => (next v hk).out⟩
section
variable {dst : Option Tmp} {tp : TypeId} {pos : String} {after : Array Edge} {g : Option (Nat × Bool)} {c X Y : Operand} {x y : Value}
theorem lq_move (hg : Region.wanted ⟨dst, .move X, tp, pos, after, g⟩ (yielded ops a.tmps) = true) (hx : a.eval X = x) (next : WQ P ops w Q rest (a.put dst x)) : WQ P ops w Q (⟨dst, .move X, tp, pos, after, g⟩ :: rest) a := ⟨q_move hg hx next.out⟩
theorem lq_assign (hg : Region.wanted ⟨dst, .assign X, tp, pos, after, g⟩ (yielded ops a.tmps) = true) (hx : a.eval X = x) (next : WQ P ops w Q rest (a.put dst x)) : WQ P ops w Q (⟨dst, .assign X, tp, pos, after, g⟩ :: rest) a := ⟨q_assign hg hx next.out⟩
theorem lq_pick_t (hg : Region.wanted ⟨dst, .pick c X Y, tp, pos, after, g⟩ (yielded ops a.tmps) = true) (hc : a.eval c = .bool true) (hx : a.eval X = x) (next : WQ P ops w Q rest (a.put dst x)) : WQ P ops w Q (⟨dst, .pick c X Y, tp, pos, after, g⟩ :: rest) a := ⟨q_pick_t hg hc hx next.out⟩
theorem lq_pick_f (hg : Region.wanted ⟨dst, .pick c X Y, tp, pos, after, g⟩ (yielded ops a.tmps) = true) (hc : a.eval c = .bool false) (hy : a.eval Y = y) (next : WQ P ops w Q rest (a.put dst y)) : WQ P ops w Q (⟨dst, .pick c X Y, tp, pos, after, g⟩ :: rest) a := ⟨q_pick_f hg hc hy next.out⟩
end
theorem lq_skip {d : Option Tmp} (hd : o.dst = d) (hg : Region.wanted o (yielded ops a.tmps) = false) (next : WQ P ops w Q rest (a.put d undef)) : WQ P ops w Q (o :: rest) a := ⟨q_skip hd hg next.out⟩
theorem lq_nil (next : Q a) : WQ P ops w Q [] a := ⟨next⟩
end quiet
section quiet2
variable {P : Program} {ops l : List Oper} {Q : Act → Prop} {a : Act} {w : World} {x : Value}
theorem lq_and (n : List Unit) (J : (Value → Prop) → Act → Prop) {M : (Value → Prop) → Prop} {K : Value → Prop} (H : sAnd x M K)
    (hm : x = .bool true → M K → WQ P ops.toArray w (J K) (tk n l) a) (hs : x = .bool false → K (.bool false) → WQ P ops.toArray w (J K) (tk n l) a)
    (hJ : ∀ a, J K a → WQ P ops.toArray w Q (dp n l) a) : WQ P ops.toArray w Q l a :=
  ⟨q_and n J H (fun e m => (hm e m).out) (fun e m => (hs e m).out) fun a j => (hJ a j).out⟩
theorem lq_or (n : List Unit) (J : (Value → Prop) → Act → Prop) {M : (Value → Prop) → Prop} {K : Value → Prop} (H : sOr x M K)
    (hm : x = .bool false → M K → WQ P ops.toArray w (J K) (tk n l) a) (hs : x = .bool true → K (.bool true) → WQ P ops.toArray w (J K) (tk n l) a)
    (hJ : ∀ a, J K a → WQ P ops.toArray w Q (dp n l) a) : WQ P ops.toArray w Q l a :=
  ⟨q_or n J H (fun e m => (hm e m).out) (fun e m => (hs e m).out) fun a j => (hJ a j).out⟩
end quiet2
section mix
variable {P : Program} {ops : Array Oper} {Ch : Heap → Prop} {E need pu : Nat → Bool} {Q : Act → World → Prop} {a : Act} {w w0 : World} {L : List Nat} {i : Nat} {o : Oper} {h : Heap} {x : Value}
theorem lm_f {d : Option Tmp} (hd : o.dst = d) {K : Value → Prop} (hi : ops[i]? = some o) (hE : E i = false) (hp : pu i = false) (hg : Region.wanted o (yielded ops a.tmps) = true) (hy : ∃ v, (∀ h', Ch h' → Yields P a.eval o h' v) ∧ K v)
    (next : ∀ v, K v → WM P ops (InC w0 Ch) E need pu Q L (a.put d v) w) : WM P ops (InC w0 Ch) E need pu Q (i :: L) a w := ⟨m_f hd hi hE hp hg hy fun v hk => (next v hk).out⟩
theorem lm_p {d : Option Tmp} (hd : o.dst = d) {K : Value → Prop} (hi : ops[i]? = some o) (hE : E i = false) (hg : Region.wanted o (yielded ops a.tmps) = true) (hy : ∃ v, PY P a.eval o v ∧ K v)
    (next : ∀ v, K v → WM P ops (InC w0 Ch) E need pu Q L (a.put d v) w) : WM P ops (InC w0 Ch) E need pu Q (i :: L) a w := ⟨m_p hd hi hE hg hy fun v hk => (next v hk).out⟩
theorem lm_skip {d : Option Tmp} (hd : o.dst = d) (hi : ops[i]? = some o) (hg : Region.wanted o (yielded ops a.tmps) = false)
    (next : WM P ops (InC w0 Ch) E need pu Q L (a.put d undef) w) : WM P ops (InC w0 Ch) E need pu Q (i :: L) a w := ⟨m_skip hd hi hg next.out⟩
theorem lm_dc {d : Option Tmp} (hdst : o.dst = d) {R : Value → Heap → Prop} (hi : ops[i]? = some o) (hE : E i = true) (hg : Region.wanted o (yielded ops a.tmps) = true) (A : At w0 w h) (hd : Does P a.eval o h fun v h' => Ch h' ∧ R v h')
    (next : ∀ v h' w', R v h' → At w0 w' h' → WM P ops (InC w0 Ch) E need pu Q L (a.put d v) w') : WM P ops (InC w0 Ch) E need pu Q (i :: L) a w := ⟨m_dc hdst hi hE hg A hd fun v h' w' hr A' => (next v h' w' hr A').out⟩
theorem lm_d {d : Option Tmp} (hdst : o.dst = d) {R : Value → Heap → Prop} (hi : ops[i]? = some o) (hE : E i = true) (hn : need i = false) (hg : Region.wanted o (yielded ops a.tmps) = true) (A : At w0 w h) (hd : Does P a.eval o h R)
    (next : ∀ v h' w', R v h' → At w0 w' h' → WM P ops (InC w0 Ch) E need pu Q L (a.put d v) w') : WM P ops (InC w0 Ch) E need pu Q (i :: L) a w := ⟨m_d hdst hi hE hn hg A hd fun v h' w' hr A' => (next v h' w' hr A').out⟩
theorem lm_nil (next : Q a w) : WM P ops (InC w0 Ch) E need pu Q [] a w := ⟨next⟩
theorem lm_and (n : List Unit) (J : (Value → Prop) → Act → World → Prop) {M : (Value → Prop) → Prop} {K : Value → Prop} (H : sAnd x M K)
    (hm : x = .bool true → M K → WM P ops (InC w0 Ch) E need pu (J K) (tk n L) a w) (hs : x = .bool false → K (.bool false) → WM P ops (InC w0 Ch) E need pu (J K) (tk n L) a w)
    (hJ : ∀ a w, J K a w → WM P ops (InC w0 Ch) E need pu Q (dp n L) a w) : WM P ops (InC w0 Ch) E need pu Q L a w :=
  ⟨m_and n J H (fun e m => (hm e m).out) (fun e m => (hs e m).out) fun a w j => (hJ a w j).out⟩
theorem lm_or (n : List Unit) (J : (Value → Prop) → Act → World → Prop) {M : (Value → Prop) → Prop} {K : Value → Prop} (H : sOr x M K)
    (hm : x = .bool false → M K → WM P ops (InC w0 Ch) E need pu (J K) (tk n L) a w) (hs : x = .bool true → K (.bool true) → WM P ops (InC w0 Ch) E need pu (J K) (tk n L) a w)
    (hJ : ∀ a w, J K a w → WM P ops (InC w0 Ch) E need pu Q (dp n L) a w) : WM P ops (InC w0 Ch) E need pu Q L a w :=
  ⟨m_or n J H (fun e m => (hm e m).out) (fun e m => (hs e m).out) fun a w j => (hJ a w j).out⟩
theorem lm_andh (n : List Unit) (J : (Value → Heap → Prop) → Act → World → Prop) {M : (Value → Heap → Prop) → Prop} {K : Value → Heap → Prop} (H : sAndH x h M K)
    (hm : x = .bool true → M K → WM P ops (InC w0 Ch) E need pu (J K) (tk n L) a w) (hs : x = .bool false → K (.bool false) h → WM P ops (InC w0 Ch) E need pu (J K) (tk n L) a w)
    (hJ : ∀ a w, J K a w → WM P ops (InC w0 Ch) E need pu Q (dp n L) a w) : WM P ops (InC w0 Ch) E need pu Q L a w :=
  ⟨m_andh n J H (fun e m => (hm e m).out) (fun e m => (hs e m).out) fun a w j => (hJ a w j).out⟩
theorem lm_orh (n : List Unit) (J : (Value → Heap → Prop) → Act → World → Prop) {M : (Value → Heap → Prop) → Prop} {K : Value → Heap → Prop} (H : sOrH x h M K)
    (hm : x = .bool false → M K → WM P ops (InC w0 Ch) E need pu (J K) (tk n L) a w) (hs : x = .bool true → K (.bool true) h → WM P ops (InC w0 Ch) E need pu (J K) (tk n L) a w)
    (hJ : ∀ a w, J K a w → WM P ops (InC w0 Ch) E need pu Q (dp n L) a w) : WM P ops (InC w0 Ch) E need pu Q L a w :=
  ⟨m_orh n J H (fun e m => (hm e m).out) (fun e m => (hs e m).out) fun a w j => (hJ a w j).out⟩
end mix
section code
variable {P : Program} {Q : Exit → Act → World → Prop} {a : Act} {w w0 : World} {h : Heap}
theorem lwp_list {id : Nat} {l : List Oper} (next : WL P l.toArray Q l a w) : (Code.region id l.toArray false).wp P Q a w := wp_list next.out
theorem lwp_qt {id : Nat} {l : List Oper} (hm : P.follows .mixedOrders = true) (hB : Region.lexB .any l.toArray = true) (A : At w0 w h)
    (next : WQ P l.toArray w (fun a' => ∀ w', At w0 w' h → Q .normal a' w') l a) : (Code.region id l.toArray true).wp P Q a w := wp_qt hm hB A next.out
theorem lwp_mx {id : Nat} {l : List Oper} (E need pu : Nat → Bool) (A0 : List Nat) (Ch : Heap → Prop) (L : List Nat) (hL : List.range l.length = L) (hm : P.follows .mixedOrders = true) (hB : mixB l.toArray E need pu A0 = true) (A : At w0 w h) (hC : Ch h)
    (next : ∀ w', At w0 w' h → WM P l.toArray (InC w0 Ch) E need pu (Q .normal) L a w') : (Code.region id l.toArray true).wp P Q a w :=
  wp_mx E need pu A0 Ch hm hB A hC fun w' A' => hL ▸ (next w' A').out
end code
end Go.HW
