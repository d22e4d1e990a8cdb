/- Rings that carry messages, as a part of the heap. -/
import Derived.Test.YtpgpbhbpamgboaaHwBits
import Derived.Test.YtpgpbhbpamgboaaFslicesClonebytebyte
import Derived.Test.YtpgpbhbpamgboaaFipcNew
import Derived.Test.YtpgpbhbpamgboaaFipcRingSend
import Derived.Test.YtpgpbhbpamgboaaFipcRingTake
import Derived.Test.YtpgpbhbpamgboaaFipcRingLen
import Derived.Test.YtpgpbhbpamgboaaFbetonylaw14awake
set_option linter.unusedSimpArgs false
namespace Go.Proofs.Ytpgpbhbpamgboaa
open Go Go.HW

abbrev CV := {v : Value // Cell1 v}
def nilCV : CV := ⟨.slice none 0 0, trivial⟩
def encMs (x : Int × CV) : List Value := [.int .i64 x.1, x.2.1]
theorem encMs_len (x : Int × CV) : (encMs x).length = 2 := rfl
theorem encMs_cell (x : Int × CV) : ∀ u ∈ encMs x, Cell1 u := by intro u hu; simp [encMs] at hu; rcases hu with rfl | rfl; trivial; exact x.2.2

structure Ms where
  f : Int
  v : CV
  l : List Int

def RingOk (N first : Nat) (rows : List (Int × CV)) (q : List Ms) : Prop := rows.length = N ∧ first < N ∧ q.length ≤ N ∧ N ≤ 4096 ∧ ∀ i m, q[i]? = some m → rows[(first + i) % N]? = some (m.f, m.v)
def msC (m : Ms) : HP := Sl (encI .u8) 1 m.v.1 m.l
def RingC (b N : Nat) (q : List Ms) : HP := HP.ex fun p : Value × Nat × List (Int × CV) => HP.fact (RingOk N p.2.1 p.2.2 q) (HP.all [Blk b #[p.1, .int .i64 p.2.1, .int .i64 q.length] 56, Sl encMs 2 p.1 p.2.2, HP.all (q.map msC)])

theorem modN {x N : Nat} (h : x < 2 * N) : x % N = if x < N then x else x - N := by
  split
  · exact Nat.mod_eq_of_lt (by assumption)
  · rw [Nat.mod_eq_sub_mod (by omega), Nat.mod_eq_of_lt (by omega)]

section
variable {h0 h : Heap} {F : List HP} {R : Value → Heap → Prop} {b N : Nat} {q : List Ms}
theorem ring_open (s : HW.Sep h0 (RingC b N q :: F) h) : ∃ (v : Value) (first : Nat) (rows : List (Int × CV)), RingOk N first rows q ∧ HW.Sep h0 (Blk b #[v, .int .i64 first, .int .i64 q.length] 56 :: Sl encMs 2 v rows :: HP.all (q.map msC) :: F) h := by
  obtain ⟨⟨v, first, rows⟩, s⟩ := s.open_ex
  obtain ⟨ok, s⟩ := s.open_fact
  exact ⟨v, first, rows, ok, s.open_all⟩
theorem ring_shut {v : Value} {first : Nat} {rows : List (Int × CV)} (ok : RingOk N first rows q) (s : HW.Sep h0 (Blk b #[v, .int .i64 first, .int .i64 q.length] 56 :: Sl encMs 2 v rows :: HP.all (q.map msC) :: F) h) : HW.Sep h0 (RingC b N q :: F) h :=
  HW.Sep.shut_ex (A := fun p : Value × Nat × List (Int × CV) => HP.fact (RingOk N p.2.1 p.2.2 q) (HP.all [Blk b #[p.1, .int .i64 p.2.1, .int .i64 q.length] 56, Sl encMs 2 p.1 p.2.2, HP.all (q.map msC)])) (v, first, rows) (HW.Sep.shut_fact ok (HW.Sep.shut_all s))
theorem ring_len (s : HW.Sep h0 (RingC b N q :: F) h) : q.length ≤ N ∧ N ≤ 4096 := by
  obtain ⟨v, first, rows, ok, _⟩ := ring_open s
  exact ⟨ok.2.2.1, ok.2.2.2.1⟩
theorem clone_byte {v : Value} {l : List Int} (q : Ints .u8 h v l) (hl : l.length ≤ 100000) (H : ∀ v' h', Cell1 v' → HW.Sep h [Sl (encI .u8) 1 v' l] h' → R v' h') : slices_Clone_byte_byte_c v h R := by
  apply slices_Clone_byte_byte_runs
  unfold slices_Clone_byte_byte_S
  have q0 := q
  obtain ⟨a, n, m, rfl, hn, hm, hd⟩ := q
  rw [ev_eqlNilS, ev_if]
  cases a with
  | none =>
    have : l = [] := by
      rcases hd with hd | ⟨b, o, e, _⟩
      · exact List.eq_nil_of_length_eq_zero (by omega)
      · cases e
    subst this
    rw [if_pos (show (none : Option Addr).isNone = true from rfl)]
    exact H _ _ trivial (sep_nil (HW.Sep.start h))
  | some x =>
    rw [if_neg (by simp)]
    refine (HW.Sep.start h).slit (enc := encI .u8) (sz := 1) (encI_len _) [] rfl rfl (fun v1 h1 _ s1 => ?_)
    refine s1.app (enc := encI .u8) (sz := 1) rfl (by decide) (encI_len _) (encI_cell _) (q0.ext s1.ext) (by simp only [List.length_nil]; omega) (by decide) (fun v2 h2 c2 s2 => H v2 h2 c2 (by rwa [List.nil_append] at s2))
theorem len_spec (s : HW.Sep h0 (RingC b N q :: F) h) (H : R (.int .i64 q.length) h) : ipc_Ring_Len_c (ptr b 0) h R := by
  obtain ⟨v, first, rows, ok, s⟩ := ring_open s
  apply ipc_Ring_Len_runs
  unfold ipc_Ring_Len_S
  simp only [ev_nil, ev_off, Nat.zero_add]
  rw [s.ld (o := 2) (v := .int .i64 q.length) rfl]; exact H
theorem new_spec {n : Int} (s : HW.Sep h0 F h) (H0 : ¬ (1 ≤ n ∧ n ≤ 4096) → R (.pointer none) h) (H : (1 ≤ n ∧ n ≤ 4096) → ∀ b h', HW.Sep h0 (RingC b n.toNat [] :: F) h' → R (ptr b 0) h') : ipc_New_c (.int .i64 n) h R := by
  apply ipc_New_runs
  unfold ipc_New_S
  simp only [ev_lt, ev_gt, ev_or_p, ev_if, Bool.or_eq_true, decide_eq_true_eq]
  by_cases hn : n < 1 ∨ 4096 < n
  · rw [if_pos hn]; exact H0 (by omega)
  · rw [if_neg hn]
    have e : n = (n.toNat : Int) := by omega
    have hm : n.toNat ≤ 4096 := by omega
    refine s.make (enc := encMs) (sz := 2) encMs_len (0, nilCV) rfl n.toNat n.toNat e e (Nat.le_refl _) (by omega) (by omega) (fun v h1 hv s1 => ?_)
    refine build_intro (cs := #[v, .int .i64 ((0 : Nat) : Int), .int .i64 (([] : List Ms).length : Nat)]) ?_ ?_
    · refine ⟨?_, Nat.le_of_ble_eq_true rfl, ?_⟩
      · cases v <;> first | rfl | exact hv.elim
      · cases v <;> first | rfl | exact hv.elim
    refine s1.box rfl (fun b h2 s2 => ?_)
    refine H (by omega) b h2 (ring_shut (v := v) (first := 0) (rows := List.replicate n.toNat (0, nilCV)) ⟨by simp, by omega, by simp, hm, fun i m hi => by simp at hi⟩ ?_)
    exact (HW.Sep.shut_all (L := []) s2).p2
theorem ring_at {first : Nat} {rows : List (Int × CV)} (ok : RingOk N first rows q) (i : Nat) (m : Ms) (hi : q[i]? = some m) : rows[(first + i) % N]? = some (m.f, m.v) := ok.2.2.2.2 i m hi
theorem send_spec {f : Int} {w : Value} {r : List Int} (s : HW.Sep h0 (RingC b N q :: F) h) (hw : Ints .u8 h w r) (hr : r.length ≤ 100000) (H1 : 4096 < r.length → R (.int .i64 10) h) (H2 : r.length ≤ 4096 → q.length = N → R (.int .i64 3) h)
    (H3 : r.length ≤ 4096 → q.length < N → ∀ v' h', HW.Sep h0 (RingC b N (q ++ [⟨f, v', r⟩]) :: F) h' → R (.int .i64 0) h') : ipc_Ring_Send_c (ptr b 0) (.int .i64 f) w h R := by
  apply ipc_Ring_Send_runs
  unfold ipc_Ring_Send_S
  rw [hw.len]
  simp only [ev_gt, ev_if, decide_eq_true_eq]
  by_cases h1 : 4096 < r.length
  · rw [if_pos (by omega)]; exact H1 h1
  rw [if_neg (by omega)]
  obtain ⟨v, first, rows, ok, s1⟩ := ring_open s
  obtain ⟨o1, o2, o3, o4, o5⟩ := ok
  have f0 : ∀ {K : Value → Prop}, sLd h (ptr b 0) K = K v := s1.ld rfl
  have f1 : ∀ {K : Value → Prop}, sLd h (ptr b 1) K = K (.int .i64 first) := s1.ld rfl
  have f2 : ∀ {K : Value → Prop}, sLd h (ptr b 2) K = K (.int .i64 q.length) := s1.ld rfl
  have lv : ∀ {K : Value → Prop}, sLen v K = K (.int .i64 rows.length) := s1.b1.seq.len
  simp only [ev_nil, ev_off, Nat.zero_add, f0, f1, f2, lv, ev_eq, ev_if, beq_iff_eq]
  by_cases hfull : (q.length : Int) = (rows.length : Int)
  · rw [if_pos hfull]; exact H2 (by omega) (by omega)
  rw [if_neg hfull]
  have C0 : (fun h' : Heap => h'.has b #[v, .int .i64 first, .int .i64 q.length] 56) h := s1.has
  refine ⟨fun h' => h'.has b #[v, .int .i64 first, .int .i64 q.length] 56, C0, ?_⟩
  have g0 : ∀ {K : Value → Prop}, sLdC (fun h' : Heap => h'.has b #[v, .int .i64 first, .int .i64 q.length] 56) (ptr b 0) K = K v := ldc_at (h0 := h) C0 (fun _ x => by rw [x.at]; rfl)
  have g1 : ∀ {K : Value → Prop}, sLdC (fun h' : Heap => h'.has b #[v, .int .i64 first, .int .i64 q.length] 56) (ptr b 1) K = K (.int .i64 first) := ldc_at (h0 := h) C0 (fun _ x => by rw [x.at]; rfl)
  have g2 : ∀ {K : Value → Prop}, sLdC (fun h' : Heap => h'.has b #[v, .int .i64 first, .int .i64 q.length] 56) (ptr b 2) K = K (.int .i64 q.length) := ldc_at (h0 := h) C0 (fun _ x => by rw [x.at]; rfl)
  simp only [g0, g1, g2, lv, ev_add]
  rw [wrap_i64 (by omega) (by omega), ev_rem (by omega), Int.tmod_eq_emod_of_nonneg (by omega)]
  have hidx : ((first : Int) + (q.length : Int)) % (rows.length : Int) = (((first + q.length) % N : Nat) : Int) := by rw [o1]; norm_cast
  rw [hidx]
  have hlt : (first + q.length) % N < rows.length := by rw [o1]; exact Nat.mod_lt _ (by omega)
  refine clone_byte hw (by omega) (fun v' h2 cv n2 => ⟨n2.ext.has s1.has, ?_⟩)
  have s2 := s1.add1 n2
  refine build_intro (cs := (encMs (f, ⟨v', cv⟩)).toArray) ?_ ?_
  · refine ⟨rfl, Nat.le_of_ble_eq_true rfl, ?_, Nat.le_of_ble_eq_true rfl, ?_⟩
    · cases v' <;> first | rfl | exact cv.elim
    · cases v' <;> first | rfl | exact cv.elim
  rw [s2.b2.seq.elt hlt]
  refine s2.b2.setn encMs_len encMs_cell hlt (f, ⟨v', cv⟩) (fun h3 s3 => ?_)
  have s3 := s3.b2
  rw [s3.ld (o := 2) (v := .int .i64 q.length) rfl, ev_add, wrap_i64 (by omega) (by omega)]
  refine s3.st (Nat.le_of_ble_eq_true rfl) trivial (fun h4 s4 => ?_)
  refine H3 (by omega) (by omega) ⟨v', cv⟩ h4 (ring_shut (v := v) (first := first) (rows := rows.set ((first + q.length) % N) (f, ⟨v', cv⟩)) ⟨by rw [List.length_set]; exact o1, o2, by rw [List.length_append]; simp; omega, o4, fun i m hi => ?_⟩ ?_)
  · by_cases hiq : i < q.length
    · rw [List.getElem?_append_left hiq] at hi
      rw [List.getElem?_set_ne, o5 i m hi]
      rw [modN (by omega), modN (by omega)]
      split <;> split <;> omega
    · have : i = q.length := by have := (List.getElem?_eq_some_iff.1 hi).1; simp at this; omega
      subst this
      simp at hi
      subst hi
      rw [List.getElem?_set_self hlt]
  · have e : ((q ++ [(⟨f, ⟨v', cv⟩, r⟩ : Ms)]).length : Int) = (q.length : Int) + 1 := by simp
    rw [e]
    -- k, Sl rows, Sl v', all q, F
    have s5 : HW.Sep h0 (HP.all (q.map msC) :: msC ⟨f, ⟨v', cv⟩, r⟩ :: Blk b #[v, .int .i64 first, .int .i64 ((q.length : Int) + 1)] 56 :: Sl encMs 2 v (rows.set ((first + q.length) % N) (f, ⟨v', cv⟩)) :: F) h4 := s4.b2.b3
    have s6 := s5.push
    rw [show (q.map msC ++ [msC ⟨f, ⟨v', cv⟩, r⟩]) = (q ++ [(⟨f, ⟨v', cv⟩, r⟩ : Ms)]).map msC by simp] at s6
    exact s6.p2
theorem take_spec (s : HW.Sep h0 (RingC b N q :: F) h) (H0 : q = [] → ∀ h', HW.Sep h0 (RingC b N q :: F) h' → R (.tuple #[.agg (encMs (0, nilCV)).toArray, .bool false]) h')
    (H : ∀ m r h', q = m :: r → HW.Sep h0 (Sl (encI .u8) 1 m.v.1 m.l :: RingC b N r :: F) h' → R (.tuple #[.agg (encMs (m.f, m.v)).toArray, .bool true]) h') : ipc_Ring_Take_c (ptr b 0) h R := by
  apply ipc_Ring_Take_runs
  unfold ipc_Ring_Take_S
  obtain ⟨v, first, rows, ok, s1⟩ := ring_open s
  refine s1.new (fun k1 h1 s1 => ?_)
  have s1 := s1.b1
  simp only [ev_nil, ev_off, Nat.zero_add]
  rw [s1.ld (o := 2) (v := .int .i64 q.length) rfl]
  simp only [ev_eq, ev_if, beq_iff_eq]
  cases q with
  | nil =>
    rw [if_pos (by simp)]
    refine build_intro (cs := (encMs (0, nilCV)).toArray) rfl ?_
    refine s1.b1.stall (cs := (encMs (0, nilCV)).toArray) rfl rfl (encMs_cell _) (fun h2 s2 => ?_)
    rw [s2.ldall (n := 2) rfl]
    exact H0 rfl h2 (ring_shut ok s2.tail)
  | cons m q =>
    rw [if_neg (by simp; omega)]
    obtain ⟨o1, o2, o3, o4, o5⟩ := ok
    have hm : rows[first]? = some (m.f, m.v) := by
      have := o5 0 m rfl
      rwa [Nat.add_zero, Nat.mod_eq_of_lt o2] at this
    have hlt : first < rows.length := by omega
    have C1 : (fun h' : Heap => h'.has b #[v, .int .i64 first, .int .i64 (m :: q).length] 56 ∧ Seq encMs 2 h' v rows) h1 := ⟨s1.has, s1.b2.seq⟩
    refine ⟨fun h' => h'.has b #[v, .int .i64 first, .int .i64 (m :: q).length] 56 ∧ Seq encMs 2 h' v rows, C1, ?_⟩
    have g0 : ∀ {K : Value → Prop}, sLdC (fun h' : Heap => h'.has b #[v, .int .i64 first, .int .i64 (m :: q).length] 56 ∧ Seq encMs 2 h' v rows) (ptr b 0) K = K v := ldc_at (h0 := h1) C1 (fun _ x => by rw [x.1.at]; rfl)
    have g1 : ∀ {K : Value → Prop}, sLdC (fun h' : Heap => h'.has b #[v, .int .i64 first, .int .i64 (m :: q).length] 56 ∧ Seq encMs 2 h' v rows) (ptr b 1) K = K (.int .i64 first) := ldc_at (h0 := h1) C1 (fun _ x => by rw [x.1.at]; rfl)
    have g2 : ∀ {K : Value → Prop}, sIxS v (.int .i64 first) 2 (fun p => sLdNC (fun h' : Heap => h'.has b #[v, .int .i64 first, .int .i64 (m :: q).length] 56 ∧ Seq encMs 2 h' v rows) p 2 K) = K (.agg (encMs (m.f, m.v)).toArray) := HW.Seq.ldnC (h0 := h1) C1 (fun _ x => x.2) hm (encMs_len _)
    simp only [g0, g1, g2]
    refine s1.new (fun k2 h2 s2 => ⟨⟨s2.b1.has, s2.b3.seq⟩, ?_⟩)
    refine s2.stall (cs := (encMs (m.f, m.v)).toArray) rfl rfl (encMs_cell _) (fun h3 s3 => ?_)
    have s3 := s3.b1
    have f0 : ∀ {K : Value → Prop}, sLd h3 (ptr b 0) K = K v := s3.ld rfl
    have f1 : ∀ {K : Value → Prop}, sLd h3 (ptr b 1) K = K (.int .i64 first) := s3.ld rfl
    simp only [f0, f1]
    refine build_intro (cs := (encMs (0, nilCV)).toArray) rfl ?_
    rw [s3.b3.seq.elt hlt]
    refine s3.b3.setn encMs_len encMs_cell hlt (0, nilCV) (fun h4 s4 => ?_)
    have s4 := s4.b1
    have f0 : ∀ {K : Value → Prop}, sLd h4 (ptr b 0) K = K v := s4.ld rfl
    have f1 : ∀ {K : Value → Prop}, sLd h4 (ptr b 1) K = K (.int .i64 first) := s4.ld rfl
    have lv : ∀ {K : Value → Prop}, sLen v K = K (.int .i64 rows.length) := by
      intro K
      have := s4.b1.seq.len (K := K)
      rwa [List.length_set] at this
    simp only [f0, f1, lv, ev_add]
    rw [wrap_i64 (by omega) (by omega), ev_rem (by omega), Int.tmod_eq_emod_of_nonneg (by omega)]
    have hidx : ((first : Int) + 1) % (rows.length : Int) = (((first + 1) % N : Nat) : Int) := by rw [o1]; norm_cast
    rw [hidx]
    refine s4.st (Nat.le_of_ble_eq_true rfl) trivial (fun h5 s5 => ?_)
    rw [s5.ld (o := 2) (v := .int .i64 (m :: q).length) rfl, ev_sub]
    have hl : IntKind.i64.wrap ((((m :: q).length : Nat) : Int) - 1) = ((q.length : Nat) : Int) := by
      rw [wrap_i64 (by simp only [List.length_cons] at *; omega) (by simp only [List.length_cons] at *; omega)]; simp only [List.length_cons]; omega
    rw [hl]
    refine s5.st (Nat.le_of_ble_eq_true rfl) trivial (fun h6 s6 => ?_)
    rw [s6.b2.ldall (n := 2) rfl]
    refine s6.b3.stall (cs := (encMs (m.f, m.v)).toArray) rfl rfl (encMs_cell _) (fun h7 s7 => ?_)
    rw [s7.ldall (n := 2) rfl]
    refine H m q h7 rfl ?_
    -- k1, b, rows, k2, all
    have s8 : HW.Sep h0 (HP.all ((m :: q).map msC) :: Blk b #[v, .int .i64 (((first + 1) % N : Nat) : Int), .int .i64 q.length] 56 :: Sl encMs 2 v (rows.set first (0, nilCV)) :: F) h7 := by
      have := s7.tail.b2.tail
      exact this.b2
    have s10 := HW.Sep.pop s8
    refine (ring_shut (v := v) (first := (first + 1) % N) (rows := rows.set first (0, nilCV)) ⟨by rw [List.length_set]; exact o1, Nat.mod_lt _ (by omega), by simp only [List.length_cons] at o3; omega, o4, fun i m' hi => ?_⟩ s10.p3.p2).b1
    have hi' := (List.getElem?_eq_some_iff.1 hi).1
    have := o5 (i + 1) m' (by simpa using hi)
    simp only [List.length_cons] at o3
    rw [List.getElem?_set_ne]
    · rw [← this]; congr 1
      rw [Nat.mod_add_mod]; congr 1; omega
    · rw [Nat.mod_add_mod, modN (by omega)]
      split <;> omega
end
end Go.Proofs.Ytpgpbhbpamgboaa
