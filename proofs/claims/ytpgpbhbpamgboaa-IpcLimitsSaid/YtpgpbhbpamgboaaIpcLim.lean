/- Rings that carry messages: a message of 4,096 bytes goes, one of more does not. -/
import Derived.Test.YtpgpbhbpamgboaaIpcLaw
import Derived.Test.YtpgpbhbpamgboaaFbetonylaw14IpcLimits
set_option linter.unusedSimpArgs false
namespace Go.Proofs.Ytpgpbhbpamgboaa
open Go Go.HW

section
variable {h : Heap} {R : Value → Heap → Prop}
set_option maxRecDepth 10000 in
theorem limits_law {c more room : Int} (w1 : 0 ≤ more ∧ more < 65536) (w2 : 0 ≤ room ∧ room < 256) (H : ∀ h', Ext h h' → R (.bool true) h') : betonylaw14_IpcLimits_c (.int .u8 c) (.int .u16 more) (.int .u8 room) h R := by
  apply betonylaw14_IpcLimits_runs
  unfold betonylaw14_IpcLimits_S
  rw [ev_conv, wrap_i64 (by omega) (by omega), ev_add, wrap_i64 (by omega) (by omega)]
  refine new_spec (HW.Sep.start h) (fun x => (x (by omega)).elim) (fun _ b h1 s1 => ?_)
  simp only [ptr, ev_eqlNil, Option.isNone_some, ev_orh, Bool.false_eq_true, if_false]
  refine new_spec s1 (fun _ => ?_) (fun x => by omega)
  simp only [ev_neqNil, Option.isNone_none, Bool.not_true, ev_if, Bool.false_eq_true, if_false]
  refine s1.make (enc := encI .u8) (sz := 1) (encI_len _) 0 rfl 4096 4096 rfl rfl (Nat.le_refl _) (by decide) (by decide) (fun v h2 cv s2 => ?_)
  rw [show (Value.int .i64 4095) = .int .i64 ((4095 : Nat) : Int) from rfl, s2.seq.elt (j := 4095) (by rw [List.length_replicate]; decide)]
  refine s2.set1 (encI_len _) (by rw [List.length_replicate]; decide) c rfl trivial (fun h3 s3 => ?_)
  have hl : ((List.replicate 4096 (0 : Int)).set 4095 c).length = 4096 := by rw [List.length_set, List.length_replicate]
  have hg : ((List.replicate 4096 (0 : Int)).set 4095 c)[4095]? = some c := by rw [List.getElem?_set_self (by rw [List.length_replicate]; decide)]
  generalize (List.replicate 4096 (0 : Int)).set 4095 c = L at *
  refine send_spec s3.b1 s3.seq (by omega) (fun x => by omega) (fun _ x => by simp at x; omega) (fun _ _ v' h4 s4 => ?_)
  rw [ev_conv, wrap_i64 (by omega) (by omega), ev_rem (by decide), Int.tmod_eq_emod_of_nonneg w1.1, ev_add, wrap_i64 (by omega) (by omega)]
  refine s4.b1.appz (enc := encI .u8) (sz := 1) (n := (1 + more % 2000).toNat) (x := 0) (by congr 1; omega) rfl (by decide) (encI_len _) (encI_cell _) (by omega) (by decide) (fun v5 h5 _ s5 => ?_)
  have hl5 : (L ++ List.replicate (1 + more % 2000).toNat (0 : Int)).length = 4096 + (1 + more % 2000).toNat := by rw [List.length_append, List.length_replicate, hl]
  refine send_spec s5.b1 s5.seq (by omega) (fun _ => ?_) (fun x => by omega) (fun x => by omega)
  refine take_spec s5.b1 (fun e => by simp at e) (fun m r h6 e s6 => ?_)
  simp only [List.nil_append, List.cons.injEq] at e
  obtain ⟨rfl, rfl⟩ := e
  simp only [ev_tup, List.getElem?_toArray, List.getElem?_cons_succ, List.getElem?_cons_zero]
  refine s6.new (fun k7 h7 s7 => ?_)
  refine s7.stall (cs := (encMs (1, v')).toArray) rfl rfl (encMs_cell _) (fun h8 s8 => ?_)
  refine take_spec s8.b2 (fun _ h9 s9 => ?_) (fun m r h9 e _ => by cases e)
  simp only [ev_tup, List.getElem?_toArray, List.getElem?_cons_succ, List.getElem?_cons_zero]
  refine s9.new (fun k10 h10 s10 => ?_)
  refine s10.stall (cs := (encMs (0, nilCV)).toArray) rfl rfl (encMs_cell _) (fun h11 s11 => ?_)
  -- k10, ring, k7, Sl v' L, ..
  have f1 : ∀ {K : Value → Prop}, sLd h11 (ptr k7 1) K = K v'.1 := s11.b2.ld rfl
  have lm : ∀ {K : Value → Prop}, sLen v'.1 K = K (.int .i64 4096) := fun {K} => by have := s11.b3.seq.len (K := K); rw [hl] at this; exact this
  have gm : ∀ {K : Value → Prop}, sIxS v'.1 (.int .i64 ((4095 : Nat) : Int)) 1 (fun p => sLd h11 p K) = K (.int .u8 c) := s11.b3.seq.ld (j := 4095) hg rfl .i64
  simp only [ev_eq, beq_self_eq_true, ev_and, if_true, ev_off, Nat.zero_add, f1, lm, gm, ev_not, Bool.not_false]
  exact and_ext0 (fun K' HK => awake14 HK) (fun h12 e12 => H _ (s11.ext.trans e12))
end
end Go.Proofs.Ytpgpbhbpamgboaa
