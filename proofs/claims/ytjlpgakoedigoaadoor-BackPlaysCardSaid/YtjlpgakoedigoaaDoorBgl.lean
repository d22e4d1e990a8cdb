/- Rows: arguments opened. -/
import Derived.Test.YtjlpgakoedigoaaDoorTex
set_option linter.unusedSimpArgs false
namespace Go.Proofs.YtjlpgakoedigoaaDoor
open Go Go.HW

theorem wf_i32 {x : Int} (h : (Lit.int .i32 x).wf = true) : -2147483648 ≤ x ∧ x ≤ 2147483647 := by have := HW.wf_int h; simp [IntKind.min, IntKind.max, IntKind.signed, IntKind.bits] at this; omega
abbrev cellS : Shape := .agg (.cons (.int .i32) (.cons (.agg (.cons (.int .i64) (.cons (.int .i64) (.cons (.int .i64) .nil)))) .nil))
theorem open_row {h : Heap} {v : Value} (r : Rep (.slice cellS) h [v]) : ∃ l, Seq encCe 4 h v l ∧ ∀ c ∈ l, -2147483648 ≤ c.r ∧ c.r ≤ 2147483647 := by
  obtain ⟨l, q, _, hg⟩ := r.rows (enc := encCe) (good := fun c => -2147483648 ≤ c.r ∧ c.r ≤ 2147483647) (by
    rintro r _ ⟨_, _, rfl, ⟨rr, rfl, wr⟩, _, _, rfl, ⟨_, _, rfl, ⟨f, rfl, _⟩, _, _, rfl, ⟨b, rfl, _⟩, _, _, rfl, ⟨g, rfl, _⟩, rfl⟩, rfl⟩
    exact ⟨⟨rr, f, b, g⟩, rfl, wf_i32 wr⟩)
  exact ⟨l, q, hg⟩
theorem seq_map {h : Heap} {v : Value} {A : List (CV × List Ce)} (q : Seq (fun p : CV × List Ce => encCV p.1) 1 h v A) : Seq encCV 1 h v (A.map (·.1)) := by
  obtain ⟨a, n, m, rfl, hn, hm, hd⟩ := q
  refine ⟨a, n, m, rfl, by rw [List.length_map]; exact hn, hm, ?_⟩
  rcases hd with h0 | ⟨b, o, rfl, hb, hc⟩
  · exact .inl h0
  · refine .inr ⟨b, o, rfl, hb, fun j x hj => ?_⟩
    rw [List.getElem?_map] at hj
    cases hA : A[j]? with
    | none => rw [hA] at hj; cases hj
    | some p =>
      rw [hA] at hj
      cases hj
      exact hc j p hA
theorem open_rows {h : Heap} {v : Value} (r : Rep (.slice (.slice cellS)) h [v]) : ∃ A : List (CV × List Ce), Seq encCV 1 h v (A.map (·.1)) ∧ ∀ p ∈ A, Seq encCe 4 h p.1.1 p.2 := by
  obtain ⟨A, q, _, hg⟩ := r.rows (enc := fun p : CV × List Ce => encCV p.1) (good := fun p => Seq encCe 4 h p.1.1 p.2) (by
    intro r _ hr
    have hr2 := hr
    obtain ⟨v', _, rfl, _⟩ := hr
    obtain ⟨l, ql, _⟩ := open_row hr2
    exact ⟨(⟨v', seq_cell ql⟩, l), rfl, ql⟩)
  exact ⟨A, seq_map q, hg⟩
end Go.Proofs.YtjlpgakoedigoaaDoor
