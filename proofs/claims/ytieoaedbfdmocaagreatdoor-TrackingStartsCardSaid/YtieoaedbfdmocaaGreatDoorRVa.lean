/-
  A law as a contract (and what it needs).
-/
import Derived.Test.YtieoaedbfdmocaaGreatDoorRLc
set_option linter.unusedSimpArgs false
set_option linter.unusedVariables false
set_option linter.unusedSectionVars false
set_option linter.defProp false
set_option maxRecDepth 100000
set_option maxRecDepth 100000
namespace Go.Sx.La
open Go Go.Sx Go.RowKit Go.Proofs
theorem Par.ofAgg {d : D} (h : HasK (.agg paKs) d) : ∃ p : Par, p.Ok ∧ d = .agg p.enc := by
  cases d <;> simp only [HasK] at h
  rename_i cs
  match cs, h with
  | [a, b], h =>
    simp only [paKs, HasKs, and_true] at h
    obtain ⟨x, rfl, hx⟩ := i64_of h.1
    obtain ⟨y, rfl, hy⟩ := i64_of h.2
    exact ⟨⟨x, y⟩, ⟨hx, hy⟩, rfl⟩
end Go.Sx.La
