/- The document's example of deeds, run to its end. -/
import Derived.Test.YtfffnkeogijkkaaGreatAll
import Derived.Test.YtfffnkeogijkkaaGreatDg
set_option linter.unusedVariables false
set_option linter.unusedSimpArgs false
set_option linter.unusedSectionVars false
namespace Den
open Go Go.Proofs
theorem alive_run : R.yes (callN (FT 1000000) 1000000 1000 (.f f_trencherlaw19o_alive .nl .nl) .nl (.mk .e .h)) = true := by kernel_rfl
theorem yes_ok {r : R} (h : r.yes = true) : ∃ σ, r = .ok (.b true) σ := by
  cases r with
  | no => cases h
  | ok v σ => cases v <;> first | (cases h; done) | (rename_i b; cases b <;> first | (cases h; done) | exact ⟨σ, rfl⟩)
theorem alive_ok (w : World) : CallsIn Fence.wide 0 Tryz.prog f_trencherlaw19o_alive.num #[] w fun e w' => e = .returned (.bool true) ∧ w.heap.size ≤ w'.heap.size ∧ (∀ B, B < w.heap.size → w'.heap[B]? = w.heap[B]?) ∧ w'.os = w.os ∧ w'.output = w.output := by
  obtain ⟨σ, h⟩ := yes_ok alive_run
  refine (closed_ok tyOK xOK mixOK (ftOK 1000000) h w).mono fun e w' ⟨v', ι', e1, e2, h1, h2, h3, h4⟩ => ?_
  cases e2
  exact ⟨e1, h1, h2, h3, h4⟩
end Den

namespace Den
open Go Go.Proofs
/-- the table, with the example answered. -/
noncomputable def FT2 (K : Nat) : Pos → Fx := fun p => if p = f_trencherlaw19o_alive then fxAlive else FT K p
theorem ft2OK (K : Nat) : ∀ p, FxOK Tryz.prog DE 279 43 p (FT2 K p) := by
  intro p
  unfold FT2
  by_cases h : p = f_trencherlaw19o_alive
  · rw [if_pos h, h]
    exact fxAlive_ok (fn := Tryz.f6) Tryz.func6 (by kernel_rfl) (by kernel_rfl) alive_ok
  · rw [if_neg h]; exact ftOK K p
end Den
