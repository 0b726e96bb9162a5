/- Three numbers are an answer, and others are none, whatever numbers come in: the law DeedsAnswers returns true. -/
import Derived.Test.YtfffnkeogijkkaaGreatRows
import Derived.ProofKit
import Derived.Test.YtfffnkeogijkkaaGreatLaw19
import Derived.Test.YtfffnkeogijkkaaGreatAl19
set_option linter.unusedVariables false
set_option linter.unusedSimpArgs false
set_option linter.unusedSectionVars false
namespace Den
open Go Go.Proofs Go.ChangeShapes Go.WideShapes Go.RowKit
theorem answers_world (W : World) {v' : Value} {v : V} {Z : Nat → Option Go.Obj} {ι : Inj} {σ : St} {xs : List Int} (hR : Rel (CRl DE 279 43 Z) ι σ W) (hv : VR ι v v') (hx : SlI .u64 σ v xs) (hZ : ∀ p B d X, ι p = some (B, d, X) → Z B = W.heap[B]? ∧ Z B ≠ none) :
    CallsIn Fence.wide 0 Tryz.prog 3 #[v'] W fun e W' => e = .returned (.bool true) ∧ (∀ B, B < W.heap.size → W'.heap[B]? = W.heap[B]?) ∧ W'.os = W.os ∧ W'.output = W.output := by
  obtain ⟨r, σ', ⟨hr, _⟩, n, hn⟩ := DeedsAnswers_tells (FT := FT2 1000000) (K := 1000000) (if_pos rfl) rfl rfl hx
  refine (run_ok tyOK xOK mixOK (ft2OK 1000000) (f := f_trencherlaw19o_DeedsAnswers) (hn n (Nat.le_refl _)) hR (avs := #[v']) (.co hv .nl)).mono fun e W' ⟨u, he, ι', s1, s2, s3⟩ => ?_
  subst hr
  cases s3
  refine ⟨he, fun B hB => ?_, s1.os, s1.output⟩
  by_cases hm : ∃ p d X, ι p = some (B, d, X)
  · obtain ⟨p, d, X, hp⟩ := hm
    obtain ⟨z1, z2⟩ := hZ p B d X hp
    cases hz : Z B with
    | none => exact absurd hz z2
    | some O => rw [s2.snap B O hz, ← z1, hz]
  · exact s1.same B hB fun p d X hp => hm ⟨p, d, X, hp⟩
end Den

namespace Go.Proofs.YtfffnkeogijkkaaGreat
open Go.ChangeShapes Go.WideShapes Go.ChangeAt Go.RowKit

theorem Tryz.own : ownKnob Tryz.prog.godebug = none := by kernel_rfl
theorem Tryz.laidOut : laidOutB Tryz.prog = true := by kernel_rfl

set_option maxRecDepth 100000 in
theorem answers_lifted (os : Os) (started : os.Started) (H : Type) (enc : TypeId × Value → H) :
    ReturnsInHanded {} Tryz.checked os 3 .any (Rows.deedsAnswersSpec.pre6 enc Tryz.prog Tryz.f3 Rows.deedsAnswersRow.domain false) (Rows.deedsAnswersSpec.post enc Tryz.prog Tryz.f3 false true false false) := by
  refine returnsInHanded_of_change (C := Tryz.checked) Tryz.own started (by kernel_rfl) Tryz.func3
    (ChangeSpec.witness6 (enc := enc) (C := Tryz.checked) false ⟨#[], #[.slice none 0 0], []⟩ 8 (by kernel_rfl) (by kernel_rfl) (by kernel_rfl) (by kernel_rfl)) ?_
  intro W base args ds gs before hval0 hW hcnd _
  have hval : ∀ (j : Nat) t v, Tryz.f3.params[j]? = some t → args[j]? = some v → Value.okWide Tryz.prog W .any base t v := hval0
  have hW' := hW
  obtain ⟨p, q, hA0, hV, rfl, hfz, hnd⟩ := hW
  have hA : DataW.TrodAll enc Tryz.prog W 0 (fun _ => true) true Tryz.f3.params.toList args.toList ds p := hA0
  rw [Tryz.params3] at hA hval
  obtain ⟨rfl, rfl⟩ := trodVars_none hV
  obtain ⟨v0, vs0, d0, ds0, p0, q0, hargs, rfl, rfl, h0, hrest⟩ := trodAll_cons hA
  obtain ⟨rfl, rfl, rfl⟩ := trodAll_nil hrest
  obtain rfl : args = #[v0] := by
    apply Array.toList_inj.1; rw [hargs]
  -- the run
  have run : CallsIn Fence.wide 0 Tryz.prog 3 #[v0] W fun e W' => e = .returned (.bool true) ∧ (∀ B, B < W.heap.size → W'.heap[B]? = W.heap[B]?) ∧ W'.os = W.os ∧ W'.output = W.output := by
    have hok := hval 0 22 v0 rfl rfl
    obtain ⟨a0, len, cap, rfl⟩ := okWide_slice Tryz.underlying22 hok
    obtain ⟨fuel, hf⟩ := h0
    rcases open_ints Tryz.underlying22 Tryz.underlying25 (by kernel_rfl) hf with ⟨hcs, hx⟩ | ⟨a, len', cap', zs, hcs, _, hl, hm, hz, hx, hcell, hwf⟩
    · have hcs' : [Value.slice a0 len cap] = [.slice none 0 0] := hcs
      cases hcs'
      exact Den.answers_world W (Z := fun _ => none) (ι := fun _ => none) (σ := .mk .e .h) ⟨(fun p l e => by cases e), (fun p _ => rfl), (fun p B d X e => by cases e), (fun p q B d X d' X' e => by cases e), (fun p B d X e => by cases e), (fun p B d X e => by cases e), fun B O e => by cases e⟩ .s0 (.inl ⟨rfl, rfl⟩) (fun p B d X e => by cases e)
    · have hcs' : [Value.slice a0 len cap] = [.slice (some a) len' cap'] := hcs
      cases hcs'
      simp only [Value.okWide, Tryz.underlying22, Cell.okWide, Cell.ok] at hok
      obtain ⟨_, _, _, hsp, row, cells, hsh, _⟩ := hok
      obtain ⟨Z, ι, σ, v, g1, g2, g3, g4⟩ := Den.slice_in (P := Tryz.prog) (E := Den.DE) (xa := 279) (hm := 43) hsp ⟨row, cells, hsh⟩ hl (by simpa using hz) hcell
      exact Den.answers_world W g1 g2 g3 g4
  have run' : CallsIn Fence.wide 0 Tryz.checked.prog 3 #[v0] W _ := run
  refine (callsIn_wide.1 run').mono fun e W' ⟨he, hh, ho, hu⟩ => ⟨_, he, ?_⟩
  exact Den.law_post Tryz.laidOut (tb := 4) hW' rfl rfl (fun t ht => by
    rw [Tryz.params3] at ht
    obtain rfl : t = 22 := by simpa using ht
    exact ⟨by kernel_rfl, of_decide_eq_true (by kernel_rfl)⟩) rfl Tryz.underlying4 hh ho hu

theorem answers_holds : Rows.DeedsAnswersSaid :=
  OpenClaim.holds_of_wide 3 Tryz.f3 rfl rfl rfl rfl rfl rfl rfl ⟨rfl, rfl, rfl, rfl, rfl⟩ rfl rfl rfl rfl rfl (by kernel_rfl) Tryz.func3 (by kernel_rfl)
    (of_decide_eq_true (by kernel_rfl)) (by unfold Func.isWrapper; first | (rw [if_pos (by decide +kernel)]; kernel_rfl) | (rw [if_neg (by decide +kernel)]; exact ⟨rfl, rfl⟩))
    (fun os started H enc _ => answers_lifted os started H enc)
#print axioms answers_holds
end Go.Proofs.YtfffnkeogijkkaaGreat
