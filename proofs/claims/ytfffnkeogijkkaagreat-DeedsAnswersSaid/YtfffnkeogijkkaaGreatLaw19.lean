/- The law of answers, over the evaluator. -/
import Derived.Test.YtfffnkeogijkkaaGreatDt
import Derived.Test.YtfffnkeogijkkaaGreatDg
set_option linter.unusedVariables false
set_option linter.unusedSimpArgs false
set_option linter.unusedSectionVars false
namespace Den
open Go
variable {FT : Pos → Fx} {K : Nat} {st : St}
/-- an answer: three numbers are one. -/
noncomputable def ansOf : List Int → List (IntKind × Int)
  | [a, b, c] => [(.i64, wrapF .i64 a), (.i64, wrapF .i64 b), (.u64, c)]
  | _ => [(.i64, 0), (.i64, 0), (.u64, 0)]
theorem len_ne {n : Nat} (h : n ≠ 3) : decide (((n : Nat) : Int) = 3) = false := by rw [decide_eq_false_iff_not]; omega
theorem Answer_ok (hF : FT f_deeds_Answer = enter K a_deeds_Answer) {v : V} {xs : List Int} (h : SlI .u64 st v xs) : Tells FT K (.f f_deeds_Answer .nl .nl) (.co v .nl) st fun v' st' => v' = .ag (mkl (ints (ansOf xs))) ∧ Ext st st' := by
  refine tells_in hF ?_
  rcases h with ⟨rfl, rfl⟩ | ⟨b, o, c, q, cs, t, rfl, h2, h3, h4, h5⟩
  · simp [a_deeds_Answer, b_deeds_Answer, r_deeds_AnswerR0, r_deeds_AnswerR1, r_deeds_AnswerR2]
    rw [cellS_of _ _ _ _ _ (by simp) (by simp) (by simp)]
    simp
    refine leave_ca (by simp; rfl) (at_put_same _ _ _) (by simp) ?_
    exact ⟨by simp [ansOf, ints], (Ext.add _ _).putR (Nat.le_refl _) _⟩
  · by_cases hn : xs.length = 3
    · match xs, hn with
      | [x, y, z], _ =>
      have e0 := h5 0 (by simp)
      have e1 := h5 1 (by simp)
      have e2 := h5 2 (by simp)
      simp at e0 e1 e2
      have hb : (st.add (.cells [.i .i64 0, .i .i64 0, .i .u64 0] 0)).at b = .cells cs t := by rw [at_add_old h4]; exact h3
      simp [a_deeds_Answer, b_deeds_Answer, r_deeds_AnswerR0, r_deeds_AnswerR1, r_deeds_AnswerR2, r_deeds_AnswerR3, hb, e0, e1, e2]
      rw [cellS_of _ _ _ _ _ (by simp) (by simp) (by simp)]
      simp [size_eq]
      refine leave_ca (by simp; rfl) (at_put_same _ _ _) (by simp) ?_
      exact ⟨by simp [ansOf, ints], (Ext.add _ _).putR (Nat.le_refl _) _⟩
    · simp [a_deeds_Answer, b_deeds_Answer, r_deeds_AnswerR0, r_deeds_AnswerR1, r_deeds_AnswerR2, len_ne hn]
      rw [cellS_of _ _ _ _ _ (by simp) (by simp) (by simp)]
      simp
      refine leave_ca (by simp; rfl) (at_put_same _ _ _) (by simp) ?_
      refine ⟨?_, (Ext.add _ _).putR (Nat.le_refl _) _⟩
      have : ansOf xs = [(.i64, 0), (.i64, 0), (.u64, 0)] := by
        unfold ansOf; split
        · simp at hn
        · rfl
      rw [this]; simp [ints]
end Den

namespace Den
open Go
variable {FT : Pos → Fx} {K : Nat} {st : St}
theorem DeedsAnswers_tells (hA : FT f_trencherlaw19o_alive = fxAlive) (hF : FT f_deeds_Answer = enter K a_deeds_Answer) (hL : FT f_trencherlaw19o_DeedsAnswers = enter K a_trencherlaw19o_DeedsAnswers) {v : V} {xs : List Int} (h : SlI .u64 st v xs) :
    Tells FT K (.f f_trencherlaw19o_DeedsAnswers .nl .nl) (.co v .nl) st fun v' st' => v' = .b true ∧ Ext st st' := by
  refine tells_in hL ?_
  simp [a_trencherlaw19o_DeedsAnswers, b_trencherlaw19o_DeedsAnswers, r_trencherlaw19o_DeedsAnswersR0, r_trencherlaw19o_DeedsAnswersR1, r_trencherlaw19o_DeedsAnswersR2, r_trencherlaw19o_DeedsAnswersR3, r_trencherlaw19o_DeedsAnswersR4]
  refine (alive_tells hA).mono fun v1 st1 ⟨e1, e2⟩ => ?_
  subst e1; subst e2
  simp
  by_cases hn : xs.length = 3
  · rcases h with ⟨rfl, rfl⟩ | ⟨b, o, c, q, cs, t, rfl, h2, h3, h4, h5⟩
    · simp at hn
    · match xs, hn with
      | [x, y, z], _ =>
      have e0 := h5 0 (by simp)
      have e1 := h5 1 (by simp)
      have e2 := h5 2 (by simp)
      simp at e0 e1 e2
      simp [r_trencherlaw19o_DeedsAnswersR5]
      refine (Answer_ok hF (xs := [x, y, z]) (.inr ⟨b, o, c, q, cs, t, rfl, h2, h3, h4, h5⟩)).mono fun v2 st2 ⟨g1, g2⟩ => ?_
      subst g1
      have h3' : st2.at b = .cells cs t := (g2.same b h4).trans h3
      simp [size_eq, g2.nx, h3', e0, e1, e2]
      refine ⟨fun _ => same_load (b := b) (o := o) (by simp) h3 e0 (by simp), fun _ => same_load (b := b) (o := o + 1) (by simp) h3 e1 (by simp), fun _ => same_load (b := b) (o := o + 2) (by simp) h3 e2 (by simp), ?_⟩
      rw [eqaK_ints (l := ansOf [x, y, z]) (m := [(.i64, wrapF .i64 x), (.i64, wrapF .i64 y), (.u64, z)]) (by simp) (by simp [ints]) (by simp [ansOf]) (by simp [ansOf])]
      simp [ansOf, g2]
  · have hlen : ∀ (v : V) (S : V → St → Prop) (st : St), SlI .u64 st v xs → S (.i .i64 (xs.length : Int)) st → (bLen (.co v .nl) st).bnd False S := by
      intro v S st h hs
      rcases h with ⟨rfl, rfl⟩ | ⟨b, o, c, q, cs, t, rfl, _⟩
      · exact hs
      · exact hs
    refine hlen _ _ _ h ?_
    simp [len_ne hn]
    refine (Answer_ok hF h).mono fun v2 st2 ⟨g1, g2⟩ => ?_
    subst g1
    have : ansOf xs = [(.i64, 0), (.i64, 0), (.u64, 0)] := by
      unfold ansOf; split
      · simp at hn
      · rfl
    simp
    rw [eqaK_ints (l := ansOf xs) (m := [(.i64, 0), (.i64, 0), (.u64, 0)]) (by simp) (by simp [ints]) (by rw [this]) (by rw [this]; rfl)]
    simp [this, g2]
end Den
