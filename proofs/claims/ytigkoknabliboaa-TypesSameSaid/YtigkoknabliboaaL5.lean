/- The law TypesSame, in plain Lean: what the printed function answers is true. -/
import Derived.Test.YtigkoknabliboaaPAllxf5
import Derived.Test.YtigkoknabliboaaL1
namespace Go.Proofs.Ytigkoknabliboaa.PAll
open Go.RowKit Go.Proofs.YtigkoknabliboaaW.PrintWords Go.Proofs.YtigkoknabliboaaW.PrintLast Go.Proofs.YtigkoknabliboaaW.PrintMore
set_option linter.unusedVariables false
set_option linter.unusedSimpArgs false
theorem same_law (k : Nat) (ra rb : List S63) (a b : S27) (ha : ra.length ≤ 9223372036854775807) (hb : rb.length ≤ 9223372036854775807) (hka : ra.length < k) (hkb : rb.length < k) (hk : 30 ≤ k) :
    assessorlaw08_TypesSame.f k ra rb a.f0 a.f1 a.f2 b.f0 b.f1 b.f2 = some true := by
  obtain ⟨k, rfl⟩ : ∃ q, k = q + 1 := ⟨k - 1, by omega⟩
  obtain ⟨k, rfl⟩ : ∃ q, k = q + 1 := ⟨k - 1, by omega⟩
  have hw : assessorlaw08_awake.f = some true := rfl
  have hj : ∀ q x0 x1 a0 a1 a2 b0 b1 b2, assessorlaw08_TypesSame.j0 (q + 1) x0 x1 true a0 a1 a2 b0 b1 b2 = some true := by
    intro q x0 x1 a0 a1 a2 b0 b1 b2
    simp only [assessorlaw08_TypesSame.j0]
    rw [if_pos trivial, hw]
    rfl
  unfold assessorlaw08_TypesSame.f
  rw [few_f _ ra ha hka]
  simp only [Option.bind_some]
  by_cases fa : few ra = true
  · rw [if_pos fa, few_f _ rb hb hkb]
    simp only [Option.bind_some]
    by_cases fb : few rb = true
    · rw [fb]
      simp only [assessorlaw08_TypesSame.j0, Bool.not_true, Bool.false_eq_true, if_false, types_Same.f, types_Valid.f, Option.bind_some]
      rw [same_symm b rb a ra, same_self]
      have e : validT a.f0 a.f1 a.f2 ra = validS ra a := rfl
      rw [e]
      simp only [bne_self_eq_false, Bool.false_eq_true, if_false, assessorlaw08_TypesSame.j1]
      by_cases hs : same a ra b rb = true
      · rw [if_pos hs, types_Scalars.f, if_pos ⟨few_small fa, by simp⟩, Option.bind_some, types_Scalars.f, if_pos ⟨few_small fb, by simp⟩, Option.bind_some]
        have e2 : scalars rb [(⟨b.f0, b.f1, b.f2⟩ : S27)] = scalars ra [a] := (same_scalars hs).symm
        have hl := scalars_one_len a fa
        rw [e2, equal_same _ (scalars ra [a]) (by omega) (by omega), Option.bind_some, if_pos rfl, hw]
        rfl
      · rw [if_neg hs, hw]
        rfl
    · have fb' : few rb = false := by simpa using fb
      rw [fb']
      exact hj _ _ _ _ _ _ _ _ _
  · rw [if_neg fa]
    exact hj _ _ _ _ _ _ _ _ _
end Go.Proofs.Ytigkoknabliboaa.PAll
