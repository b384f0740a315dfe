/- Plain: the number found. -/
import Derived.Test.YtbheobngeocdfaaL2
namespace Go.Proofs.Ytbheobngeocdfaa.PAll
open Go.RowKit Go.Proofs.YtbheobngeocdfaaW.PrintWords Go.Proofs.YtbheobngeocdfaaW.PrintLast Go.Proofs.YtbheobngeocdfaaW.PrintMore
set_option linter.unusedVariables false
set_option linter.unusedSimpArgs false

/-- the number found: its node contains the offset, and none of its Kids does -/
theorem find_spec (at_ : Int) (x : S24) : ∀ o, inside24 at_ x = true → ∃ m, m < (pre24 x).length ∧ find24 at_ x o = o + m ∧ ∃ y, get24 (path24 x m) x = some y ∧ inside24 at_ y = true ∧ ∀ k ∈ y.f4, inside24 at_ k = false := by
  induction x using ind24 with
  | h x ih =>
  intro o hin
  rcases idx24_cases at_ x.f4 with ⟨_, hno⟩ | ⟨j, hj, _, hno, hyes⟩
  · refine ⟨0, by rw [pre24_eq]; simp, by rw [find24_eq, findL24_none hno]; rfl, x, by rw [path24_zero]; rfl, hin, fun k hk => ?_⟩
    obtain ⟨i, hi, rfl⟩ := List.getElem_of_mem hk
    exact hno i hi
  · obtain ⟨m, h1, h2, y, h3, h4, h5⟩ := ih _ (List.getElem_mem hj) (o + 1 + (preL24 (x.f4.take j)).length) hyes
    have hk := pre_take_kid hj
    have hM : 1 + (preL24 (x.f4.take j)).length + m < (pre24 x).length := by rw [pre24_eq, List.length_cons]; omega
    refine ⟨1 + (preL24 (x.f4.take j)).length + m, hM, by rw [find24_eq, findL24_some hj hno hyes, h2]; omega, y, ?_, h4, h5⟩
    rcases path24_cons hM with h0 | ⟨i, m', hi, h6, h7, h8⟩
    · omega
    · have hij : i = j := by
        have hki := pre_take_kid hi
        rcases Nat.lt_trichotomy i j with h | h | h
        · have h9 := congrArg List.length (preL24_take x.f4 i hi)
          rw [List.length_append] at h9
          have h10 : (preL24 (x.f4.take (i + 1))).length ≤ (preL24 (x.f4.take j)).length := by
            have := length_preL24_take (x.f4.take j) (i + 1)
            rw [List.take_take, Nat.min_eq_left (by omega)] at this
            omega
          omega
        · exact h
        · have h9 := congrArg List.length (preL24_take x.f4 j hj)
          rw [List.length_append] at h9
          have h10 : (preL24 (x.f4.take (j + 1))).length ≤ (preL24 (x.f4.take i)).length := by
            have := length_preL24_take (x.f4.take i) (j + 1)
            rw [List.take_take, Nat.min_eq_left (by omega)] at this
            omega
          omega
      subst hij
      have hmm : m' = m := by omega
      subst hmm
      rw [h7, get24, if_pos (by omega), rd_T24_nat hi]
      exact h3
theorem tfind_f (x : S24) (at_ : Int) (h : (pre24 x).length < 4611686018427387904) : tree_Find.f x.f0 x.f1 x.f2 x.f3 x.f4 at_ = some ((if inside24 at_ x then (find24 at_ x 0 : Int) else 0), inside24 at_ x) := by
  have e : (⟨x.f0, x.f1, x.f2, x.f3, x.f4⟩ : S24) = x := by cases x; rfl
  unfold tree_Find.f
  rw [e, if_pos h]
theorem len_get_kids (x : S24) (p : List Int) (y : S24) (h : get24 p x = some y) : y.f4.length < (pre24 x).length := by
  induction p generalizing x with
  | nil => have h0 := len_preL24 x.f4; cases h; rw [pre24_eq, List.length_cons]; omega
  | cons i p ih =>
    simp only [get24] at h
    split at h
    · rename_i hc
      obtain ⟨i', rfl⟩ : ∃ i' : Nat, i = (i' : Int) := ⟨i.toNat, by omega⟩
      have hi : i' < x.f4.length := by omega
      rw [rd_T24_nat hi] at h
      have h1 := ih _ h
      have h2 := pre_mem24 hi
      rw [pre24_eq, List.length_cons]; omega
    · cases h
end Go.Proofs.Ytbheobngeocdfaa.PAll
