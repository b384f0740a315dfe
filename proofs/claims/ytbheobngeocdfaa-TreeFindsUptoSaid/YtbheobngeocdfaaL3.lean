/- Plain: the law TreeFinds. -/
import Derived.Test.YtbheobngeocdfaaL2
import Derived.Test.YtbheobngeocdfaaPAllxf7
namespace Go.Proofs.Ytbheobngeocdfaa.PAll
open Go.RowKit Go.Proofs.YtbheobngeocdfaaW.PrintWords Go.Proofs.YtbheobngeocdfaaW.PrintLast Go.Proofs.YtbheobngeocdfaaW.PrintMore
set_option linter.unusedVariables false
set_option linter.unusedSimpArgs false

/-- the number found: its node contains the offset, and none of its Kids does -/
theorem find_spec (at_ : Int) (x : S24) : ∀ o, inside24 at_ x = true → ∃ m, m < (pre24 x).length ∧ find24 at_ x o = o + m ∧ ∃ y, get24 (path24 x m) x = some y ∧ inside24 at_ y = true ∧ ∀ k ∈ y.f4, inside24 at_ k = false := by
  induction x using ind24 with
  | h x ih =>
  intro o hin
  rcases idx24_cases at_ x.f4 with ⟨_, hno⟩ | ⟨j, hj, _, hno, hyes⟩
  · refine ⟨0, by rw [pre24_eq]; simp, by rw [find24_eq, findL24_none hno]; rfl, x, by rw [path24_zero]; rfl, hin, fun k hk => ?_⟩
    obtain ⟨i, hi, rfl⟩ := List.getElem_of_mem hk
    exact hno i hi
  · obtain ⟨m, h1, h2, y, h3, h4, h5⟩ := ih _ (List.getElem_mem hj) (o + 1 + (preL24 (x.f4.take j)).length) hyes
    have hk := pre_take_kid hj
    have hM : 1 + (preL24 (x.f4.take j)).length + m < (pre24 x).length := by rw [pre24_eq, List.length_cons]; omega
    refine ⟨1 + (preL24 (x.f4.take j)).length + m, hM, by rw [find24_eq, findL24_some hj hno hyes, h2]; omega, y, ?_, h4, h5⟩
    rcases path24_cons hM with h0 | ⟨i, m', hi, h6, h7, h8⟩
    · omega
    · have hij : i = j := by
        have hki := pre_take_kid hi
        rcases Nat.lt_trichotomy i j with h | h | h
        · have h9 := congrArg List.length (preL24_take x.f4 i hi)
          rw [List.length_append] at h9
          have h10 : (preL24 (x.f4.take (i + 1))).length ≤ (preL24 (x.f4.take j)).length := by
            have := length_preL24_take (x.f4.take j) (i + 1)
            rw [List.take_take, Nat.min_eq_left (by omega)] at this
            omega
          omega
        · exact h
        · have h9 := congrArg List.length (preL24_take x.f4 j hj)
          rw [List.length_append] at h9
          have h10 : (preL24 (x.f4.take (j + 1))).length ≤ (preL24 (x.f4.take i)).length := by
            have := length_preL24_take (x.f4.take i) (j + 1)
            rw [List.take_take, Nat.min_eq_left (by omega)] at this
            omega
          omega
      subst hij
      have hmm : m' = m := by omega
      subst hmm
      rw [h7, get24, if_pos (by omega), rd_T24_nat hi]
      exact h3
theorem tfind_f (x : S24) (at_ : Int) (h : (pre24 x).length < 4611686018427387904) : tree_Find.f x.f0 x.f1 x.f2 x.f3 x.f4 at_ = some ((if inside24 at_ x then (find24 at_ x 0 : Int) else 0), inside24 at_ x) := by
  have e : (⟨x.f0, x.f1, x.f2, x.f3, x.f4⟩ : S24) = x := by cases x; rfl
  unfold tree_Find.f
  rw [e, if_pos h]
theorem finds_l0 (at_ : Int) (xs : List S24) (h : ∀ k ∈ xs, inside24 at_ k = false) (hl : xs.length < 4611686018427387904) : ∀ (n j : Nat), xs.length - j = n → j ≤ xs.length → Ev (fun K => assessorlaw03_TreeFinds.l0 K at_ xs (xs.length : Int) (j : Int)) true := by
  intro n
  induction n with
  | zero =>
    intro j hn hj
    have : j = xs.length := by omega
    subst this
    refine Ev.succ (g := fun K => (assessorlaw03_awake.f K).bind fun t => some t) (fun k => ?_) (Ev.bind rawake Ev.const)
    simp only [assessorlaw03_TreeFinds.l0, if_neg (Int.lt_irrefl _)]
  | succ n ih =>
    intro j hn hj
    have hlt : j < xs.length := by omega
    have h1 : (j : Int) < (xs.length : Int) := by omega
    have h2 : (0 : Int) ≤ (j : Int) := by omega
    have hi := h _ (List.getElem_mem hlt)
    simp only [inside24, Bool.and_eq_false_iff, decide_eq_false_iff_not] at hi
    refine Ev.succ (g := fun K => assessorlaw03_TreeFinds.l0 K at_ xs (xs.length : Int) (wrap64 ((j : Int) + 1))) (fun k => ?_) ?_
    · simp only [assessorlaw03_TreeFinds.l0, if_pos h1, if_pos h2, rd_T24_nat hlt]
      by_cases h3 : xs[j].f2 ≤ at_
      · have h4 : ¬ at_ < xs[j].f3 := by rcases hi with h5 | h5; exact absurd h3 h5; exact h5
        rw [if_pos h3, if_neg h4]
      · rw [if_neg h3]
    · rw [wrap_succ (by omega)]
      exact ih (j + 1) (by omega) (by omega)
theorem len_get_kids (x : S24) (p : List Int) (y : S24) (h : get24 p x = some y) : y.f4.length < (pre24 x).length := by
  induction p generalizing x with
  | nil => have h0 := len_preL24 x.f4; cases h; rw [pre24_eq, List.length_cons]; omega
  | cons i p ih =>
    simp only [get24] at h
    split at h
    · rename_i hc
      obtain ⟨i', rfl⟩ : ∃ i' : Nat, i = (i' : Int) := ⟨i.toNat, by omega⟩
      have hi : i' < x.f4.length := by omega
      rw [rd_T24_nat hi] at h
      have h1 := ih _ h
      have h2 := pre_mem24 hi
      rw [pre24_eq, List.length_cons]; omega
    · cases h
theorem finds_law (x : S24) (at_ : Int) (h : (pre24 x).length < 1099511627776) : Ev (fun K => assessorlaw03_TreeFinds.f K x.f0 x.f1 x.f2 x.f3 x.f4 at_) true := by
  refine Ev.bind (h := fun t K => _) (rsmall x 100 (by omega)) ?_
  cases smallB x 100 with
  | false =>
    simp only [Bool.false_eq_true, if_false]
    exact Ev.bind rawake Ev.const
  | true =>
    simp only [if_true, tfind_f x at_ (by omega), Option.bind_some]
    cases hin : inside24 at_ x with
    | false =>
      simp only [Bool.false_eq_true, if_false]
      have hi := hin
      simp only [inside24, Bool.and_eq_false_iff, decide_eq_false_iff_not] at hi
      have key : Ev (fun K => assessorlaw03_TreeFinds.j0 K at_ 0 false false x.f0 x.f1 x.f2 x.f3 x.f4) true := by
        refine Ev.succ (g := fun K => (assessorlaw03_awake.f K).bind fun t => some t) (fun k => ?_) (Ev.bind rawake Ev.const)
        simp [assessorlaw03_TreeFinds.j0]
      by_cases h3 : x.f2 ≤ at_
      · have h4 : ¬ at_ < x.f3 := by rcases hi with h5 | h5; exact absurd h3 h5; exact h5
        simp only [if_pos h3, decide_eq_false h4]
        exact key
      · simp only [if_neg h3]
        exact key
    | true =>
      simp only [if_true]
      have hi := hin
      simp only [inside24, Bool.and_eq_true, decide_eq_true_eq] at hi
      obtain ⟨m, h1, h2, y, h3, h4, h5⟩ := find_spec at_ x 0 hin
      rw [Nat.zero_add] at h2
      simp only [if_pos hi.1, decide_eq_true hi.2, h2]
      have hy := h4
      simp only [inside24, Bool.and_eq_true, decide_eq_true_eq] at hy
      have hp := tpath_f x (m : Int) h
      have e1 : (decide (0 ≤ (m : Int)) && decide ((m : Int) < ((pre24 x).length : Int))) = true := by simp; omega
      rw [e1, if_pos (by omega), Int.toNat_natCast] at hp
      have hpl := path24_length x m h1
      refine Ev.succ (g := fun K => (tree_Get.f K x.f0 x.f1 x.f2 x.f3 x.f4 (path24 x m)).bind fun b => if b.2.2.2.2.2 = true then (if at_ < b.2.2.1 then none else (if at_ ≥ b.2.2.2.1 then some false else assessorlaw03_TreeFinds.l0 K at_ b.2.2.2.2.1 (b.2.2.2.2.1.length : Int) 0)) else none) (fun k => ?_) ?_
      · simp only [assessorlaw03_TreeFinds.j0, hp, Option.bind_some]
        rfl
      · refine Ev.bind (tget x (path24 x m) (by omega)) ?_
        rw [h3]
        have h6 : (at_ < y.f2) = False := eq_false (by omega)
        have h7 : (at_ ≥ y.f3) = False := eq_false (by omega)
        simp only [gt24, if_true, h6, h7, if_false]
        have hk := len_get_kids x _ y h3
        exact finds_l0 at_ y.f4 h5 (by omega) _ 0 rfl (Nat.zero_le _)
end Go.Proofs.Ytbheobngeocdfaa.PAll
