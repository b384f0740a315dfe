/- The law AttemptsNeeded holds of the plain words. -/
import Derived.Test.YtdailoccmjeceaaLn
import Derived.Test.YtdailoccmjeceaaPAllxf5
namespace Go.Proofs.Ytdailoccmjeceaa.PAll
open Go.RowKit Go.Lib Go.Sort Go.Proofs.YtdailoccmjeceaaW.PrintWords Go.Proofs.YtdailoccmjeceaaW.PrintLast Go.Proofs.YtdailoccmjeceaaW.PrintMore
set_option linter.unusedVariables false
set_option linter.unusedSimpArgs false

theorem lawNeeded_j2 (k m p q : Int) (l : List S38) (h : validA k m p q l = true) (hm : (l.length : Int) ≠ m) (goal n : Int) (hle : leastE (enoughA k q l goal) n) (K : Nat) (hK : 30 ≤ K) : assessorlaw52_AttemptsNeeded.j2 (K + 1) l goal n false k m p q = some true := by
  have h16 := (validA_len h).2.1
  rw [assessorlaw52_AttemptsNeeded.j2, if_neg (by decide), w64 (by have := hle.1; omega) (by have := hle.2.1; omega), lawNext_f l (n - 1) (by omega), Option.bind_some, Final_f k m p q _ K (by omega), Option.bind_some]
  by_cases hn : n = 0
  · rw [if_pos hn]
  · rw [if_neg hn]
    have h0 := hle.1
    have h1 := hle.2.1
    rw [if_pos ((further_valid h hm (n - 1)).2 ⟨by omega, by omega⟩)]
    have := hle.2.2.2 (n - 1) (by omega) (by omega)
    have hg := of_decide_eq_false this
    simp
    omega
theorem lawNeeded_j1 (k m p q : Int) (l : List S38) (h : validA k m p q l = true) (hm : (l.length : Int) ≠ m) (goal n : Int) (hle : leastE (enoughA k q l goal) n) (K : Nat) (hK : 32 ≤ K) : assessorlaw52_AttemptsNeeded.j1 (K + 1) l goal n false k m p q = some true := by
  have h16 := (validA_len h).2.1
  obtain ⟨K, rfl⟩ : ∃ K', K = K' + 1 := ⟨K - 1, by omega⟩
  rw [assessorlaw52_AttemptsNeeded.j1, if_neg (by decide), lawNext_f l n (by omega), Option.bind_some, Final_f k m p q _ (K + 1) (by omega), Option.bind_some]
  rw [if_pos ((further_valid h hm n).2 ⟨hle.1, hle.2.1⟩), if_pos rfl]
  have hg := of_decide_eq_true hle.2.2.1
  rw [decide_eq_false (by omega)]
  exact lawNeeded_j2 k m p q l h hm goal n hle K (by omega)
theorem needed_true (k m p q : Int) (l : List S38) (goal : Int) : assessorlaw52_AttemptsNeeded.f 100 k m p q l goal = some true := by
  unfold assessorlaw52_AttemptsNeeded.f
  rw [awake_f, Option.bind_some, if_pos rfl]
  by_cases hl : (l.length : Int) > 20
  · rw [if_pos hl]
  · rw [if_neg hl]
    unfold attempts_Needed.f
    rw [Option.bind_some, Valid_f k m p q l 100 (by omega), Option.bind_some]
    have hneg : ¬ (validA k m p q l = true ∧ (l.length : Int) ≠ m ∧ enoughA k q l goal 100000000 = true) → neededA k m p q l goal = (0, false) := fun h => by unfold neededA; rw [if_neg h]
    by_cases h : validA k m p q l = true
    · rw [if_pos h]
      by_cases hm : (l.length : Int) = m
      · rw [hneg (fun h' => h'.2.1 hm), beq_iff_eq.2 hm, show (100 : Nat) = 99 + 1 from rfl, assessorlaw52_AttemptsNeeded.j0]
        rfl
      · rw [beq_eq_false_iff_ne.2 hm, show (100 : Nat) = 99 + 1 from rfl, assessorlaw52_AttemptsNeeded.j0, if_neg (by decide)]
        by_cases he : enoughA k q l goal 100000000 = true
        · have hri := enough_rises k q (validA_num h) (validA_inR h) goal
          have hle := halves_least _ hri 100000001 0 100000000 (by omega) (by omega) (by omega) (by omega) he (fun n h0 h1 => by omega)
          have e : neededA k m p q l goal = (halves (enoughA k q l goal) 100000001 0 100000000, true) := by unfold neededA; rw [if_pos ⟨h, hm, he⟩]
          rw [e]
          generalize halves (enoughA k q l goal) 100000001 0 100000000 = n at hle
          have h0 := hle.1
          have h1 := hle.2.1
          rw [if_pos rfl, if_neg (by show ¬ n < 0; omega), show decide (n > 100000000) = false from decide_eq_false (by omega)]
          exact lawNeeded_j1 k m p q l h hm goal n hle 98 (by omega)
        · have he' : enoughA k q l goal 100000000 = false := by simpa using he
          have hg := of_decide_eq_false he'
          rw [hneg (fun h' => he h'.2.2), if_neg (by decide), lawNext_f l 100000000 (by omega), Option.bind_some, Final_f k m p q _ 99 (by omega), Option.bind_some]
          rw [if_pos ((further_valid h hm 100000000).2 ⟨by omega, by omega⟩)]
          simp
          omega
    · rw [if_neg h, hneg (fun h' => h h'.1), show (100 : Nat) = 99 + 1 from rfl, assessorlaw52_AttemptsNeeded.j0]
      rfl
end Go.Proofs.Ytdailoccmjeceaa.PAll
