/- The law AttemptsFinals holds of the plain words. -/
import Derived.Test.YtdailoccmjeceaaL1
import Derived.Test.YtdailoccmjeceaaPAllxf3
namespace Go.Proofs.Ytdailoccmjeceaa.PAll
open Go.RowKit Go.Lib Go.Sort Go.Proofs.YtdailoccmjeceaaW.PrintWords Go.Proofs.YtdailoccmjeceaaW.PrintLast Go.Proofs.YtdailoccmjeceaaW.PrintMore
set_option linter.unusedVariables false
set_option linter.unusedSimpArgs false

theorem countR_len (k m p q : Int) (l : List S38) (hl : l.length ≤ 20) : (countR k m p q l).length ≤ 50 := by
  unfold countR
  split
  · rw [List.length_map]
    have := List.length_filter_le (countsB k q l) (List.range l.length)
    rw [List.length_range] at this
    omega
  · simp
theorem finals_true (k m p q : Int) (l : List S38) (goal : Int) : assessorlaw52_AttemptsFinals.f 100 k m p q l goal = some true := by
  unfold assessorlaw52_AttemptsFinals.f
  rw [awake_f, Option.bind_some, if_pos rfl]
  by_cases hl : (l.length : Int) > 20
  · rw [if_pos hl]
  · rw [if_neg hl, Final_f k m p q l 100 (by omega), rFinal_f k m p q l 100 (by omega), rNeeded_f k m p q l goal 100 (by omega)]
    unfold attempts_Needed.f attempts_Counting.f assessorref52_Counting.f
    simp only [Option.bind_some]
    rw [count_eq, Ints_f _ (countR_len k m p q l (by omega)) 100 (by omega), Option.bind_some]
    simp
end Go.Proofs.Ytdailoccmjeceaa.PAll
