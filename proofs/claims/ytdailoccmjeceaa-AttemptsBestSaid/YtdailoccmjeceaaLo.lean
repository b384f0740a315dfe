/- The laws' own next, as the print of the program's functions has it, gives attempts with a further one. -/
import Derived.Test.YtdailoccmjeceaaL1
import Derived.Test.YtdailoccmjeceaaT20
namespace Go.Proofs.Ytdailoccmjeceaa.PAll
open Go.RowKit Go.Lib Go.Sort Go.Proofs.YtdailoccmjeceaaW.PrintWords Go.Proofs.YtdailoccmjeceaaW.PrintLast Go.Proofs.YtdailoccmjeceaaW.PrintMore
set_option linter.unusedVariables false
set_option linter.unusedSimpArgs false

theorem lawNext_f (l : List S38) (n : Int) (hl : l.length ≤ 20) : assessorlaw52_next.f l n = some (furtherA l n) := by
  unfold assessorlaw52_next.f api_Attempt.f
  have hfu : furtherA l n = l ++ [⟨(l.length : Int) + 1, lastA l, n⟩] := rfl
  rw [w64 (x := (l.length : Int) + 1) (by omega) (by omega), if_pos (show l.length ≤ 1000 by omega)]
  simp only [Option.bind_some]
  by_cases h : l = []
  · subst h
    rw [if_neg (by simp), if_pos (by simp)]
    rfl
  · have hp := List.length_pos_iff.2 h
    have e : wrap64 ((l.length : Int) - 1) = ((l.length - 1 : Nat) : Int) := by rw [w64 (by omega) (by omega)]; omega
    rw [if_pos (by omega), e, if_pos (by omega), if_pos (by omega), if_pos (by simp; omega)]
    rw [hfu]
    unfold lastA
    rw [if_neg h, rdn l _ (by omega), getD38' l _ (by omega)]
end Go.Proofs.Ytdailoccmjeceaa.PAll
