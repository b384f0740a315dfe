/- The law AttemptsAllowed holds of the plain words. -/
import Derived.Test.YtdailoccmjeceaaL0
import Derived.Test.YtdailoccmjeceaaPAllxf8
namespace Go.Proofs.Ytdailoccmjeceaa.PAll
open Go.RowKit Go.Lib Go.Sort Go.Proofs.YtdailoccmjeceaaW.PrintWords Go.Proofs.YtdailoccmjeceaaW.PrintLast Go.Proofs.YtdailoccmjeceaaW.PrintMore
set_option linter.unusedVariables false
set_option linter.unusedSimpArgs false

theorem allowed_true (k m p q : Int) (l : List S38) (t : Int) : assessorlaw52_AttemptsAllowed.f 100 k m p q l t = some true := by
  unfold assessorlaw52_AttemptsAllowed.f
  rw [awake_f, Option.bind_some, if_pos rfl]
  by_cases hl : (l.length : Int) > 20
  · rw [if_pos hl]
  · rw [if_neg hl, Earliest_f k m p q l 100 (by omega), rEarliest_f k m p q l 100 (by omega), Valid_f k m p q l 100 (by omega), Allowed_f k m p q l t 100 (by omega), rAllowed_f k m p q l t 100 (by omega)]
    unfold assessorref52_Valid.f
    simp
end Go.Proofs.Ytdailoccmjeceaa.PAll
