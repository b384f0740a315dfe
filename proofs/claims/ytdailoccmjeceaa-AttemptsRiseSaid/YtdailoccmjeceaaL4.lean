/- The law AttemptsRise holds of the plain words. -/
import Derived.Test.YtdailoccmjeceaaL1
import Derived.Test.YtdailoccmjeceaaM8
import Derived.Test.YtdailoccmjeceaaPAllxf4
namespace Go.Proofs.Ytdailoccmjeceaa.PAll
open Go.RowKit Go.Lib Go.Sort Go.Proofs.YtdailoccmjeceaaW.PrintWords Go.Proofs.YtdailoccmjeceaaW.PrintLast Go.Proofs.YtdailoccmjeceaaW.PrintMore
set_option linter.unusedVariables false
set_option linter.unusedSimpArgs false

theorem rise_j0t (k m p q : Int) (l : List S38) (i v : Int) (K : Nat) : assessorlaw52_AttemptsRise.j0 (K + 1) l i v true k m p q = some true := by
  rw [assessorlaw52_AttemptsRise.j0, if_pos rfl]
theorem rise_true (k m p q : Int) (l : List S38) (i v : Int) (hi : (Lit.int .u8 i).wf = true) : assessorlaw52_AttemptsRise.f 100 k m p q l i v = some true := by
  have hir := u8_range hi
  unfold assessorlaw52_AttemptsRise.f
  rw [awake_f, Option.bind_some, if_pos rfl, show (100 : Nat) = 99 + 1 from rfl, rise_j0t]
  by_cases hl : (l.length : Int) > 20
  · rw [if_pos hl]
  rw [if_neg hl]
  by_cases hz : (l.length : Int) = 0
  · rw [if_pos hz]
  rw [if_neg hz, Valid_f k m p q l _ (by omega), Option.bind_some]
  cases h : validA k m p q l with
  | false => exact rise_j0t k m p q l i v 99
  | true =>
    have h16 := (validA_len h).2.1
    have hr := validA_inR h
    obtain ⟨j, hj, ej⟩ := mod_range hir.1 (show 0 < l.length by omega)
    rw [show (!true) = false from rfl, assessorlaw52_AttemptsRise.j0, if_neg (by decide), if_neg hz]
    have ea : api_Attempt.f l = some l := if_pos (by omega)
    rw [ea, Option.bind_some, w64 (x := i) (by omega) (by omega), ej, if_pos (by omega), if_pos (by omega), Final_f k m p q l 99 (by omega), if_pos h, Option.bind_some]
    have es : l.set ((j : Int).toNat) ⟨(rd_T38 l (j : Int)).f0, (rd_T38 l (j : Int)).f1, v⟩ = setP l j v := by
      unfold setP rd_T38
      rw [Int.toNat_natCast]
    rw [es, Final_f k m p q _ 99 (by omega), Option.bind_some, if_pos rfl, if_pos (by omega), rdn l j hj, w64 (x := (l.length : Int) - 1) (by omega) (by omega)]
    have hlast : (if k = 1 then (if (j : Int) = (l.length : Int) - 1 then some true else some (pointsA k q l == pointsA k q (setP l j v))) else some true) = some true := by
      by_cases hk : k = 1
      · rw [if_pos hk]
        by_cases hjl : (j : Int) = (l.length : Int) - 1
        · rw [if_pos hjl]
        · rw [if_neg hjl]
          subst hk
          rw [set_last q l j v (by omega)]
          simp
      · rw [if_neg hk]
    have hx := hr l[j] (List.getElem_mem hj)
    by_cases hv : 0 ≤ v ∧ v ≤ 100000000
    · rw [if_pos ((set_valid h j hj v).2 hv)]
      by_cases h1 : v > l[j].f2
      · have hm := set_mono k q (validA_num h) hr j hj v (by omega) hv.2
        rw [if_pos h1, if_pos hv.2, if_pos rfl, if_neg (by show ¬ pointsA k q (setP l j v) < pointsA k q l; omega)]
        exact hlast
      · rw [if_neg h1, if_pos rfl]
        exact hlast
    · rw [if_neg (fun h' => hv ((set_valid h j hj v).1 h'))]
      by_cases h1 : v > l[j].f2
      · rw [if_pos h1, if_neg (by omega), if_neg (by decide)]
      · rw [if_neg h1, if_neg (by decide)]
end Go.Proofs.Ytdailoccmjeceaa.PAll
