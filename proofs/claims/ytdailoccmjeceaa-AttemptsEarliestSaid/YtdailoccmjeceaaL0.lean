/- The program's Earliest and Allowed, as the print of its functions has them, are the plain words. -/
import Derived.Test.YtdailoccmjeceaaL1
import Derived.Test.YtdailoccmjeceaaPAllxf38
import Derived.Test.YtdailoccmjeceaaPAllxf23
namespace Go.Proofs.Ytdailoccmjeceaa.PAll
open Go.RowKit Go.Lib Go.Sort Go.Proofs.YtdailoccmjeceaaW.PrintWords Go.Proofs.YtdailoccmjeceaaW.PrintLast Go.Proofs.YtdailoccmjeceaaW.PrintMore
set_option linter.unusedVariables false
set_option linter.unusedSimpArgs false

/-- the tick from which on a further attempt is allowed -/
def nextA (p : Int) (l : List S38) : Int := if l = [] then 0 else lastA l + p
def isT (t : Int) : Bool := decide (0 ≤ t ∧ t ≤ 1099511627776)
theorem last_range {k m p q : Int} {l : List S38} (h : validA k m p q l = true) : 0 ≤ lastA l ∧ lastA l ≤ 1099511627776 := by
  rw [lastA_or]
  exact okL_last l 0 1 (validA_len h).2.2.2 (by decide) (by decide)
theorem next_f {k m p q : Int} {l : List S38} (h : validA k m p q l = true) : attempts_next.f k m p q l = some (nextA p l) := by
  have hr := rightB_most (validA_len h).2.2.1
  have hla := last_range h
  unfold attempts_next.f nextA
  by_cases hl : l = []
  · subst hl; rfl
  · have := List.length_pos_iff.2 hl
    rw [if_neg (by omega), if_neg hl, last_f l (validA_len h).2.1, Option.bind_some, w64 (by omega) (by omega)]
theorem time_f (t : Int) : assessorref52_time.f t = some (isT t) := by
  unfold assessorref52_time.f isT
  by_cases h : t ≥ 0
  · rw [if_pos h]
    congr 1
    exact decide_eq_decide.2 (by omega)
  · rw [if_neg h]
    congr 1
    exact (decide_eq_false (by omega)).symm
theorem isTime_f' (t : Int) : attempts_isTime.f t = some (isT t) := isTime_f t
def earliestA (k m p q : Int) (l : List S38) : Int × Bool := if validA k m p q l = true ∧ (l.length : Int) ≠ m ∧ isT (nextA p l) = true then (nextA p l, true) else (0, false)
theorem Earliest_f (k m p q : Int) (l : List S38) (K : Nat) (hK : 20 ≤ K) : attempts_Earliest.f K k m p q l = some (earliestA k m p q l) := by
  unfold attempts_Earliest.f earliestA
  rw [Valid_f k m p q l K hK, Option.bind_some]
  by_cases h : validA k m p q l = true
  · rw [if_pos h]
    by_cases hm : (l.length : Int) = m
    · rw [if_pos hm, if_neg (fun h' => h'.2.1 hm)]
    · rw [if_neg hm, next_f h, Option.bind_some, isTime_f', Option.bind_some]
      by_cases ht : isT (nextA p l) = true
      · rw [if_pos ht, if_pos ⟨h, hm, ht⟩]
        rfl
      · rw [if_neg ht, if_neg (fun h' => ht h'.2.2)]
  · rw [if_neg h, if_neg (fun h' => h h'.1)]
theorem rd_last {l : List S38} (hl : l ≠ []) (h16 : l.length ≤ 20) : wrap64 ((l.length : Int) - 1) = ((l.length - 1 : Nat) : Int) ∧ (rd_T38 l (((l.length - 1 : Nat) : Int))).f1 = lastA l := by
  have := List.length_pos_iff.2 hl
  refine ⟨by rw [w64 (by omega) (by omega)]; omega, ?_⟩
  unfold lastA
  rw [if_neg hl, rdn l _ (by omega), getD38' l _ (by omega)]
theorem rEarliest_j0 (k m p q : Int) (l : List S38) (x : Bool) (h : validA k m p q l = true) (K : Nat) : assessorref52_Earliest.j0 (K + 1) l x k m p q = some (if x = true ∨ isT (nextA p l) = false then (0, false) else (nextA p l, true)) := by
  have hr := rightB_most (validA_len h).2.2.1
  have hla := last_range h
  have h16 := (validA_len h).2.1
  rw [assessorref52_Earliest.j0]
  cases x with
  | true => rw [if_pos rfl, if_pos (.inl rfl)]
  | false =>
    rw [if_neg (by decide)]
    have hc : ∀ T, isT T = true → (if (false : Bool) = true ∨ isT T = false then ((0, false) : Int × Bool) else (T, true)) = (T, true) := fun T hT => if_neg (by rw [hT]; decide)
    have hd : ∀ T, isT T = false → (if (false : Bool) = true ∨ isT T = false then ((0, false) : Int × Bool) else (T, true)) = (0, false) := fun T hT => if_pos (.inr hT)
    by_cases hl : l = []
    · subst hl
      rw [if_neg (by simp), time_f, Option.bind_some]
      have e : isT 0 = true := by decide
      have en : nextA p [] = 0 := rfl
      rw [en, hc 0 e, e, if_pos rfl]
    · obtain ⟨e1, e2⟩ := rd_last hl (by omega)
      have := List.length_pos_iff.2 hl
      have en : nextA p l = lastA l + p := if_neg hl
      rw [if_pos (by omega), e1, if_pos (by omega), if_pos (by omega), e2, w64 (by omega) (by omega), time_f, Option.bind_some, en]
      cases ht : isT (lastA l + p) with
      | true => rfl
      | false => rfl
theorem rEarliest_f (k m p q : Int) (l : List S38) (K : Nat) (hK : 1 ≤ K) : assessorref52_Earliest.f K k m p q l = some (earliestA k m p q l) := by
  obtain ⟨K, rfl⟩ : ∃ K', K = K' + 1 := ⟨K - 1, by omega⟩
  unfold assessorref52_Earliest.f assessorref52_Valid.f earliestA
  rw [Option.bind_some]
  by_cases h : validA k m p q l = true
  · rw [if_pos h, rEarliest_j0 k m p q l _ h]
    congr 1
    by_cases hm : (l.length : Int) = m
    · rw [if_pos (.inl (beq_iff_eq.2 hm)), if_neg (fun h' => h'.2.1 hm)]
    · cases ht : isT (nextA p l) with
      | true => rw [if_neg (by intro h'; rcases h' with h' | h'; exact hm (beq_iff_eq.1 h'); cases h'), if_pos ⟨h, hm, rfl⟩]
      | false => rw [if_pos (.inr rfl), if_neg (fun h' => by cases h'.2.2)]
  · rw [if_neg h, if_neg (fun h' => h h'.1), assessorref52_Earliest.j0, if_pos rfl]
def allowedA (k m p q : Int) (l : List S38) (t : Int) : Int :=
  if validA k m p q l = true then (if isT t = false ∨ t < lastA l then 2 else if (l.length : Int) = m then 8 else if t < nextA p l then 9 else 0) else 1
def resA (x : Bool) (m p : Int) (l : List S38) (t : Int) : Int := if x = true then 2 else if (l.length : Int) = m then 8 else if t < nextA p l then 9 else 0
theorem allowed_res {k m p q : Int} {l : List S38} (h : validA k m p q l = true) (t : Int) : allowedA k m p q l t = resA (!(isT t) || decide (t < lastA l)) m p l t := by
  unfold allowedA resA
  rw [if_pos h]
  by_cases h1 : isT t = false ∨ t < lastA l
  · have e : (!(isT t) || decide (t < lastA l)) = true := by
      rcases h1 with h1 | h1
      · rw [h1]; rfl
      · rw [decide_eq_true h1, Bool.or_true]
    rw [if_pos h1, if_pos e]
  · have e : ¬ (!(isT t) || decide (t < lastA l)) = true := by
      intro h2
      rw [Bool.or_eq_true] at h2
      rcases h2 with h2 | h2
      · exact h1 (.inl (by simpa using h2))
      · exact h1 (.inr (of_decide_eq_true h2))
    rw [if_neg h1, if_neg e]
theorem allowed_bad {k m p q : Int} {l : List S38} (h : ¬ validA k m p q l = true) (t : Int) : allowedA k m p q l t = 1 := if_neg h
theorem allowed_j0 {k m p q : Int} {l : List S38} (h : validA k m p q l = true) (t : Int) (x : Bool) (K : Nat) : attempts_Allowed.j0 (K + 1) l t x k m p q = some (resA x m p l t) := by
  unfold resA
  rw [attempts_Allowed.j0, next_f h]
  simp only [Option.bind_some]
  split
  · rfl
  · split
    · rfl
    · split <;> rfl
theorem Allowed_f (k m p q : Int) (l : List S38) (t : Int) (K : Nat) (hK : 20 ≤ K) : attempts_Allowed.f K k m p q l t = some (allowedA k m p q l t) := by
  unfold attempts_Allowed.f
  rw [Valid_f k m p q l K hK, Option.bind_some]
  obtain ⟨K, rfl⟩ : ∃ K', K = K' + 1 := ⟨K - 1, by omega⟩
  by_cases h : validA k m p q l = true
  · rw [if_pos h, isTime_f', Option.bind_some, allowed_res h]
    cases isT t with
    | false => exact allowed_j0 h t true K
    | true =>
      rw [if_pos rfl, last_f l (validA_len h).2.1, Option.bind_some, allowed_j0 h t _ K]
      rfl
  · rw [if_neg h, allowed_bad h]
theorem rallowed_j0 {k m p q : Int} {l : List S38} (h : validA k m p q l = true) (t : Int) (ht : isT t = true) (x : Bool) (K : Nat) : assessorref52_Allowed.j0 (K + 1) l t x k m p q = some (resA x m p l t) := by
  have hr := rightB_most (validA_len h).2.2.1
  have hra := last_range h
  have h16 := (validA_len h).2.1
  have hT' := of_decide_eq_true ht
  unfold resA
  rw [assessorref52_Allowed.j0]
  cases x with
  | true => rfl
  | false =>
    have eR : (if (false : Bool) = true then (2 : Int) else if (l.length : Int) = m then 8 else if t < nextA p l then 9 else 0) = (if (l.length : Int) = m then 8 else if t < nextA p l then 9 else 0) := rfl
    rw [eR, if_neg (by decide : ¬ ((false : Bool) = true))]
    by_cases hm : (l.length : Int) = m
    · rw [if_pos hm, if_pos hm]
    · rw [if_neg hm, if_neg hm]
      by_cases hl : l = []
      · subst hl
        have en : nextA p [] = 0 := rfl
        rw [if_neg (by simp), en, if_neg (by omega)]
      · obtain ⟨e1, e2⟩ := rd_last hl (by omega)
        have := List.length_pos_iff.2 hl
        have en : nextA p l = lastA l + p := if_neg hl
        rw [if_pos (by omega), e1, if_pos (by omega), if_pos (by omega), e2, w64 (by omega) (by omega), en]
        split <;> rfl
theorem rAllowed_f (k m p q : Int) (l : List S38) (t : Int) (K : Nat) (hK : 1 ≤ K) : assessorref52_Allowed.f K k m p q l t = some (allowedA k m p q l t) := by
  obtain ⟨K, rfl⟩ : ∃ K', K = K' + 1 := ⟨K - 1, by omega⟩
  unfold assessorref52_Allowed.f assessorref52_Valid.f
  rw [Option.bind_some]
  by_cases h : validA k m p q l = true
  · have h16 := (validA_len h).2.1
    rw [if_pos h, time_f, Option.bind_some, allowed_res h]
    cases ht : isT t with
    | false =>
      rw [if_neg (by decide), assessorref52_Allowed.j0, if_pos rfl]
      rfl
    | true =>
      rw [if_pos rfl]
      by_cases hl : l = []
      · subst hl
        have hT' := of_decide_eq_true ht
        have e : lastA [] = 0 := rfl
        rw [if_neg (by simp), rallowed_j0 h t ht, e, decide_eq_false (show ¬ t < 0 by omega)]
        rfl
      · obtain ⟨e1, e2⟩ := rd_last hl (by omega)
        have := List.length_pos_iff.2 hl
        rw [if_pos (by omega), e1, if_pos (by omega), if_pos (by omega), e2, rallowed_j0 h t ht]
        rfl
  · rw [if_neg h, allowed_bad h]
end Go.Proofs.Ytdailoccmjeceaa.PAll
