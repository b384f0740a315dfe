/- The law AttemptsEarliest holds of the plain words. -/
import Derived.Test.YtdailoccmjeceaaL0
import Derived.Test.YtdailoccmjeceaaPAllxf9
namespace Go.Proofs.Ytdailoccmjeceaa.PAll
open Go.RowKit Go.Lib Go.Sort Go.Proofs.YtdailoccmjeceaaW.PrintWords Go.Proofs.YtdailoccmjeceaaW.PrintLast Go.Proofs.YtdailoccmjeceaaW.PrintMore
set_option linter.unusedVariables false
set_option linter.unusedSimpArgs false

theorem next_ge {k m p q : Int} {l : List S38} (h : validA k m p q l = true) : lastA l ≤ nextA p l ∧ 0 ≤ nextA p l := by
  have hr := rightB_most (validA_len h).2.2.1
  have hla := last_range h
  unfold nextA
  by_cases hl : l = []
  · subst hl; rw [if_pos rfl]; exact ⟨Int.le_refl _, Int.le_refl _⟩
  · rw [if_neg hl]; omega
theorem snoc_valid {k m p q : Int} {l : List S38} (h : validA k m p q l = true) (hm : (l.length : Int) ≠ m) (ht : isT (nextA p l) = true) : validA k m p q (l ++ [⟨(l.length : Int) + 1, nextA p l, 0⟩]) = true := by
  obtain ⟨h1, h2, h3⟩ := (validA_iff k m p q l).1 h
  have hn := next_ge h
  have ht' := of_decide_eq_true ht
  rw [lastA_or] at hn
  rw [validA_iff, okL_snoc, h3, Bool.true_and, decide_eq_true_eq]
  simp only [List.length_append, List.length_singleton]
  exact ⟨h1, by omega, by omega, hn.1, by omega, ht'.2, by omega, by omega⟩
theorem ear_l0 (k m p q : Int) : ∀ (n : Nat) (l : List S38) (x : Bool) (c : Int) (K : Nat), validA k m p q l = true → m - l.length = n → 0 ≤ c → c + n ≤ 16 → n + 30 ≤ K → assessorlaw52_AttemptsEarliest.l0 K l x c k m p q = some true := by
  intro n
  induction n with
  | zero =>
    intro l x c K h hn h0 h1 h2
    obtain ⟨K, rfl⟩ : ∃ K', K = K' + 1 := ⟨K - 1, by omega⟩
    have hm : (l.length : Int) = m := by omega
    have e : earliestA k m p q l = (0, false) := if_neg (fun h' => h'.2.1 hm)
    rw [assessorlaw52_AttemptsEarliest.l0, if_pos (by omega), Earliest_f k m p q l K (by omega), Option.bind_some, e, if_neg (by decide), if_pos hm]
  | succ n ih =>
    intro l x c K h hn h0 h1 h2
    obtain ⟨K, rfl⟩ : ∃ K', K = K' + 1 := ⟨K - 1, by omega⟩
    have h16 := (validA_len h).2.1
    have hr := rightB_most (validA_len h).2.2.1
    have hm : (l.length : Int) ≠ m := by omega
    rw [assessorlaw52_AttemptsEarliest.l0, if_pos (by omega), Earliest_f k m p q l K (by omega), Option.bind_some]
    cases ht : isT (nextA p l) with
    | true =>
      have e : earliestA k m p q l = (nextA p l, true) := if_pos ⟨h, hm, ht⟩
      rw [e, if_pos rfl, if_pos (by omega), w64 (x := (l.length : Int) + 1) (by omega) (by omega), Option.bind_some, Valid_f k m p q _ K (by omega), Option.bind_some, if_pos (snoc_valid h hm ht), w64 (by omega) (by omega)]
      exact ih _ _ _ K (snoc_valid h hm ht) (by simp; omega) (by omega) (by omega) (by omega)
    | false =>
      have e : earliestA k m p q l = (0, false) := if_neg (fun h' => by rw [ht] at h'; cases h'.2.2)
      have hg := of_decide_eq_false ht
      have hge := next_ge h
      rw [e, if_neg (by decide), if_neg hm]
      by_cases hl : l = []
      · subst hl
        have en : nextA p [] = 0 := rfl
        rw [en] at hg
        exact absurd ⟨by omega, by omega⟩ hg
      · obtain ⟨e1, e2⟩ := rd_last hl (by omega)
        have := List.length_pos_iff.2 hl
        have en : nextA p l = lastA l + p := if_neg hl
        rw [if_pos (by omega), e1, if_pos (by omega), if_pos (by omega), e2, w64 (by omega) (by omega)]
        congr 1
        exact decide_eq_true (by omega)
theorem ear_j0t (k m p q : Int) (l : List S38) (t : Int) (K : Nat) : assessorlaw52_AttemptsEarliest.j0 (K + 1) l t true k m p q = some true := by
  rw [assessorlaw52_AttemptsEarliest.j0, if_pos rfl]
theorem ear_j1 (k m p q : Int) (l : List S38) (h : validA k m p q l = true) (x : Bool) (K : Nat) (hK : 60 ≤ K) : assessorlaw52_AttemptsEarliest.j1 (K + 1) l x false k m p q = some true := by
  have h16 := (validA_len h).2.1
  have hlm := (validA_len h).1
  have hr := rightB_most (validA_len h).2.2.1
  have ea : api_Attempt.f l = some l := if_pos (by omega)
  rw [assessorlaw52_AttemptsEarliest.j1, if_neg (by decide), ea, Option.bind_some]
  exact ear_l0 k m p q (m - l.length).toNat l x 0 K h (by omega) (by omega) (by omega) (by omega)
theorem earliest_true (k m p q : Int) (l : List S38) (t : Int) : assessorlaw52_AttemptsEarliest.f 100 k m p q l t = some true := by
  unfold assessorlaw52_AttemptsEarliest.f
  rw [awake_f, Option.bind_some, if_pos rfl, show (100 : Nat) = 99 + 1 from rfl, ear_j0t]
  by_cases hl : (l.length : Int) > 20
  · rw [if_pos hl]
  rw [if_neg hl, Valid_f k m p q l _ (by omega), Option.bind_some]
  cases h : validA k m p q l with
  | false => exact ear_j0t k m p q l t 99
  | true =>
    have hr := rightB_most (validA_len h).2.2.1
    have hge := next_ge h
    have hlr := last_range h
    have hal : ∀ s, allowedA k m p q l s = (if isT s = false ∨ s < lastA l then 2 else if (l.length : Int) = m then 8 else if s < nextA p l then 9 else 0) := fun s => if_pos h
    rw [show (!true) = false from rfl, assessorlaw52_AttemptsEarliest.j0, if_neg (by decide), Earliest_f k m p q l _ (by omega), Option.bind_some, Allowed_f k m p q l t _ (by omega), Option.bind_some]
    by_cases hok : (l.length : Int) ≠ m ∧ isT (nextA p l) = true
    · have e : earliestA k m p q l = (nextA p l, true) := if_pos ⟨h, hok.1, hok.2⟩
      have hT := of_decide_eq_true hok.2
      have e0 : allowedA k m p q l (nextA p l) = 0 := by
        rw [hal, if_neg (by intro h'; rcases h' with h' | h'; rw [hok.2] at h'; cases h'; omega), if_neg hok.1, if_neg (by omega)]
      rw [e, if_pos rfl, Allowed_f k m p q l _ _ (by omega), Option.bind_some, e0, if_pos rfl]
      by_cases h1 : t ≥ nextA p l
      · rw [if_pos h1]
        have e1 : ((decide (t ≤ 1099511627776)) != (allowedA k m p q l t == 0)) = false := by
          by_cases h2 : t ≤ 1099511627776
          · have hTt : isT t = true := decide_eq_true (by omega)
            have e2 : allowedA k m p q l t = 0 := by
              rw [hal, if_neg (by intro h'; rcases h' with h' | h'; rw [hTt] at h'; cases h'; omega), if_neg hok.1, if_neg (by omega)]
            rw [e2, decide_eq_true h2]; rfl
          · have hTt : isT t = false := decide_eq_false (by omega)
            have e2 : allowedA k m p q l t = 2 := by rw [hal, if_pos (.inl hTt)]
            rw [e2, decide_eq_false h2]; rfl
        rw [e1]
        exact ear_j1 k m p q l h _ 98 (by omega)
      · rw [if_neg h1]
        have e1 : (false != (allowedA k m p q l t == 0)) = false := by
          rw [hal]
          by_cases h2 : isT t = false ∨ t < lastA l
          · rw [if_pos h2]; rfl
          · rw [if_neg h2, if_neg hok.1, if_pos (by omega)]; rfl
        rw [e1]
        exact ear_j1 k m p q l h _ 98 (by omega)
    · have e : earliestA k m p q l = (0, false) := if_neg (fun h' => hok h'.2)
      rw [e, if_neg (by decide), if_pos rfl]
      congr 1
      rw [hal]
      by_cases h2 : isT t = false ∨ t < lastA l
      · rw [if_pos h2]; rfl
      · rw [if_neg h2]
        by_cases hm : (l.length : Int) = m
        · rw [if_pos hm]; rfl
        · rw [if_neg hm]
          have hTt : isT t = true := by cases hx : isT t with
            | true => rfl
            | false => exact absurd (.inl hx) h2
          have hTr := of_decide_eq_true hTt
          have hnx : isT (nextA p l) = false := by cases hx : isT (nextA p l) with
            | false => rfl
            | true => exact absurd ⟨hm, hx⟩ hok
          have hnr := of_decide_eq_false hnx
          rw [if_pos (by omega)]; rfl
end Go.Proofs.Ytdailoccmjeceaa.PAll
