/- The program's Valid and points, as its functions' print has them, are the plain words. -/
import Derived.Test.YtdailoccmjeceaaM1
namespace Go.Proofs.Ytdailoccmjeceaa.PAll
open Go.RowKit Go.Lib Go.Sort Go.Proofs.YtdailoccmjeceaaW.PrintWords Go.Proofs.YtdailoccmjeceaaW.PrintLast Go.Proofs.YtdailoccmjeceaaW.PrintMore
set_option linter.unusedVariables false
set_option linter.unusedSimpArgs false

theorem w64 {x : Int} (h0 : -9223372036854775808 ≤ x) (h1 : x ≤ 9223372036854775807) : wrap64 x = x := by
  unfold wrap64
  omega
theorem rdn (l : List S38) (j : Nat) (h : j < l.length) : rd_T38 l (j : Int) = l[j] := by
  simp [rd_T38, List.getD_eq_getElem?_getD, h]

theorem isTime_f (t : Int) : attempts_isTime.f t = some (decide (0 ≤ t ∧ t ≤ 1099511627776)) := by
  unfold attempts_isTime.f
  split
  · rename_i h; have h' : 0 ≤ t := h; simp [h']
  · rename_i h; have h' : ¬ 0 ≤ t := h; simp [h']

theorem right_f (k m p q : Int) (K : Nat) : attempts_right.f (K + 1) k m p q = some (rightB k m p q) := by
  unfold attempts_right.f rightB
  simp only [isTime_f, Option.bind_some, attempts_right.j0]
  by_cases h1 : k < 0
  · rw [if_pos h1]; simp; omega
  rw [if_neg h1]
  by_cases h2 : k > 2
  · rw [if_pos h2]; simp; omega
  rw [if_neg h2]
  by_cases h3 : m < 1
  · rw [if_pos h3]; simp; omega
  rw [if_neg h3]
  by_cases h4 : m > 16
  · rw [if_pos h4]; simp; omega
  rw [if_neg h4]
  by_cases h5 : 0 ≤ p ∧ p ≤ 1099511627776
  · have e : (!decide (0 ≤ p ∧ p ≤ 1099511627776)) = false := by rw [decide_eq_true h5]; rfl
    rw [e, if_neg (by decide)]
    by_cases h6 : k = 2
    · rw [if_pos h6]
      by_cases h7 : q ≥ 1
      · rw [if_pos h7]
        congr 1
        exact decide_eq_decide.2 (by omega)
      · rw [if_neg h7]
        congr 1
        exact (decide_eq_false (by omega)).symm
    · rw [if_neg h6]
      congr 1
      by_cases h7 : q = 0
      · rw [beq_iff_eq.2 h7]; exact (decide_eq_true (by omega)).symm
      · rw [beq_eq_false_iff_ne.2 h7]; exact (decide_eq_false (by omega)).symm
  · have e : (!decide (0 ≤ p ∧ p ≤ 1099511627776)) = true := by rw [decide_eq_false h5]; rfl
    rw [e, if_pos rfl]
    congr 1
    exact (decide_eq_false (by omega)).symm

theorem Valid_l0 (l : List S38) (hl : l.length ≤ 16) : ∀ (n j : Nat) (b : Int) (K : Nat), l.length - j = n → j ≤ l.length → n + 1 ≤ K → attempts_Valid.l0 K b l (l.length : Int) (j : Int) = some (okL b (j + 1) (l.drop j)) := by
  intro n
  induction n with
  | zero =>
    intro j b K h1 h2 h3
    obtain ⟨K, rfl⟩ : ∃ K', K = K' + 1 := ⟨K - 1, by omega⟩
    have : j = l.length := by omega
    subst this
    simp [attempts_Valid.l0, okL]
  | succ n ih =>
    intro j b K h1 h2 h3
    obtain ⟨K, rfl⟩ : ∃ K', K = K' + 1 := ⟨K - 1, by omega⟩
    have hj : j < l.length := by omega
    rw [attempts_Valid.l0, if_pos (by omega), if_pos (by omega), if_pos (by omega), rdn l j hj, isTime_f, w64 (by omega) (by omega)]
    have e := ih (j + 1) l[j].f1 K (by omega) (by omega) (by omega)
    rw [show ((j + 1 : Nat) : Int) = (j : Int) + 1 from rfl] at e
    rw [List.drop_eq_getElem_cons hj, okL]
    simp only [Option.bind_some]
    by_cases h4 : l[j].f0 = (j : Int) + 1
    · rw [if_pos h4]
      by_cases h5 : l[j].f1 < b
      · rw [if_pos h5, decide_eq_false (by omega)]; rfl
      rw [if_neg h5]
      by_cases h6 : 0 ≤ l[j].f1 ∧ l[j].f1 ≤ 1099511627776
      · rw [decide_eq_true h6, if_pos rfl]
        by_cases h7 : l[j].f2 < 0
        · rw [if_pos h7, decide_eq_false (by omega)]; rfl
        rw [if_neg h7]
        by_cases h8 : l[j].f2 > 100000000
        · rw [if_pos h8, decide_eq_false (by omega)]; rfl
        rw [if_neg h8, e, decide_eq_true (by omega)]
        rfl
      · rw [decide_eq_false h6, if_neg (by decide), decide_eq_false (by omega)]; rfl
    · rw [if_neg h4, decide_eq_false (by omega)]; rfl

theorem rightB_most {k m p q : Int} (h : rightB k m p q = true) : 0 ≤ k ∧ k ≤ 2 ∧ 1 ≤ m ∧ m ≤ 16 ∧ 0 ≤ p ∧ p ≤ 1099511627776 ∧ (k = 2 → 1 ≤ q ∧ q ≤ m) ∧ (k ≠ 2 → q = 0) := of_decide_eq_true h
/-- the program's Valid -/
theorem Valid_f (k m p q : Int) (l : List S38) (K : Nat) (hK : 20 ≤ K) : attempts_Valid.f K k m p q l = some (validA k m p q l) := by
  unfold attempts_Valid.f validA
  obtain ⟨K, rfl⟩ : ∃ K', K = K' + 1 := ⟨K - 1, by omega⟩
  rw [right_f]
  simp only [Option.bind_some, attempts_Valid.j0]
  cases hr : rightB k m p q with
  | false => simp
  | true =>
    have h := rightB_most hr
    rw [if_pos rfl]
    by_cases hl : (l.length : Int) > m
    · rw [decide_eq_true hl, if_pos rfl, decide_eq_false (by omega)]
      rfl
    · rw [decide_eq_false hl, if_neg (by decide), decide_eq_true (by omega)]
      have e := Valid_l0 l (by omega) l.length 0 0 K (by omega) (by omega) (by omega)
      simpa using e

theorem validA_len {k m p q : Int} {l : List S38} (h : validA k m p q l = true) : (l.length : Int) ≤ m ∧ l.length ≤ 16 ∧ rightB k m p q = true ∧ okL 0 1 l = true := by
  unfold validA at h
  simp only [Bool.and_eq_true, decide_eq_true_eq] at h
  have := rightB_most h.1.1
  exact ⟨h.1.2, by omega, h.1.1, h.2⟩
theorem okL_get : ∀ (l : List S38) (b i : Int), okL b i l = true → ∀ j (h : j < l.length), l[j].f0 = i + j ∧ 0 ≤ l[j].f1 ∧ l[j].f1 ≤ 1099511627776 ∧ 0 ≤ l[j].f2 ∧ l[j].f2 ≤ 100000000
  | [], _, _, _, j, h => by simp at h
  | x :: xs, b, i, hk, j, h => by
    simp only [okL, Bool.and_eq_true, decide_eq_true_eq] at hk
    cases j with
    | zero => simp; exact ⟨hk.1.1, hk.1.2.2⟩
    | succ j =>
      have := okL_get xs x.f1 (i + 1) hk.2 j (by simpa using h)
      simp only [List.getElem_cons_succ]
      refine ⟨by rw [this.1]; omega, this.2⟩
end Go.Proofs.Ytdailoccmjeceaa.PAll
