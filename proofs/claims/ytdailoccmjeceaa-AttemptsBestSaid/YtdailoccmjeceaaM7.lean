/- A further attempt: validity and points; the searches by halves find the least points. Plain Lean: no program in sight. -/
import Derived.Test.YtdailoccmjeceaaM6
namespace Go.Proofs.Ytdailoccmjeceaa.PAll
open Go.RowKit Go.Lib Go.Sort Go.Proofs.YtdailoccmjeceaaW.PrintWords Go.Proofs.YtdailoccmjeceaaW.PrintLast Go.Proofs.YtdailoccmjeceaaW.PrintMore
set_option linter.unusedVariables false
set_option linter.unusedSimpArgs false

/-- the last tick, or b -/
def lastOr : Int → List S38 → Int
  | b, [] => b
  | _, x :: xs => lastOr x.f1 xs
theorem lastOr_get : ∀ (l : List S38) (b : Int), l ≠ [] → lastOr b l = (l.getD (l.length - 1) z38).f1
  | [], _, h => absurd rfl h
  | [x], b, _ => rfl
  | x :: y :: xs, b, _ => by
    have := lastOr_get (y :: xs) x.f1 (by simp)
    rw [lastOr, this]
    simp
theorem lastA_or (l : List S38) : lastA l = lastOr 0 l := by
  unfold lastA
  by_cases h : l = []
  · subst h; rfl
  · rw [if_neg h, lastOr_get l 0 h]
theorem okL_snoc : ∀ (l : List S38) (b i : Int) (x : S38), okL b i (l ++ [x]) = (okL b i l && decide (x.f0 = i + l.length ∧ lastOr b l ≤ x.f1 ∧ 0 ≤ x.f1 ∧ x.f1 ≤ 1099511627776 ∧ 0 ≤ x.f2 ∧ x.f2 ≤ 100000000))
  | [], b, i, x => by simp [okL, lastOr]
  | y :: l, b, i, x => by
    rw [List.cons_append, okL, okL_snoc l y.f1 (i + 1) x, okL, lastOr, Bool.and_assoc]
    congr 2
    exact decide_eq_decide.2 (by simp only [List.length_cons]; omega)
theorem okL_last : ∀ (l : List S38) (b i : Int), okL b i l = true → 0 ≤ b → b ≤ 1099511627776 → 0 ≤ lastOr b l ∧ lastOr b l ≤ 1099511627776
  | [], b, i, _, h0, h1 => ⟨h0, h1⟩
  | x :: l, b, i, h, _, _ => by
    simp only [okL, Bool.and_eq_true, decide_eq_true_eq] at h
    exact okL_last l x.f1 (i + 1) h.2 h.1.2.2.1 h.1.2.2.2.1
theorem validA_iff (k m p q : Int) (l : List S38) : validA k m p q l = true ↔ rightB k m p q = true ∧ (l.length : Int) ≤ m ∧ okL 0 1 l = true := by
  unfold validA
  simp only [Bool.and_eq_true, decide_eq_true_eq]
  exact ⟨fun h => ⟨h.1.1, h.1.2, h.2⟩, fun h => ⟨⟨h.1, h.2.1⟩, h.2.2⟩⟩
theorem further_valid {k m p q : Int} {l : List S38} (h : validA k m p q l = true) (hm : (l.length : Int) ≠ m) (n : Int) : validA k m p q (furtherA l n) = true ↔ 0 ≤ n ∧ n ≤ 100000000 := by
  obtain ⟨h1, h2, h3⟩ := (validA_iff k m p q l).1 h
  have hl := okL_last l 0 1 h3 (by decide) (by decide)
  rw [validA_iff]
  unfold furtherA
  rw [okL_snoc, h3, lastA_or]
  simp only [Bool.true_and, decide_eq_true_eq, List.length_append, List.length_singleton]
  constructor
  · intro h; omega
  · intro h; exact ⟨h1, by omega, by omega⟩
theorem further_num {l : List S38} (h : num l) (n : Int) : num (furtherA l n) := by
  intro j hj
  unfold furtherA at hj ⊢
  by_cases h1 : j < l.length
  · rw [List.getElem_append_left h1]; exact h j h1
  · have : j = l.length := by simp at hj; omega
    subst this
    simp
theorem leL_refl : ∀ l : List Int, leL l l
  | [] => trivial
  | x :: l => ⟨Int.le_refl _, leL_refl l⟩
theorem leL_snoc : ∀ (l : List Int) (x y : Int), x ≤ y → leL (l ++ [x]) (l ++ [y])
  | [], x, y, h => ⟨h, trivial⟩
  | a :: l, x, y, h => ⟨Int.le_refl _, leL_snoc l x y h⟩
theorem further_mono (k q : Int) {l : List S38} (h : num l) (hr : inR l) (n n' : Int) (h0 : 0 ≤ n) (h1 : n ≤ n') (h2 : n' ≤ 100000000) : pointsA k q (furtherA l n) ≤ pointsA k q (furtherA l n') := by
  have inr : ∀ n, 0 ≤ n → n ≤ 100000000 → inR (furtherA l n) := fun n h0 h1 x hx => by
    unfold furtherA at hx
    rcases List.mem_append.1 hx with hx | hx
    · exact hr x hx
    · rw [List.mem_singleton.1 hx]; exact ⟨h0, h1⟩
  refine points_mono k q _ _ (num_asc (further_num h n)) (num_asc (further_num h n')) (inr n h0 (by omega)) (inr n' (by omega) h2) ?_
  unfold furtherA
  rw [List.map_append, List.map_append]
  exact leL_snoc _ _ _ h1
/-- e does not fall -/
def rises (e : Int → Bool) : Prop := ∀ n n', 0 ≤ n → n ≤ n' → n' ≤ 100000000 → e n = true → e n' = true
theorem enough_rises (k q : Int) {l : List S38} (h : num l) (hr : inR l) (goal : Int) : rises (enoughA k q l goal) := by
  intro n n' h0 h1 h2 he
  unfold enoughA at he ⊢
  rw [decide_eq_true_eq] at he ⊢
  have := further_mono k q h hr n n' h0 h1 h2
  omega
def leastE (e : Int → Bool) (r : Int) : Prop := 0 ≤ r ∧ r ≤ 100000000 ∧ e r = true ∧ ∀ n, 0 ≤ n → n < r → e n = false
theorem least_unique {e : Int → Bool} {r s : Int} (hr : leastE e r) (hs : leastE e s) : r = s := by
  rcases Int.lt_trichotomy r s with h | h | h
  · have := hs.2.2.2 r hr.1 h; rw [hr.2.2.1] at this; cases this
  · exact h
  · have := hr.2.2.2 s hs.1 h; rw [hs.2.2.1] at this; cases this
theorem halves_least (e : Int → Bool) (he : rises e) : ∀ (fu : Nat) (lo hi : Int), 0 ≤ lo → lo ≤ hi → hi ≤ 100000000 → hi - lo < fu → e hi = true → (∀ n, 0 ≤ n → n < lo → e n = false) → leastE e (halves e fu lo hi) := by
  intro fu
  induction fu with
  | zero => intro lo hi h0 h1 h2 h3; omega
  | succ fu ih =>
    intro lo hi h0 h1 h2 h3 h4 h5
    unfold halves
    by_cases h : lo < hi
    · rw [if_pos h]
      by_cases hm : e ((lo + hi) / 2) = true
      · rw [if_pos hm]
        exact ih lo _ h0 (by omega) (by omega) (by omega) hm h5
      · rw [if_neg hm]
        refine ih _ hi (by omega) (by omega) h2 (by omega) h4 (fun n hn0 hn1 => ?_)
        cases hn : e n with
        | false => rfl
        | true => exact absurd (he n _ hn0 (by omega) (by omega) hn) hm
    · rw [if_neg h]
      have : lo = hi := by omega
      subst this
      exact ⟨h0, h2, h4, h5⟩
/-- the reference's search -/
def halvesR (e : Int → Bool) : Nat → Int → Int → Int
  | 0, _, hi => hi
  | n + 1, lo, hi => if hi - lo > 1 then (if e ((lo + hi).tdiv 2) = true then halvesR e n lo ((lo + hi).tdiv 2) else halvesR e n ((lo + hi).tdiv 2) hi) else hi
theorem mid_tdiv {lo hi : Int} (h0 : -1 ≤ lo) (h1 : hi - lo > 1) : lo < (lo + hi).tdiv 2 ∧ (lo + hi).tdiv 2 < hi ∧ 0 ≤ (lo + hi).tdiv 2 ∧ (lo + hi).tdiv 2 = (lo + hi) / 2 := by
  have e : (lo + hi).tdiv 2 = (lo + hi) / 2 := Int.tdiv_eq_ediv_of_nonneg (by omega)
  rw [e]
  omega
theorem halvesR_least (e : Int → Bool) (he : rises e) : ∀ (fu : Nat) (lo hi : Int), -1 ≤ lo → lo < hi → hi ≤ 100000000 → hi - lo ≤ 2 ^ fu → e hi = true → (∀ n, 0 ≤ n → n ≤ lo → e n = false) → leastE e (halvesR e fu lo hi) := by
  intro fu
  induction fu with
  | zero =>
    intro lo hi h0 h1 h2 h3 h4 h5
    unfold halvesR
    simp at h3
    exact ⟨by omega, h2, h4, fun n hn0 hn1 => h5 n hn0 (by omega)⟩
  | succ fu ih =>
    intro lo hi h0 h1 h2 h3 h4 h5
    rw [Int.pow_succ] at h3
    unfold halvesR
    by_cases h : hi - lo > 1
    · rw [if_pos h]
      obtain ⟨m1, m2, m3, m4⟩ := mid_tdiv h0 h
      by_cases hm : e ((lo + hi).tdiv 2) = true
      · rw [if_pos hm]
        exact ih lo _ h0 m1 (by omega) (by omega) hm h5
      · rw [if_neg hm]
        refine ih _ hi (by omega) m2 h2 (by omega) h4 (fun n hn0 hn1 => ?_)
        cases hn : e n with
        | false => rfl
        | true => exact absurd (he n _ hn0 hn1 (by omega) hn) hm
    · rw [if_neg h]
      exact ⟨by omega, h2, h4, fun n hn0 hn1 => h5 n hn0 (by omega)⟩
end Go.Proofs.Ytdailoccmjeceaa.PAll
