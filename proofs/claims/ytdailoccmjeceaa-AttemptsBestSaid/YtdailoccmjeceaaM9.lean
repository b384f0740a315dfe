/- The points by the descending list; the best; the order does not matter; between the least and the greatest. Plain Lean: no program in sight. -/
import Derived.Test.YtdailoccmjeceaaM8
namespace Go.Proofs.Ytdailoccmjeceaa.PAll
open Go.RowKit Go.Lib Go.Sort Go.Proofs.YtdailoccmjeceaaW.PrintWords Go.Proofs.YtdailoccmjeceaaW.PrintLast Go.Proofs.YtdailoccmjeceaaW.PrintMore
set_option linter.unusedVariables false
set_option linter.unusedSimpArgs false

/-- the rounded mean of points -/
def avgI (D : List Int) : Int := if D = [] then 0 else Int.tdiv (2 * D.sum + D.length) (2 * D.length)
theorem avg_I (c : List S38) : avg c = avgI (c.map S38.f2) := by
  unfold avg avgI sum38
  by_cases h : c = []
  · subst h; rfl
  · rw [if_neg h, if_neg (by simpa using h), List.length_map]
theorem points_I (k q : Int) (hk : k ≠ 1) {l : List S38} (h : asc l) : pointsA k q l = avgI ((sortD (l.map S38.f2)).take (max 1 q).toNat) := by
  unfold pointsA chosenL
  rw [if_neg hk, avg_I, List.map_take, points_desc l h]
/-- the order of the points does not matter -/
theorem points_order (k q : Int) (hk : k ≠ 1) {l m : List S38} (hl : asc l) (hm : asc m) (h : (l.map S38.f2).Perm (m.map S38.f2)) : pointsA k q l = pointsA k q m := by
  rw [points_I k q hk hl, points_I k q hk hm, desc_unique (sortD_desc (l.map S38.f2)) (sortD_desc (m.map S38.f2)) ((sortD_perm _).trans (h.trans (sortD_perm _).symm))]
theorem avgI_one (x : Int) (h : 0 ≤ x) : avgI [x] = x := by
  unfold avgI
  rw [if_neg (by simp)]
  rw [Int.tdiv_eq_ediv_of_nonneg (by simp; omega)]
  simp
  omega
theorem sum_le (M : Int) : ∀ D : List Int, (∀ x ∈ D, x ≤ M) → D.sum ≤ D.length * M
  | [], _ => by simp
  | x :: D, h => by
    have h1 := sum_le M D (fun y hy => h y (List.mem_cons_of_mem _ hy))
    have h2 := h x (List.mem_cons_self ..)
    simp only [List.sum_cons, List.length_cons]
    have : ((D.length + 1 : Nat) : Int) * M = D.length * M + M := by rw [Int.natCast_add, Int.add_mul]; simp
    omega
theorem le_sum (M : Int) : ∀ D : List Int, (∀ x ∈ D, M ≤ x) → D.length * M ≤ D.sum
  | [], _ => by simp
  | x :: D, h => by
    have h1 := le_sum M D (fun y hy => h y (List.mem_cons_of_mem _ hy))
    have h2 := h x (List.mem_cons_self ..)
    simp only [List.sum_cons, List.length_cons]
    have : ((D.length + 1 : Nat) : Int) * M = D.length * M + M := by rw [Int.natCast_add, Int.add_mul]; simp
    omega
/-- what the rounded mean is -/
theorem avgI_spec (D : List Int) (hD : D ≠ []) (h0 : 0 ≤ D.sum) : 2 * (avgI D * D.length - D.sum) ≤ D.length ∧ -(D.length : Int) < 2 * (avgI D * D.length - D.sum) ∧ 0 ≤ avgI D := by
  have hp := List.length_pos_iff.2 hD
  unfold avgI
  rw [if_neg hD, Int.tdiv_eq_ediv_of_nonneg (by omega)]
  generalize hn : (D.length : Int) = n at *
  generalize D.sum = s at *
  have hn0 : 0 < n := by omega
  have e := Int.mul_ediv_add_emod (2 * s + n) (2 * n)
  have e1 := Int.emod_nonneg (2 * s + n) (show 2 * n ≠ 0 by omega)
  have e2 := Int.emod_lt_of_pos (2 * s + n) (show 0 < 2 * n by omega)
  generalize (2 * s + n) / (2 * n) = a at *
  generalize (2 * s + n) % (2 * n) = b at *
  have e3 : 2 * n * a = 2 * (a * n) := by rw [Int.mul_assoc, Int.mul_comm n a]
  rw [e3] at e
  generalize hp2 : a * n = an at *
  refine ⟨by omega, by omega, ?_⟩
  rcases Int.lt_or_le a 0 with ha | ha
  · have : an ≤ -n := by
      have h1 : a * n ≤ (-1) * n := Int.mul_le_mul_of_nonneg_right (by omega) (by omega)
      omega
    omega
  · exact ha
theorem avgI_le (M : Int) (hM : 0 ≤ M) (D : List Int) (h : ∀ x ∈ D, x ≤ M) (h0 : 0 ≤ D.sum) : avgI D ≤ M := by
  by_cases hD : D = []
  · subst hD; exact hM
  · have hs := avgI_spec D hD h0
    have h1 := sum_le M D h
    have hp := List.length_pos_iff.2 hD
    rcases Int.lt_or_le M (avgI D) with h2 | h2
    · have h3 : (M + 1) * (D.length : Int) ≤ avgI D * D.length := Int.mul_le_mul_of_nonneg_right (by omega) (by omega)
      rw [Int.add_mul, Int.one_mul, Int.mul_comm M] at h3
      omega
    · exact h2
theorem le_avgI (M : Int) (D : List Int) (hD : D ≠ []) (h : ∀ x ∈ D, M ≤ x) (h0 : 0 ≤ D.sum) : M ≤ avgI D := by
  have hs := avgI_spec D hD h0
  have h1 := le_sum M D h
  have hp := List.length_pos_iff.2 hD
  rcases Int.lt_or_le (avgI D) M with h2 | h2
  · have h3 : avgI D * (D.length : Int) ≤ (M - 1) * D.length := Int.mul_le_mul_of_nonneg_right (by omega) (by omega)
    rw [Int.sub_mul, Int.one_mul, Int.mul_comm M] at h3
    omega
  · exact h2
theorem sum_nonneg (D : List Int) (h : ∀ x ∈ D, 0 ≤ x) : 0 ≤ D.sum := by
  have := le_sum 0 D h
  simpa using this
/-- the best points -/
theorem best_spec {l : List S38} (h : asc l) (hr : inR l) (hl : l ≠ []) : (∃ x ∈ l, pointsA 0 0 l = x.f2) ∧ ∀ x ∈ l, x.f2 ≤ pointsA 0 0 l := by
  rw [points_I 0 0 (by decide) h]
  have hd := sortD_desc (l.map S38.f2)
  have hp := sortD_perm (l.map S38.f2)
  cases hs : sortD (l.map S38.f2) with
  | nil =>
    rw [hs] at hp
    have := List.perm_nil.1 hp.symm
    simp at this
    exact absurd this hl
  | cons a D =>
    rw [hs] at hd hp
    unfold descL at hd
    rw [List.pairwise_cons] at hd
    have hm : a ∈ l.map S38.f2 := hp.mem_iff.1 (List.mem_cons_self ..)
    obtain ⟨x, hx, ex⟩ := List.mem_map.1 hm
    have e : avgI ((a :: D).take (max 1 0 : Int).toNat) = a := avgI_one a (by rw [← ex]; exact (hr x hx).1)
    rw [e]
    refine ⟨⟨x, hx, ex.symm⟩, fun y hy => ?_⟩
    rcases List.mem_cons.1 (hp.mem_iff.2 (List.mem_map.2 ⟨y, hy, rfl⟩)) with h1 | h1
    · omega
    · exact hd.1 _ h1
/-- no points are above the best -/
theorem points_le_best (k q : Int) {l : List S38} (h : asc l) (hr : inR l) : pointsA k q l ≤ pointsA 0 0 l := by
  by_cases hl : l = []
  · subst hl
    have e : ∀ k q, pointsA k q [] = 0 := fun k q => by
      have hc : chosenL k q [] = [] := List.eq_nil_of_length_eq_zero (by have := chosenL_len k q []; simpa using this)
      unfold pointsA
      rw [hc]; rfl
    rw [e, e]
    exact Int.le_refl _
  · obtain ⟨⟨x, hx, ex⟩, hb⟩ := best_spec h hr hl
    unfold pointsA at *
    rw [avg_I (chosenL k q l)]
    have hm : ∀ v ∈ (chosenL k q l).map S38.f2, ∃ y ∈ l, v = y.f2 := fun v hv => by
      obtain ⟨y, hy, rfl⟩ := List.mem_map.1 hv
      exact ⟨y, chosenL_mem hy, rfl⟩
    refine avgI_le _ (by rw [ex]; exact (hr x hx).1) _ (fun v hv => ?_) (sum_nonneg _ (fun v hv => ?_))
    · obtain ⟨y, hy, rfl⟩ := hm v hv
      exact hb y hy
    · obtain ⟨y, hy, rfl⟩ := hm v hv
      exact (hr y hy).1
end Go.Proofs.Ytdailoccmjeceaa.PAll
