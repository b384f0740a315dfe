/- Attempts of which the points of one are others: validity, order, the last. Plain Lean: no program in sight. -/
import Derived.Test.YtdailoccmjeceaaM7
namespace Go.Proofs.Ytdailoccmjeceaa.PAll
open Go.RowKit Go.Lib Go.Sort Go.Proofs.YtdailoccmjeceaaW.PrintWords Go.Proofs.YtdailoccmjeceaaW.PrintLast Go.Proofs.YtdailoccmjeceaaW.PrintMore
set_option linter.unusedVariables false
set_option linter.unusedSimpArgs false

theorem u8_range {n : Int} (h : (Lit.int .u8 n).wf = true) : 0 ≤ n ∧ n ≤ 255 := by
  have h2 : (decide (IntKind.u8.min ≤ n) && decide (n ≤ IntKind.u8.max)) = true := h
  rw [Bool.and_eq_true] at h2
  exact ⟨Int.le_trans (by decide) (of_decide_eq_true h2.1), Int.le_trans (of_decide_eq_true h2.2) (by decide)⟩
/-- the points of the attempt at a place are v -/
def setP (l : List S38) (j : Nat) (v : Int) : List S38 := l.set j ⟨(l.getD j z38).f0, (l.getD j z38).f1, v⟩
theorem setP_cons (x : S38) (l : List S38) (j : Nat) (v : Int) : setP (x :: l) (j + 1) v = x :: setP l j v := by simp [setP]
theorem setP_zero (x : S38) (l : List S38) (v : Int) : setP (x :: l) 0 v = ⟨x.f0, x.f1, v⟩ :: l := by simp [setP]
theorem setP_len (l : List S38) (j : Nat) (v : Int) : (setP l j v).length = l.length := by simp [setP]
theorem okL_set : ∀ (l : List S38) (b i : Int) (j : Nat) (v : Int), j < l.length → okL b i l = true → okL b i (setP l j v) = decide (0 ≤ v ∧ v ≤ 100000000)
  | [], _, _, j, _, h, _ => by simp at h
  | x :: l, b, i, 0, v, _, h => by
    simp only [okL, Bool.and_eq_true, decide_eq_true_eq] at h
    rw [setP_zero, okL, h.2, Bool.and_true]
    exact decide_eq_decide.2 (by simp only; omega)
  | x :: l, b, i, j + 1, v, hj, h => by
    simp only [okL, Bool.and_eq_true, decide_eq_true_eq] at h
    rw [setP_cons, okL, okL_set l x.f1 (i + 1) j v (by simpa using hj) h.2, decide_eq_true h.1]
    rfl
theorem set_valid {k m p q : Int} {l : List S38} (h : validA k m p q l = true) (j : Nat) (hj : j < l.length) (v : Int) : validA k m p q (setP l j v) = true ↔ 0 ≤ v ∧ v ≤ 100000000 := by
  obtain ⟨h1, h2, h3⟩ := (validA_iff k m p q l).1 h
  rw [validA_iff, setP_len, okL_set l 0 1 j v hj h3, decide_eq_true_eq]
  exact ⟨fun h => h.2.2, fun h => ⟨h1, h2, h⟩⟩
theorem set_num {l : List S38} (h : num l) (j : Nat) (v : Int) : num (setP l j v) := by
  intro i hi
  have hi' : i < l.length := by rw [setP_len] at hi; exact hi
  have e : (setP l j v)[i] = if j = i then (⟨(l.getD j z38).f0, (l.getD j z38).f1, v⟩ : S38) else l[i] := List.getElem_set _
  rw [e]
  split
  · rename_i e
    subst e
    show (l.getD j z38).f0 = j + 1
    rw [getD38' l j hi']
    exact h j hi'
  · exact h i hi'
theorem set_f2 (l : List S38) (j : Nat) (v : Int) : (setP l j v).map S38.f2 = (l.map S38.f2).set j v := by
  unfold setP
  rw [List.map_set]
theorem leL_set : ∀ (L : List Int) (j : Nat) (v : Int), (∀ h : j < L.length, L[j] ≤ v) → leL L (L.set j v)
  | [], j, v, _ => trivial
  | a :: L, 0, v, h => ⟨h (by simp), leL_refl L⟩
  | a :: L, j + 1, v, h => ⟨Int.le_refl _, leL_set L j v (fun hj => h (by simpa using hj))⟩
theorem set_mono (k q : Int) {l : List S38} (h : num l) (hr : inR l) (j : Nat) (hj : j < l.length) (v : Int) (h0 : l[j].f2 ≤ v) (h1 : v ≤ 100000000) : pointsA k q l ≤ pointsA k q (setP l j v) := by
  have hv0 := (hr l[j] (List.getElem_mem hj)).1
  refine points_mono k q _ _ (num_asc h) (num_asc (set_num h j v)) hr ?_ ?_
  · intro x hx
    unfold setP at hx
    rcases List.mem_or_eq_of_mem_set hx with hx | rfl
    · exact hr x hx
    · exact ⟨by show 0 ≤ v; omega, h1⟩
  · rw [set_f2]
    refine leL_set _ j v (fun hj' => ?_)
    rw [List.getElem_map]
    exact h0
theorem set_last (q : Int) (l : List S38) (j : Nat) (v : Int) (hj : j + 1 < l.length) : pointsA 1 q (setP l j v) = pointsA 1 q l := by
  unfold pointsA chosenL
  rw [if_pos rfl, if_pos rfl]
  rcases List.eq_nil_or_concat l with rfl | ⟨ys, y, rfl⟩
  · simp at hj
  · rw [List.concat_eq_append] at hj ⊢
    have hj' : j < ys.length := by simp at hj; omega
    unfold setP
    rw [List.set_append_left _ _ hj', List.reverse_append, List.reverse_append]
    rfl
/-- the remainder of a byte -/
theorem mod_range {n : Int} (hn : 0 ≤ n) {len : Nat} (hl : 0 < len) : ∃ j : Nat, j < len ∧ Int.tmod n (len : Int) = (j : Int) := by
  have h0 := Int.tmod_nonneg (len : Int) hn
  have h1 := Int.tmod_lt_of_pos n (show (0 : Int) < (len : Int) by omega)
  exact ⟨(Int.tmod n (len : Int)).toNat, by omega, by omega⟩
end Go.Proofs.Ytdailoccmjeceaa.PAll
