/- The program's list of the attempts that count is the reference's; their sum and the points too. Plain Lean: no program in sight. -/
import Derived.Test.YtdailoccmjeceaaM4
namespace Go.Proofs.Ytdailoccmjeceaa.PAll
open Go.RowKit Go.Lib Go.Sort Go.Proofs.YtdailoccmjeceaaW.PrintWords Go.Proofs.YtdailoccmjeceaaW.PrintLast Go.Proofs.YtdailoccmjeceaaW.PrintMore
set_option linter.unusedVariables false
set_option linter.unusedSimpArgs false

/-- numbers are places -/
def num (l : List S38) : Prop := ∀ j (h : j < l.length), l[j].f0 = j + 1
theorem validA_num {k m p q : Int} {l : List S38} (h : validA k m p q l = true) : num l := by
  intro j hj
  rw [(okL_get l 0 1 (validA_len h).2.2.2 j hj).1]
  omega
theorem num_asc {l : List S38} (h : num l) : asc l := by
  unfold asc
  rw [List.pairwise_iff_getElem]
  intro i j hi hj hij
  rw [h i hi, h j hj]
  omega
theorem getD38' (l : List S38) (j : Nat) (h : j < l.length) : l.getD j z38 = l[j] := by simp [List.getD_eq_getElem?_getD, h]
theorem range_map (l : List S38) : (List.range l.length).map (fun i => l.getD i z38) = l := by
  apply List.ext_getElem
  · simp
  · intro i h1 h2
    simp only [List.getElem_map, List.getElem_range]
    simp [List.getD_eq_getElem?_getD, h2]
/-- chosen or not -/
def selP (k q : Int) (l : List S38) (x : S38) : Bool := if k = 1 then decide (x.f0 = l.length) else decide (ahead38 l x < (max 1 q).toNat)
theorem last_filter {l : List S38} (h : num l) : l.reverse.take 1 = l.filter (fun x => decide (x.f0 = (l.length : Int))) := by
  rcases List.eq_nil_or_concat l with rfl | ⟨ys, y, rfl⟩
  · rfl
  · rw [List.concat_eq_append] at h ⊢
    rw [List.reverse_append, List.filter_append]
    have h1 : ys.filter (fun x => decide (x.f0 = ((ys ++ [y]).length : Int))) = [] := by
      rw [List.filter_eq_nil_iff]
      intro x hx
      obtain ⟨j, hj, rfl⟩ := List.getElem_of_mem hx
      have := h j (by simp; omega)
      rw [List.getElem_append_left hj] at this
      rw [decide_eq_true_eq, this]
      simp
      omega
    have h2 : y.f0 = ((ys ++ [y]).length : Int) := by
      have := h ys.length (by simp)
      simp at this
      simp [this]
    rw [h1]
    simp only [List.filter_cons, List.filter_nil, decide_eq_true h2]
    simp
theorem chosen_filter (k q : Int) {l : List S38} (h : num l) : (chosenL k q l).Perm (l.filter (selP k q l)) := by
  unfold chosenL selP
  by_cases hk : k = 1
  · rw [if_pos hk]
    simp only [if_pos hk]
    rw [last_filter h]
  · rw [if_neg hk]
    simp only [if_neg hk]
    exact best_filter l (num_asc h) _
theorem better_ahead {l : List S38} (h : num l) (i : Nat) (hi : i < l.length) : betterA l i = ahead38 l (l.getD i z38) := by
  unfold betterA ahead38
  conv => rhs; rw [← range_map l]
  rw [List.countP_map]
  refine List.countP_congr (fun k hk => ?_)
  have hk' : k < l.length := List.mem_range.1 hk
  have e1 : (l.getD k z38).f0 = k + 1 := by rw [getD38' l k hk']; exact h k hk'
  have e2 : (l.getD i z38).f0 = i + 1 := by rw [getD38' l i hi]; exact h i hi
  simp only [Function.comp, befB]
  rw [range_map l]
  rw [decide_eq_true_eq, decide_eq_true_eq, e1, e2]
  omega
theorem sel_counts {k m p q : Int} {l : List S38} (hv : validA k m p q l = true) (i : Nat) (hi : i < l.length) : selP k q l (l.getD i z38) = countsB k q l i := by
  have hn := validA_num hv
  have hr := rightB_most (validA_len hv).2.2.1
  have e2 : (l.getD i z38).f0 = i + 1 := by rw [getD38' l i hi]; exact hn i hi
  unfold selP countsB
  rw [better_ahead hn i hi]
  by_cases hk : k = 1
  · rw [if_pos hk, e2]
    exact decide_eq_decide.2 (by omega)
  · rw [if_neg hk]
    exact decide_eq_decide.2 (by omega)
theorem count_filter {k m p q : Int} {l : List S38} (hv : validA k m p q l = true) : countR k m p q l = (l.filter (selP k q l)).map S38.f0 := by
  unfold countR
  rw [if_pos hv]
  have hn := validA_num hv
  conv => rhs; rw [← range_map l]
  rw [List.filter_map, List.map_map]
  have e : (List.range l.length).filter (selP k q ((List.range l.length).map (fun i => l.getD i z38)) ∘ fun i => l.getD i z38) = (List.range l.length).filter (countsB k q l) := by
    refine List.filter_congr (fun i hi => ?_)
    rw [range_map l]
    exact sel_counts hv i (List.mem_range.1 hi)
  rw [e]
  refine List.map_congr_left (fun i hi => ?_)
  have hi' : i < l.length := List.mem_range.1 (List.mem_filter.1 hi).1
  simp only [Function.comp]
  rw [getD38' l i hi', hn i hi']
  rfl
theorem asc_map {l : List S38} (h : asc l) : (l.map S38.f0).Pairwise (fun x y => decide (x ≤ y) = true) := by
  rw [List.pairwise_map]
  refine List.Pairwise.imp ?_ h
  intro x y hxy
  rw [decide_eq_true_eq]; omega
/-- the two lists of numbers are one -/
theorem count_eq (k m p q : Int) (l : List S38) : countA k m p q l = countR k m p q l := by
  by_cases hv : validA k m p q l = true
  · rw [count_filter hv]
    unfold countA
    rw [if_pos hv]
    have hn := validA_num hv
    have h1 : (l.filter (selP k q l)).Pairwise (fun x y => x.f0 < y.f0) := List.Pairwise.filter _ (num_asc hn)
    have hp := (chosen_filter k q hn).map S38.f0
    refine List.Perm.eq_of_pairwise (le := fun x y => decide (x ≤ y) = true) ?_ ?_ (asc_map h1) ?_
    · intro a b _ _ h1 h2
      have := of_decide_eq_true h1
      have := of_decide_eq_true h2
      omega
    · refine List.pairwise_mergeSort ?_ ?_ _
      · intro a b c h1 h2
        rw [decide_eq_true_eq] at *
        omega
      · intro a b
        rw [Bool.or_eq_true, decide_eq_true_eq, decide_eq_true_eq]
        omega
    · exact (List.mergeSort_perm _ _).trans hp
  · unfold countA countR
    rw [if_neg hv, if_neg hv]
theorem sum_perm : ∀ {a b : List S38}, a.Perm b → sum38 a = sum38 b := by
  intro a b h
  induction h with
  | nil => rfl
  | cons x _ ih => rw [sum38_cons, sum38_cons, ih]
  | swap x y l => rw [sum38_cons, sum38_cons, sum38_cons, sum38_cons]; omega
  | trans _ _ h1 h2 => rw [h1, h2]
theorem avg_perm {a b : List S38} (h : a.Perm b) : avg a = avg b := by
  unfold avg
  rw [sum_perm h, h.length_eq]
  by_cases ha : a = []
  · have hb : b = [] := by subst ha; exact List.perm_nil.1 h.symm
    rw [if_pos ha, if_pos hb]
  · have hb : ¬ b = [] := fun e => ha (by subst e; exact List.perm_nil.1 h)
    rw [if_neg ha, if_neg hb]
end Go.Proofs.Ytdailoccmjeceaa.PAll
