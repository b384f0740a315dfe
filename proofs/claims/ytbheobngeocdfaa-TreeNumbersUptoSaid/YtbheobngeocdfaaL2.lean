/- Plain: the paths of the numbers. -/
import Derived.Test.YtbheobngeocdfaaL1
namespace Go.Proofs.Ytbheobngeocdfaa.PAll
open Go.RowKit Go.Proofs.YtbheobngeocdfaaW.PrintWords Go.Proofs.YtbheobngeocdfaaW.PrintLast Go.Proofs.YtbheobngeocdfaaW.PrintMore
set_option linter.unusedVariables false
set_option linter.unusedSimpArgs false

theorem pathL24_spec (ks : List S24) : ∀ (n j m : Nat), ks.length - j = n → j ≤ ks.length → m < (preL24 (ks.drop j)).length →
    ∃ (i m' : Nat) (hi : i < ks.length), m' < (pre24 ks[i]).length ∧ pathL24 (ks.drop j) (j : Int) m = (i : Int) :: path24 ks[i] m' ∧ (preL24 (ks.take j)).length + m = (preL24 (ks.take i)).length + m' := by
  intro n
  induction n with
  | zero =>
    intro j m hn hj hm
    rw [List.drop_eq_nil_of_le (by omega)] at hm
    simp [preL24] at hm
  | succ n ih =>
    intro j m hn hj hm
    have hlt : j < ks.length := by omega
    have hd := preL24_drop hlt
    rw [pathL24_drop hlt]
    by_cases h : m < (pre24 ks[j]).length
    · rw [if_pos h]
      exact ⟨j, m, hlt, h, rfl, rfl⟩
    · rw [if_neg h, cast_succ]
      obtain ⟨i, m', hi, h1, h2, h3⟩ := ih (j + 1) (m - (pre24 ks[j]).length) (by omega) (by omega) (by omega)
      refine ⟨i, m', hi, h1, h2, ?_⟩
      have h4 := congrArg List.length (preL24_take ks j hlt)
      rw [List.length_append] at h4
      omega
theorem path24_cons {x : S24} {m : Nat} (h : m < (pre24 x).length) : m = 0 ∨ ∃ (i m' : Nat) (hi : i < x.f4.length), m' < (pre24 x.f4[i]).length ∧ path24 x m = (i : Int) :: path24 x.f4[i] m' ∧ m = 1 + (preL24 (x.f4.take i)).length + m' := by
  cases m with
  | zero => exact .inl rfl
  | succ m =>
    rw [pre24_eq, List.length_cons] at h
    obtain ⟨i, m', hi, h1, h2, h3⟩ := pathL24_spec x.f4 _ 0 m rfl (Nat.zero_le _) (by simpa using h)
    refine .inr ⟨i, m', hi, h1, ?_, ?_⟩
    · rw [path24_succ]; simpa using h2
    · simp [preL24] at h3; omega
theorem levL24_drop_le (ks : List S24) (i : Nat) : levL24 (ks.drop i) ≤ levL24 ks := by
  induction i generalizing ks with
  | zero => simp
  | succ i ih => cases ks with
    | nil => simp
    | cons k ks => simp only [List.drop_succ_cons, levL24]; have := ih ks; omega
/-- the node with the number m is at the path of m -/
theorem get_path (x : S24) : ∀ m, m < (pre24 x).length → ∃ y, get24 (path24 x m) x = some y ∧ num24 (path24 x m) x = some m ∧ (path24 x m).length + 1 ≤ lev24 x := by
  induction x using ind24 with
  | h x ih =>
  intro m hm
  rcases path24_cons hm with rfl | ⟨i, m', hi, h1, h2, h3⟩
  · rw [path24_zero]; exact ⟨x, rfl, rfl, by rw [lev24_eq]; simp⟩
  · obtain ⟨y, h4, h5, h6⟩ := ih _ (List.getElem_mem hi) m' h1
    rw [h2]
    have hc : 0 ≤ (i : Int) ∧ (i : Int) < (x.f4.length : Int) := by omega
    refine ⟨y, by rw [get24, if_pos hc, rd_T24_nat hi]; exact h4, by rw [num24, if_pos hc, rd_T24_nat hi, h5, Int.toNat_natCast, h3]; rfl, ?_⟩
    rw [lev24_eq]
    have h7 : lev24 x.f4[i] ≤ levL24 x.f4 := by
      have := levL24_drop_le x.f4 i
      have h8 := levL24_drop hi
      omega
    simp only [List.length_cons]
    omega
/-- there is a path that is as long as the levels -/
theorem deep_path (x : S24) : ∃ m, m < (pre24 x).length ∧ (path24 x m).length + 1 = lev24 x := by
  induction x using ind24 with
  | h x ih =>
  rw [lev24_eq]
  have key : ∀ ks : List S24, (∀ k ∈ ks, ∃ m, m < (pre24 k).length ∧ (path24 k m).length + 1 = lev24 k) → ks = [] ∨ ∀ z : Int, ∃ m, m < (preL24 ks).length ∧ (pathL24 ks z m).length = levL24 ks := by
    intro ks
    induction ks with
    | nil => intro _; exact .inl rfl
    | cons k ks ihk =>
      intro H
      right
      intro z
      obtain ⟨m1, h1, h2⟩ := H k (List.mem_cons_self ..)
      rcases ihk (fun y hy => H y (List.mem_cons_of_mem _ hy)) with rfl | h3
      · refine ⟨m1, by simp [preL24]; exact h1, ?_⟩
        simp only [pathL24, if_pos h1, List.length_cons, levL24]; omega
      · by_cases hle : levL24 ks ≤ lev24 k
        · refine ⟨m1, by simp only [preL24, List.length_append]; omega, ?_⟩
          simp only [pathL24, if_pos h1, List.length_cons, levL24]; omega
        · obtain ⟨m2, h4, h5⟩ := h3 (z + 1)
          refine ⟨(pre24 k).length + m2, by simp only [preL24, List.length_append]; omega, ?_⟩
          simp only [pathL24, if_neg (show ¬ (pre24 k).length + m2 < (pre24 k).length by omega), levL24]
          rw [Nat.add_sub_cancel_left]; omega
  rcases key x.f4 ih with h | h
  · refine ⟨0, by rw [pre24_eq]; simp, ?_⟩
    rw [path24_zero, h]; simp [levL24]
  · obtain ⟨m, h1, h2⟩ := h 0
    refine ⟨m + 1, by rw [pre24_eq, List.length_cons]; omega, ?_⟩
    rw [path24_succ, h2]
theorem tpath_f (x : S24) (m : Int) (h : (pre24 x).length < 1099511627776) : tree_Path.f x.f0 x.f1 x.f2 x.f3 x.f4 m = some (if 0 ≤ m ∧ m < ((pre24 x).length : Int) then path24 x m.toNat else [], decide (0 ≤ m) && decide (m < ((pre24 x).length : Int))) := by
  have e : (⟨x.f0, x.f1, x.f2, x.f3, x.f4⟩ : S24) = x := by cases x; rfl
  unfold tree_Path.f
  rw [e, if_pos h]
theorem path24_length (x : S24) (m : Nat) (h : m < (pre24 x).length) : (path24 x m).length < (pre24 x).length := by
  obtain ⟨y, _, _, h1⟩ := get_path x m h
  have := lev_le x
  omega
/-- the greatest of the first m paths' lengths, with 1 -/
def deepest (x : S24) : Nat → Nat
  | 0 => 0
  | m + 1 => max (deepest x m) ((path24 x m).length + 1)
theorem deepest_le (x : S24) : ∀ m, m ≤ (pre24 x).length → deepest x m ≤ lev24 x := by
  intro m
  induction m with
  | zero => intro _; exact Nat.zero_le _
  | succ m ih =>
    intro h
    obtain ⟨_, _, _, h1⟩ := get_path x m (by omega)
    have := ih (by omega)
    simp only [deepest]; omega
theorem deepest_ge (x : S24) (i : Nat) : ∀ m, i < m → (path24 x i).length + 1 ≤ deepest x m := by
  intro m
  induction m with
  | zero => intro h; omega
  | succ m ih =>
    intro h
    simp only [deepest]
    by_cases e : i = m
    · subst e; omega
    · have := ih (by omega); omega
theorem deepest_all (x : S24) : deepest x (pre24 x).length = lev24 x := by
  obtain ⟨m, h1, h2⟩ := deep_path x
  have h3 := deepest_ge x m _ h1
  have h4 := deepest_le x _ (Nat.le_refl _)
  omega
theorem smallB_le {x : S24} {m : Int} (h : smallB x m = true) : ((pre24 x).length : Int) ≤ m := by
  simp only [smallB, Bool.and_eq_true, decide_eq_true_eq] at h; exact h.2
end Go.Proofs.Ytbheobngeocdfaa.PAll
