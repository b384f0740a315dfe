/- The stable sort by points orders attempts by points and numbers; the attempts that count are those that have fewer ahead of them than are kept. Plain Lean: no program in sight. -/
import Derived.Test.YtdailoccmjeceaaM3
namespace Go.Proofs.Ytdailoccmjeceaa.PAll
open Go.RowKit Go.Lib Go.Sort Go.Proofs.YtdailoccmjeceaaW.PrintWords Go.Proofs.YtdailoccmjeceaaW.PrintLast Go.Proofs.YtdailoccmjeceaaW.PrintMore
set_option linter.unusedVariables false
set_option linter.unusedSimpArgs false

/-- before: more points, or as many and a smaller number -/
def befB (x y : S38) : Bool := decide (y.f2 < x.f2 ∨ (x.f2 = y.f2 ∧ x.f0 < y.f0))
theorem swoT : SWO befB := by
  refine ⟨?_, ?_, ?_⟩
  · intro x; simp [befB]
  · intro x y z; simp only [befB, decide_eq_true_eq]; omega
  · intro x y z; simp only [befB, decide_eq_false_iff_not]; omega

/-- the inner loop: what moves has a greater number than all before it -/
theorem inner_eq : ∀ (j : Nat) (d : Array S38), j < d.size → (∀ p, p < j → d[p]!.f0 < d[j]!.f0) → insInner (ltOf cf38) 0 j d = insInner befB 0 j d
  | 0, d, _, _ => rfl
  | j + 1, d, hj, h => by
    unfold insInner
    have h0 := h j (by omega)
    have e : ltOf cf38 d[j + 1]! d[j]! = befB d[j + 1]! d[j]! := by
      rw [lt38]
      unfold befB
      exact decide_eq_decide.2 (by omega)
    rw [e]
    split
    · refine inner_eq j (swp d (j + 1) j) (by rw [size_swp]; omega) ?_
      intro p hp
      rw [swp_get d hj (by omega), swp_get d hj (by omega)]
      rw [if_neg (by omega), if_neg (by omega), if_pos rfl]
      exact h p (by omega)
    · rfl
theorem inner_perm (lt : S38 → S38 → Bool) (b : Nat) : ∀ (j : Nat) (d : Array S38), j < b → b ≤ d.size → PermIn 0 b d (insInner lt 0 j d)
  | 0, d, _, _ => by unfold insInner; exact permIn_refl d 0 b
  | j + 1, d, hj, hb => by
    unfold insInner
    split
    · exact permIn_trans _ _ _ 0 b (swp_permIn d 0 b (j + 1) j (Nat.zero_le _) hj (Nat.zero_le _) (by omega) hb) (inner_perm lt b j _ (by omega) (by rw [size_swp]; exact hb))
    · exact permIn_refl d 0 b
theorem outer_eq (l : List S38) (hn : ∀ i j, i < j → j < l.length → (l.toArray[i]!).f0 < (l.toArray[j]!).f0) : ∀ (n i : Nat) (d : Array S38), l.length - i = n → PermIn 0 i l.toArray d → 0 < i → i ≤ l.length → insOuter (ltOf cf38) 0 l.length i d = insOuter befB 0 l.length i d := by
  intro n
  induction n with
  | zero =>
    intro i d h1 h2 h3 h4
    have : i = l.length := by omega
    subst this
    rw [insOuter_stop _ _ _ _ _ (by omega), insOuter_stop _ _ _ _ _ (by omega)]
  | succ n ih =>
    intro i d h1 h2 h3 h4
    have hi : i < l.length := by omega
    have hs : d.size = l.length := by rw [h2.1]; simp
    rw [insOuter_go _ _ _ _ _ hi, insOuter_go _ _ _ _ _ hi]
    have hdi : d[i]! = l.toArray[i]! := h2.2.1 i (.inr (Nat.le_refl _))
    have e := inner_eq i d (by omega) (fun p hp => by
      rw [hdi]
      exact permIn_all l.toArray d 0 i (fun x => x.f0 < (l.toArray[i]!).f0) (by simp; omega) h2 (fun q _ hq => hn q i hq hi) p (Nat.zero_le _) hp)
    rw [e]
    refine ih (i + 1) _ (by omega) ?_ (by omega) hi
    exact permIn_trans _ _ _ 0 (i + 1) (permIn_mono l.toArray d 0 i 0 (i + 1) (Nat.le_refl _) (by omega) (by simp; omega) h2) (inner_perm befB (i + 1) i d (by omega) (by omega))
theorem sort_eq (l : List S38) (hn : ∀ i j, i < j → j < l.length → (l.toArray[i]!).f0 < (l.toArray[j]!).f0) : sorted38 l = (Sort.insertionSort befB l.toArray 0 l.length).toList := by
  unfold sorted38 insertionSort
  by_cases h : 0 < l.length
  · rw [outer_eq l hn _ 1 l.toArray rfl (permIn_refl _ 0 1) (by omega) (by omega)]
  · rw [insOuter_stop _ _ _ _ _ (by omega), insOuter_stop _ _ _ _ _ (by omega)]
/-- numbers ascend -/
def asc (l : List S38) : Prop := l.Pairwise (fun x y => x.f0 < y.f0)
theorem asc_get (l : List S38) (h : asc l) : ∀ i j, i < j → j < l.length → (l.toArray[i]!).f0 < (l.toArray[j]!).f0 := by
  intro i j hij hj
  have := List.pairwise_iff_getElem.1 h i j (by omega) hj hij
  have e1 : l.toArray[i]! = l[i] := by simp [show i < l.length by omega]
  have e2 : l.toArray[j]! = l[j] := by simp [hj]
  rw [e1, e2]; exact this
theorem sorted_bef (l : List S38) (h : asc l) : (sorted38 l).Pairwise (fun x y => befB y x = false) := by
  rw [sort_eq l (asc_get l h)]
  have hs := (insertionSort_holds (lt := befB) swoT l.toArray 0 l.length (Nat.zero_le _) (by simp))
  have hz : (Sort.insertionSort befB l.toArray 0 l.length).size = l.length := by rw [hs.1.1]; simp
  rw [List.pairwise_iff_getElem]
  intro i j hi hj hij
  have := hs.2 i j (Nat.zero_le _) hij (by rw [← hz]; simpa using hj)
  rw [getElem!_pos _ j (by simpa using hj), getElem!_pos _ i (by simpa using hi)] at this
  simpa using this
theorem asc_mem_inj {l : List S38} (h : asc l) {x y : S38} (hx : x ∈ l) (hy : y ∈ l) (e : x.f0 = y.f0) : x = y := by
  obtain ⟨i, hi, rfl⟩ := List.getElem_of_mem hx
  obtain ⟨j, hj, rfl⟩ := List.getElem_of_mem hy
  rcases Nat.lt_trichotomy i j with h1 | h1 | h1
  · have := List.pairwise_iff_getElem.1 h i j hi hj h1; omega
  · subst h1; rfl
  · have := List.pairwise_iff_getElem.1 h j i hj hi h1; omega
theorem asc_nodup {l : List S38} (h : asc l) : l.Nodup := by
  refine List.Pairwise.imp ?_ h
  intro x y hxy e
  subst e
  omega
/-- strictly ordered -/
theorem sorted_strict (l : List S38) (h : asc l) : (sorted38 l).Pairwise (fun x y => befB x y = true) := by
  have h1 := sorted_bef l h
  have h2 : (sorted38 l).Nodup := (sorted38_perm l).nodup_iff.2 (asc_nodup h)
  have hm : ∀ x ∈ sorted38 l, x ∈ l := fun x hx => (sorted38_perm l).mem_iff.1 hx
  rw [List.pairwise_iff_getElem] at h1 ⊢
  intro i j hi hj hij
  have h3 := h1 i j hi hj hij
  have hne : (sorted38 l)[i] ≠ (sorted38 l)[j] := by
    have := List.pairwise_iff_getElem.1 h2 i j hi hj hij
    exact this
  have hn0 : ((sorted38 l)[i]).f0 ≠ ((sorted38 l)[j]).f0 := fun e => hne (asc_mem_inj h (hm _ (List.getElem_mem hi)) (hm _ (List.getElem_mem hj)) e)
  unfold befB at h3 ⊢
  rw [decide_eq_false_iff_not] at h3
  rw [decide_eq_true_eq]
  omega
/-- in a strictly ordered list, as many are before an element as its place says -/
theorem count_place : ∀ (s : List S38), s.Pairwise (fun x y => befB x y = true) → ∀ j (h : j < s.length), s.countP (fun y => befB y s[j]) = j
  | [], _, j, h => by simp at h
  | x :: xs, hp, j, h => by
    rw [List.pairwise_cons] at hp
    rw [List.countP_cons]
    cases j with
    | zero =>
      have e : xs.countP (fun y => befB y x) = 0 := by
        rw [List.countP_eq_zero]
        intro y hy
        have := hp.1 y hy
        have := swoT.asymmA this
        simp [this]
      simp only [List.getElem_cons_zero, e, swoT.irrefl]
      simp
    | succ j =>
      have hj : j < xs.length := by simpa using h
      have := count_place xs hp.2 j hj
      simp only [List.getElem_cons_succ, this, hp.1 _ (List.getElem_mem hj)]
      simp
theorem take_filter : ∀ (s : List S38) (P : S38 → Bool) (k : Nat), (∀ j (h : j < s.length), P s[j] = decide (j < k)) → s.filter P = s.take k
  | [], _, k, _ => by simp
  | x :: xs, P, k, h => by
    have h0 := h 0 (by simp)
    simp only [List.getElem_cons_zero] at h0
    cases k with
    | zero =>
      rw [List.take_zero, List.filter_eq_nil_iff]
      intro y hy
      obtain ⟨j, hj, rfl⟩ := List.getElem_of_mem hy
      rw [h j hj]; simp
    | succ k =>
      rw [List.filter_cons, h0]
      simp only [Nat.zero_lt_succ, decide_true, if_true, List.take_succ_cons]
      congr 1
      refine take_filter xs P k (fun j hj => ?_)
      have := h (j + 1) (by simpa using hj)
      simp only [List.getElem_cons_succ] at this
      rw [this]
      exact decide_eq_decide.2 (by omega)
/-- how many are before an attempt -/
def ahead38 (l : List S38) (x : S38) : Nat := l.countP (fun y => befB y x)
/-- the best k are those with fewer than k ahead -/
theorem best_filter (l : List S38) (h : asc l) (k : Nat) : ((sorted38 l).take k).Perm (l.filter (fun x => decide (ahead38 l x < k))) := by
  have hp := sorted38_perm l
  rw [← take_filter (sorted38 l) (fun x => decide (ahead38 l x < k)) k]
  · exact hp.filter _
  · intro j hj
    have e := count_place _ (sorted_strict l h) j hj
    unfold ahead38
    rw [← hp.countP_eq, e]
end Go.Proofs.Ytdailoccmjeceaa.PAll
