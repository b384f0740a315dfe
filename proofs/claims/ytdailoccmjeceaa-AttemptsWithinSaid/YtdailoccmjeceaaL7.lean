/- The law AttemptsWithin holds of the plain words. -/
import Derived.Test.YtdailoccmjeceaaL1
import Derived.Test.YtdailoccmjeceaaM9
import Derived.Test.YtdailoccmjeceaaPAllxf7
namespace Go.Proofs.Ytdailoccmjeceaa.PAll
open Go.RowKit Go.Lib Go.Sort Go.Proofs.YtdailoccmjeceaaW.PrintWords Go.Proofs.YtdailoccmjeceaaW.PrintLast Go.Proofs.YtdailoccmjeceaaW.PrintMore
set_option linter.unusedVariables false
set_option linter.unusedSimpArgs false

/-- the library's Index -/
theorem Index_l0 (c : List Int) (hc : c.length ≤ 20) (v : Int) : ∀ (n j K : Nat), c.length - j = n → j ≤ c.length → n + 1 ≤ K → ∃ r, slices_Index_int_int.l0 K c v (c.length : Int) (j : Int) = some r ∧ (0 ≤ r ↔ v ∈ c.drop j) := by
  intro n
  induction n with
  | zero =>
    intro j K h1 h2 h3
    obtain ⟨K, rfl⟩ : ∃ K', K = K' + 1 := ⟨K - 1, by omega⟩
    have : j = c.length := by omega
    subst this
    refine ⟨-1, by rw [slices_Index_int_int.l0, if_neg (by omega)], ?_⟩
    rw [List.drop_length]
    simp
  | succ n ih =>
    intro j K h1 h2 h3
    obtain ⟨K, rfl⟩ : ∃ K', K = K' + 1 := ⟨K - 1, by omega⟩
    have hj : j < c.length := by omega
    have hrd : YtdailoccmjeceaaW.PrintWords.rd c (j : Int) = c[j] := by simp [YtdailoccmjeceaaW.PrintWords.rd, List.getD_eq_getElem?_getD, hj]
    rw [slices_Index_int_int.l0, if_pos (by omega), if_pos (by omega), if_pos (by omega), hrd, List.drop_eq_getElem_cons hj]
    by_cases hv : v = c[j]
    · rw [if_pos hv]
      exact ⟨j, rfl, fun _ => by rw [hv]; exact List.mem_cons_self .., fun _ => by omega⟩
    · rw [if_neg hv, w64 (by omega) (by omega)]
      obtain ⟨r, h4, h5⟩ := ih (j + 1) K (by omega) (by omega) (by omega)
      refine ⟨r, h4, ?_⟩
      rw [h5, List.mem_cons]
      exact ⟨fun h => .inr h, fun h => h.resolve_left hv⟩
theorem Contains_f (c : List Int) (hc : c.length ≤ 20) (v : Int) (K : Nat) (hK : 25 ≤ K) : slices_Contains_int_int.f K c v = some (decide (v ∈ c)) := by
  obtain ⟨r, h1, h2⟩ := Index_l0 c hc v c.length 0 K (by omega) (by omega) (by omega)
  unfold slices_Contains_int_int.f slices_Index_int_int.f
  rw [show ((0 : Nat) : Int) = 0 from rfl] at h1
  rw [h1, Option.bind_some]
  congr 1
  exact decide_eq_decide.2 (by rw [List.drop_zero] at h2; exact h2)
/-- the least and the greatest -/
theorem win_l0 (l : List S38) (hl : l.length ≤ 16) (hr : inR l) (c : List Int) (x6 x8 k m p q : Int) : ∀ (n j : Nat) (lo hi : Int) (K : Nat), l.length - j = n → j ≤ l.length → n + 1 ≤ K → 0 ≤ lo → lo ≤ hi → hi ≤ 100000000 →
    ∃ lo' hi', assessorlaw52_AttemptsWithin.l0 K l c x6 x8 lo hi l (l.length : Int) (j : Int) k m p q = assessorlaw52_AttemptsWithin.l1 (K - (n + 1)) l c x6 x8 lo' hi' hi' c (c.length : Int) 0 k m p q ∧
      0 ≤ lo' ∧ lo' ≤ lo ∧ hi ≤ hi' ∧ hi' ≤ 100000000 ∧ ∀ x ∈ l.drop j, lo' ≤ x.f2 ∧ x.f2 ≤ hi' := by
  intro n
  induction n with
  | zero =>
    intro j lo hi K h1 h2 h3 h4 h5 h6
    obtain ⟨K, rfl⟩ : ∃ K', K = K' + 1 := ⟨K - 1, by omega⟩
    have : j = l.length := by omega
    subst this
    refine ⟨lo, hi, by rw [assessorlaw52_AttemptsWithin.l0, if_neg (by omega)]; rfl, h4, Int.le_refl _, Int.le_refl _, h6, ?_⟩
    rw [List.drop_length]
    intro x hx
    cases hx
  | succ n ih =>
    intro j lo hi K h1 h2 h3 h4 h5 h6
    obtain ⟨K, rfl⟩ : ∃ K', K = K' + 1 := ⟨K - 1, by omega⟩
    have hj : j < l.length := by omega
    have hx := hr l[j] (List.getElem_mem hj)
    have hmn : mn lo l[j].f2 ≤ lo ∧ mn lo l[j].f2 ≤ l[j].f2 ∧ 0 ≤ mn lo l[j].f2 := by unfold mn; split <;> omega
    have hmx : hi ≤ mx hi l[j].f2 ∧ l[j].f2 ≤ mx hi l[j].f2 ∧ mx hi l[j].f2 ≤ 100000000 := by unfold mx; split <;> omega
    rw [assessorlaw52_AttemptsWithin.l0, if_pos (by omega), if_pos (by omega), if_pos (by omega), rdn l j hj, w64 (by omega) (by omega)]
    obtain ⟨lo', hi', e, h7, h8, h9, h10, h11⟩ := ih (j + 1) (mn lo l[j].f2) (mx hi l[j].f2) K (by omega) (by omega) (by omega) hmn.2.2 (by omega) hmx.2.2
    refine ⟨lo', hi', ?_, h7, by omega, by omega, h10, ?_⟩
    · rw [show K + 1 - (n + 1 + 1) = K - (n + 1) from by omega]
      exact e
    · rw [List.drop_eq_getElem_cons hj]
      intro x hxm
      rcases List.mem_cons.1 hxm with rfl | hxm
      · omega
      · exact h11 x hxm
/-- the attempts that count: their sum, and the worst of them -/
theorem win_l1 (l F : List S38) (hl : l.length ≤ 16) (hn : num l) (hF : ∀ x ∈ F, x ∈ l) (hFl : F.length ≤ 16) (ha : asc F) (hr : inR F) (x6 lo hi k m p q : Int) : ∀ (n j : Nat) (s w : Int) (K : Nat), F.length - j = n → j ≤ F.length → n + 1 ≤ K → 0 ≤ s → s ≤ j * 100000000 →
    ∃ w', assessorlaw52_AttemptsWithin.l1 K l (F.map S38.f0) x6 s lo hi w (F.map S38.f0) ((F.map S38.f0).length : Int) (j : Int) k m p q = assessorlaw52_AttemptsWithin.l2 (K - (n + 1)) (F.map S38.f0) x6 (s + sum38 (F.drop j)) lo hi w' l (l.length : Int) 0 k m p q ∧
      ∀ v, v ≤ w → (∀ y ∈ F.drop j, v ≤ y.f2) → v ≤ w' := by
  have hlm : (F.map S38.f0).length = F.length := by simp
  have hrd : ∀ j (h : j < F.length), YtdailoccmjeceaaW.PrintWords.rd (F.map S38.f0) (j : Int) = F[j].f0 := fun j h => by simp [YtdailoccmjeceaaW.PrintWords.rd, List.getD_eq_getElem?_getD, h]
  intro n
  induction n with
  | zero =>
    intro j s w K h1 h2 h3 h4 h5
    obtain ⟨K, rfl⟩ : ∃ K', K = K' + 1 := ⟨K - 1, by omega⟩
    have : j = F.length := by omega
    subst this
    refine ⟨w, ?_, fun v hv _ => hv⟩
    have e : sum38 ([] : List S38) = 0 := rfl
    rw [assessorlaw52_AttemptsWithin.l1, hlm, if_neg (by omega), List.drop_length, e, Int.add_zero]
    rfl
  | succ n ih =>
    intro j s w K h1 h2 h3 h4 h5
    obtain ⟨K, rfl⟩ : ∃ K', K = K' + 1 := ⟨K - 1, by omega⟩
    have hj : j < F.length := by omega
    have hx := hr F[j] (List.getElem_mem hj)
    obtain ⟨i, hi', ei⟩ := List.getElem_of_mem (hF F[j] (List.getElem_mem hj))
    have e0 : F[j].f0 = (i : Int) + 1 := by rw [← ei, hn i hi']
    have h6 : s ≤ 1600000000 := by
      have : ((j : Nat) : Int) * 100000000 ≤ 16 * 100000000 := Int.mul_le_mul_of_nonneg_right (by omega) (by decide)
      omega
    have hw : wrap64 (F[j].f0 - 1) = (i : Int) := by rw [e0, w64 (by omega) (by omega)]; omega
    obtain ⟨w', e, hw'⟩ := ih (j + 1) (s + F[j].f2) (mn w F[j].f2) K (by omega) (by omega) (by omega) (by omega) (by
      have : ((j + 1 : Nat) : Int) = (j : Int) + 1 := rfl
      rw [this, Int.add_mul]; omega)
    refine ⟨w', ?_, ?_⟩
    · rw [show K + 1 - (n + 1 + 1) = K - (n + 1) from by omega]
      have es : s + sum38 (F.drop j) = s + F[j].f2 + sum38 (F.drop (j + 1)) := by
        rw [List.drop_eq_getElem_cons hj, sum38_cons, Int.add_assoc]
      rw [es, ← e]
      rw [assessorlaw52_AttemptsWithin.l1, hrd j hj, hlm, if_pos (by omega), if_pos (by omega), if_pos (by omega), if_neg (by omega), if_neg (by omega), hw, rdn l i hi', ei, w64 (x := s + F[j].f2) (by omega) (by omega), w64 (x := (j : Int) + 1) (by omega) (by omega)]
      have tail : (if 0 ≤ (i : Int) then (if (i : Int) < (l.length : Int) then assessorlaw52_AttemptsWithin.l1 K l (F.map S38.f0) x6 (s + F[j].f2) lo hi (mn w F[j].f2) (F.map S38.f0) (F.length : Int) ((j : Int) + 1) k m p q else none) else none) = assessorlaw52_AttemptsWithin.l1 K l (F.map S38.f0) x6 (s + F[j].f2) lo hi (mn w F[j].f2) (F.map S38.f0) (F.length : Int) ((j + 1 : Nat) : Int) k m p q := by
        rw [if_pos (by omega), if_pos (by omega)]
        rfl
      by_cases hj0 : (j : Int) > 0
      · obtain ⟨j', rfl⟩ : ∃ j', j = j' + 1 := ⟨j - 1, by omega⟩
        have hlt := List.pairwise_iff_getElem.1 ha j' (j' + 1) (by omega) hj (by omega)
        have ew : wrap64 (((j' + 1 : Nat) : Int) - 1) = (j' : Int) := by rw [w64 (by omega) (by omega)]; omega
        rw [if_pos hj0, ew, if_pos (by omega), if_pos (by omega), hrd j' (by omega), if_neg (by omega)]
        exact tail
      · rw [if_neg hj0]
        exact tail
    · intro v hv hy
      rw [List.drop_eq_getElem_cons hj] at hy
      refine hw' v ?_ (fun y hym => hy y (List.mem_cons_of_mem _ hym))
      have := hy F[j] (List.mem_cons_self ..)
      unfold mn
      split <;> omega
/-- the attempts that don't count are not better; the points are the rounded mean -/
theorem win_l2 (l F : List S38) (hl : l.length ≤ 16) (hn : num l) (hFl : F.length ≤ 16) (hFp : F ≠ []) (x6 s lo hi w k m p q : Int) (hw : k ≠ 1 → ∀ x ∈ l, x ∉ F → x.f2 ≤ w) (h1 : lo ≤ x6) (h2 : x6 ≤ hi) (h3 : 0 ≤ x6) (h4 : x6 ≤ 100000000) (h5 : 0 ≤ s) (h6 : s ≤ 1600000000) (h7 : 2 * (x6 * F.length - s) ≤ F.length) (h8 : -(F.length : Int) < 2 * (x6 * F.length - s)) :
    ∀ (n j K : Nat), l.length - j = n → j ≤ l.length → n + 30 ≤ K → assessorlaw52_AttemptsWithin.l2 K (F.map S38.f0) x6 s lo hi w l (l.length : Int) (j : Int) k m p q = some true := by
  have hlm : (F.map S38.f0).length = F.length := by simp
  have hp := List.length_pos_iff.2 hFp
  intro n
  induction n with
  | zero =>
    intro j K g1 g2 g3
    obtain ⟨K, rfl⟩ : ∃ K', K = K' + 1 := ⟨K - 1, by omega⟩
    rw [assessorlaw52_AttemptsWithin.l2, if_neg (by omega), if_pos h1, if_pos h2, hlm]
    generalize hP : x6 * (F.length : Int) = P at h7 h8 ⊢
    rw [w64 (x := P) (by omega) (by omega), w64 (x := P - s) (by omega) (by omega), w64 (x := 2 * (P - s)) (by omega) (by omega), w64 (x := -(F.length : Int)) (by omega) (by omega), if_pos h8]
    congr 1
    exact decide_eq_true h7
  | succ n ih =>
    intro j K g1 g2 g3
    obtain ⟨K, rfl⟩ : ∃ K', K = K' + 1 := ⟨K - 1, by omega⟩
    have hj : j < l.length := by omega
    have e := ih (j + 1) K (by omega) (by omega) (by omega)
    rw [show ((j + 1 : Nat) : Int) = (j : Int) + 1 from rfl] at e
    rw [assessorlaw52_AttemptsWithin.l2, if_pos (by omega), if_pos (by omega), if_pos (by omega), w64 (x := (j : Int) + 1) (by omega) (by omega)]
    by_cases hk : k = 1
    · rw [if_pos hk]; exact e
    · rw [if_neg hk, Contains_f _ (by rw [hlm]; omega) _ K (by omega), Option.bind_some]
      by_cases hc : (j : Int) + 1 ∈ F.map S38.f0
      · rw [if_pos (decide_eq_true hc)]; exact e
      · rw [if_neg (by rw [decide_eq_true_eq]; exact hc), rdn l j hj]
        have hnF : l[j] ∉ F := fun hm => hc (List.mem_map.2 ⟨l[j], hm, hn j hj⟩)
        have := hw hk l[j] (List.getElem_mem hj) hnF
        rw [if_neg (by omega)]
        exact e
theorem ahead_mono (l : List S38) {x y : S38} (h : befB x y = true) : ahead38 l x ≤ ahead38 l y := by
  unfold ahead38
  exact List.countP_mono_left (fun z _ hz => swoT.trans z x y hz h)
theorem within_true (k m p q : Int) (l : List S38) : assessorlaw52_AttemptsWithin.f 100 k m p q l = some true := by
  unfold assessorlaw52_AttemptsWithin.f
  rw [awake_f, Option.bind_some, if_pos rfl]
  by_cases hl : (l.length : Int) > 20
  · rw [if_pos hl]
  rw [if_neg hl]
  unfold attempts_Counting.f
  rw [Option.bind_some, Final_f k m p q l _ (by omega), Option.bind_some, Valid_f k m p q l _ (by omega), Option.bind_some]
  by_cases h : validA k m p q l = true
  · have h16 := (validA_len h).2.1
    have hr := validA_inR h
    have hn := validA_num h
    have hri := rightB_most (validA_len h).2.2.1
    have hcf : countA k m p q l = (l.filter (selP k q l)).map S38.f0 := by rw [count_eq, count_filter h]
    have hFl : (l.filter (selP k q l)).length = (chosenL k q l).length := (chosen_filter k q hn).length_eq.symm
    have hlen : ((l.filter (selP k q l)).length : Int) = mn (l.length : Int) (mx q 1) := by
      rw [hFl]
      unfold chosenL mn mx
      by_cases hk : k = 1
      · have hq := hri.2.2.2.2.2.2.2 (by omega)
        rw [if_pos hk, List.length_take, List.length_reverse]
        split <;> split at * <;> omega
      · rw [if_neg hk, List.length_take, sorted38_len]
        split <;> split at * <;> omega
    have hFsub : ∀ x ∈ l.filter (selP k q l), x ∈ l := fun x hx => (List.mem_filter.1 hx).1
    have hFr : inR (l.filter (selP k q l)) := fun x hx => hr x (hFsub x hx)
    have hasc : asc (l.filter (selP k q l)) := List.Pairwise.filter _ (num_asc hn)
    have hpts : pointsA k q l = avgI ((l.filter (selP k q l)).map S38.f2) := by rw [points_eq k q hn]; unfold pointsF; rw [avg_I]
    have hsel : k ≠ 1 → ∀ x ∈ l, x ∉ l.filter (selP k q l) → ∀ y ∈ l.filter (selP k q l), x.f2 ≤ y.f2 := by
      intro hk x hx hxF y hy
      have hyl := hFsub y hy
      have h1 : ¬ ahead38 l x < (max 1 q).toNat := by
        intro hlt
        refine hxF (List.mem_filter.2 ⟨hx, ?_⟩)
        unfold selP
        rw [if_neg hk]
        exact decide_eq_true hlt
      have h2 : ahead38 l y < (max 1 q).toNat := by
        have := (List.mem_filter.1 hy).2
        unfold selP at this
        rw [if_neg hk] at this
        exact of_decide_eq_true this
      rcases Int.lt_or_le y.f2 x.f2 with h3 | h3
      · have := ahead_mono l (x := x) (y := y) (decide_eq_true (.inl h3))
        omega
      · exact h3
    have hFle : (l.filter (selP k q l)).length ≤ l.length := List.length_filter_le _ _
    rw [if_pos h, if_pos h, if_pos rfl, hcf, List.length_map]
    generalize l.filter (selP k q l) = F at hcf hFl hlen hFsub hFr hasc hpts hsel hFle ⊢
    have e0 : (((F.length : Int)) != (mn (l.length : Int) (mx q 1))) = false := by rw [hlen]; simp
    rw [e0, show (100 : Nat) = 99 + 1 from rfl, assessorlaw52_AttemptsWithin.j0, if_neg (by decide), List.length_map]
    by_cases hF0 : (F.length : Int) = 0
    · rw [if_pos hF0]
      have : F = [] := List.eq_nil_of_length_eq_zero (by omega)
      subst this
      have e1 : pointsA k q l = 0 := hpts
      show some (pointsA k q l == 0) = some true
      rw [e1]
      rfl
    · have hFne : F ≠ [] := fun e => hF0 (by rw [e]; rfl)
      have hlp : 0 < l.length := by omega
      have hx0 := hr l[0] (List.getElem_mem hlp)
      rw [if_neg hF0, if_pos (by omega), show (0 : Int) = ((0 : Nat) : Int) from rfl, rdn l 0 hlp]
      show assessorlaw52_AttemptsWithin.l0 99 l (F.map S38.f0) (pointsA k q l) ((0 : Nat) : Int) l[0].f2 l[0].f2 l (l.length : Int) ((0 : Nat) : Int) k m p q = some true
      obtain ⟨lo, hi, e1, g1, g2, g3, g4, g5⟩ := win_l0 l h16 hr (F.map S38.f0) (pointsA k q l) ((0 : Nat) : Int) k m p q l.length 0 l[0].f2 l[0].f2 99 (by omega) (by omega) (by omega) (by omega) (Int.le_refl _) (by omega)
      rw [e1]
      rw [List.drop_zero] at g5
      obtain ⟨w, e2, g6⟩ := win_l1 l F h16 hn hFsub (by omega) hasc hFr (pointsA k q l) lo hi k m p q F.length 0 ((0 : Nat) : Int) hi (99 - (l.length + 1)) (by omega) (by omega) (by omega) (by omega) (by omega)
      have e2' : assessorlaw52_AttemptsWithin.l1 (99 - (l.length + 1)) l (F.map S38.f0) (pointsA k q l) ((0 : Nat) : Int) lo hi hi (F.map S38.f0) ((F.map S38.f0).length : Int) 0 k m p q = _ := e2
      rw [e2', List.drop_zero] at *
      have hs := sum38_bound F hFr
      have hD : F.map S38.f2 ≠ [] := by simpa using hFne
      have hmem : ∀ v ∈ F.map S38.f2, ∃ y ∈ F, v = y.f2 := fun v hv => by
        obtain ⟨y, hy, rfl⟩ := List.mem_map.1 hv
        exact ⟨y, hy, rfl⟩
      have hs0 : 0 ≤ (F.map S38.f2).sum := hs.1
      have hsp := avgI_spec (F.map S38.f2) hD hs0
      rw [← hpts, List.length_map] at hsp
      have hlo : lo ≤ pointsA k q l := by
        rw [hpts]
        refine le_avgI lo _ hD (fun v hv => ?_) hs0
        obtain ⟨y, hy, rfl⟩ := hmem v hv
        exact (g5 y (hFsub y hy)).1
      have hhi : pointsA k q l ≤ hi := by
        rw [hpts]
        refine avgI_le hi (by omega) _ (fun v hv => ?_) hs0
        obtain ⟨y, hy, rfl⟩ := hmem v hv
        exact (g5 y (hFsub y hy)).2
      have hsum : ((0 : Nat) : Int) + sum38 F = sum38 F := by simp
      have hsb : sum38 F ≤ 1600000000 := by
        have : ((F.length : Nat) : Int) * 100000000 ≤ 16 * 100000000 := Int.mul_le_mul_of_nonneg_right (by omega) (by decide)
        omega
      rw [hsum]
      exact win_l2 l F h16 hn (by omega) hFne (pointsA k q l) (sum38 F) lo hi w k m p q (fun hk x hx hxF => g6 x.f2 (g5 x hx).2 (fun y hy => hsel hk x hx hxF y hy)) hlo hhi (by omega) (by omega) hs.1 hsb hsp.1 hsp.2.1 l.length 0 _ (by omega) (by omega) (by omega)
  · have hcf : countA k m p q l = [] := if_neg h
    rw [if_neg h, if_neg h, hcf, if_pos rfl, if_pos rfl]
    rfl
end Go.Proofs.Ytdailoccmjeceaa.PAll
