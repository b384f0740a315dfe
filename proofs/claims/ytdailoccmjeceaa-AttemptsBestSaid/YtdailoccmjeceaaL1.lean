/- The reference's Final and Needed, as the print of the program's functions has them, are the plain words; the example of the chapter holds. -/
import Derived.Test.YtdailoccmjeceaaM7
import Derived.Test.YtdailoccmjeceaaPAllxf27
import Derived.Test.YtdailoccmjeceaaPAllxf14
namespace Go.Proofs.Ytdailoccmjeceaa.PAll
open Go.RowKit Go.Lib Go.Sort Go.Proofs.YtdailoccmjeceaaW.PrintWords Go.Proofs.YtdailoccmjeceaaW.PrintLast Go.Proofs.YtdailoccmjeceaaW.PrintMore
set_option linter.unusedVariables false
set_option linter.unusedSimpArgs false

/-- the points by the attempts that count, in the order of their numbers -/
def pointsF (k q : Int) (l : List S38) : Int := avg (l.filter (selP k q l))
theorem points_eq (k q : Int) {l : List S38} (h : num l) : pointsA k q l = pointsF k q l := avg_perm (chosen_filter k q h)

theorem rfinal_l0 (l F : List S38) (hn : num l) (hl : l.length ≤ 20) (hF : ∀ x ∈ F, x ∈ l) (hc : F.length ≤ 20) (hp : F ≠ []) (hr : inR F) : ∀ (n j : Nat) (s : Int) (K : Nat), F.length - j = n → j ≤ F.length → 0 ≤ s → s ≤ j * 100000000 → n + 1 ≤ K →
    assessorref52_Final.l0 K l (F.map S38.f0) s (j : Int) = some (Int.tdiv (2 * (s + sum38 (F.drop j)) + F.length) (2 * F.length), 0) := by
  have hpos : 0 < F.length := List.length_pos_iff.2 hp
  have hlm : (F.map S38.f0).length = F.length := by simp
  intro n
  induction n with
  | zero =>
    intro j s K h1 h2 h3 h4 h5
    obtain ⟨K, rfl⟩ : ∃ K', K = K' + 1 := ⟨K - 1, by omega⟩
    have : j = F.length := by omega
    subst this
    have h6 : s ≤ 2000000000 := by
      have : ((F.length : Nat) : Int) * 100000000 ≤ 20 * 100000000 := Int.mul_le_mul_of_nonneg_right (by omega) (by decide)
      omega
    rw [assessorref52_Final.l0, hlm, if_neg (by omega), w64 (x := 2 * (F.length : Int)) (by omega) (by omega), if_neg (by omega), w64 (x := 2 * s) (by omega) (by omega), w64 (x := 2 * s + (F.length : Int)) (by omega) (by omega), List.drop_length]
    have e : sum38 ([] : List S38) = 0 := rfl
    rw [e, Int.add_zero]
    have h7 : 0 ≤ Int.tdiv (2 * s + (F.length : Int)) (2 * (F.length : Int)) := Int.tdiv_nonneg (by omega) (by omega)
    have h8 : Int.tdiv (2 * s + (F.length : Int)) (2 * (F.length : Int)) ≤ 2 * s + (F.length : Int) := by
      rw [Int.tdiv_eq_ediv_of_nonneg (by omega)]
      exact Int.ediv_le_self _ (by omega)
    rw [w64 (by omega) (by omega)]
  | succ n ih =>
    intro j s K h1 h2 h3 h4 h5
    obtain ⟨K, rfl⟩ : ∃ K', K = K' + 1 := ⟨K - 1, by omega⟩
    have hj : j < F.length := by omega
    have hx := hr F[j] (List.getElem_mem hj)
    obtain ⟨i, hi, ei⟩ := List.getElem_of_mem (hF F[j] (List.getElem_mem hj))
    have h6 : s ≤ 2000000000 := by
      have : ((j : Nat) : Int) * 100000000 ≤ 20 * 100000000 := Int.mul_le_mul_of_nonneg_right (by omega) (by decide)
      omega
    have hrd : YtdailoccmjeceaaW.PrintWords.rd (F.map S38.f0) (j : Int) = (i : Int) + 1 := by
      have : YtdailoccmjeceaaW.PrintWords.rd (F.map S38.f0) (j : Int) = F[j].f0 := by simp [YtdailoccmjeceaaW.PrintWords.rd, List.getD_eq_getElem?_getD, hj]
      rw [this, ← ei, hn i hi]
    have hw : wrap64 (YtdailoccmjeceaaW.PrintWords.rd (F.map S38.f0) (j : Int) - 1) = (i : Int) := by rw [hrd, w64 (by omega) (by omega)]; omega
    rw [assessorref52_Final.l0, hlm, if_pos (by omega), if_pos (by omega), hw, if_pos (by omega), if_pos (by omega), rdn l i hi, ei, w64 (x := s + F[j].f2) (by omega) (by omega), w64 (x := (j : Int) + 1) (by omega) (by omega)]
    have e := ih (j + 1) (s + F[j].f2) K (by omega) (by omega) (by omega) (by
      have : ((j + 1 : Nat) : Int) = (j : Int) + 1 := rfl
      rw [this, Int.add_mul]; omega) (by omega)
    rw [show ((j + 1 : Nat) : Int) = (j : Int) + 1 from rfl] at e
    rw [e, List.drop_eq_getElem_cons hj, sum38_cons, Int.add_assoc]
/-- the reference's Final -/
theorem rFinal_f (k m p q : Int) (l : List S38) (K : Nat) (hK : 25 ≤ K) : assessorref52_Final.f K k m p q l = some (if validA k m p q l = true then (pointsA k q l, 0) else (0, 1)) := by
  unfold assessorref52_Final.f assessorref52_Valid.f assessorref52_Counting.f
  simp only [Option.bind_some]
  by_cases h : validA k m p q l = true
  · rw [if_pos h, if_pos h, count_filter h, points_eq k q (validA_num h)]
    have hlen := (validA_len h).2.1
    have hfl : (l.filter (selP k q l)).length ≤ l.length := List.length_filter_le _ _
    unfold pointsF avg
    by_cases hF : l.filter (selP k q l) = []
    · rw [hF]; rfl
    · rw [if_neg hF, if_neg (by have := List.length_pos_iff.2 hF; rw [List.length_map]; omega)]
      have e := rfinal_l0 l (l.filter (selP k q l)) (validA_num h) (by omega) (fun x hx => (List.mem_filter.1 hx).1) (by omega) hF (fun x hx => validA_inR h x (List.mem_filter.1 hx).1) _ 0 0 K rfl (by omega) (by omega) (by omega) (by omega)
      simpa using e
  · rw [if_neg h, if_neg h]
/-- the reference's points with a further attempt -/
theorem rwith_f (k m p q : Int) (l : List S38) (hl : l.length ≤ 20) (n : Int) (K : Nat) (hK : 25 ≤ K) : assessorref52_with.f K k m p q l n = some (if validA k m p q (furtherA l n) = true then pointsA k q (furtherA l n) else 0) := by
  unfold assessorref52_with.f
  have hfin : ∀ L, L = furtherA l n → (assessorref52_Final.f K k m p q L).bind (fun bt => some bt.1) = some (if validA k m p q (furtherA l n) = true then pointsA k q (furtherA l n) else 0) := by
    intro L hL
    rw [hL, rFinal_f k m p q _ K hK]
    simp only [Option.bind_some]
    split <;> rfl
  rw [w64 (x := (l.length : Int) + 1) (by omega) (by omega)]
  simp only [Option.bind_some, List.nil_append]
  have hfu : furtherA l n = l ++ [⟨(l.length : Int) + 1, lastA l, n⟩] := rfl
  by_cases h : l = []
  · subst h
    rw [if_neg (by simp)]
    rw [if_pos (by simp), if_pos (by simp)]
    exact hfin _ rfl
  · have hp := List.length_pos_iff.2 h
    have e : wrap64 ((l.length : Int) - 1) = ((l.length - 1 : Nat) : Int) := by rw [w64 (by omega) (by omega)]; omega
    rw [if_pos (by omega), e, if_pos (by omega), if_pos (by omega), if_pos (by simp; omega), if_pos (by simp; omega)]
    refine hfin _ ?_
    rw [hfu]
    unfold lastA
    rw [if_neg h, rdn l _ (by omega), getD38' l _ (by omega)]
theorem rneeded_l0 (k m p q : Int) (l : List S38) (h : validA k m p q l = true) (hm : (l.length : Int) ≠ m) (goal : Int) : ∀ (fu : Nat) (lo hi : Int) (K : Nat), -1 ≤ lo → lo < hi → hi ≤ 100000000 → hi - lo ≤ 2 ^ fu → fu + 26 ≤ K →
    assessorref52_Needed.l0 K l goal lo hi k m p q = some (halvesR (enoughA k q l goal) fu lo hi, true) := by
  intro fu
  induction fu with
  | zero =>
    intro lo hi K h0 h1 h2 h3 h4
    obtain ⟨K, rfl⟩ : ∃ K', K = K' + 1 := ⟨K - 1, by omega⟩
    simp at h3
    rw [assessorref52_Needed.l0, w64 (by omega) (by omega), if_neg (by omega)]
    rfl
  | succ fu ih =>
    intro lo hi K h0 h1 h2 h3 h4
    obtain ⟨K, rfl⟩ : ∃ K', K = K' + 1 := ⟨K - 1, by omega⟩
    rw [Int.pow_succ] at h3
    rw [assessorref52_Needed.l0, halvesR, w64 (x := hi - lo) (by omega) (by omega)]
    by_cases h5 : hi - lo > 1
    · obtain ⟨m1, m2, m3, m4⟩ := mid_tdiv h0 h5
      rw [if_pos h5, if_pos h5, w64 (x := lo + hi) (by omega) (by omega), w64 (x := (lo + hi).tdiv 2) (by omega) (by omega), rwith_f k m p q l (by have := (validA_len h).2.1; omega) _ K (by omega)]
      simp only [Option.bind_some]
      rw [if_pos ((further_valid h hm _).2 ⟨m3, by omega⟩)]
      by_cases h6 : goal ≤ pointsA k q (furtherA l ((lo + hi).tdiv 2))
      · have he : enoughA k q l goal ((lo + hi).tdiv 2) = true := decide_eq_true h6
        rw [if_pos h6, if_pos he]
        exact ih lo _ K h0 m1 (by omega) (by omega) (by omega)
      · have he : enoughA k q l goal ((lo + hi).tdiv 2) = false := decide_eq_false h6
        rw [if_neg h6, if_neg (by rw [he]; decide)]
        exact ih _ hi K (by omega) m2 h2 (by omega) (by omega)
    · rw [if_neg h5, if_neg h5]
theorem rneeded_j0 (k m p q : Int) (l : List S38) (goal : Int) (x : Bool) (K : Nat) : assessorref52_Needed.j0 (K + 1) l goal x k m p q = if x = true then some (0, false) else assessorref52_Needed.l0 K l goal (-1) 100000000 k m p q := by
  rw [assessorref52_Needed.j0]
/-- the reference's Needed is the program's -/
theorem rNeeded_f (k m p q : Int) (l : List S38) (goal : Int) (K : Nat) (hK : 60 ≤ K) : assessorref52_Needed.f K k m p q l goal = some (neededA k m p q l goal) := by
  obtain ⟨K, rfl⟩ : ∃ K', K = K' + 1 := ⟨K - 1, by omega⟩
  have hneg : ¬ (validA k m p q l = true ∧ (l.length : Int) ≠ m ∧ enoughA k q l goal 100000000 = true) → neededA k m p q l goal = (0, false) := fun h => by unfold neededA; rw [if_neg h]
  unfold assessorref52_Needed.f assessorref52_Valid.f
  simp only [Option.bind_some, rneeded_j0]
  by_cases h : validA k m p q l = true
  · rw [if_pos h]
    by_cases hm : (l.length : Int) = m
    · rw [if_pos hm, hneg (fun h' => h'.2.1 hm)]
      rfl
    · rw [if_neg hm, rwith_f k m p q l (by have := (validA_len h).2.1; omega) _ _ (by omega)]
      rw [Option.bind_some, if_pos ((further_valid h hm _).2 ⟨by omega, by omega⟩)]
      by_cases he : enoughA k q l goal 100000000 = true
      · have hg := of_decide_eq_true he
        rw [decide_eq_false (by omega), if_neg (by decide)]
        have hri := enough_rises k q (validA_num h) (validA_inR h) goal
        rw [rneeded_l0 k m p q l h hm goal 27 (-1) 100000000 K (by omega) (by omega) (by omega) (by decide) (by omega)]
        unfold neededA
        rw [if_pos ⟨h, hm, he⟩]
        congr 2
        exact least_unique (halvesR_least _ hri 27 (-1) 100000000 (by omega) (by omega) (by omega) (by decide) he (fun n h0 h1 => by omega)) (halves_least _ hri 100000001 0 100000000 (by omega) (by omega) (by omega) (by omega) he (fun n h0 h1 => by omega))
      · have he' : enoughA k q l goal 100000000 = false := by simpa using he
        have hg := of_decide_eq_false he'
        rw [hneg (fun h' => he h'.2.2), decide_eq_true (by omega), if_pos rfl]
  · rw [if_neg h, hneg (fun h' => h h'.1)]
    rfl
theorem Ints_l0 (a : List Int) (ha : a.length ≤ 100) : ∀ (n j K : Nat), a.length - j = n → j ≤ a.length → n + 1 ≤ K → assessorref49_Ints.l0 K a a (j : Int) = some true := by
  intro n
  induction n with
  | zero =>
    intro j K h1 h2 h3
    obtain ⟨K, rfl⟩ : ∃ K', K = K' + 1 := ⟨K - 1, by omega⟩
    rw [assessorref49_Ints.l0, if_neg (by omega)]
  | succ n ih =>
    intro j K h1 h2 h3
    obtain ⟨K, rfl⟩ : ∃ K', K = K' + 1 := ⟨K - 1, by omega⟩
    rw [assessorref49_Ints.l0, if_pos (by omega), if_pos (by omega), if_pos (by omega), if_pos rfl, w64 (by omega) (by omega)]
    exact ih (j + 1) K (by omega) (by omega) (by omega)
theorem Ints_f (a : List Int) (ha : a.length ≤ 50) (K : Nat) (hK : 60 ≤ K) : assessorref49_Ints.f K a a = some true := by
  unfold assessorref49_Ints.f
  rw [if_pos rfl]
  exact Ints_l0 a (by omega) a.length 0 K (by omega) (by omega) (by omega)
/-- the example -/
def ex3 : List S38 := [⟨1, 0, 50⟩, ⟨2, 0, 80⟩, ⟨3, 0, 71⟩]
theorem ex3_valid : validA 2 5 0 2 ex3 = true := by kernel_rfl
theorem ex3_points : pointsA 2 2 ex3 = 76 := by rw [points_eq 2 2 (validA_num ex3_valid)]; kernel_rfl
theorem ex3_enough (n : Int) (r : Bool) (h : decide (85 ≤ pointsF 2 2 (furtherA ex3 n)) = r) : enoughA 2 2 ex3 85 n = r := by
  unfold enoughA
  rw [points_eq 2 2 (further_num (validA_num ex3_valid) n)]
  exact h
theorem ex3_needed : neededA 2 5 0 2 ex3 85 = (89, true) := by
  have hri := enough_rises 2 2 (validA_num ex3_valid) (validA_inR ex3_valid) 85
  have hMP : enoughA 2 2 ex3 85 100000000 = true := ex3_enough _ _ (by kernel_rfl)
  have h89 : enoughA 2 2 ex3 85 89 = true := ex3_enough _ _ (by kernel_rfl)
  have h88 : enoughA 2 2 ex3 85 88 = false := ex3_enough _ _ (by kernel_rfl)
  unfold neededA
  rw [if_pos ⟨ex3_valid, by decide, hMP⟩]
  congr 1
  refine least_unique (halves_least _ hri 100000001 0 100000000 (by omega) (by omega) (by omega) (by omega) hMP (fun n h0 h1 => by omega)) ⟨by omega, by omega, h89, fun n h0 h1 => ?_⟩
  cases hn : enoughA 2 2 ex3 85 n with
  | false => rfl
  | true => have := hri n 88 h0 (by omega) (by omega) hn; rw [h88] at this; cases this
theorem ex3_count : countA 2 5 0 2 ex3 = [2, 3] := by rw [count_eq]; kernel_rfl
theorem awake_f : assessorlaw52_awake.f 100 = some true := by
  unfold assessorlaw52_awake.f attempts_Needed.f attempts_Counting.f
  simp only [Option.bind_some]
  have e1 := Final_f 2 5 0 2 ex3 100 (by omega)
  rw [if_pos ex3_valid, ex3_points] at e1
  have e2 := ex3_needed
  have e3 := ex3_count
  unfold ex3 at e1 e2 e3
  rw [e1, e2, e3]
  have e4 : slices_Equal_int_int.f 100 [2, 3] [2, 3] = some true := by kernel_rfl
  simp only [Option.bind_some, e4]
  rfl
end Go.Proofs.Ytdailoccmjeceaa.PAll
