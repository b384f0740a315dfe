/- The program's points of attempts, as its print has them, are the plain words; the attempts that count are some of all. -/
import Derived.Test.YtdailoccmjeceaaM2
namespace Go.Proofs.Ytdailoccmjeceaa.PAll
open Go.RowKit Go.Lib Go.Sort Go.Proofs.YtdailoccmjeceaaW.PrintWords Go.Proofs.YtdailoccmjeceaaW.PrintLast Go.Proofs.YtdailoccmjeceaaW.PrintMore
set_option linter.unusedVariables false
set_option linter.unusedSimpArgs false

theorem extract_all {α : Type} (a : Array α) (n : Nat) (h : n = a.size) : a.extract 0 n = a := by subst h; simp
theorem sorted38_perm (l : List S38) : (sorted38 l).Perm l := by
  have h := (insertionSort_holds (lt := ltOf cf38) swo38 l.toArray 0 l.length (Nat.zero_le _) (by simp)).1
  have h1 := h.1
  have h2 := h.2.2
  unfold sorted38
  have e1 := extract_all (Sort.insertionSort (ltOf cf38) l.toArray 0 l.length) l.length (by rw [h1]; simp)
  have e2 := extract_all l.toArray l.length (by simp)
  rw [e1, e2] at h2
  simpa using h2
theorem chosenL_mem {k q : Int} {l : List S38} {x : S38} (h : x ∈ chosenL k q l) : x ∈ l := by
  unfold chosenL at h
  split at h
  · exact List.mem_reverse.1 (List.mem_of_mem_take h)
  · exact (sorted38_perm l).mem_iff.1 (List.mem_of_mem_take h)
theorem chosenL_len (k q : Int) (l : List S38) : (chosenL k q l).length ≤ l.length := by
  unfold chosenL
  split
  · simp; omega
  · simp [sorted38_len]; omega
/-- points in their range -/
def inR (l : List S38) : Prop := ∀ x ∈ l, 0 ≤ x.f2 ∧ x.f2 ≤ 100000000
theorem sum38_cons (x : S38) (l : List S38) : sum38 (x :: l) = x.f2 + sum38 l := by simp [sum38]
theorem sum38_bound : ∀ l : List S38, inR l → 0 ≤ sum38 l ∧ sum38 l ≤ l.length * 100000000
  | [], _ => by simp [sum38]
  | x :: xs, h => by
    have h1 := sum38_bound xs (fun y hy => h y (List.mem_cons_of_mem _ hy))
    have h2 := h x (List.mem_cons_self ..)
    rw [sum38_cons]
    simp only [List.length_cons]
    omega
theorem points_l0 (c : List S38) (hc : c.length < 20) (hp : c ≠ []) (hr : inR c) : ∀ (n j : Nat) (s : Int) (K : Nat), c.length - j = n → j ≤ c.length → 0 ≤ s → s ≤ j * 100000000 → n + 1 ≤ K →
    attempts_points.l0 K c s c (c.length : Int) (j : Int) = some (Int.tdiv (2 * (s + sum38 (c.drop j)) + c.length) (2 * c.length)) := by
  have hpos : 0 < c.length := List.length_pos_iff.2 hp
  intro n
  induction n with
  | zero =>
    intro j s K h1 h2 h3 h4 h5
    obtain ⟨K, rfl⟩ : ∃ K', K = K' + 1 := ⟨K - 1, by omega⟩
    have : j = c.length := by omega
    subst this
    have h6 : s ≤ 2000000000 := by
      have : ((c.length : Nat) : Int) * 100000000 ≤ 19 * 100000000 := Int.mul_le_mul_of_nonneg_right (by omega) (by decide)
      omega
    rw [attempts_points.l0, if_neg (by omega), w64 (x := 2 * (c.length : Int)) (by omega) (by omega), if_neg (by omega), w64 (x := 2 * s) (by omega) (by omega), w64 (x := 2 * s + (c.length : Int)) (by omega) (by omega), List.drop_length]
    have e : sum38 ([] : List S38) = 0 := rfl
    rw [e, Int.add_zero]
    have h7 : 0 ≤ Int.tdiv (2 * s + (c.length : Int)) (2 * (c.length : Int)) := Int.tdiv_nonneg (by omega) (by omega)
    have h8 : Int.tdiv (2 * s + (c.length : Int)) (2 * (c.length : Int)) ≤ 2 * s + (c.length : Int) := by
      rw [Int.tdiv_eq_ediv_of_nonneg (by omega)]
      exact Int.ediv_le_self _ (by omega)
    rw [w64 (by omega) (by omega)]
  | succ n ih =>
    intro j s K h1 h2 h3 h4 h5
    obtain ⟨K, rfl⟩ : ∃ K', K = K' + 1 := ⟨K - 1, by omega⟩
    have hj : j < c.length := by omega
    have hx := hr c[j] (List.getElem_mem hj)
    have h6 : s ≤ 2000000000 := by
      have : ((j : Nat) : Int) * 100000000 ≤ 19 * 100000000 := Int.mul_le_mul_of_nonneg_right (by omega) (by decide)
      omega
    rw [attempts_points.l0, if_pos (by omega), if_pos (by omega), if_pos (by omega), rdn c j hj, w64 (x := s + c[j].f2) (by omega) (by omega), w64 (x := (j : Int) + 1) (by omega) (by omega)]
    have e := ih (j + 1) (s + c[j].f2) K (by omega) (by omega) (by omega) (by
      have : ((j + 1 : Nat) : Int) = (j : Int) + 1 := rfl
      rw [this, Int.add_mul]; omega) (by omega)
    rw [show ((j + 1 : Nat) : Int) = (j : Int) + 1 from rfl] at e
    rw [e, List.drop_eq_getElem_cons hj, sum38_cons, Int.add_assoc]
/-- the program's points -/
theorem points_f (k m p q : Int) (l : List S38) (K : Nat) (hK : 20 ≤ K) (hl : l.length < 20) (hr : inR l) : attempts_points.f K k m p q l = some (pointsA k q l) := by
  unfold attempts_points.f attempts_chosen.f
  rw [if_pos hl]
  simp only [Option.bind_some]
  unfold pointsA avg
  have hc := chosenL_len k q l
  by_cases h : chosenL k q l = []
  · rw [h]; rfl
  · rw [if_neg h, if_neg (by have := List.length_pos_iff.2 h; omega)]
    have e := points_l0 (chosenL k q l) (by omega) h (fun x hx => hr x (chosenL_mem hx)) (chosenL k q l).length 0 0 K (by omega) (by omega) (by omega) (by omega) (by omega)
    simpa using e
theorem validA_inR {k m p q : Int} {l : List S38} (h : validA k m p q l = true) : inR l := by
  intro x hx
  obtain ⟨j, hj, rfl⟩ := List.getElem_of_mem hx
  exact (okL_get l 0 1 (validA_len h).2.2.2 j hj).2.2.2
/-- the program's Final -/
theorem Final_f (k m p q : Int) (l : List S38) (K : Nat) (hK : 20 ≤ K) : attempts_Final.f K k m p q l = some (if validA k m p q l = true then (pointsA k q l, 0) else (0, 1)) := by
  unfold attempts_Final.f
  rw [Valid_f k m p q l K hK]
  simp only [Option.bind_some]
  by_cases h : validA k m p q l = true
  · rw [if_pos h, if_pos h, points_f k m p q l K hK (by have := (validA_len h).2.1; omega) (validA_inR h)]
    rfl
  · rw [if_neg h, if_neg h]
end Go.Proofs.Ytdailoccmjeceaa.PAll
