/- The law AttemptsBest holds of the plain words. -/
import Derived.Test.YtdailoccmjeceaaLo
import Derived.Test.YtdailoccmjeceaaM9
import Derived.Test.YtdailoccmjeceaaPAllxf6
namespace Go.Proofs.Ytdailoccmjeceaa.PAll
open Go.RowKit Go.Lib Go.Sort Go.Proofs.YtdailoccmjeceaaW.PrintWords Go.Proofs.YtdailoccmjeceaaW.PrintLast Go.Proofs.YtdailoccmjeceaaW.PrintMore
set_option linter.unusedVariables false
set_option linter.unusedSimpArgs false

theorem inR_further' (l : List S38) (n : Int) (h : inR l) (h0 : 0 ≤ n) (h1 : n ≤ 100000000) : inR (furtherA l n) := inR_further l n h h0 h1
theorem best_further {l : List S38} (hn : num l) (hr : inR l) (hl : l ≠ []) (v : Int) (h0 : 0 ≤ v) (h1 : v ≤ 100000000) : pointsA 0 0 (furtherA l v) = mx (pointsA 0 0 l) v := by
  obtain ⟨⟨x, hx, ex⟩, hb⟩ := best_spec (num_asc hn) hr hl
  obtain ⟨⟨y, hy, ey⟩, hc⟩ := best_spec (num_asc (further_num hn v)) (inR_further l v hr h0 h1) (by unfold furtherA; simp)
  have hm : ∀ z, z ∈ furtherA l v ↔ z ∈ l ∨ z = ⟨(l.length : Int) + 1, lastA l, v⟩ := fun z => by unfold furtherA; simp
  have h2 := hc x ((hm x).2 (.inl hx))
  have h3 := hc _ ((hm _).2 (.inr rfl))
  have h3' : v ≤ pointsA 0 0 (furtherA l v) := h3
  unfold mx
  rcases (hm y).1 hy with h4 | h4
  · have h5 := hb y h4
    split <;> omega
  · subst h4
    have e : pointsA 0 0 (furtherA l v) = v := ey
    split <;> omega
theorem best_valid {k m p q : Int} {l : List S38} (h : validA k m p q l = true) : validA 0 m p 0 l = true := by
  obtain ⟨h1, h2, h3⟩ := (validA_iff k m p q l).1 h
  have hr := rightB_most h1
  rw [validA_iff]
  exact ⟨decide_eq_true (by omega), h2, h3⟩
theorem best_j2t (m p : Int) (k q : Int) (l : List S38) (v a : Int) (K : Nat) : assessorlaw52_AttemptsBest.j2 (K + 1) l v a true k m p q = some true := by
  rw [assessorlaw52_AttemptsBest.j2, if_pos rfl]
theorem best_j1 (k m p q : Int) (l : List S38) (h : validA k m p q l = true) (hl : l ≠ []) (v : Int) (K : Nat) (hK : 30 ≤ K) : assessorlaw52_AttemptsBest.j1 (K + 1) l v (pointsA 0 0 l) false k m p q 0 m p 0 = some true := by
  obtain ⟨K, rfl⟩ : ∃ K', K = K' + 1 := ⟨K - 1, by omega⟩
  have h16 := (validA_len h).2.1
  have hb := best_valid h
  rw [assessorlaw52_AttemptsBest.j1, if_neg (by decide), best_j2t]
  by_cases hm : (l.length : Int) = m
  · rw [if_pos hm]
  rw [if_neg hm]
  by_cases h0 : v < 0
  · rw [if_pos h0]
  rw [if_neg h0]
  by_cases h1 : v > 100000000
  · rw [decide_eq_true h1]; exact best_j2t m p 0 0 l v _ K
  · rw [decide_eq_false h1, assessorlaw52_AttemptsBest.j2, if_neg (by decide), lawNext_f l v (by omega), Option.bind_some, Final_f 0 m p 0 _ K (by omega), Option.bind_some]
    rw [if_pos ((further_valid hb hm v).2 ⟨by omega, by omega⟩), if_pos rfl]
    show some (pointsA 0 0 (furtherA l v) == mx (pointsA 0 0 l) v) = some true
    rw [best_further (validA_num h) (validA_inR h) hl v (by omega) (by omega)]
    simp
theorem best_j0t (k m p q : Int) (l : List S38) (v i j : Int) (K : Nat) : assessorlaw52_AttemptsBest.j0 (K + 1) l v i j true k m p q = some true := by
  rw [assessorlaw52_AttemptsBest.j0, if_pos rfl]
theorem best_true (k m p q : Int) (l : List S38) (v i j : Int) (hi : (Lit.int .u8 i).wf = true) (hj : (Lit.int .u8 j).wf = true) : assessorlaw52_AttemptsBest.f 100 k m p q l v i j = some true := by
  have hir := u8_range hi
  have hjr := u8_range hj
  unfold assessorlaw52_AttemptsBest.f
  rw [awake_f, Option.bind_some, if_pos rfl, show (100 : Nat) = 99 + 1 from rfl, best_j0t]
  by_cases hl : (l.length : Int) > 20
  · rw [if_pos hl]
  rw [if_neg hl]
  by_cases hz : (l.length : Int) = 0
  · rw [if_pos hz]
  rw [if_neg hz, Valid_f k m p q l _ (by omega), Option.bind_some]
  cases h : validA k m p q l with
  | false => exact best_j0t k m p q l v i j 99
  | true =>
    have h16 := (validA_len h).2.1
    have hr := validA_inR h
    have hn := validA_num h
    have hb := best_valid h
    have hne : l ≠ [] := fun e => hz (by rw [e]; rfl)
    obtain ⟨x, hx, ex⟩ := mod_range hir.1 (show 0 < l.length by omega)
    obtain ⟨y, hy, ey⟩ := mod_range hjr.1 (show 0 < l.length by omega)
    have ea : api_Attempt.f l = some l := if_pos (by omega)
    rw [show (!true) = false from rfl, assessorlaw52_AttemptsBest.j0, if_neg (by decide), Final_f 0 m p 0 l 99 (by omega), if_pos hb, Option.bind_some, Final_f k m p q l 99 (by omega), if_pos h, Option.bind_some, ea, Option.bind_some, if_neg hz,
      w64 (x := i) (by omega) (by omega), w64 (x := j) (by omega) (by omega), ex, ey, if_pos (by omega), if_pos (by omega), if_pos (by omega), if_pos (by omega), if_pos (by omega)]
    have e1 : l.set ((x : Int).toNat) ⟨(rd_T38 l (x : Int)).f0, (rd_T38 l (x : Int)).f1, (rd_T38 l (y : Int)).f2⟩ = setP l x l[y].f2 := by
      rw [rdn l y hy]
      unfold setP rd_T38
      rw [Int.toNat_natCast]
    rw [e1, Option.bind_some, if_pos (by omega)]
    have e2 : (setP l x l[y].f2).set ((y : Int).toNat) ⟨(rd_T38 (setP l x l[y].f2) (y : Int)).f0, (rd_T38 (setP l x l[y].f2) (y : Int)).f1, (rd_T38 l (x : Int)).f2⟩ = setP (setP l x l[y].f2) y l[x].f2 := by
      rw [rdn l x hx]
      conv => rhs; unfold setP
      unfold rd_T38
      rw [Int.toNat_natCast]
      rfl
    rw [e2, Option.bind_some]
    have hvx := hr l[x] (List.getElem_mem hx)
    have hvy := hr l[y] (List.getElem_mem hy)
    have v1 : validA k m p q (setP l x l[y].f2) = true := (set_valid h x hx _).2 hvy
    have v2 : validA k m p q (setP (setP l x l[y].f2) y l[x].f2) = true := (set_valid v1 y (by rw [setP_len]; exact hy) _).2 hvx
    have hpm : (l.map S38.f2).Perm ((setP (setP l x l[y].f2) y l[x].f2).map S38.f2) := by
      rw [set_f2, set_f2]
      have := List.set_set_perm (by simpa using hx : x < (l.map S38.f2).length) (by simpa using hy : y < (l.map S38.f2).length)
      rw [List.getElem_map, List.getElem_map] at this
      exact this.symm
    have hn2 := validA_num v2
    generalize setP (setP l x l[y].f2) y l[x].f2 = o at v2 hpm hn2 ⊢
    have hle := points_le_best k q (num_asc hn) hr
    have hord : ∀ k q, k ≠ 1 → pointsA k q l = pointsA k q o := fun k q hk => points_order k q hk (num_asc hn) (num_asc hn2) hpm
    rw [Final_f 0 m p 0 o 99 (by omega), if_pos (best_valid v2), Option.bind_some, Final_f k m p q o 99 (by omega), if_pos v2, Option.bind_some, if_pos rfl, if_pos rfl, if_pos rfl, if_pos rfl]
    rw [if_neg (by show ¬ pointsA k q l > pointsA 0 0 l; omega), if_pos (hord 0 0 (by decide))]
    by_cases hk : k = 1
    · rw [if_pos hk]
      exact best_j1 k m p q l h hne v 98 (by omega)
    · rw [if_neg hk]
      have e3 : (pointsA k q l != pointsA k q o) = false := by rw [hord k q hk]; simp
      show assessorlaw52_AttemptsBest.j1 99 l v (pointsA 0 0 l) (pointsA k q l != pointsA k q o) k m p q 0 m p 0 = some true
      rw [e3]
      exact best_j1 k m p q l h hne v 98 (by omega)
end Go.Proofs.Ytdailoccmjeceaa.PAll
