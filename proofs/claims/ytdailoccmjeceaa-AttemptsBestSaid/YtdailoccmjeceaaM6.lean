/- If points rise, the points of all do not fall. Plain Lean: no program in sight. -/
import Derived.Test.YtdailoccmjeceaaM5
namespace Go.Proofs.Ytdailoccmjeceaa.PAll
open Go.RowKit Go.Lib Go.Sort Go.Proofs.YtdailoccmjeceaaW.PrintWords Go.Proofs.YtdailoccmjeceaaW.PrintLast Go.Proofs.YtdailoccmjeceaaW.PrintMore
set_option linter.unusedVariables false
set_option linter.unusedSimpArgs false

/-- one number laid into a descending list -/
def insD (x : Int) : List Int → List Int
  | [] => [x]
  | a :: s => if x ≤ a then a :: insD x s else x :: a :: s
def sortD (l : List Int) : List Int := l.foldr insD []
def descL (l : List Int) : Prop := l.Pairwise (fun a b => b ≤ a)
theorem insD_perm (x : Int) : ∀ s, (insD x s).Perm (x :: s)
  | [] => List.Perm.refl _
  | a :: s => by
    unfold insD
    split
    · exact ((insD_perm x s).cons a).trans (List.Perm.swap x a s)
    · exact List.Perm.refl _
theorem insD_desc (x : Int) : ∀ s, descL s → descL (insD x s)
  | [], _ => by simp [insD, descL]
  | a :: s, h => by
    unfold descL at h
    rw [List.pairwise_cons] at h
    unfold insD
    split
    · rename_i hx
      unfold descL
      rw [List.pairwise_cons]
      refine ⟨fun b hb => ?_, insD_desc x s h.2⟩
      rcases List.mem_cons.1 ((insD_perm x s).mem_iff.1 hb) with rfl | hb
      · exact hx
      · exact h.1 b hb
    · rename_i hx
      unfold descL
      rw [List.pairwise_cons, List.pairwise_cons]
      refine ⟨fun b hb => ?_, h⟩
      rcases List.mem_cons.1 hb with rfl | hb
      · omega
      · have := h.1 b hb; omega
theorem sortD_perm : ∀ l, (sortD l).Perm l
  | [] => List.Perm.refl _
  | x :: l => (insD_perm x (sortD l)).trans ((sortD_perm l).cons x)
theorem sortD_desc : ∀ l, descL (sortD l)
  | [] => by simp [sortD, descL]
  | x :: l => insD_desc x _ (sortD_desc l)
theorem desc_unique {a b : List Int} (ha : descL a) (hb : descL b) (h : a.Perm b) : a = b :=
  List.Perm.eq_of_pairwise (le := fun x y => y ≤ x) (fun x y _ _ h1 h2 => by omega) ha hb h
/-- as long, and nowhere greater -/
def leL : List Int → List Int → Prop
  | [], [] => True
  | a :: s, b :: t => a ≤ b ∧ leL s t
  | _, _ => False
theorem insD_top (b : Int) : ∀ t, (∀ c ∈ t, c ≤ b) → insD b t = b :: t
  | [], _ => rfl
  | c :: t, h => by
    unfold insD
    split
    · rename_i hb
      have hc := h c (List.mem_cons_self ..)
      have e : c = b := by omega
      rw [insD_top b t (fun d hd => h d (List.mem_cons_of_mem _ hd)), e]
    · rfl
theorem insD_le : ∀ (s t : List Int) (x y : Int), descL s → descL t → leL s t → x ≤ y → leL (insD x s) (insD y t)
  | [], [], x, y, _, _, _, h => ⟨h, trivial⟩
  | [], b :: t, _, _, _, _, h, _ => h.elim
  | a :: s, [], _, _, _, _, h, _ => h.elim
  | a :: s, b :: t, x, y, hs, ht, h, hxy => by
    unfold descL at hs ht
    rw [List.pairwise_cons] at hs ht
    have hab : a ≤ b := h.1
    have hst : leL s t := h.2
    unfold insD
    by_cases h1 : x ≤ a
    · rw [if_pos h1]
      by_cases h2 : y ≤ b
      · rw [if_pos h2]
        exact ⟨hab, insD_le s t x y hs.2 ht.2 hst hxy⟩
      · rw [if_neg h2]
        refine ⟨by omega, ?_⟩
        rw [← insD_top b t ht.1]
        exact insD_le s t x b hs.2 ht.2 hst (by omega)
    · rw [if_neg h1]
      by_cases h2 : y ≤ b
      · rw [if_pos h2]
        refine ⟨by omega, ?_⟩
        rw [← insD_top a s hs.1]
        exact insD_le s t a y hs.2 ht.2 hst (by omega)
      · rw [if_neg h2]
        exact ⟨hxy, hab, hst⟩
theorem sortD_le : ∀ (l m : List Int), leL l m → leL (sortD l) (sortD m)
  | [], [], _ => trivial
  | [], _ :: _, h => h.elim
  | _ :: _, [], h => h.elim
  | x :: l, y :: m, h => insD_le _ _ x y (sortD_desc l) (sortD_desc m) (sortD_le l m h.2) h.1
theorem leL_len : ∀ (l m : List Int), leL l m → l.length = m.length
  | [], [], _ => rfl
  | [], _ :: _, h => h.elim
  | _ :: _, [], h => h.elim
  | _ :: l, _ :: m, h => by simp [leL_len l m h.2]
theorem leL_sum : ∀ (l m : List Int) (k : Nat), leL l m → (l.take k).sum ≤ (m.take k).sum
  | [], [], _, _ => Int.le_refl _
  | [], _ :: _, _, h => h.elim
  | _ :: _, [], _, h => h.elim
  | a :: l, b :: m, 0, h => by simp
  | a :: l, b :: m, k + 1, h => by
    have := leL_sum l m k h.2
    have := h.1
    simp
    omega
/-- the points, descending -/
theorem points_desc (l : List S38) (h : asc l) : (sorted38 l).map S38.f2 = sortD (l.map S38.f2) := by
  refine desc_unique ?_ (sortD_desc _) (((sorted38_perm l).map S38.f2).trans (sortD_perm _).symm)
  unfold descL
  rw [List.pairwise_map]
  refine List.Pairwise.imp ?_ (sorted_strict l h)
  intro x y hxy
  unfold befB at hxy
  rw [decide_eq_true_eq] at hxy
  omega
theorem sum_top (l : List S38) (h : asc l) (k : Nat) : sum38 ((sorted38 l).take k) = ((sortD (l.map S38.f2)).take k).sum := by
  unfold sum38
  rw [List.map_take, points_desc l h]
theorem tdiv_mono {a b n : Int} (h0 : 0 ≤ a) (hab : a ≤ b) (hn : 0 < n) : Int.tdiv a n ≤ Int.tdiv b n := by
  rw [Int.tdiv_eq_ediv_of_nonneg h0, Int.tdiv_eq_ediv_of_nonneg (by omega)]
  exact Int.ediv_le_ediv hn hab
theorem avg_one (x : S38) (h : 0 ≤ x.f2) : avg [x] = x.f2 := by
  unfold avg
  rw [if_neg (by simp), sum38_cons]
  have e : sum38 ([] : List S38) = 0 := rfl
  rw [e, Int.tdiv_eq_ediv_of_nonneg (by simp; omega)]
  simp
  omega
theorem avg_nil : avg [] = 0 := rfl
/-- the points of AttemptLast -/
theorem points_last (q : Int) (l : List S38) (x : S38) (h : 0 ≤ x.f2) : pointsA 1 q (l ++ [x]) = x.f2 := by
  unfold pointsA chosenL
  rw [if_pos rfl, List.reverse_append]
  exact avg_one x h
theorem avg_top_le (l m : List S38) (hl : asc l) (hm : asc m) (hr : inR l) (hle : leL (l.map S38.f2) (m.map S38.f2)) (k : Nat) : avg ((sorted38 l).take k) ≤ avg ((sorted38 m).take k) := by
  have hlen : l.length = m.length := by simpa using leL_len _ _ hle
  have h1 := leL_sum _ _ k (sortD_le _ _ hle)
  rw [← sum_top l hl, ← sum_top m hm] at h1
  have h2 : ((sorted38 l).take k).length = ((sorted38 m).take k).length := by
    rw [List.length_take, List.length_take, sorted38_len, sorted38_len, hlen]
  have h3 := sum38_bound ((sorted38 l).take k) (fun x hx => hr x ((sorted38_perm l).mem_iff.1 (List.mem_of_mem_take hx)))
  unfold avg
  by_cases h : (sorted38 l).take k = []
  · have h' : (sorted38 m).take k = [] := List.eq_nil_of_length_eq_zero (by rw [← h2, h]; rfl)
    rw [if_pos h, if_pos h']
    exact Int.le_refl _
  · have hp := List.length_pos_iff.2 h
    have h' : ¬ (sorted38 m).take k = [] := fun e => by rw [e] at h2; simp only [List.length_nil] at h2; omega
    rw [if_neg h, if_neg h', ← h2]
    exact tdiv_mono (by omega) (by omega) (by omega)
/-- if points rise, the points of all do not fall -/
theorem points_mono (k q : Int) (l m : List S38) (hl : asc l) (hm : asc m) (hr : inR l) (hr2 : inR m) (hle : leL (l.map S38.f2) (m.map S38.f2)) : pointsA k q l ≤ pointsA k q m := by
  by_cases hk : k = 1
  · subst hk
    have hlen : l.length = m.length := by simpa using leL_len _ _ hle
    rcases List.eq_nil_or_concat l with rfl | ⟨ys, y, rfl⟩
    · have : m = [] := List.eq_nil_of_length_eq_zero (by rw [← hlen]; rfl)
      subst this
      exact Int.le_refl _
    · rcases List.eq_nil_or_concat m with rfl | ⟨zs, z, rfl⟩
      · simp at hlen
      · rw [List.concat_eq_append] at *
        rw [List.concat_eq_append] at *
        rw [points_last q ys y (hr y (by simp)).1, points_last q zs z (hr2 z (by simp)).1]
        have h1 : ys.length = zs.length := by simpa using hlen
        have key : ∀ (ys zs : List Int) (y z : Int), ys.length = zs.length → leL (ys ++ [y]) (zs ++ [z]) → y ≤ z := by
          intro ys
          induction ys with
          | nil =>
            intro zs y z h1 h2
            have : zs = [] := List.eq_nil_of_length_eq_zero h1.symm
            subst this
            exact h2.1
          | cons a s ih =>
            intro zs y z h1 h2
            cases zs with
            | nil => simp at h1
            | cons b t => exact ih t y z (by simpa using h1) h2.2
        have h2 : leL (ys.map S38.f2 ++ [y.f2]) (zs.map S38.f2 ++ [z.f2]) := by simpa using hle
        exact key _ _ _ _ (by simpa using h1) h2
  · unfold pointsA chosenL
    rw [if_neg hk, if_neg hk]
    exact avg_top_le l m hl hm hr hle _
end Go.Proofs.Ytdailoccmjeceaa.PAll
