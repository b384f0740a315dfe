/- Plain: levels, nodes and numbers of paths; what the printed functions over trees come to. -/
import Derived.Test.YtbheobngeocdfaaL0
import Derived.Test.YtbheobngeocdfaaPAllxf24
import Derived.Test.YtbheobngeocdfaaPAllxf28
import Derived.Test.YtbheobngeocdfaaPAllxf29
import Derived.Test.YtbheobngeocdfaaPAllxf33
import Derived.Test.YtbheobngeocdfaaPAllxf34
import Derived.Test.YtbheobngeocdfaaPAllxf35
namespace Go.Proofs.Ytbheobngeocdfaa.PAll
open Go.RowKit Go.Proofs.YtbheobngeocdfaaW.PrintWords Go.Proofs.YtbheobngeocdfaaW.PrintLast Go.Proofs.YtbheobngeocdfaaW.PrintMore
set_option linter.unusedVariables false
set_option linter.unusedSimpArgs false

theorem cast_succ (j : Nat) : ((j : Int) + 1) = ((j + 1 : Nat) : Int) := by omega
theorem wrap_succ {j : Nat} (h : j < 9223372036854775807) : wrap64 ((j : Int) + 1) = ((j + 1 : Nat) : Int) := by rw [wrap_ok (by omega) (by omega), cast_succ]
theorem mx_nat (a b : Nat) : mx (a : Int) (b : Int) = ((max a b : Nat) : Int) := by unfold mx; split <;> omega
theorem rd_nat {xs : List Int} {j : Nat} (h : j < xs.length) : rd xs (j : Int) = xs[j] := by simp [rd, List.getElem?_eq_getElem h]

/-! ### levels -/
mutual
def lev24 : S24 → Nat
  | ⟨_, _, _, _, ks⟩ => levL24 ks + 1
def levL24 : List S24 → Nat
  | [] => 0
  | k :: ks => max (lev24 k) (levL24 ks)
end
theorem lev24_eq (x : S24) : lev24 x = levL24 x.f4 + 1 := by cases x; simp [lev24]
theorem levL24_drop {xs : List S24} {j : Nat} (h : j < xs.length) : levL24 (xs.drop j) = max (lev24 xs[j]) (levL24 (xs.drop (j + 1))) := by
  rw [List.drop_eq_getElem_cons h]; simp [levL24]
theorem levL_le (ks : List S24) (h : ∀ k ∈ ks, lev24 k ≤ (pre24 k).length) : levL24 ks ≤ (preL24 ks).length := by
  induction ks with
  | nil => simp [levL24]
  | cons k ks ih =>
    have h1 := h k (List.mem_cons_self ..)
    have h2 := ih fun y hy => h y (List.mem_cons_of_mem _ hy)
    simp only [levL24, preL24, List.length_append]
    omega
theorem lev_le (x : S24) : lev24 x ≤ (pre24 x).length := by
  induction x using ind24 with
  | h x ih => rw [lev24_eq, pre24_eq, List.length_cons]; have := levL_le x.f4 ih; omega
theorem tlev_l0 (xs : List S24) (H : ∀ k ∈ xs, Ev (fun K => tree_Levels.f K k.f0 k.f1 k.f2 k.f3 k.f4) (lev24 k : Int)) (hl : xs.length < 4611686018427387904) (hv : levL24 xs < 4611686018427387904) :
    ∀ (n j a : Nat), xs.length - j = n → j ≤ xs.length → a < 4611686018427387904 → levL24 (xs.drop j) < 4611686018427387904 → Ev (fun K => tree_Levels.l0 K (a : Int) xs (xs.length : Int) (j : Int)) ((max a (levL24 (xs.drop j)) + 1 : Nat) : Int) := by
  intro n
  induction n with
  | zero =>
    intro j a hn hj ha hd
    have : j = xs.length := by omega
    subst this
    refine Ev.succ (g := fun _ => some ((max a (levL24 (xs.drop xs.length)) + 1 : Nat) : Int)) (fun k => ?_) Ev.const
    simp only [tree_Levels.l0, if_neg (Int.lt_irrefl _), List.drop_length, levL24]
    rw [wrap_succ (by omega)]
    simp
  | succ n ih =>
    intro j a hn hj ha hd
    have hlt : j < xs.length := by omega
    have h1 : (j : Int) < (xs.length : Int) := by omega
    have h2 : (0 : Int) ≤ (j : Int) := by omega
    have he := levL24_drop hlt
    refine Ev.succ (g := fun K => (tree_Levels.f K xs[j].f0 xs[j].f1 xs[j].f2 xs[j].f3 xs[j].f4).bind fun t => tree_Levels.l0 K (mx (a : Int) t) xs (xs.length : Int) (wrap64 ((j : Int) + 1))) (fun k => ?_) ?_
    · simp only [tree_Levels.l0, if_pos h1, if_pos h2, rd_T24_nat hlt]
    · refine Ev.bind (H _ (List.getElem_mem hlt)) ?_
      rw [mx_nat, wrap_succ (by omega)]
      have h3 := ih (j + 1) (max a (lev24 xs[j])) (by omega) (by omega) (by omega) (by omega)
      have e : max a (levL24 (xs.drop j)) = max (max a (lev24 xs[j])) (levL24 (xs.drop (j + 1))) := by rw [he]; omega
      rw [e]; exact h3
theorem tlev (x : S24) (h : (pre24 x).length < 2305843009213693952) : Ev (fun K => tree_Levels.f K x.f0 x.f1 x.f2 x.f3 x.f4) (lev24 x : Int) := by
  induction x using ind24 with
  | h x ih =>
  have hp : (pre24 x).length = 1 + (preL24 x.f4).length := by rw [pre24_eq]; simp; omega
  have hl := len_preL24 x.f4
  have hv := lev_le x
  rw [lev24_eq] at hv
  have h3 := tlev_l0 x.f4 (fun k hk => ih k hk (by obtain ⟨j, hj, rfl⟩ := List.getElem_of_mem hk; have := pre_mem24 hj; omega)) (by omega) (by omega) x.f4.length 0 0 (by omega) (by omega) (by omega) (by simp; omega)
  refine Ev.succ (g := fun K => tree_Levels.l0 K 0 x.f4 (x.f4.length : Int) 0) (fun k => by simp only [tree_Levels.f]) ?_
  rw [lev24_eq]
  simpa using h3
theorem rlev_l0 (b0 : Int) (b1 : ByteArray) (b2 b3 : Int) (xs : List S24) (H : ∀ k ∈ xs, Ev (fun K => assessorref03_Levels.f K k.f0 k.f1 k.f2 k.f3 k.f4) (lev24 k : Int)) (hl : xs.length < 4611686018427387904) :
    ∀ (n j a : Nat), xs.length - j = n → j ≤ xs.length → a < 4611686018427387904 → levL24 (xs.drop j) < 4611686018427387904 → Ev (fun K => assessorref03_Levels.l0 K (a : Int) (j : Int) b0 b1 b2 b3 xs) ((max a (levL24 (xs.drop j)) + 1 : Nat) : Int) := by
  intro n
  induction n with
  | zero =>
    intro j a hn hj ha hd
    have : j = xs.length := by omega
    subst this
    refine Ev.succ (g := fun _ => some ((max a (levL24 (xs.drop xs.length)) + 1 : Nat) : Int)) (fun k => ?_) Ev.const
    simp only [assessorref03_Levels.l0, if_neg (Int.lt_irrefl _), List.drop_length, levL24]
    rw [wrap_succ (by omega)]
    simp
  | succ n ih =>
    intro j a hn hj ha hd
    have hlt : j < xs.length := by omega
    have h1 : (j : Int) < (xs.length : Int) := by omega
    have h2 : (0 : Int) ≤ (j : Int) := by omega
    have he := levL24_drop hlt
    refine Ev.succ (g := fun K => (assessorref03_Levels.f K xs[j].f0 xs[j].f1 xs[j].f2 xs[j].f3 xs[j].f4).bind fun t => assessorref03_Levels.l0 K (mx (a : Int) t) (wrap64 ((j : Int) + 1)) b0 b1 b2 b3 xs) (fun k => ?_) ?_
    · simp only [assessorref03_Levels.l0, if_pos h1, if_pos h2, rd_T24_nat hlt]
    · refine Ev.bind (H _ (List.getElem_mem hlt)) ?_
      rw [mx_nat, wrap_succ (by omega)]
      have h3 := ih (j + 1) (max a (lev24 xs[j])) (by omega) (by omega) (by omega) (by omega)
      have e : max a (levL24 (xs.drop j)) = max (max a (lev24 xs[j])) (levL24 (xs.drop (j + 1))) := by rw [he]; omega
      rw [e]; exact h3
theorem rlev (x : S24) (h : (pre24 x).length < 2305843009213693952) : Ev (fun K => assessorref03_Levels.f K x.f0 x.f1 x.f2 x.f3 x.f4) (lev24 x : Int) := by
  induction x using ind24 with
  | h x ih =>
  have hp : (pre24 x).length = 1 + (preL24 x.f4).length := by rw [pre24_eq]; simp; omega
  have hl := len_preL24 x.f4
  have hv := lev_le x
  rw [lev24_eq] at hv
  have h3 := rlev_l0 x.f0 x.f1 x.f2 x.f3 x.f4 (fun k hk => ih k hk (by obtain ⟨j, hj, rfl⟩ := List.getElem_of_mem hk; have := pre_mem24 hj; omega)) (by omega) x.f4.length 0 0 (by omega) (by omega) (by omega) (by simp; omega)
  refine Ev.succ (g := fun K => assessorref03_Levels.l0 K 0 0 x.f0 x.f1 x.f2 x.f3 x.f4) (fun k => by simp only [assessorref03_Levels.f]) ?_
  rw [lev24_eq]
  simpa using h3

/-! ### nodes of paths -/
def get24 : List Int → S24 → Option S24
  | [], x => some x
  | i :: p, x => if 0 ≤ i ∧ i < (x.f4.length : Int) then get24 p (rd_T24 x.f4 i) else none
def gt24 : Option S24 → Int × ByteArray × Int × Int × List S24 × Bool
  | none => (0, (⟨#[]⟩ : ByteArray), 0, 0, [], false)
  | some y => (y.f0, y.f1, y.f2, y.f3, y.f4, true)
theorem tget_l0 (p : List Int) (hl : p.length < 4611686018427387904) : ∀ (n j : Nat) (x : S24), p.length - j = n → j ≤ p.length → Ev (fun K => tree_Get.l0 K p (p.length : Int) (j : Int) x.f0 x.f1 x.f2 x.f3 x.f4) (gt24 (get24 (p.drop j) x)) := by
  intro n
  induction n with
  | zero =>
    intro j x hn hj
    have : j = p.length := by omega
    subst this
    refine Ev.succ (g := fun _ => some (gt24 (get24 (p.drop p.length) x))) (fun k => ?_) Ev.const
    simp [tree_Get.l0, List.drop_length, get24, gt24]
  | succ n ih =>
    intro j x hn hj
    have hlt : j < p.length := by omega
    have h1 : (j : Int) < (p.length : Int) := by omega
    have h2 : (0 : Int) ≤ (j : Int) := by omega
    rw [List.drop_eq_getElem_cons hlt]
    by_cases hn0 : p[j] < 0
    · refine Ev.succ (g := fun _ => some (gt24 none)) (fun k => ?_) ?_
      · simp only [tree_Get.l0, if_pos h1, if_pos h2, rd_nat hlt, if_pos hn0, gt24]
      · rw [get24, if_neg (by omega)]; exact Ev.const
    · by_cases hn1 : p[j] ≥ (x.f4.length : Int)
      · refine Ev.succ (g := fun _ => some (gt24 none)) (fun k => ?_) ?_
        · simp only [tree_Get.l0, if_pos h1, if_pos h2, rd_nat hlt, if_neg hn0, if_pos hn1, gt24]
        · rw [get24, if_neg (by omega)]; exact Ev.const
      · refine Ev.succ (g := fun K => tree_Get.l0 K p (p.length : Int) (wrap64 ((j : Int) + 1)) (rd_T24 x.f4 p[j]).f0 (rd_T24 x.f4 p[j]).f1 (rd_T24 x.f4 p[j]).f2 (rd_T24 x.f4 p[j]).f3 (rd_T24 x.f4 p[j]).f4) (fun k => ?_) ?_
        · simp only [tree_Get.l0, if_pos h1, if_pos h2, rd_nat hlt, if_neg hn0, if_neg hn1, if_pos (show 0 ≤ p[j] by omega), if_pos (show p[j] < (x.f4.length : Int) by omega)]
        · rw [get24, if_pos (by omega), wrap_succ (by omega)]
          exact ih (j + 1) _ (by omega) (by omega)
theorem tget (x : S24) (p : List Int) (hl : p.length < 4611686018427387904) : Ev (fun K => tree_Get.f K x.f0 x.f1 x.f2 x.f3 x.f4 p) (gt24 (get24 p x)) := tget_l0 p hl _ 0 x rfl (Nat.zero_le _)
theorem rget_l0 (p : List Int) (hl : p.length < 4611686018427387904) : ∀ (n j : Nat) (x : S24), p.length - j = n → j ≤ p.length → Ev (fun K => assessorref03_Get.l0 K p (j : Int) x.f0 x.f1 x.f2 x.f3 x.f4) (gt24 (get24 (p.drop j) x)) := by
  intro n
  induction n with
  | zero =>
    intro j x hn hj
    have : j = p.length := by omega
    subst this
    refine Ev.succ (g := fun _ => some (gt24 (get24 (p.drop p.length) x))) (fun k => ?_) Ev.const
    simp [assessorref03_Get.l0, List.drop_length, get24, gt24]
  | succ n ih =>
    intro j x hn hj
    have hlt : j < p.length := by omega
    have h1 : (j : Int) < (p.length : Int) := by omega
    have h2 : (0 : Int) ≤ (j : Int) := by omega
    rw [List.drop_eq_getElem_cons hlt]
    by_cases hn0 : p[j] < 0
    · refine Ev.succ (g := fun _ => some (gt24 none)) (fun k => ?_) ?_
      · simp only [assessorref03_Get.l0, if_pos h1, if_pos h2, rd_nat hlt, if_pos hn0, gt24]
      · rw [get24, if_neg (by omega)]; exact Ev.const
    · by_cases hn1 : p[j] ≥ (x.f4.length : Int)
      · refine Ev.succ (g := fun _ => some (gt24 none)) (fun k => ?_) ?_
        · simp only [assessorref03_Get.l0, if_pos h1, if_pos h2, rd_nat hlt, if_neg hn0, if_pos hn1, gt24]
        · rw [get24, if_neg (by omega)]; exact Ev.const
      · refine Ev.succ (g := fun K => assessorref03_Get.l0 K p (wrap64 ((j : Int) + 1)) (rd_T24 x.f4 p[j]).f0 (rd_T24 x.f4 p[j]).f1 (rd_T24 x.f4 p[j]).f2 (rd_T24 x.f4 p[j]).f3 (rd_T24 x.f4 p[j]).f4) (fun k => ?_) ?_
        · simp only [assessorref03_Get.l0, if_pos h1, if_pos h2, rd_nat hlt, if_neg hn0, if_neg hn1, if_pos (show 0 ≤ p[j] by omega), if_pos (show p[j] < (x.f4.length : Int) by omega)]
        · rw [get24, if_pos (by omega), wrap_succ (by omega)]
          exact ih (j + 1) _ (by omega) (by omega)
theorem rget (x : S24) (p : List Int) (hl : p.length < 4611686018427387904) : Ev (fun K => assessorref03_Get.f K x.f0 x.f1 x.f2 x.f3 x.f4 p) (gt24 (get24 p x)) := rget_l0 p hl _ 0 x rfl (Nat.zero_le _)

/-! ### numbers of paths -/
def num24 : List Int → S24 → Option Nat
  | [], x => some 0
  | i :: p, x => if 0 ≤ i ∧ i < (x.f4.length : Int) then (num24 p (rd_T24 x.f4 i)).map (fun m => 1 + (preL24 (x.f4.take i.toNat)).length + m) else none
def nt24 (o : Nat) : Option Nat → Int × Bool
  | none => (0, false)
  | some m => (((o + m : Nat) : Int), true)
theorem num24_isSome (p : List Int) (x : S24) : (num24 p x).isSome = (get24 p x).isSome := by
  induction p generalizing x with
  | nil => rfl
  | cons i p ih =>
    simp only [num24, get24]
    by_cases h : 0 ≤ i ∧ i < (x.f4.length : Int)
    · rw [if_pos h, if_pos h, Option.isSome_map, ih]
    · rw [if_neg h, if_neg h]; rfl
theorem pre_take_kid {xs : List S24} {i : Nat} (h : i < xs.length) : (preL24 (xs.take i)).length + (pre24 xs[i]).length ≤ (preL24 xs).length := by
  have h1 := length_preL24_take xs i
  have h2 := preL24_drop h
  omega
theorem tcount_f (x : S24) (h : (pre24 x).length < 4611686018427387904) : tree_Count.f x.f0 x.f1 x.f2 x.f3 x.f4 = some ((pre24 x).length : Int) := by
  have e : (⟨x.f0, x.f1, x.f2, x.f3, x.f4⟩ : S24) = x := by cases x; rfl
  unfold tree_Count.f
  rw [e, if_pos h]
theorem tnum_l1 {R : Int × Bool} (i : Nat) (p : List Int) (j : Int) (x : S24) (hi : i < x.f4.length) (ys : List S24) (hys : ∀ y ∈ ys, (pre24 y).length < 4611686018427387904) (hyl : ys.length < 4611686018427387904) :
    ∀ (n m o : Nat), ys.length - m = n → m ≤ ys.length → o + (preL24 (ys.drop m)).length < 4611686018427387904 →
    Ev (fun K => tree_Number.l0 K ((o + (preL24 (ys.drop m)).length : Nat) : Int) p (p.length : Int) (wrap64 (j + 1)) (rd_T24 x.f4 (i : Int)).f0 (rd_T24 x.f4 (i : Int)).f1 (rd_T24 x.f4 (i : Int)).f2 (rd_T24 x.f4 (i : Int)).f3 (rd_T24 x.f4 (i : Int)).f4) R →
    Ev (fun K => tree_Number.l1 K (o : Int) (i : Int) p (p.length : Int) j ys (ys.length : Int) (m : Int) x.f0 x.f1 x.f2 x.f3 x.f4) R := by
  intro n
  induction n with
  | zero =>
    intro m o hn hm ho hR
    have : m = ys.length := by omega
    subst this
    refine Ev.succ (fun k => ?_) hR
    simp only [tree_Number.l1, if_neg (Int.lt_irrefl _), if_pos (show (0 : Int) ≤ (i : Int) by omega), if_pos (show (i : Int) < (x.f4.length : Int) by omega), List.drop_length, preL24, List.length_nil, Nat.add_zero]
  | succ n ih =>
    intro m o hn hm ho hR
    have hlt : m < ys.length := by omega
    have h1 : (m : Int) < (ys.length : Int) := by omega
    have h2 : (0 : Int) ≤ (m : Int) := by omega
    have hd := preL24_drop hlt
    refine Ev.succ (g := fun K => tree_Number.l1 K (wrap64 ((o : Int) + ((pre24 ys[m]).length : Int))) (i : Int) p (p.length : Int) j ys (ys.length : Int) (wrap64 ((m : Int) + 1)) x.f0 x.f1 x.f2 x.f3 x.f4) (fun k => ?_) ?_
    · simp only [tree_Number.l1, if_pos h1, if_pos h2, rd_T24_nat hlt, tcount_f _ (hys _ (List.getElem_mem hlt)), Option.bind_some]
    · rw [wrap_succ (by omega), wrap_ok (by omega) (by omega), ← Int.natCast_add]
      refine ih (m + 1) (o + (pre24 ys[m]).length) (by omega) (by omega) (by omega) ?_
      have e : o + (pre24 ys[m]).length + (preL24 (ys.drop (m + 1))).length = o + (preL24 (ys.drop m)).length := by omega
      rw [e]; exact hR
theorem tnum_l0 (p : List Int) (hl : p.length < 4611686018427387904) : ∀ (n j o : Nat) (x : S24), p.length - j = n → j ≤ p.length → o + (pre24 x).length < 4611686018427387904 → Ev (fun K => tree_Number.l0 K (o : Int) p (p.length : Int) (j : Int) x.f0 x.f1 x.f2 x.f3 x.f4) (nt24 o (num24 (p.drop j) x)) := by
  intro n
  induction n with
  | zero =>
    intro j o x hn hj ho
    have : j = p.length := by omega
    subst this
    refine Ev.succ (g := fun _ => some (nt24 o (num24 (p.drop p.length) x))) (fun k => ?_) Ev.const
    simp [tree_Number.l0, List.drop_length, num24, nt24]
  | succ n ih =>
    intro j o x hn hj ho
    have hlt : j < p.length := by omega
    have h1 : (j : Int) < (p.length : Int) := by omega
    have h2 : (0 : Int) ≤ (j : Int) := by omega
    rw [List.drop_eq_getElem_cons hlt]
    by_cases hn0 : p[j] < 0
    · refine Ev.succ (g := fun K => tree_Number.j1 K (o : Int) p[j] p (p.length : Int) (j : Int) true x.f0 x.f1 x.f2 x.f3 x.f4) (fun k => ?_) ?_
      · simp only [tree_Number.l0, if_pos h1, if_pos h2, rd_nat hlt, if_pos hn0]
      · refine Ev.succ (g := fun _ => some (0, false)) (fun k => by simp only [tree_Number.j1, if_pos]) ?_
        rw [num24, if_neg (by omega)]; exact Ev.const
    · refine Ev.succ (g := fun K => tree_Number.j1 K (o : Int) p[j] p (p.length : Int) (j : Int) (decide (p[j] ≥ (x.f4.length : Int))) x.f0 x.f1 x.f2 x.f3 x.f4) (fun k => ?_) ?_
      · simp only [tree_Number.l0, if_pos h1, if_pos h2, rd_nat hlt, if_neg hn0]
      · by_cases hn1 : p[j] ≥ (x.f4.length : Int)
        · refine Ev.succ (g := fun _ => some (0, false)) (fun k => by simp only [tree_Number.j1, decide_eq_true hn1, if_pos]) ?_
          rw [num24, if_neg (by omega)]; exact Ev.const
        · obtain ⟨i, hi⟩ : ∃ i : Nat, p[j] = (i : Int) := ⟨p[j].toNat, by omega⟩
          rw [hi] at hn0 hn1 ⊢
          have hix : i < x.f4.length := by omega
          have hp : (pre24 x).length = 1 + (preL24 x.f4).length := by rw [pre24_eq]; simp; omega
          have hk := pre_take_kid hix
          have hl2 := len_preL24 x.f4
          refine Ev.succ (g := fun K => tree_Number.l1 K (wrap64 ((o : Int) + 1)) (i : Int) p (p.length : Int) (j : Int) (x.f4.take i) ((x.f4.take i).length : Int) 0 x.f0 x.f1 x.f2 x.f3 x.f4) (fun k => ?_) ?_
          · have hf : ¬ (decide ((i : Int) ≥ (x.f4.length : Int)) = true) := by simp; omega
            simp only [tree_Number.j1, if_neg hf, if_pos (show (0 : Int) ≤ (i : Int) by omega), if_pos (show (i : Int) ≤ (x.f4.length : Int) by omega), Option.bind_some, Int.toNat_natCast]
          · rw [wrap_succ (by omega), num24, if_pos (by omega), Int.toNat_natCast, rd_T24_nat hix]
            refine tnum_l1 i p (j : Int) x hix (x.f4.take i) (fun y hy => ?_) (by rw [List.length_take]; omega) _ 0 (o + 1) rfl (Nat.zero_le _) (by rw [List.drop_zero]; omega) ?_
            · obtain ⟨q, hq, rfl⟩ := List.getElem_of_mem (List.mem_of_mem_take hy)
              have := pre_mem24 hq; omega
            · rw [List.drop_zero, wrap_succ (by omega), rd_T24_nat hix]
              have h3 := ih (j + 1) (o + 1 + (preL24 (x.f4.take i)).length) x.f4[i] (by omega) (by omega) (by omega)
              have e : nt24 (o + 1 + (preL24 (x.f4.take i)).length) (num24 (p.drop (j + 1)) x.f4[i]) = nt24 o ((num24 (p.drop (j + 1)) x.f4[i]).map (fun m => 1 + (preL24 (x.f4.take i)).length + m)) := by
                cases num24 (p.drop (j + 1)) x.f4[i] with
                | none => rfl
                | some m => simp only [nt24, Option.map_some]; congr 2; omega
              rw [← e]; exact h3
theorem tnum (x : S24) (p : List Int) (hl : p.length < 4611686018427387904) (h : (pre24 x).length < 4611686018427387904) : Ev (fun K => tree_Number.f K x.f0 x.f1 x.f2 x.f3 x.f4 p) (nt24 0 (num24 p x)) :=
  tnum_l0 p hl _ 0 0 x rfl (Nat.zero_le _) (by omega)
end Go.Proofs.Ytbheobngeocdfaa.PAll
