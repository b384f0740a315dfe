/- The plain facts of types.Layout that the law TypesSlots needs: the slots lie one behind the other, and there are as many as all scalars. -/
import Derived.Test.YtigkoknabliboaaPAllxf19
import Derived.Test.YtigkoknabliboaaL1
namespace Go.Proofs.Ytigkoknabliboaa.PAll
open Go.RowKit Go.Proofs.YtigkoknabliboaaW.PrintWords Go.Proofs.YtigkoknabliboaaW.PrintLast Go.Proofs.YtigkoknabliboaaW.PrintMore
set_option linter.unusedVariables false
set_option linter.unusedSimpArgs false
def szT (l : List S63) (t : S27) : Nat := (scalars l [t]).length
def atSlot (v : S39) (n : Int) : S39 := ⟨v.f0, v.f1, n, v.f3, v.f4, v.f5⟩
def lay (l : List S63) : List S39 → Nat → List S39
  | [], _ => []
  | v :: r, n => atSlot v (n : Int) :: lay l r (n + szT l v.f1)
def layEnd (l : List S63) : List S39 → Nat → Nat
  | [], n => n
  | v :: r, n => layEnd l r (n + szT l v.f1)
theorem lay_length (l : List S63) : ∀ (vs : List S39) (n : Nat), (lay l vs n).length = vs.length
  | [], _ => rfl
  | v :: r, n => by rw [lay, List.length_cons, lay_length l r, List.length_cons]
/-- the slot at which the variable at j begins -/
def slotAt (l : List S63) (vs : List S39) (j : Nat) : Nat := layEnd l (vs.take j) 0
theorem layEnd_append (l : List S63) : ∀ (a b : List S39) (n : Nat), layEnd l (a ++ b) n = layEnd l b (layEnd l a n)
  | [], _, _ => rfl
  | v :: r, b, n => by rw [List.cons_append, layEnd, layEnd, layEnd_append l r]
theorem slotAt_succ (l : List S63) (vs : List S39) (j : Nat) (h : j < vs.length) : slotAt l vs (j + 1) = slotAt l vs j + szT l vs[j].f1 := by
  unfold slotAt
  rw [List.take_succ_eq_append_getElem h, layEnd_append]
  rfl
theorem lay_get (l : List S63) : ∀ (vs : List S39) (n j : Nat) (h : j < vs.length), (lay l vs n)[j]? = some (atSlot vs[j] ((layEnd l (vs.take j) n : Nat) : Int))
  | v :: r, n, 0, _ => rfl
  | v :: r, n, j + 1, h => by
    have h2 : j < r.length := by simpa using h
    rw [lay, List.getElem?_cons_succ, lay_get l r _ j h2, List.getElem_cons_succ, List.take_succ_cons, layEnd]
theorem szT_le (l : List S63) (hf : few l = true) (t : S27) : szT l t ≤ 20 := scalars_one_len t hf
theorem layEnd_le (l : List S63) (hf : few l = true) : ∀ (vs : List S39) (n : Nat), layEnd l vs n ≤ n + 20 * vs.length
  | [], n => by rw [layEnd]; omega
  | v :: r, n => by
    rw [layEnd, List.length_cons]
    have h1 := layEnd_le l hf r (n + szT l v.f1)
    have h2 := szT_le l hf v.f1
    omega
theorem slotAt_le (l : List S63) (hf : few l = true) (vs : List S39) (hv : vs.length ≤ 20) (j : Nat) : slotAt l vs j ≤ 400 := by
  unfold slotAt
  have h1 := layEnd_le l hf (vs.take j) 0
  have h2 : (vs.take j).length ≤ vs.length := by rw [List.length_take]; omega
  omega
theorem layEnd_scalars (l : List S63) : ∀ (vs : List S39) (n : Nat), vs.all (fun v => validS l v.f1) = true → layEnd l vs n = n + (scalars l (vs.map (·.f1))).length
  | [], n, _ => rfl
  | v :: r, n, h => by
    rw [List.all_cons, Bool.and_eq_true] at h
    rw [layEnd, layEnd_scalars l r _ h.2]
    have hr : (r.map (·.f1)).all (validS l) = true := by rw [List.all_map]; exact h.2
    unfold szT scalars
    rw [List.map_cons, List.all_cons, List.all_cons, h.1, hr]
    simp
    omega
theorem layout_loop (l : List S63) (hf : few l = true) (vs : List S39) (hv : vs.length ≤ 20) (d : Nat) : ∀ (k j n : Nat) (dn : List S39), j ≤ vs.length → vs.length - j = d → dn.length = j → d < k → n + 20 * d ≤ 1000 →
    types_Layout.l0 k l (dn ++ vs.drop j) (n : Int) vs (vs.length : Int) (j : Int) = some (if (vs.drop j).all (fun v => validS l v.f1) then (dn ++ lay l (vs.drop j) n, ((layEnd l (vs.drop j) n : Nat) : Int)) else ([], 0)) := by
  induction d with
  | zero =>
    intro k j n dn hj hd hn hk hb
    obtain ⟨k, rfl⟩ : ∃ q, k = q + 1 := ⟨k - 1, by omega⟩
    unfold types_Layout.l0
    rw [if_neg (by omega), List.drop_eq_nil_of_le (by omega)]
    rfl
  | succ d ih =>
    intro k j n dn hj hd hn hk hb
    obtain ⟨k, rfl⟩ : ∃ q, k = q + 1 := ⟨k - 1, by omega⟩
    have hlt : j < vs.length := by omega
    have e1 : rd_T39 vs (j : Int) = vs[j] := by simp [rd_T39, List.getD_eq_getElem?_getD, hlt]
    unfold types_Layout.l0
    rw [if_pos (by omega), if_pos (by omega), if_pos (by omega), e1]
    have hvf : types_Valid.f vs[j].f1.f0 vs[j].f1.f1 vs[j].f1.f2 l = some (validS l vs[j].f1) := rfl
    rw [hvf, Option.bind_some]
    have e2 : rd_T39 (dn ++ vs.drop j) (j : Int) = vs[j] := by
      unfold rd_T39
      rw [Int.toNat_natCast, List.getD_eq_getElem?_getD, List.getElem?_append_right (by omega), hn, Nat.sub_self, List.drop_eq_getElem_cons hlt]
      rfl
    rw [e2]
    cases hva : validS l vs[j].f1 with
    | false =>
      rw [if_neg (by simp), List.drop_eq_getElem_cons hlt, List.all_cons, hva]
      rfl
    | true =>
      have hsz : types_Size.f vs[j].f1.f0 vs[j].f1.f1 vs[j].f1.f2 l = some ((szT l vs[j].f1 : Nat) : Int) := by
        unfold types_Size.f types_Scalars.f
        rw [if_pos ⟨few_small hf, by simp⟩]
        rfl
      have hs := szT_le l hf vs[j].f1
      rw [if_pos rfl, if_pos (by rw [List.length_append, List.length_drop]; omega), hsz, Option.bind_some]
      have hw : wrap64 ((n : Int) + ((szT l vs[j].f1 : Nat) : Int)) = ((n + szT l vs[j].f1 : Nat) : Int) := by unfold wrap64; omega
      have hw2 : wrap64 ((j : Int) + 1) = ((j + 1 : Nat) : Int) := by unfold wrap64; omega
      have hset : (dn ++ vs.drop j).set ((j : Int)).toNat (⟨vs[j].f0, (⟨vs[j].f1.f0, vs[j].f1.f1, vs[j].f1.f2⟩ : S27), (n : Int), vs[j].f3, vs[j].f4, vs[j].f5⟩ : S39) = (dn ++ [atSlot vs[j] (n : Int)]) ++ vs.drop (j + 1) := by
        rw [Int.toNat_natCast, List.drop_eq_getElem_cons hlt, List.set_append_right _ _ (by omega), hn, Nat.sub_self, List.set_cons_zero, List.append_assoc]
        rfl
      rw [hset, hw, hw2, ih k (j + 1) _ _ (by omega) (by omega) (by rw [List.length_append, hn]; rfl) (by omega) (by omega)]
      rw [List.drop_eq_getElem_cons hlt, List.all_cons, hva, Bool.true_and, lay, layEnd, List.append_assoc]
      rfl
theorem layout_law (k : Nat) (l : List S63) (hf : few l = true) (vs : List S39) (hv : vs.length ≤ 20) (hk : 20 < k) : types_Layout.f k l vs = some (if vs.all (fun v => validS l v.f1) then (lay l vs 0, ((layEnd l vs 0 : Nat) : Int)) else ([], 0)) := by
  unfold types_Layout.f api_Variable.f
  rw [if_pos (by omega), Option.bind_some]
  have := layout_loop l hf vs hv vs.length k 0 0 [] (by omega) (by omega) rfl (by omega) (by omega)
  simpa using this
end Go.Proofs.Ytigkoknabliboaa.PAll
