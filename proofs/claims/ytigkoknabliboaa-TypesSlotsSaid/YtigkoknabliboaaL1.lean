/- The plain facts of the reference's Few and Equal, and of types.Same and types.Scalars: what the laws need of them, with no program in sight. -/
import Derived.Test.YtigkoknabliboaaPAllxf8
import Derived.Test.YtigkoknabliboaaPAllxf12
import Derived.Test.YtigkoknabliboaaHa
namespace Go.Proofs.Ytigkoknabliboaa.PAll
open Go.RowKit Go.Proofs.YtigkoknabliboaaW.PrintWords Go.Proofs.YtigkoknabliboaaW.PrintLast Go.Proofs.YtigkoknabliboaaW.PrintMore
set_option linter.unusedVariables false
set_option linter.unusedSimpArgs false

def few (l : List S63) : Bool := l.all (fun r => decide (r.f1.length ≤ 20)) && decide (l.length ≤ 20)
theorem few_loop (l : List S63) (hb : l.length ≤ 9223372036854775807) (d : Nat) : ∀ (k j : Nat), j ≤ l.length → l.length - j = d → d < k → assessorref08_Few.l0 k l (j : Int) = some ((l.drop j).all (fun r => decide (r.f1.length ≤ 20)) && decide (l.length ≤ 20)) := by
  induction d with
  | zero =>
    intro k j hj hd hk
    obtain ⟨k, rfl⟩ : ∃ q, k = q + 1 := ⟨k - 1, by omega⟩
    simp only [assessorref08_Few.l0]
    rw [if_neg (by omega), List.drop_eq_nil_of_le (by omega), List.all_nil, Bool.true_and]
    congr 1
    exact decide_eq_decide.2 (by omega)
  | succ d ih =>
    intro k j hj hd hk
    obtain ⟨k, rfl⟩ : ∃ q, k = q + 1 := ⟨k - 1, by omega⟩
    have hlt : j < l.length := by omega
    simp only [assessorref08_Few.l0]
    rw [if_pos (by omega), if_pos (by omega)]
    have e1 : rd_T63 l (j : Int) = l[j] := by simp [rd_T63, List.getD_eq_getElem?_getD, hlt]
    have hw : wrap64 ((j : Int) + 1) = ((j + 1 : Nat) : Int) := by unfold wrap64; omega
    rw [e1, List.drop_eq_getElem_cons hlt, List.all_cons, hw, ih k (j + 1) (by omega) (by omega) (by omega)]
    by_cases h : l[j].f1.length ≤ 20
    · rw [if_neg (by omega), decide_eq_true h, Bool.true_and]
    · rw [if_pos (by omega), decide_eq_false h, Bool.false_and, Bool.false_and]
theorem few_f (k : Nat) (l : List S63) (hb : l.length ≤ 9223372036854775807) (hk : l.length < k) : assessorref08_Few.f k l = some (few l) := by
  unfold assessorref08_Few.f few
  have := few_loop l hb l.length k 0 (by omega) (by omega) hk
  simpa using this
theorem few_small {l : List S63} (h : few l = true) : smallR l := by
  unfold few at h
  rw [Bool.and_eq_true] at h
  intro r hr
  have := of_decide_eq_true (List.all_eq_true.1 h.1 r hr)
  omega
theorem few_len {l : List S63} (h : few l = true) : l.length ≤ 20 := by
  unfold few at h
  rw [Bool.and_eq_true] at h
  exact of_decide_eq_true h.2
theorem few_fields {l : List S63} (h : few l = true) (s : ByteArray) : (fieldsOf l s).length ≤ 20 := by
  unfold few at h
  rw [Bool.and_eq_true] at h
  unfold fieldsOf
  rw [List.getD_eq_getElem?_getD]
  cases hc : l[(recIdx l s).toNat]? with
  | none => simp [z63]
  | some r => exact of_decide_eq_true (List.all_eq_true.1 h.1 r (List.mem_of_getElem? hc))

theorem equal_loop (l : List S27) (hb : l.length ≤ 9223372036854775807) (d : Nat) : ∀ (k j : Nat), j ≤ l.length → l.length - j = d → d < k → assessorref08_Equal.l0 k l l (j : Int) = some true := by
  induction d with
  | zero =>
    intro k j hj hd hk
    obtain ⟨k, rfl⟩ : ∃ q, k = q + 1 := ⟨k - 1, by omega⟩
    simp only [assessorref08_Equal.l0]
    rw [if_neg (by omega)]
  | succ d ih =>
    intro k j hj hd hk
    obtain ⟨k, rfl⟩ : ∃ q, k = q + 1 := ⟨k - 1, by omega⟩
    simp only [assessorref08_Equal.l0]
    have hw : wrap64 ((j : Int) + 1) = ((j + 1 : Nat) : Int) := by unfold wrap64; omega
    rw [if_pos (by omega), if_pos (by omega), if_pos (by omega), hw, ih k (j + 1) (by omega) (by omega) (by omega)]
    simp
theorem equal_same (k : Nat) (l : List S27) (hb : l.length ≤ 9223372036854775807) (hk : l.length < k) : assessorref08_Equal.f k l l = some true := by
  unfold assessorref08_Equal.f
  rw [if_pos rfl]
  exact equal_loop l hb l.length k 0 (by omega) (by omega) hk

theorem eqT_symm (a b : S27) : eqT a b = eqT b a := by
  unfold eqT
  rw [Bool.beq_comm (a := a.f0), Bool.beq_comm (a := a.f1), Bool.beq_comm (a := a.f2.toList)]
theorem eqF_symm (a b : S76) : eqF a b = eqF b a := by
  unfold eqF
  rw [Bool.beq_comm (a := a.f0.toList), eqT_symm]
theorem eqFs_symm : ∀ l m, eqFs l m = eqFs m l
  | [], [] => rfl
  | [], _ :: _ => rfl
  | _ :: _, [] => rfl
  | a :: l, b :: m => by rw [eqFs, eqFs, eqF_symm, eqFs_symm]
theorem eqT_refl (a : S27) : eqT a a = true := by simp [eqT]
theorem eqF_refl (a : S76) : eqF a a = true := by simp [eqF, eqT_refl]
theorem eqFs_refl : ∀ l, eqFs l l = true
  | [] => rfl
  | a :: l => by rw [eqFs, eqF_refl, eqFs_refl]; rfl
theorem eqFs_scal : ∀ l m, eqFs l m = true → l.map scal = m.map scal
  | [], [], _ => rfl
  | [], _ :: _, h => by simp [eqFs] at h
  | _ :: _, [], h => by simp [eqFs] at h
  | a :: l, b :: m, h => by
    rw [eqFs, Bool.and_eq_true] at h
    have h1 := h.1
    simp only [eqF, eqT, Bool.and_eq_true, beq_iff_eq] at h1
    rw [List.map_cons, List.map_cons, eqFs_scal l m h.2]
    have : scal a = scal b := by unfold scal; rw [h1.2.1]
    rw [this]
theorem same_symm (a : S27) (ra : List S63) (b : S27) (rb : List S63) : same a ra b rb = same b rb a ra := by
  unfold same
  rw [eqT_symm a b, eqFs_symm (fieldsOf ra a.f2)]
  cases h1 : validS ra a <;> cases h2 : validS rb b <;> simp
  cases h3 : eqT b a
  · rfl
  · have h4 : b.f0 = a.f0 := by simp [eqT] at h3; exact h3.1
    rw [h4, Bool.true_and, Bool.true_and]
    congr 2
    exact decide_eq_decide.2 ⟨Eq.symm, Eq.symm⟩
theorem same_self (a : S27) (ra : List S63) : same a ra a ra = validS ra a := by
  unfold same
  rw [eqT_refl, eqFs_refl]
  cases validS ra a <;> simp
theorem same_scalars {a : S27} {ra : List S63} {b : S27} {rb : List S63} (h : same a ra b rb = true) : scalars ra [a] = scalars rb [b] := by
  unfold same at h
  simp only [Bool.and_eq_true] at h
  obtain ⟨h1, h2, h3, h4⟩ := h
  simp only [eqT, Bool.and_eq_true, beq_iff_eq] at h3
  unfold scalars
  simp only [List.all_cons, List.all_nil, h1, h2, Bool.and_true, if_true, List.flatMap_cons, List.flatMap_nil, List.append_nil]
  unfold sc1
  rw [h3.1, h3.2.1]
  by_cases c : b.f0 = 1 ∨ b.f0 = 2
  · rw [if_pos c, if_pos c]
  · rw [if_neg c, if_neg c]
    by_cases c3 : b.f0 = 3
    · rw [if_pos c3, if_pos c3]
    · rw [if_neg c3, if_neg c3]
      have h40 : b.f0 = 4 := by
        have := h2
        unfold validS validT at this
        rw [if_neg c, if_neg c3] at this
        by_cases c4 : b.f0 = 4
        · exact c4
        · rw [if_neg c4] at this; exact absurd this (by simp)
      rw [h3.1, h40] at h4
      simp only [ne_eq, not_true_eq_false, decide_false, Bool.false_or, Bool.and_eq_true] at h4
      exact eqFs_scal _ _ h4.2
theorem scalars_one_len {ra : List S63} (a : S27) (hf : few ra = true) : (scalars ra [a]).length ≤ 20 := by
  unfold scalars
  by_cases hv : validS ra a = true
  · simp only [List.all_cons, List.all_nil, hv, Bool.and_true, if_true, List.flatMap_cons, List.flatMap_nil, List.append_nil]
    unfold sc1
    by_cases c : a.f0 = 1 ∨ a.f0 = 2
    · rw [if_pos c]; simp
    · rw [if_neg c]
      by_cases c3 : a.f0 = 3
      · rw [if_pos c3, List.length_replicate]
        unfold validS validT at hv
        rw [if_neg c, if_pos c3] at hv
        simp at hv
        omega
      · rw [if_neg c3, List.length_map]
        exact few_fields hf _
  · simp [hv]
end Go.Proofs.Ytigkoknabliboaa.PAll
