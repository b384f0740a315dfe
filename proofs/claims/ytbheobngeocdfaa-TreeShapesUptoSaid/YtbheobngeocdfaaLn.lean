/- Plain: the reference's names and numbers are those of the lexer. -/
import Derived.Test.YtbheobngeocdfaaMe
import Derived.Test.YtbheobngeocdfaaG2
import Derived.Test.YtbheobngeocdfaaPAllxf73
namespace Go.Proofs.Ytbheobngeocdfaa.PAll
open Go.RowKit Go.Proofs.YtbheobngeocdfaaW.PrintWords Go.Proofs.YtbheobngeocdfaaW.PrintLast Go.Proofs.YtbheobngeocdfaaW.PrintMore
set_option linter.unusedVariables false
set_option linter.unusedSimpArgs false

theorem wrap_succ_ {j : Nat} (h : j < 9223372036854775807) : wrap64 ((j : Int) + 1) = ((j + 1 : Nat) : Int) := by rw [wrap_ok (by omega) (by omega)]; omega
theorem toList_inj_ {a b : ByteArray} (h : a.toList = b.toList) : a = b := Go.WideShapes.bytes_inj (by rw [← Go.ByteArray.toList_eq, ← Go.ByteArray.toList_eq]; exact h)
theorem toList_len (s : ByteArray) : s.toList.length = s.size := by rw [Go.ByteArray.toList_eq, Array.length_toList]; rfl
def hasB (l : List ByteArray) (s : ByteArray) : Bool := l.any fun x => s.toList == x.toList
theorem rhas_l0 (xs : List ByteArray) (s : ByteArray) (hl : xs.length < 4611686018427387904) : ∀ (n j : Nat), xs.length - j = n → j ≤ xs.length → Ev (fun K => assessorref02_Has.l0 K xs s (j : Int)) (hasB (xs.drop j) s) := by
  intro n
  induction n with
  | zero =>
    intro j hn hj
    have : j = xs.length := by omega
    subst this
    refine Ev.succ (g := fun _ => some (hasB (xs.drop xs.length) s)) (fun k => ?_) Ev.const
    simp [assessorref02_Has.l0, List.drop_length, hasB]
  | succ n ih =>
    intro j hn hj
    have hlt : j < xs.length := by omega
    have h1 : (j : Int) < (xs.length : Int) := by omega
    have h2 : (0 : Int) ≤ (j : Int) := by omega
    have hr : rdOf ByteArray.empty xs (j : Int) = xs[j] := by simp [rdOf, List.getElem?_eq_getElem hlt]
    have he : hasB (xs.drop j) s = ((s.toList == xs[j].toList) || hasB (xs.drop (j + 1)) s) := by rw [List.drop_eq_getElem_cons hlt]; rfl
    rw [he]
    by_cases h : xs[j].toList = s.toList
    · refine Ev.succ (g := fun _ => some true) (fun k => by simp only [assessorref02_Has.l0, if_pos h1, if_pos h2, hr, if_pos h]) ?_
      have e : (s.toList == xs[j].toList) = true := by rw [h]; exact beq_self_eq_true _
      rw [e, Bool.true_or]; exact Ev.const
    · refine Ev.succ (g := fun K => assessorref02_Has.l0 K xs s (wrap64 ((j : Int) + 1))) (fun k => by simp only [assessorref02_Has.l0, if_pos h1, if_pos h2, hr, if_neg h]) ?_
      have e : (s.toList == xs[j].toList) = false := by rw [beq_eq_false_iff_ne]; exact fun e => h e.symm
      rw [e, Bool.false_or, wrap_succ_ (by omega)]
      exact ih (j + 1) (by omega) (by omega)
theorem rhas (xs : List ByteArray) (s : ByteArray) (hl : xs.length < 4611686018427387904) : Ev (fun K => assessorref02_Has.f K xs s) (hasB xs s) := rhas_l0 xs s hl _ 0 rfl (Nat.zero_le _)
theorem ba_beq (a b : ByteArray) : (a == b) = (a.data == b.data) := by cases a; cases b; rfl
theorem ba_beq_toList (a b : ByteArray) : (a == b) = (a.toList == b.toList) := by
  rw [ba_beq, Go.ByteArray.toList_eq, Go.ByteArray.toList_eq]
  by_cases h : a.data = b.data
  · rw [h]; simp
  · have h2 : ¬ a.data.toList = b.data.toList := fun e => h (by cases ha : a.data; cases hb : b.data; rw [ha, hb] at e; simp at e; rw [e])
    rw [beq_eq_false_iff_ne.2 h, beq_eq_false_iff_ne.2 h2]
theorem any_eq_has (l : List ByteArray) (s : ByteArray) : (l.any fun x => s == x) = hasB l.reverse s := by
  unfold hasB
  rw [List.any_reverse]
  congr 1
  funext x
  exact ba_beq_toList s x
theorem keywords_rev : keywordList.reverse = [(⟨#[114, 101, 99, 111, 114, 100]⟩ : ByteArray), (⟨#[112, 114, 111, 99]⟩ : ByteArray), (⟨#[118, 97, 114]⟩ : ByteArray), (⟨#[105, 102]⟩ : ByteArray), (⟨#[101, 108, 115, 101]⟩ : ByteArray), (⟨#[119, 104, 105, 108, 101]⟩ : ByteArray), (⟨#[102, 111, 114]⟩ : ByteArray), (⟨#[116, 111]⟩ : ByteArray), (⟨#[114, 101, 116, 117, 114, 110]⟩ : ByteArray), (⟨#[97, 115, 115, 101, 114, 116]⟩ : ByteArray), (⟨#[97, 110, 100]⟩ : ByteArray), (⟨#[111, 114]⟩ : ByteArray), (⟨#[110, 111, 116]⟩ : ByteArray), (⟨#[116, 114, 117, 101]⟩ : ByteArray), (⟨#[102, 97, 108, 115, 101]⟩ : ByteArray), (⟨#[105, 110, 116]⟩ : ByteArray), (⟨#[98, 111, 111, 108]⟩ : ByteArray), (⟨#[108, 101, 110]⟩ : ByteArray)] := by rfl
theorem rkeyword (s : ByteArray) : Ev (fun K => assessorref02_Keyword.f K s) (keywordList.any (fun x => s == x)) := by
  rw [any_eq_has, keywords_rev]
  exact Ev.bind (h := fun t _ => some t) (rhas _ s (by decide)) Ev.const
theorem rletter (c : Int) : assessorref02_letter.f c = some (pLetter c) := by unfold assessorref02_letter.f pLetter; split <;> rfl
theorem rdigit (c : Int) : assessorref02_digit.f c = some (pDigit c) := by unfold assessorref02_digit.f pDigit; split <;> rfl
/-- from j on -/
def allFrom (s : ByteArray) (p : Int → Bool) (j : Nat) : Bool := ((List.range s.size).drop j).all fun i => p (bt s i)
theorem allFrom_zero (s : ByteArray) (p : Int → Bool) : allFrom s p 0 = allB s p := by simp [allFrom, allB]
theorem allFrom_end (s : ByteArray) (p : Int → Bool) : allFrom s p s.size = true := by rw [allFrom, List.drop_eq_nil_of_le (by simp)]; rfl
theorem allFrom_step (s : ByteArray) (p : Int → Bool) {j : Nat} (h : j < s.size) : allFrom s p j = (p (bt s j) && allFrom s p (j + 1)) := by
  have hl : j < (List.range s.size).length := by simpa using h
  unfold allFrom
  rw [List.drop_eq_getElem_cons hl]
  simp
theorem rtoken_l0 (s : ByteArray) (hs : s.size < 4611686018427387904) : ∀ (n j : Nat), s.size - j = n → j ≤ s.size → ∃ r : Int × Int, Ev (fun K => assessorref02_token.l0 K s 0 (j : Int)) r ∧ (r.2 == (s.size : Int)) = allFrom s pNameByte j := by
  intro n
  induction n with
  | zero =>
    intro j hn hj
    have : j = s.size := by omega
    subst this
    have hk := rkeyword (s.extract (0 : Int).toNat (s.size : Int).toNat)
    refine ⟨((if keywordList.any (fun x => s.extract (0 : Int).toNat (s.size : Int).toNat == x) then 1 else 0), (s.size : Int)), ?_, by rw [allFrom_end]; simp⟩
    refine Ev.succ (g := fun K => (assessorref02_Keyword.f K (s.extract (0 : Int).toNat (s.size : Int).toNat)).bind fun t => if t = true then some (1, (s.size : Int)) else some (0, (s.size : Int))) (fun k => ?_) ?_
    · simp only [assessorref02_token.l0, if_neg (Int.lt_irrefl _), if_pos (Int.le_refl (0 : Int)), if_pos (show (0 : Int) ≤ (s.size : Int) by omega), if_pos (Int.le_refl (s.size : Int))]
    · refine Ev.bind (h := fun t _ => if t = true then some ((1 : Int), (s.size : Int)) else some (0, (s.size : Int))) hk ?_
      split <;> exact Ev.const
  | succ n ih =>
    intro j hn hj
    have hlt : j < s.size := by omega
    have h1 : (j : Int) < (s.size : Int) := by omega
    have h2 : (0 : Int) ≤ (j : Int) := by omega
    rw [allFrom_step s pNameByte hlt]
    obtain ⟨r, hr, hr2⟩ := ih (j + 1) (by omega) (by omega)
    have go : Ev (fun K => assessorref02_token.l0 K s 0 (wrap64 ((j : Int) + 1))) r := by rw [wrap_succ_ (by omega)]; exact hr
    cases hL : pLetter (bt s j) with
    | true =>
      refine ⟨r, Ev.succ (fun k => ?_) go, by rw [hr2]; simp [pNameByte, hL]⟩
      simp only [assessorref02_token.l0, if_pos h1, if_pos h2, rletter, hL, Option.bind_some, if_true]
    | false =>
      cases hD : pDigit (bt s j) with
      | true =>
        refine ⟨r, Ev.succ (fun k => ?_) go, by rw [hr2]; simp [pNameByte, hL, hD]⟩
        simp only [assessorref02_token.l0, if_pos h1, if_pos h2, rletter, rdigit, hL, hD, Option.bind_some, if_true, Bool.false_eq_true, if_false]
      | false =>
        by_cases hU : bt s (j : Int) = 95
        · refine ⟨r, Ev.succ (fun k => ?_) go, by rw [hr2]; simp [pNameByte, hL, hD, hU]⟩
          simp only [assessorref02_token.l0, if_pos h1, if_pos h2, rletter, rdigit, hL, hD, Option.bind_some, Bool.false_eq_true, if_false, if_pos hU]
        · have hk := rkeyword (s.extract (0 : Int).toNat (j : Int).toNat)
          refine ⟨((if keywordList.any (fun x => s.extract (0 : Int).toNat (j : Int).toNat == x) then 1 else 0), (j : Int)), ?_, ?_⟩
          · refine Ev.succ (g := fun K => (assessorref02_Keyword.f K (s.extract (0 : Int).toNat (j : Int).toNat)).bind fun t => if t = true then some (1, (j : Int)) else some (0, (j : Int))) (fun k => ?_) ?_
            · simp only [assessorref02_token.l0, if_pos h1, if_pos h2, rletter, rdigit, hL, hD, Option.bind_some, Bool.false_eq_true, if_false, if_neg hU, if_pos (Int.le_refl (0 : Int)), if_pos (show (j : Int) ≤ (s.size : Int) by omega)]
            · refine Ev.bind (h := fun t _ => if t = true then some ((1 : Int), (j : Int)) else some (0, (j : Int))) hk ?_
              split <;> exact Ev.const
          · have e1 : ((j : Int) == (s.size : Int)) = false := by simp; omega
            have e2 : pNameByte (bt s (j : Int)) = false := by simp [pNameByte, hL, hD, hU]
            rw [e2, Bool.false_and]; exact e1
theorem rname (s : ByteArray) (hs : s.size < 4611686018427387904) : Ev (fun K => assessorref02_Name.f K s) (qName s) := by
  unfold qName
  by_cases h0 : (s.size : Int) < 1
  · have e : s.toList = [] := List.length_eq_zero_iff.1 (by rw [toList_len]; omega)
    rw [e, if_pos (by rfl)]
    exact Ev.congr (fun k => by simp only [assessorref02_Name.f, if_pos h0]) Ev.const
  · have e : ¬ ((s.toList == ([] : List UInt8)) = true) := by
      intro h
      have h2 := congrArg List.length (eq_of_beq h)
      rw [toList_len] at h2
      have h3 : s.size = 0 := h2
      omega
    rw [if_neg e]
    by_cases h1 : (s.size : Int) > 16
    · rw [if_pos h1]
      exact Ev.congr (fun k => by simp only [assessorref02_Name.f, if_neg h0, if_pos h1]) Ev.const
    · rw [if_neg h1]
      have h2 : (0 : Int) < (s.size : Int) := by omega
      cases hL : pLetter (bt s 0) with
      | false =>
        rw [if_neg (by decide)]
        exact Ev.congr (g := fun _ => some false) (fun k => by simp only [assessorref02_Name.f, if_neg h0, if_neg h1, if_pos h2, rletter, hL, Option.bind_some, Bool.false_eq_true, if_false]) Ev.const
      | true =>
        rw [if_pos rfl]
        refine Ev.congr (g := fun K => (assessorref02_Keyword.f K s).bind fun t => if t = true then some false else (assessorref02_token.f K s 0).bind fun b => some (b.2 == (s.size : Int))) (fun k => by simp only [assessorref02_Name.f, if_neg h0, if_neg h1, if_pos h2, rletter, hL, Option.bind_some, if_true]) ?_
        refine Ev.bind (h := fun t K => if t = true then some false else (assessorref02_token.f K s 0).bind fun b => some (b.2 == (s.size : Int))) (rkeyword s) ?_
        cases keywordList.any (fun x => s == x) with
        | true => simp only [if_true]; exact Ev.const
        | false =>
          simp only [Bool.false_eq_true, if_false]
          obtain ⟨r, hr, hr2⟩ := rtoken_l0 s hs _ 0 rfl (Nat.zero_le _)
          have ht : Ev (fun K => assessorref02_token.f K s 0) r := Ev.congr (fun k => by simp only [assessorref02_token.f, if_pos (Int.le_refl (0 : Int)), if_pos h2, rletter, hL, Option.bind_some, if_true]; rfl) hr
          rw [← allFrom_zero, ← hr2]
          exact Ev.bind (h := fun b _ => some (b.2 == (s.size : Int))) ht Ev.const
theorem rnumber_l0 (s : ByteArray) (hs : s.size < 4611686018427387904) : ∀ (n j : Nat) (v : Int), s.size - j = n → j ≤ s.size → ∃ r : Int × Bool, Ev (fun K => assessorref02_Number.l0 K s v (j : Int)) r ∧ r.2 = allFrom s pDigit j := by
  intro n
  induction n with
  | zero =>
    intro j v hn hj
    have : j = s.size := by omega
    subst this
    refine ⟨(v, true), Ev.succ (g := fun _ => some (v, true)) (fun k => by simp only [assessorref02_Number.l0, if_neg (Int.lt_irrefl _)]) Ev.const, by rw [allFrom_end]⟩
  | succ n ih =>
    intro j v hn hj
    have hlt : j < s.size := by omega
    have h1 : (j : Int) < (s.size : Int) := by omega
    have h2 : (0 : Int) ≤ (j : Int) := by omega
    rw [allFrom_step s pDigit hlt]
    cases hD : pDigit (bt s j) with
    | true =>
      obtain ⟨r, hr, hr2⟩ := ih (j + 1) (wrap64 ((wrap64 (10 * v)) + (((bt s j) - 48) % 256))) (by omega) (by omega)
      refine ⟨r, Ev.succ (g := fun K => assessorref02_Number.l0 K s (wrap64 ((wrap64 (10 * v)) + (((bt s j) - 48) % 256))) (wrap64 ((j : Int) + 1))) (fun k => ?_) (by rw [wrap_succ_ (by omega)]; exact hr), by rw [hr2]; rfl⟩
      simp only [assessorref02_Number.l0, if_pos h1, if_pos h2, rdigit, hD, Option.bind_some, if_true]
    | false =>
      refine ⟨(0, false), Ev.succ (g := fun _ => some (0, false)) (fun k => ?_) Ev.const, rfl⟩
      simp only [assessorref02_Number.l0, if_pos h1, if_pos h2, rdigit, hD, Option.bind_some, Bool.false_eq_true, if_false]
theorem rnumb (s : ByteArray) (hs : s.size < 4611686018427387904) : ∃ v : Int, Ev (fun K => assessorref02_Number.f K s) (v, qDigits s) := by
  unfold qDigits
  by_cases h0 : (s.size : Int) < 1
  · have e : s.toList = [] := List.length_eq_zero_iff.1 (by rw [toList_len]; omega)
    rw [e, if_pos (by rfl)]
    refine ⟨0, Ev.congr (g := fun K => assessorref02_Number.j0 K s true) (fun k => by simp only [assessorref02_Number.f, if_pos h0]) ?_⟩
    exact Ev.succ (g := fun _ => some (0, false)) (fun k => by simp only [assessorref02_Number.j0, if_true]) Ev.const
  · have e : ¬ ((s.toList == ([] : List UInt8)) = true) := by
      intro h
      have h2 := congrArg List.length (eq_of_beq h)
      rw [toList_len] at h2
      have h3 : s.size = 0 := h2
      omega
    rw [if_neg e]
    by_cases h1 : (s.size : Int) > 9
    · rw [if_pos h1]
      refine ⟨0, Ev.congr (g := fun K => assessorref02_Number.j0 K s true) (fun k => by simp only [assessorref02_Number.f, if_neg h0, decide_eq_true h1]) ?_⟩
      exact Ev.succ (g := fun _ => some (0, false)) (fun k => by simp only [assessorref02_Number.j0, if_true]) Ev.const
    · rw [if_neg h1]
      obtain ⟨r, hr, hr2⟩ := rnumber_l0 s hs _ 0 0 rfl (Nat.zero_le _)
      rw [← allFrom_zero, ← hr2]
      refine ⟨r.1, Ev.congr (g := fun K => assessorref02_Number.j0 K s false) (fun k => by simp only [assessorref02_Number.f, if_neg h0, decide_eq_false h1]) ?_⟩
      exact Ev.succ (g := fun K => assessorref02_Number.l0 K s 0 0) (fun k => by simp only [assessorref02_Number.j0, Bool.false_eq_true, if_false]) hr
theorem rnumber (s : ByteArray) (hs : s.size < 4611686018427387904) : Ev (fun K => assessorref03_number.f K s) (qNumber s) := by
  obtain ⟨v, hv⟩ := rnumb s hs
  refine Ev.bind (h := fun b _ => if b.2 = true then (if s.toList = ([48] : List UInt8) then some true else if 0 < (s.size : Int) then some (bt s 0 != 48) else none) else some false) hv ?_
  unfold qNumber
  cases hq : qDigits s with
  | false => simp only [Bool.false_eq_true, if_false]; exact Ev.const
  | true =>
    simp only [if_true]
    by_cases h : s.toList = ([48] : List UInt8)
    · simp only [if_pos h, beq_iff_eq]; exact Ev.const
    · have h2 : (0 : Int) < (s.size : Int) := by
        rcases Nat.eq_zero_or_pos s.size with h3 | h3
        · have e : s.toList = [] := List.length_eq_zero_iff.1 (by rw [toList_len]; exact h3)
          unfold qDigits at hq
          rw [e, if_pos (by rfl)] at hq
          cases hq
        · omega
      simp only [if_neg h, if_pos h2, beq_iff_eq]; exact Ev.const
end Go.Proofs.Ytbheobngeocdfaa.PAll
