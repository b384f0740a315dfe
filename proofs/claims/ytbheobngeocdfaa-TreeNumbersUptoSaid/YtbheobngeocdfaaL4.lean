/- Plain: the reference's Number, Find, Equal; the law TreeNumbers. -/
import Derived.Test.YtbheobngeocdfaaL3
import Derived.Test.YtbheobngeocdfaaPAllxf5
namespace Go.Proofs.Ytbheobngeocdfaa.PAll
open Go.RowKit Go.Proofs.YtbheobngeocdfaaW.PrintWords Go.Proofs.YtbheobngeocdfaaW.PrintLast Go.Proofs.YtbheobngeocdfaaW.PrintMore
set_option linter.unusedVariables false
set_option linter.unusedSimpArgs false

theorem rnum_l1 {R : Int × Bool} (p : List Int) (i q o0 : Nat) (x : S24) (hi : i < p.length) (hp : p[i] = (q : Int)) (hq : q < x.f4.length) (hx : (pre24 x).length < 4611686018427387904) :
    ∀ (n j o : Nat), q - j = n → j ≤ q → o + (preL24 ((x.f4.take q).drop j)).length < 4611686018427387904 →
    Ev (fun K => assessorref03_Number.l0 K p ((o + (preL24 ((x.f4.take q).drop j)).length : Nat) : Int) (wrap64 ((i : Int) + 1)) x.f4[q].f0 x.f4[q].f1 x.f4[q].f2 x.f4[q].f3 x.f4[q].f4) R →
    Ev (fun K => assessorref03_Number.l1 K p (o : Int) (i : Int) (j : Int) x.f0 x.f1 x.f2 x.f3 x.f4) R := by
  have hp24 : (pre24 x).length = 1 + (preL24 x.f4).length := by rw [pre24_eq]; simp; omega
  have hl2 := len_preL24 x.f4
  have g1 : (0 : Int) ≤ (i : Int) := by omega
  have g2 : (i : Int) < (p.length : Int) := by omega
  have htl : (x.f4.take q).length = q := by rw [List.length_take]; omega
  intro n
  induction n with
  | zero =>
    intro j o hn hj ho hR
    have : j = q := by omega
    subst this
    refine Ev.succ (fun k => ?_) hR
    have e0 : (x.f4.take j).drop j = [] := List.drop_eq_nil_of_le (by omega)
    simp only [assessorref03_Number.l1, if_pos g1, if_pos g2, rd_nat hi, hp, if_neg (Int.lt_irrefl _), if_pos (show (0 : Int) ≤ (j : Int) by omega), if_pos (show (j : Int) < (x.f4.length : Int) by omega), rd_T24_nat hq, e0, preL24, List.length_nil, Nat.add_zero]
  | succ n ih =>
    intro j o hn hj ho hR
    have hlt : j < q := by omega
    have hjx : j < x.f4.length := by omega
    have hjt : j < (x.f4.take q).length := by omega
    have hd := preL24_drop hjt
    have he : (x.f4.take q)[j] = x.f4[j] := by simp
    rw [he] at hd
    have hm := pre_mem24 hjx
    refine Ev.succ (g := fun K => (RCount x.f4[j] K).bind fun t => assessorref03_Number.l1 K p (wrap64 ((o : Int) + t)) (i : Int) (wrap64 ((j : Int) + 1)) x.f0 x.f1 x.f2 x.f3 x.f4) (fun k => ?_) ?_
    · simp only [assessorref03_Number.l1, if_pos g1, if_pos g2, rd_nat hi, hp, if_pos (show (j : Int) < (q : Int) by omega), if_pos (show (0 : Int) ≤ (j : Int) by omega), if_pos (show (j : Int) < (x.f4.length : Int) by omega), rd_T24_nat hjx, RCount]
    · refine Ev.bind (rcount _ (by omega)) ?_
      rw [wrap_succ (by omega), wrap_ok (by omega) (by omega), ← Int.natCast_add]
      refine ih (j + 1) (o + (pre24 x.f4[j]).length) (by omega) (by omega) (by omega) ?_
      have e : o + (pre24 x.f4[j]).length + (preL24 ((x.f4.take q).drop (j + 1))).length = o + (preL24 ((x.f4.take q).drop j)).length := by omega
      rw [e]; exact hR
theorem rnum_l0 (p : List Int) (hl : p.length < 4611686018427387904) : ∀ (n i o : Nat) (x : S24), p.length - i = n → i ≤ p.length → (get24 (p.drop i) x).isSome = true → o + (pre24 x).length < 4611686018427387904 → Ev (fun K => assessorref03_Number.l0 K p (o : Int) (i : Int) x.f0 x.f1 x.f2 x.f3 x.f4) (nt24 o (num24 (p.drop i) x)) := by
  intro n
  induction n with
  | zero =>
    intro i o x hn hi hg ho
    have : i = p.length := by omega
    subst this
    refine Ev.succ (g := fun _ => some (nt24 o (num24 (p.drop p.length) x))) (fun k => ?_) Ev.const
    simp [assessorref03_Number.l0, List.drop_length, num24, nt24]
  | succ n ih =>
    intro i o x hn hi hg ho
    have hlt : i < p.length := by omega
    have h1 : (i : Int) < (p.length : Int) := by omega
    rw [List.drop_eq_getElem_cons hlt] at hg ⊢
    simp only [get24] at hg
    split at hg
    case isFalse => simp at hg
    rename_i hc
    obtain ⟨q, hq⟩ : ∃ q : Nat, p[i] = (q : Int) := ⟨p[i].toNat, by omega⟩
    have hqx : q < x.f4.length := by omega
    rw [hq, rd_T24_nat hqx] at hg
    have hp : (pre24 x).length = 1 + (preL24 x.f4).length := by rw [pre24_eq]; simp; omega
    have hk := pre_take_kid hqx
    refine Ev.succ (g := fun K => assessorref03_Number.l1 K p (wrap64 ((o : Int) + 1)) (i : Int) 0 x.f0 x.f1 x.f2 x.f3 x.f4) (fun k => by simp only [assessorref03_Number.l0, if_pos h1]) ?_
    rw [wrap_succ (by omega), num24, hq, if_pos (by omega), Int.toNat_natCast, rd_T24_nat hqx]
    refine rnum_l1 p i q o x hlt hq hqx (by omega) _ 0 (o + 1) rfl (Nat.zero_le _) (by rw [List.drop_zero]; omega) ?_
    rw [List.drop_zero, wrap_succ (by omega)]
    have h3 := ih (i + 1) (o + 1 + (preL24 (x.f4.take q)).length) x.f4[q] (by omega) (by omega) hg (by omega)
    have e : nt24 (o + 1 + (preL24 (x.f4.take q)).length) (num24 (p.drop (i + 1)) x.f4[q]) = nt24 o ((num24 (p.drop (i + 1)) x.f4[q]).map (fun m => 1 + (preL24 (x.f4.take q)).length + m)) := by
      cases num24 (p.drop (i + 1)) x.f4[q] with
      | none => rfl
      | some m => simp only [nt24, Option.map_some]; congr 2; omega
    rw [← e]; exact h3
theorem rnum (x : S24) (p : List Int) (hl : p.length < 4611686018427387904) (h : (pre24 x).length < 4611686018427387904) : Ev (fun K => assessorref03_Number.f K x.f0 x.f1 x.f2 x.f3 x.f4 p) (nt24 0 (num24 p x)) := by
  refine Ev.bind (h := fun t K => _) (rget x p hl) ?_
  cases hg : get24 p x with
  | none =>
    have hn : num24 p x = none := by have := num24_isSome p x; rw [hg] at this; simpa using this
    rw [hn]
    simp only [gt24, Bool.false_eq_true, if_false]
    exact Ev.const
  | some y =>
    simp only [gt24, if_true]
    exact rnum_l0 p hl _ 0 0 x rfl (Nat.zero_le _) (by rw [List.drop_zero, hg]; rfl) (by omega)

theorem findL24_add (at_ : Int) (a : Nat) (ks : List S24) (H : ∀ k ∈ ks, ∀ o, find24 at_ k (a + o) = a + find24 at_ k o) : ∀ acc o, findL24 at_ ks (a + acc) (a + o) = a + findL24 at_ ks acc o := by
  induction ks with
  | nil => intro acc o; simp [findL24]
  | cons k ks ih =>
    intro acc o
    simp only [findL24]
    split
    · exact H k (List.mem_cons_self ..) acc
    · have := ih (fun y hy => H y (List.mem_cons_of_mem _ hy)) (acc + (pre24 k).length) o
      rw [← this, Nat.add_assoc]
theorem find24_add (at_ : Int) (x : S24) : ∀ a o, find24 at_ x (a + o) = a + find24 at_ x o := by
  induction x using ind24 with
  | h x ih =>
    intro a o
    rw [find24_eq, find24_eq, Nat.add_assoc]
    exact findL24_add at_ a x.f4 (fun k hk o => ih k hk a o) (o + 1) o
def RFind (at_ : Int) (x : S24) : Nat → Option (Int × Bool) := fun K => assessorref03_Find.f K x.f0 x.f1 x.f2 x.f3 x.f4 at_
def fval (at_ : Int) (x : S24) : Int × Bool := ((if inside24 at_ x then (find24 at_ x 0 : Int) else 0), inside24 at_ x)
theorem rfind_l0 (at_ : Int) (x : S24) (H : ∀ k ∈ x.f4, Ev (RFind at_ k) (fval at_ k)) (hx : (pre24 x).length < 2305843009213693952) :
    ∀ (n j acc : Nat), x.f4.length - j = n → j ≤ x.f4.length → acc + (preL24 (x.f4.drop j)).length < 2305843009213693952 → Ev (fun K => assessorref03_Find.l0 K at_ (acc : Int) (j : Int) x.f0 x.f1 x.f2 x.f3 x.f4) ((findL24 at_ (x.f4.drop j) acc 0 : Int), true) := by
  have hp : (pre24 x).length = 1 + (preL24 x.f4).length := by rw [pre24_eq]; simp; omega
  have hl2 := len_preL24 x.f4
  intro n
  induction n with
  | zero =>
    intro j acc hn hj ha
    have : j = x.f4.length := by omega
    subst this
    refine Ev.succ (g := fun _ => some (((findL24 at_ (x.f4.drop x.f4.length) acc 0 : Nat) : Int), true)) (fun k => ?_) Ev.const
    simp [assessorref03_Find.l0, List.drop_length, findL24]
  | succ n ih =>
    intro j acc hn hj ha
    have hlt : j < x.f4.length := by omega
    have h1 : (j : Int) < (x.f4.length : Int) := by omega
    have h2 : (0 : Int) ≤ (j : Int) := by omega
    have hd := preL24_drop hlt
    have hm := pre_mem24 hlt
    refine Ev.succ (g := fun K => (RFind at_ x.f4[j] K).bind fun b => if b.2 = true then some (wrap64 ((acc : Int) + b.1), true) else ((RCount x.f4[j] K).bind fun t => assessorref03_Find.l0 K at_ (wrap64 ((acc : Int) + t)) (wrap64 ((j : Int) + 1)) x.f0 x.f1 x.f2 x.f3 x.f4)) (fun k => ?_) ?_
    · simp only [assessorref03_Find.l0, if_pos h1, if_pos h2, rd_T24_nat hlt, RFind, RCount]
    · refine Ev.bind (H _ (List.getElem_mem hlt)) ?_
      rw [List.drop_eq_getElem_cons hlt]
      cases hin : inside24 at_ x.f4[j] with
      | true =>
        simp only [fval, hin, if_true, findL24]
        obtain ⟨m, h3, h4, _⟩ := find_spec at_ x.f4[j] 0 hin
        have h5 := find24_add at_ x.f4[j] acc 0
        rw [Nat.add_zero] at h5
        rw [h5, wrap_ok (by omega) (by omega), Int.natCast_add]
        exact Ev.const
      | false =>
        simp only [fval, hin, Bool.false_eq_true, if_false, findL24]
        refine Ev.bind (rcount _ (by omega)) ?_
        rw [wrap_succ (by omega), wrap_ok (by omega) (by omega), ← Int.natCast_add]
        exact ih (j + 1) (acc + (pre24 x.f4[j]).length) (by omega) (by omega) (by omega)
theorem rfind (at_ : Int) (x : S24) (h : (pre24 x).length < 2305843009213693952) : Ev (RFind at_ x) (fval at_ x) := by
  induction x using ind24 with
  | h x ih =>
  have hp : (pre24 x).length = 1 + (preL24 x.f4).length := by rw [pre24_eq]; simp; omega
  by_cases h1 : at_ < x.f2
  · refine Ev.succ (g := fun K => assessorref03_Find.j0 K at_ true x.f0 x.f1 x.f2 x.f3 x.f4) (fun k => by simp only [RFind, assessorref03_Find.f, if_pos h1]) ?_
    refine Ev.succ (g := fun _ => some (0, false)) (fun k => by simp only [assessorref03_Find.j0, if_true]) ?_
    have : inside24 at_ x = false := by simp [inside24]; omega
    simp only [fval, this, Bool.false_eq_true, if_false]
    exact Ev.const
  · refine Ev.succ (g := fun K => assessorref03_Find.j0 K at_ (decide (at_ ≥ x.f3)) x.f0 x.f1 x.f2 x.f3 x.f4) (fun k => by simp only [RFind, assessorref03_Find.f, if_neg h1]) ?_
    by_cases h2 : at_ ≥ x.f3
    · refine Ev.succ (g := fun _ => some (0, false)) (fun k => by simp only [assessorref03_Find.j0, decide_eq_true h2, if_true]) ?_
      have : inside24 at_ x = false := by simp [inside24]; omega
      simp only [fval, this, Bool.false_eq_true, if_false]
      exact Ev.const
    · have hf : ¬ (decide (at_ ≥ x.f3) = true) := by simp; omega
      refine Ev.succ (g := fun K => assessorref03_Find.l0 K at_ 1 0 x.f0 x.f1 x.f2 x.f3 x.f4) (fun k => by simp only [assessorref03_Find.j0, if_neg hf]) ?_
      have : inside24 at_ x = true := by simp [inside24]; omega
      simp only [fval, this, if_true, find24_eq]
      exact rfind_l0 at_ x (fun k hk => ih k hk (by obtain ⟨j, hj, rfl⟩ := List.getElem_of_mem hk; have := pre_mem24 hj; omega)) h _ 0 1 rfl (Nat.zero_le _) (by rw [List.drop_zero]; omega)
def REq (x y : S24) : Nat → Option Bool := fun K => assessorref03_Equal.f K x.f0 x.f1 x.f2 x.f3 x.f4 y.f0 y.f1 y.f2 y.f3 y.f4
theorem req_l0 (b0 : Int) (b1 : ByteArray) (b2 b3 : Int) (xs : List S24) (H : ∀ k ∈ xs, Ev (REq k k) true) (hl : xs.length < 4611686018427387904) : ∀ (n j : Nat), xs.length - j = n → j ≤ xs.length → Ev (fun K => assessorref03_Equal.l0 K (j : Int) b0 b1 b2 b3 xs b0 b1 b2 b3 xs) true := by
  intro n
  induction n with
  | zero =>
    intro j hn hj
    have : j = xs.length := by omega
    subst this
    refine Ev.succ (g := fun _ => some true) (fun k => ?_) Ev.const
    simp only [assessorref03_Equal.l0, if_neg (Int.lt_irrefl _)]
  | succ n ih =>
    intro j hn hj
    have hlt : j < xs.length := by omega
    have h1 : (j : Int) < (xs.length : Int) := by omega
    have h2 : (0 : Int) ≤ (j : Int) := by omega
    refine Ev.succ (g := fun K => (REq xs[j] xs[j] K).bind fun t => if t = true then assessorref03_Equal.l0 K (wrap64 ((j : Int) + 1)) b0 b1 b2 b3 xs b0 b1 b2 b3 xs else some false) (fun k => ?_) ?_
    · simp only [assessorref03_Equal.l0, if_pos h1, if_pos h2, rd_T24_nat hlt, REq]
    · refine Ev.bind (H _ (List.getElem_mem hlt)) ?_
      simp only [if_true]
      rw [wrap_succ (by omega)]
      exact ih (j + 1) (by omega) (by omega)
theorem req (x : S24) (h : (pre24 x).length < 4611686018427387904) : Ev (REq x x) true := by
  induction x using ind24 with
  | h x ih =>
  have hp : (pre24 x).length = 1 + (preL24 x.f4).length := by rw [pre24_eq]; simp; omega
  have hl2 := len_preL24 x.f4
  refine Ev.succ (g := fun K => assessorref03_Equal.j0 K ((x.f4.length : Int) != (x.f4.length : Int)) x.f0 x.f1 x.f2 x.f3 x.f4 x.f0 x.f1 x.f2 x.f3 x.f4) (fun k => by simp only [REq, assessorref03_Equal.f, if_true]) ?_
  refine Ev.succ (g := fun K => assessorref03_Equal.l0 K 0 x.f0 x.f1 x.f2 x.f3 x.f4 x.f0 x.f1 x.f2 x.f3 x.f4) (fun k => by simp [assessorref03_Equal.j0]) ?_
  exact req_l0 x.f0 x.f1 x.f2 x.f3 x.f4 (fun k hk => ih k hk (by obtain ⟨j, hj, rfl⟩ := List.getElem_of_mem hk; have := pre_mem24 hj; omega)) (by omega) _ 0 rfl (Nat.zero_le _)
theorem rints_l0 (xs : List Int) (hl : xs.length < 4611686018427387904) : ∀ (n j : Nat), xs.length - j = n → j ≤ xs.length → Ev (fun K => assessorref01_Ints.l0 K xs xs (j : Int)) true := by
  intro n
  induction n with
  | zero =>
    intro j hn hj
    have : j = xs.length := by omega
    subst this
    refine Ev.succ (g := fun _ => some true) (fun k => ?_) Ev.const
    simp only [assessorref01_Ints.l0, if_neg (Int.lt_irrefl _)]
  | succ n ih =>
    intro j hn hj
    have hlt : j < xs.length := by omega
    have h1 : (j : Int) < (xs.length : Int) := by omega
    have h2 : (0 : Int) ≤ (j : Int) := by omega
    refine Ev.succ (g := fun K => assessorref01_Ints.l0 K xs xs (wrap64 ((j : Int) + 1))) (fun k => ?_) ?_
    · simp only [assessorref01_Ints.l0, if_pos h1, if_pos h2, if_true]
    · rw [wrap_succ (by omega)]
      exact ih (j + 1) (by omega) (by omega)
theorem rints (xs : List Int) (hl : xs.length < 4611686018427387904) : Ev (fun K => assessorref01_Ints.f K xs xs) true := by
  refine Ev.congr (g := fun K => assessorref01_Ints.l0 K xs xs 0) (fun k => by simp only [assessorref01_Ints.f, if_true]) ?_
  exact rints_l0 xs hl _ 0 rfl (Nat.zero_le _)
theorem numbers_law (x : S24) (p : List Int) (m at_ : Int) (h : (pre24 x).length < 1099511627776) (hp : p.length < 1099511627776) : Ev (fun K => assessorlaw03_TreeNumbers.f K x.f0 x.f1 x.f2 x.f3 x.f4 p m at_) true := by
  have key0 : Ev (fun K => assessorlaw03_TreeNumbers.j0 K p m at_ true x.f0 x.f1 x.f2 x.f3 x.f4) true := by
    refine Ev.succ (g := fun K => (assessorlaw03_awake.f K).bind fun t => some t) (fun k => by simp only [assessorlaw03_TreeNumbers.j0, if_true]) (Ev.bind rawake Ev.const)
  refine Ev.bind (h := fun t K => _) (rsmall x 150 (by omega)) ?_
  cases smallB x 150 with
  | false =>
    simp only [Bool.false_eq_true, if_false]
    exact key0
  | true =>
    simp only [if_true]
    by_cases h20 : (p.length : Int) > 20
    · simp only [decide_eq_true h20]; exact key0
    · simp only [decide_eq_false h20]
      have hpath := tpath_f x m h
      have hrpath : assessorref03_Path.f x.f0 x.f1 x.f2 x.f3 x.f4 m = tree_Path.f x.f0 x.f1 x.f2 x.f3 x.f4 m := rfl
      refine Ev.succ (g := fun k => ((tree_Get.f k x.f0 x.f1 x.f2 x.f3 x.f4 p).bind fun bt353 => ((assessorref03_Get.f k x.f0 x.f1 x.f2 x.f3 x.f4 p).bind fun bt362 => _))) (fun k => by simp only [assessorlaw03_TreeNumbers.j0, Bool.false_eq_true, if_false]; rfl) ?_
      refine Ev.bind (h := fun t K => _) (tget x p (by omega)) ?_
      refine Ev.bind (h := fun t K => _) (rget x p (by omega)) ?_
      simp only [hrpath, hpath, Option.bind_some]
      refine Ev.bind (h := fun t K => _) (tnum x p (by omega) (by omega)) ?_
      refine Ev.bind (h := fun t K => _) (rnum x p (by omega) (by omega)) ?_
      simp only [tfind_f x at_ (by omega), Option.bind_some]
      refine Ev.bind (h := fun t K => _) (rfind at_ x (by omega)) ?_
      simp only [tcount_f x (by omega), Option.bind_some]
      refine Ev.bind (h := fun t K => _) (rcount x (by omega)) ?_
      simp only [if_true]
      refine Ev.bind (h := fun t K => _) (tlev x (by omega)) ?_
      refine Ev.bind (h := fun t K => _) (rlev x (by omega)) ?_
      simp only [if_true, beq_self_eq_true]
      have hEq : Ev (fun K => assessorref03_Equal.f K (gt24 (get24 p x)).1 (gt24 (get24 p x)).2.1 (gt24 (get24 p x)).2.2.1 (gt24 (get24 p x)).2.2.2.1 (gt24 (get24 p x)).2.2.2.2.1 (gt24 (get24 p x)).1 (gt24 (get24 p x)).2.1 (gt24 (get24 p x)).2.2.1 (gt24 (get24 p x)).2.2.2.1 (gt24 (get24 p x)).2.2.2.2.1) true := by
        cases hg : get24 p x with
        | none => exact req ⟨0, (⟨#[]⟩ : ByteArray), 0, 0, []⟩ (by decide)
        | some y => exact req y (by
            have hle : ∀ (p : List Int) (x y : S24), get24 p x = some y → (pre24 y).length ≤ (pre24 x).length := by
              intro p
              induction p with
              | nil => intro x y h; cases h; exact Nat.le_refl _
              | cons i p ih =>
                intro x y h
                simp only [get24] at h
                split at h
                · rename_i hc
                  obtain ⟨i', rfl⟩ : ∃ i' : Nat, i = (i' : Int) := ⟨i.toNat, by omega⟩
                  have hi : i' < x.f4.length := by omega
                  rw [rd_T24_nat hi] at h
                  have h1 := ih _ _ h
                  have h2 := pre_mem24 hi
                  rw [pre24_eq x, List.length_cons]; omega
                · cases h
            have := hle p x y hg
            omega)
      refine Ev.bind (h := fun t K => _) hEq ?_
      simp only [if_true]
      refine Ev.bind (h := fun t K => _) (rints _ (by
        split
        · rename_i hc
          have := path24_length x m.toNat (by omega)
          omega
        · simp)) ?_
      simp only [if_true, fval, beq_self_eq_true]
      first | exact rawake | exact Ev.bind (h := fun t _ => some t) rawake Ev.const
end Go.Proofs.Ytbheobngeocdfaa.PAll
