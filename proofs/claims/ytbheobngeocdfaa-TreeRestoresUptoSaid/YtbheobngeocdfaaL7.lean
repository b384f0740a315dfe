/- Plain: what replace answers; the law TreeRestores. -/
import Derived.Test.YtbheobngeocdfaaLa
import Derived.Test.YtbheobngeocdfaaPAllxf24
import Derived.Test.YtbheobngeocdfaaM0
import Derived.Test.YtbheobngeocdfaaPAllxf9
namespace Go.Proofs.Ytbheobngeocdfaa.PAll
open Go.RowKit Go.Proofs.YtbheobngeocdfaaW.PrintWords Go.Proofs.YtbheobngeocdfaaW.PrintLast Go.Proofs.YtbheobngeocdfaaW.PrintMore
set_option linter.unusedVariables false
set_option linter.unusedSimpArgs false

def get24 : List Int → S24 → Option S24
 | [], x => some x
 | i :: p, x => if 0 ≤ i ∧ i < (x.f4.length : Int) then get24 p (rd_T24 x.f4 i) else none
def gt24 : Option S24 → Int × ByteArray × Int × Int × List S24 × Bool
 | none => (0, (⟨#[]⟩ : ByteArray), 0, 0, [], false)
 | some y => (y.f0, y.f1, y.f2, y.f3, y.f4, true)
theorem tget_l0 (p : List Int) (hl : p.length < 4611686018427387904) : ∀ (n j : Nat) (x : S24), p.length - j = n → j ≤ p.length → Ev (fun K => tree_Get.l0 K p (p.length : Int) (j : Int) x.f0 x.f1 x.f2 x.f3 x.f4) (gt24 (get24 (p.drop j) x)) := by
 intro n
 induction n with
 | zero =>
  intro j x hn hj
  have : j = p.length := by omega
  subst this
  refine Ev.succ (g := fun _ => some (gt24 (get24 (p.drop p.length) x))) (fun k => ?_) Ev.const
  simp [tree_Get.l0, List.drop_length, get24, gt24]
 | succ n ih =>
  intro j x hn hj
  have hlt : j < p.length := by omega
  have h1 : (j : Int) < (p.length : Int) := by omega
  have h2 : (0 : Int) ≤ (j : Int) := by omega
  rw [List.drop_eq_getElem_cons hlt]
  by_cases hn0 : p[j] < 0
  ·refine Ev.succ (g := fun _ => some (gt24 none)) (fun k => ?_) ?_
   ·simp only [tree_Get.l0, if_pos h1, if_pos h2, rd_nat hlt, if_pos hn0, gt24]
   ·rw [get24, if_neg (by omega)]; exact Ev.const
  ·by_cases hn1 : p[j] ≥ (x.f4.length : Int)
   ·refine Ev.succ (g := fun _ => some (gt24 none)) (fun k => ?_) ?_
    ·simp only [tree_Get.l0, if_pos h1, if_pos h2, rd_nat hlt, if_neg hn0, if_pos hn1, gt24]
    ·rw [get24, if_neg (by omega)]; exact Ev.const
   ·refine Ev.succ (g := fun K => tree_Get.l0 K p (p.length : Int) (wrap64 ((j : Int) + 1)) (rd_T24 x.f4 p[j]).f0 (rd_T24 x.f4 p[j]).f1 (rd_T24 x.f4 p[j]).f2 (rd_T24 x.f4 p[j]).f3 (rd_T24 x.f4 p[j]).f4) (fun k => ?_) ?_
    ·simp only [tree_Get.l0, if_pos h1, if_pos h2, rd_nat hlt, if_neg hn0, if_neg hn1, if_pos (show 0 ≤ p[j] by omega), if_pos (show p[j] < (x.f4.length : Int) by omega)]
    ·rw [get24, if_pos (by omega), wrap_succ (by omega)]
     exact ih (j + 1) _ (by omega) (by omega)
theorem tget (x : S24) (p : List Int) (hl : p.length < 4611686018427387904) : Ev (fun K => tree_Get.f K x.f0 x.f1 x.f2 x.f3 x.f4 p) (gt24 (get24 p x)) := tget_l0 p hl _ 0 x rfl (Nat.zero_le _)
theorem okRep_of (f t : Int) (y : S24) (h0 : 0 ≤ f) (h1 : f ≤ t) (h2 : t ≤ (y.f4.length : Int)) : ∀ (p : List Int) (x : S24), get24 p x = some y → okRep p f t x = true := by
 intro p
 induction p with
 | nil =>
  intro x h
  cases h
  simp [okRep]; omega
 | cons i q ih =>
  intro x h
  rw [get24] at h
  split at h
  case isFalse => cases h
  rename_i hi
  simp only [okRep, Bool.and_eq_true, decide_eq_true_eq]
  exact ⟨hi.1, hi.2, ih _ h⟩
theorem get_len (y : S24) : ∀ (p : List Int) (x : S24), get24 p x = some y → (pre24 y).length ≤ (pre24 x).length := by
 intro p
 induction p with
 | nil => intro x h; cases h; exact Nat.le_refl _
 | cons i q ih =>
  intro x h
  rw [get24] at h
  split at h
  case isFalse => cases h
  rename_i hi
  obtain ⟨n, rfl⟩ : ∃ n : Nat, i = (n : Int) := ⟨i.toNat, by omega⟩
  have hn : n < x.f4.length := by omega
  rw [rd_T24_nat hn] at h
  have h1 := ih _ h
  have h2 := pre_mem24 hn
  have h3 : (pre24 x).length = (preL24 x.f4).length + 1 := by rw [pre24_eq x, List.length_cons]
  omega
theorem rd_set {xs : List S24} {n : Nat} (h : n < xs.length) (v : S24) : rd_T24 (xs.set n v) (n : Int) = v := by
 rw [rd_T24_nat (by rw [List.length_set]; exact h), List.getElem_set_self]
theorem get_rep (fn tn : Nat) (l : List S24) (y : S24) : ∀ (p : List Int) (x : S24), get24 p x = some y → get24 p (rep24 p (fn : Int) (tn : Int) l x) = some ⟨y.f0, y.f1, y.f2, y.f3, y.f4.take fn ++ (l ++ y.f4.drop tn)⟩ := by
 intro p
 induction p with
 | nil => intro x h; cases h; rfl
 | cons i q ih =>
  intro x h
  rw [get24] at h
  split at h
  case isFalse => cases h
  rename_i hi
  obtain ⟨n, rfl⟩ : ∃ n : Nat, i = (n : Int) := ⟨i.toNat, by omega⟩
  have hn : n < x.f4.length := by omega
  show (if 0 ≤ (n : Int) ∧ (n : Int) < ((x.f4.set n (rep24 q fn tn l (rd_T24 x.f4 n))).length : Int) then get24 q (rd_T24 (x.f4.set n (rep24 q fn tn l (rd_T24 x.f4 n))) n) else none) = _
  rw [List.length_set, if_pos hi, rd_set hn]
  exact ih _ h
theorem cut_back {xs l : List S24} {fn tn : Nat} (h1 : fn ≤ tn) (h2 : tn ≤ xs.length) : (xs.take fn ++ (l ++ xs.drop tn)).take fn ++ ((xs.take tn).drop fn ++ (xs.take fn ++ (l ++ xs.drop tn)).drop (fn + l.length)) = xs := by
 have e1 : (xs.take fn).length = fn := by rw [List.length_take]; omega
 have e2 : (xs.take fn ++ (l ++ xs.drop tn)).take fn = xs.take fn := List.take_left' e1
 have e3 : (xs.take fn ++ (l ++ xs.drop tn)).drop (fn + l.length) = xs.drop tn := by
  rw [← List.append_assoc]; exact List.drop_left' (by rw [List.length_append, e1])
 have e4 : xs.take fn = (xs.take tn).take fn := by rw [List.take_take, Nat.min_eq_left h1]
 rw [e2, e3, e4, ← List.append_assoc, List.take_append_drop, List.take_append_drop]
theorem rep_rep (fn tn : Nat) (l : List S24) (y : S24) (h1 : fn ≤ tn) (h2 : tn ≤ y.f4.length) : ∀ (p : List Int) (x : S24), get24 p x = some y → rep24 p (fn : Int) ((fn + l.length : Nat) : Int) ((y.f4.take tn).drop fn) (rep24 p (fn : Int) (tn : Int) l x) = x := by
 intro p
 induction p with
 | nil =>
  intro x h
  cases h
  show (⟨y.f0, y.f1, y.f2, y.f3, (y.f4.take fn ++ (l ++ y.f4.drop tn)).take fn ++ ((y.f4.take tn).drop fn ++ (y.f4.take fn ++ (l ++ y.f4.drop tn)).drop (fn + l.length))⟩ : S24) = y
  rw [cut_back h1 h2]
  cases y; rfl
 | cons i q ih =>
  intro x h
  rw [get24] at h
  split at h
  case isFalse => cases h
  rename_i hi
  obtain ⟨n, rfl⟩ : ∃ n : Nat, i = (n : Int) := ⟨i.toNat, by omega⟩
  have hn : n < x.f4.length := by omega
  show (⟨x.f0, x.f1, x.f2, x.f3, (x.f4.set n (rep24 q fn tn l (rd_T24 x.f4 n))).set n (rep24 q (fn : Int) ((fn + l.length : Nat) : Int) ((y.f4.take tn).drop fn) (rd_T24 (x.f4.set n (rep24 q fn tn l (rd_T24 x.f4 n))) n))⟩ : S24) = x
  rw [rd_set hn, ih _ h, List.set_set, rd_T24_nat hn, List.set_getElem_self]
  cases x; rfl
theorem preL_set {xs : List S24} {n : Nat} (h : n < xs.length) (v : S24) : (preL24 (xs.set n v)).length + (pre24 xs[n]).length = (preL24 xs).length + (pre24 v).length := by
 have e1 : xs.set n v = xs.take n ++ ([v] ++ xs.drop (n + 1)) := by rw [List.set_eq_take_append_cons_drop, if_pos h]; rfl
 have e2 : xs = xs.take n ++ ([xs[n]] ++ xs.drop (n + 1)) := by
  have := (List.take_append_drop n xs).symm
  rw [List.drop_eq_getElem_cons h] at this
  exact this
 have h1 := congrArg (fun z => (preL24 z).length) e1
 have h2 := congrArg (fun z => (preL24 z).length) e2
 simp only [preL24_append, List.length_append] at h1 h2
 have h3 : ∀ z : S24, (preL24 [z]).length = (pre24 z).length := fun z => by simp [preL24]
 rw [h3] at h1 h2
 omega
theorem count_rep (fn tn : Nat) (l : List S24) (y : S24) (h1 : fn ≤ tn) (h2 : tn ≤ y.f4.length) : ∀ (p : List Int) (x : S24), get24 p x = some y → (pre24 (rep24 p (fn : Int) (tn : Int) l x)).length + (preL24 ((y.f4.take tn).drop fn)).length = (pre24 x).length + (preL24 l).length := by
 intro p
 induction p with
 | nil =>
  intro x h
  cases h
  have e1 : (pre24 (rep24 [] (fn : Int) (tn : Int) l y)).length = (preL24 (y.f4.take fn ++ (l ++ y.f4.drop tn))).length + 1 := by rw [pre24_eq, List.length_cons]; rfl
  have e2 : (pre24 y).length = (preL24 y.f4).length + 1 := by rw [pre24_eq y, List.length_cons]
  have e3 : y.f4 = y.f4.take fn ++ ((y.f4.take tn).drop fn ++ y.f4.drop tn) := by
   have e4 : y.f4.take fn = (y.f4.take tn).take fn := by rw [List.take_take, Nat.min_eq_left h1]
   rw [e4, ← List.append_assoc, List.take_append_drop, List.take_append_drop]
  have e5 := congrArg (fun z => (preL24 z).length) e3
  simp only [preL24_append, List.length_append] at e1 e5
  omega
 | cons i q ih =>
  intro x h
  rw [get24] at h
  split at h
  case isFalse => cases h
  rename_i hi
  obtain ⟨n, rfl⟩ : ∃ n : Nat, i = (n : Int) := ⟨i.toNat, by omega⟩
  have hn : n < x.f4.length := by omega
  have e1 : (pre24 (rep24 ((n : Int) :: q) (fn : Int) (tn : Int) l x)).length = (preL24 (x.f4.set n (rep24 q fn tn l (rd_T24 x.f4 n)))).length + 1 := by rw [pre24_eq, List.length_cons]; rfl
  have e2 : (pre24 x).length = (preL24 x.f4).length + 1 := by rw [pre24_eq x, List.length_cons]
  rw [rd_T24_nat hn] at e1 h
  have e3 := preL_set hn (rep24 q fn tn l x.f4[n])
  have e4 := ih _ h
  omega

def isL (k : Int) : Bool := match shapeOf k with | some s => s.list.isSome | none => false
/-- what Replace answers -/
def rval (p : List Int) (f t : Int) (l : List S24) (x : S24) : Int × ByteArray × Int × Int × List S24 × Int := match get24 p x with
 | none => (0, (⟨#[]⟩ : ByteArray), 0, 0, [], 7)
 | some y => if 0 ≤ f ∧ f ≤ t ∧ t ≤ (y.f4.length : Int) then (if isL y.f0 = true ∨ (l.length : Int) = t - f then (x.f0, x.f1, x.f2, x.f3, (rep24 p f t l x).f4, 0) else (0, (⟨#[]⟩ : ByteArray), 0, 0, [], 1)) else (0, (⟨#[]⟩ : ByteArray), 0, 0, [], 2)
theorem treplace (p : List Int) (f t : Int) (l : List S24) (x : S24) (h : (pre24 x).length + (preL24 l).length < 1099511627775) (hp : p.length < 1099511627776) : Ev (fun K => tree_Replace.f K x.f0 x.f1 x.f2 x.f3 x.f4 p f t l) (rval p f t l x) := by
 unfold tree_Replace.f rval
 refine Ev.bind (h := fun bt448 K => _) (tget x p (by omega)) ?_
 cases hg : get24 p x with
 | none => simp only [gt24, Bool.false_eq_true, if_false]; exact Ev.const
 | some y =>
  simp only [gt24, if_true]
  have hlen := get_len y p x hg
  have hyl := len_preL24 y.f4
  have hy1 : (pre24 y).length = (preL24 y.f4).length + 1 := by rw [pre24_eq y, List.length_cons]
  have e0 : (⟨x.f0, x.f1, x.f2, x.f3, x.f4⟩ : S24) = x := by cases x; rfl
  have tr : ∀ b : Bool, b = true → Ev (fun K => tree_Replace.j0 K p f t l b x.f0 x.f1 x.f2 x.f3 x.f4 y.f0 y.f1 y.f2 y.f3 y.f4) (0, (⟨#[]⟩ : ByteArray), 0, 0, [], 2) := fun b hb => Ev.succ (g := fun _ => some (0, (⟨#[]⟩ : ByteArray), 0, 0, ([] : List S24), 2)) (fun k => by simp only [tree_Replace.j0, hb, if_true]) Ev.const
  by_cases c1 : f < 0
  ·rw [if_neg (by omega)]; simp only [if_pos c1]; exact tr true rfl
  ·simp only [if_neg c1]
   by_cases c2 : f > t
   ·rw [if_neg (by omega)]; simp only [if_pos c2]; exact tr true rfl
   ·simp only [if_neg c2]
    by_cases c3 : t > (y.f4.length : Int)
    ·rw [if_neg (by omega)]; exact tr _ (decide_eq_true c3)
    ·rw [if_pos (by omega)]
     have hd : decide (t > (y.f4.length : Int)) = false := decide_eq_false c3
     have hw : wrap64 (t - f) = t - f := wrap_ok (by omega) (by omega)
     have hok := okRep_of f t y (by omega) (by omega) (by omega) p x hg
     have hr : tree_replace.f x.f0 x.f1 x.f2 x.f3 x.f4 p f t l = some (x.f0, x.f1, x.f2, x.f3, (rep24 p f t l x).f4) := by
      unfold tree_replace.f; rw [e0, if_pos ⟨hok, h, hp⟩]
     have hl : tree_List.f y.f0 = some (isL y.f0) := rfl
     refine (show ∀ b : Bool, b = false → Ev (fun K => tree_Replace.j0 K p f t l b x.f0 x.f1 x.f2 x.f3 x.f4 y.f0 y.f1 y.f2 y.f3 y.f4) (if isL y.f0 = true ∨ (l.length : Int) = t - f then (x.f0, x.f1, x.f2, x.f3, (rep24 p f t l x).f4, (0 : Int)) else (0, (⟨#[]⟩ : ByteArray), 0, 0, [], 1)) from fun b hb => ?_) _ (decide_eq_false c3)
     subst hb
     refine Ev.succ (g := fun _ => some (if isL y.f0 = true ∨ (l.length : Int) = t - f then (x.f0, x.f1, x.f2, x.f3, (rep24 p f t l x).f4, (0 : Int)) else (0, (⟨#[]⟩ : ByteArray), 0, 0, [], 1))) (fun k => ?_) Ev.const
     simp only [tree_Replace.j0, Bool.false_eq_true, if_false, hl, Option.bind_some, hr, hw]
     by_cases d1 : isL y.f0 = true
     ·simp only [d1, if_true, true_or]
     ·by_cases d2 : (l.length : Int) = t - f
      ·simp only [d1, d2, if_true, if_false, or_true, Bool.false_eq_true]
      ·simp only [d1, d2, if_false, or_self, Bool.false_eq_true]
def REq7 (x y : S24) : Nat → Option Bool := fun K => assessorref03_Equal.f K x.f0 x.f1 x.f2 x.f3 x.f4 y.f0 y.f1 y.f2 y.f3 y.f4
theorem req7_l0 (b0 : Int) (b1 : ByteArray) (b2 b3 : Int) (xs : List S24) (H : ∀ k ∈ xs, Ev (REq7 k k) true) (hl : xs.length < 4611686018427387904) : ∀ (n j : Nat), xs.length - j = n → j ≤ xs.length → Ev (fun K => assessorref03_Equal.l0 K (j : Int) b0 b1 b2 b3 xs b0 b1 b2 b3 xs) true := by
 intro n
 induction n with
 | zero =>
  intro j hn hj
  have : j = xs.length := by omega
  subst this
  refine Ev.succ (g := fun _ => some true) (fun k => ?_) Ev.const
  simp only [assessorref03_Equal.l0, if_neg (Int.lt_irrefl _)]
 | succ n ih =>
  intro j hn hj
  have hlt : j < xs.length := by omega
  have h1 : (j : Int) < (xs.length : Int) := by omega
  have h2 : (0 : Int) ≤ (j : Int) := by omega
  refine Ev.succ (g := fun K => (REq7 xs[j] xs[j] K).bind fun t => if t = true then assessorref03_Equal.l0 K (wrap64 ((j : Int) + 1)) b0 b1 b2 b3 xs b0 b1 b2 b3 xs else some false) (fun k => ?_) ?_
  ·simp only [assessorref03_Equal.l0, if_pos h1, if_pos h2, rd_T24_nat hlt, REq7]
  ·refine Ev.bind (H _ (List.getElem_mem hlt)) ?_
   simp only [if_true]
   rw [wrap_succ (by omega)]
   exact ih (j + 1) (by omega) (by omega)
theorem req7 (x : S24) (h : (pre24 x).length < 4611686018427387904) : Ev (REq7 x x) true := by
 induction x using ind24 with
 | h x ih =>
 have hp : (pre24 x).length = 1 + (preL24 x.f4).length := by rw [pre24_eq]; simp; omega
 have hl2 := len_preL24 x.f4
 refine Ev.succ (g := fun K => assessorref03_Equal.j0 K ((x.f4.length : Int) != (x.f4.length : Int)) x.f0 x.f1 x.f2 x.f3 x.f4 x.f0 x.f1 x.f2 x.f3 x.f4) (fun k => by simp only [REq7, assessorref03_Equal.f, if_true]) ?_
 refine Ev.succ (g := fun K => assessorref03_Equal.l0 K 0 x.f0 x.f1 x.f2 x.f3 x.f4 x.f0 x.f1 x.f2 x.f3 x.f4) (fun k => by simp [assessorref03_Equal.j0]) ?_
 exact req7_l0 x.f0 x.f1 x.f2 x.f3 x.f4 (fun k hk => ih k hk (by obtain ⟨j, hj, rfl⟩ := List.getElem_of_mem hk; have := pre_mem24 hj; omega)) (by omega) _ 0 rfl (Nat.zero_le _)
theorem preL_takes {xs : List S24} {j : Nat} (h : j < xs.length) : (preL24 (xs.take (j + 1))).length = (preL24 (xs.take j)).length + (pre24 xs[j]).length := by rw [preL24_take xs j h, List.length_append]
theorem preL_take_le (xs : List S24) (j : Nat) : (preL24 (xs.take j)).length ≤ (preL24 xs).length := by
 have e : preL24 xs = preL24 (xs.take j) ++ preL24 (xs.drop j) := by rw [← preL24_append, List.take_append_drop]
 rw [e, List.length_append]; omega
theorem rval_ok (p : List Int) (f t : Int) (l : List S24) (m y : S24) (hg : get24 p m = some y) (h1 : 0 ≤ f ∧ f ≤ t ∧ t ≤ (y.f4.length : Int)) (h2 : isL y.f0 = true ∨ (l.length : Int) = t - f) : rval p f t l m = (m.f0, m.f1, m.f2, m.f3, (rep24 p f t l m).f4, 0) := by
 unfold rval
 rw [hg]
 simp only []
 rw [if_pos h1, if_pos h2]
set_option maxHeartbeats 2000000 in
theorem restores_l1 (x y : S24) (p : List Int) (fn tn : Nat) (l : List S24) (hg : get24 p x = some y) (h1 : fn ≤ tn) (h2 : tn ≤ y.f4.length) (hL : isL y.f0 = true ∨ (l.length : Int) = (tn : Int) - (fn : Int))
  (hx : (pre24 x).length < 549755813880) (hp : p.length < 1099511627776) (hl : (preL24 l).length < 549755813880) :
  ∀ (n j : Nat), ((y.f4.take tn).drop fn).length - j = n → j ≤ ((y.f4.take tn).drop fn).length →
  Ev (fun K => assessorlaw03_TreeRestores.l1 K p (fn : Int) (tn : Int) l (((preL24 l).length : Int) - ((preL24 (((y.f4.take tn).drop fn).take j)).length : Int)) ((y.f4.take tn).drop fn) (((y.f4.take tn).drop fn).length : Int) (j : Int) x.f0 x.f1 x.f2 x.f3 x.f4 x.f0 x.f1 x.f2 x.f3 (rep24 p (fn : Int) (tn : Int) l x).f4 y.f0 y.f1 y.f2 y.f3 y.f4) true := by
 have hcnt := count_rep fn tn l y h1 h2 p x hg
 have hlen := get_len y p x hg
 have hy1 : (pre24 y).length = (preL24 y.f4).length + 1 := by rw [pre24_eq y, List.length_cons]
 have hyl := len_preL24 y.f4
 have hll := len_preL24 l
 have hback := rep_rep fn tn l y h1 h2 p x hg
 have hgr := get_rep fn tn l y p x hg
 have e1 : (y.f4.take fn).length = fn := by rw [List.length_take]; omega
 have hml : (y.f4.take fn ++ (l ++ y.f4.drop tn)).length = fn + (l.length + (y.f4.length - tn)) := by simp only [List.length_append, e1, List.length_drop]
 have hysl : ((y.f4.take tn).drop fn).length = tn - fn := by rw [List.length_drop, List.length_take]; omega
 have hrm := rep_eq p (fn : Int) (tn : Int) l x
 obtain ⟨Z, hZ⟩ : ∃ Z, Z = y.f4.take fn ++ (l ++ y.f4.drop tn) := ⟨_, rfl⟩
 rw [← hZ] at hgr hml
 clear hZ e1
 obtain ⟨m, hm⟩ : ∃ m, m = rep24 p (fn : Int) (tn : Int) l x := ⟨_, rfl⟩
 rw [← hm] at hcnt hback hgr hrm ⊢
 obtain ⟨ys, hys⟩ : ∃ ys, ys = (y.f4.take tn).drop fn := ⟨_, rfl⟩
 rw [← hys] at hcnt hback hysl ⊢
 have hm0 : m.f0 = x.f0 := by rw [hrm]
 have hm1 : m.f1 = x.f1 := by rw [hrm]
 have hm2 : m.f2 = x.f2 := by rw [hrm]
 have hm3 : m.f3 = x.f3 := by rw [hrm]
 intro n
 induction n with
 | zero =>
  intro j hn hj
  have : j = ys.length := by omega
  subst this
  have i1 : (pre24 m).length < 4611686018427387904 := by omega
  have i2 : (pre24 x).length < 4611686018427387904 := by omega
  have i3 : (pre24 m).length + (preL24 ys).length < 1099511627775 := by omega
  have i4 : (0 : Int) ≤ (fn : Int) := by omega
  have i5 : (fn : Int) ≤ (tn : Int) := by omega
  have i6 : (tn : Int) ≤ (y.f4.length : Int) := by omega
  have hb : (0 : Int) ≤ (fn : Int) ∧ (fn : Int) ≤ ((fn + l.length : Nat) : Int) ∧ ((fn + l.length : Nat) : Int) ≤ (Z.length : Int) := ⟨by omega, by omega, by omega⟩
  have hL2 : isL y.f0 = true ∨ (ys.length : Int) = ((fn + l.length : Nat) : Int) - (fn : Int) := by
   rcases hL with h | h
   ·exact .inl h
   ·exact .inr (by omega)
  have j1 : -9223372036854775808 ≤ (fn : Int) + (l.length : Int) := by omega
  have j2 : (fn : Int) + (l.length : Int) < 9223372036854775808 := by omega
  have j3 : (fn : Int) + (l.length : Int) = ((fn + l.length : Nat) : Int) := by omega
  have j4 : -9223372036854775808 ≤ ((pre24 x).length : Int) + (((preL24 l).length : Int) - ((preL24 ys).length : Int)) := by omega
  have j5 : ((pre24 x).length : Int) + (((preL24 l).length : Int) - ((preL24 ys).length : Int)) < 9223372036854775808 := by omega
  have j6 : ((pre24 x).length : Int) + (((preL24 l).length : Int) - ((preL24 ys).length : Int)) = ((pre24 m).length : Int) := by omega
  have hs : wrap64 ((fn : Int) + (l.length : Int)) = ((fn + l.length : Nat) : Int) := (wrap_ok j1 j2).trans j3
  have hw : wrap64 (((pre24 x).length : Int) + (((preL24 l).length : Int) - ((preL24 ys).length : Int))) = ((pre24 m).length : Int) := (wrap_ok j4 j5).trans j6
  have c1 : tree_Count.f x.f0 x.f1 x.f2 x.f3 m.f4 = some ((pre24 m).length : Int) := by
   have := tcount_f m i1
   rw [hm0, hm1, hm2, hm3] at this; exact this
  have c2 := tcount_f x i2
  have hT := treplace p (fn : Int) ((fn + l.length : Nat) : Int) ys m i3 hp
  rw [rval_ok p _ _ ys m _ hgr hb hL2, hback, hm0, hm1, hm2, hm3] at hT
  clear j1 j2 j3 j4 j5 j6 i1 hcnt hgr hrm hb hL2 hback hm
  refine Ev.succ (g := fun K => (tree_Replace.f K x.f0 x.f1 x.f2 x.f3 m.f4 p (fn : Int) ((fn + l.length : Nat) : Int) ys).bind fun bt666 => (if bt666.2.2.2.2.2 = 0 then ((assessorref03_Equal.f K bt666.1 bt666.2.1 bt666.2.2.1 bt666.2.2.2.1 bt666.2.2.2.2.1 x.f0 x.f1 x.f2 x.f3 x.f4).bind fun t675 => (if t675 = true then ((assessorlaw03_awake.f K).bind fun t678 => (some t678)) else (none))) else (none))) (fun k => ?_) ?_
  ·simp only [assessorlaw03_TreeRestores.l1, if_neg (Int.lt_irrefl _), if_pos i4, if_pos i5, if_pos i6, hs, Int.toNat_natCast, ← hys, c1, c2, Option.bind_some, List.take_length, hw, if_true]
  ·refine Ev.bind (h := fun bt666 K => (if bt666.2.2.2.2.2 = 0 then ((assessorref03_Equal.f K bt666.1 bt666.2.1 bt666.2.2.1 bt666.2.2.2.1 bt666.2.2.2.2.1 x.f0 x.f1 x.f2 x.f3 x.f4).bind fun t675 => (if t675 = true then ((assessorlaw03_awake.f K).bind fun t678 => (some t678)) else (none))) else (none))) hT ?_
   simp only [if_true]
   refine Ev.bind (h := fun t675 K => (if t675 = true then ((assessorlaw03_awake.f K).bind fun t678 => (some t678)) else (none))) (req7 x i2) ?_
   simp only [if_true]
   exact Ev.bind (h := fun t _ => some t) rawake Ev.const
 | succ n ih =>
  intro j hn hj
  have hlt : j < ys.length := by omega
  have h1' : (j : Int) < (ys.length : Int) := by omega
  have h2' : (0 : Int) ≤ (j : Int) := by omega
  have hpt := preL_takes hlt
  have hptl := preL_take_le ys (j + 1)
  refine Ev.succ (g := fun K => (RCount ys[j] K).bind fun t660 => assessorlaw03_TreeRestores.l1 K p (fn : Int) (tn : Int) l (wrap64 ((((preL24 l).length : Int) - ((preL24 (ys.take j)).length : Int)) - t660)) ys (ys.length : Int) (wrap64 ((j : Int) + 1)) x.f0 x.f1 x.f2 x.f3 x.f4 x.f0 x.f1 x.f2 x.f3 m.f4 y.f0 y.f1 y.f2 y.f3 y.f4) (fun k => ?_) ?_
  ·simp only [assessorlaw03_TreeRestores.l1, if_pos h1', if_pos h2', rd_T24_nat hlt, RCount]
  ·refine Ev.bind (h := fun t660 K => _) (rcount ys[j] (by omega)) ?_
   rw [wrap_succ (by omega)]
   have hw : wrap64 ((((preL24 l).length : Int) - ((preL24 (ys.take j)).length : Int)) - ((pre24 ys[j]).length : Int)) = ((preL24 l).length : Int) - ((preL24 (ys.take (j + 1))).length : Int) := by rw [wrap_ok (by omega) (by omega)]; omega
   rw [hw]
   exact ih (j + 1) (by omega) (by omega)
theorem restores_l0 (x : S24) (p : List Int) (f t : Int) (l : List S24) (hx : (pre24 x).length < 549755813880) (hp : p.length < 1099511627776) (hl : (preL24 l).length < 549755813880) :
  ∀ (n j : Nat), l.length - j = n → j ≤ l.length → Ev (fun K => assessorlaw03_TreeRestores.l0 K p f t l ((preL24 (l.take j)).length : Int) l (l.length : Int) (j : Int) x.f0 x.f1 x.f2 x.f3 x.f4) true := by
 have hll := len_preL24 l
 have haw : Ev (fun K => (assessorlaw03_awake.f K).bind fun t => some t) true := Ev.bind (h := fun t _ => some t) rawake Ev.const
 intro n
 induction n with
 | zero =>
  intro j hn hj
  have : j = l.length := by omega
  subst this
  refine Ev.succ (fun k => by simp only [assessorlaw03_TreeRestores.l0, if_neg (Int.lt_irrefl _)]; rfl) ?_
  refine Ev.bind (h := fun bt634 K => _) (treplace p f t l x (by omega) hp) ?_
  unfold rval
  cases hg : get24 p x with
  | none => simp only [show ¬ ((7 : Int) = 0) by decide, if_false]; exact haw
  | some y =>
   simp only []
   by_cases c1 : 0 ≤ f ∧ f ≤ t ∧ t ≤ (y.f4.length : Int)
   ·rw [if_pos c1]
    by_cases c2 : isL y.f0 = true ∨ (l.length : Int) = t - f
    ·rw [if_pos c2]
     obtain ⟨fn, rfl⟩ : ∃ n : Nat, f = (n : Int) := ⟨f.toNat, by omega⟩
     obtain ⟨tn, rfl⟩ : ∃ n : Nat, t = (n : Int) := ⟨t.toNat, by omega⟩
     simp only [if_true]
     have hG := tget x p (by omega)
     rw [hg] at hG
     refine Ev.bind (h := fun bt644 K => _) hG ?_
     simp only [gt24, if_true, if_neg (show ¬ ((fn : Int) < 0) by omega), if_neg (show ¬ ((fn : Int) > (tn : Int)) by omega)]
     refine (show ∀ b : Bool, b = false → Ev (fun K => assessorlaw03_TreeRestores.j2 K p (fn : Int) (tn : Int) l ((preL24 (l.take l.length)).length : Int) b x.f0 x.f1 x.f2 x.f3 x.f4 x.f0 x.f1 x.f2 x.f3 (rep24 p (fn : Int) (tn : Int) l x).f4 y.f0 y.f1 y.f2 y.f3 y.f4) true from fun b hb => ?_) _ (decide_eq_false (by omega))
     subst hb
     refine Ev.succ (g := fun K => assessorlaw03_TreeRestores.l1 K p (fn : Int) (tn : Int) l (((preL24 l).length : Int) - ((preL24 (((y.f4.take tn).drop fn).take 0)).length : Int)) ((y.f4.take tn).drop fn) (((y.f4.take tn).drop fn).length : Int) ((0 : Nat) : Int) x.f0 x.f1 x.f2 x.f3 x.f4 x.f0 x.f1 x.f2 x.f3 (rep24 p (fn : Int) (tn : Int) l x).f4 y.f0 y.f1 y.f2 y.f3 y.f4) (fun k => ?_) (restores_l1 x y p fn tn l hg (by omega) (by omega) c2 hx hp hl _ 0 rfl (Nat.zero_le _))
     have e0 : ((preL24 l).length : Int) - ((preL24 (((y.f4.take tn).drop fn).take 0)).length : Int) = ((preL24 l).length : Int) := by rw [List.take_zero]; simp [preL24]
     rw [e0]
     simp only [assessorlaw03_TreeRestores.j2, Bool.false_eq_true, if_false, if_pos (show (0 : Int) ≤ (fn : Int) by omega), if_pos (show (fn : Int) ≤ (tn : Int) by omega), if_pos (show (tn : Int) ≤ (y.f4.length : Int) by omega), Option.bind_some, Int.toNat_natCast, List.take_length]
     rfl
    ·rw [if_neg c2]
     simp only [show ¬ ((1 : Int) = 0) by decide, if_false]; exact haw
   ·rw [if_neg c1]
    simp only [show ¬ ((2 : Int) = 0) by decide, if_false]; exact haw
 | succ n ih =>
  intro j hn hj
  have hlt : j < l.length := by omega
  have h1' : (j : Int) < (l.length : Int) := by omega
  have h2' : (0 : Int) ≤ (j : Int) := by omega
  have hpt := preL_takes hlt
  have hptl := preL_take_le l (j + 1)
  refine Ev.succ (g := fun K => (assessorref03_Small.f K l[j].f0 l[j].f1 l[j].f2 l[j].f3 l[j].f4 30).bind fun t631 => (if t631 = true then ((RCount l[j] K).bind fun t632 => (assessorlaw03_TreeRestores.l0 K p f t l (wrap64 (((preL24 (l.take j)).length : Int) + t632)) l (l.length : Int) (wrap64 ((j : Int) + 1)) x.f0 x.f1 x.f2 x.f3 x.f4)) else ((assessorlaw03_awake.f K).bind fun t633 => (some t633)))) (fun k => ?_) ?_
  ·simp only [assessorlaw03_TreeRestores.l0, if_pos h1', if_pos h2', rd_T24_nat hlt, RCount]
  ·refine Ev.bind (h := fun t631 K => _) (rsmall l[j] 30 (by omega)) ?_
   cases smallB l[j] 30 with
   | false => simp only [Bool.false_eq_true, if_false]; exact haw
   | true =>
    simp only [if_true]
    refine Ev.bind (h := fun t632 K => _) (rcount l[j] (by omega)) ?_
    rw [wrap_succ (by omega)]
    have hw : wrap64 (((preL24 (l.take j)).length : Int) + ((pre24 l[j]).length : Int)) = ((preL24 (l.take (j + 1))).length : Int) := by rw [wrap_ok (by omega) (by omega)]; omega
    rw [hw]
    exact ih (j + 1) (by omega) (by omega)
theorem restores_law (x : S24) (p : List Int) (f t : Int) (l : List S24) (hx : (pre24 x).length < 549755813880) (hp : p.length < 1099511627776) (hl : (preL24 l).length < 549755813880) : Ev (fun K => assessorlaw03_TreeRestores.f K x.f0 x.f1 x.f2 x.f3 x.f4 p f t l) true := by
 have haw : Ev (fun K => (assessorlaw03_awake.f K).bind fun t => some t) true := Ev.bind (h := fun t _ => some t) rawake Ev.const
 have hj : ∀ b : Bool, Ev (fun K => assessorlaw03_TreeRestores.j0 K p f t l b x.f0 x.f1 x.f2 x.f3 x.f4) true := fun b => by
  cases b with
  | true => exact Ev.succ (g := fun K => (assessorlaw03_awake.f K).bind fun t => some t) (fun k => by simp only [assessorlaw03_TreeRestores.j0, if_true]) haw
  | false =>
   refine Ev.succ (g := fun K => assessorlaw03_TreeRestores.l0 K p f t l ((preL24 (l.take 0)).length : Int) l (l.length : Int) ((0 : Nat) : Int) x.f0 x.f1 x.f2 x.f3 x.f4) (fun k => ?_) (restores_l0 x p f t l hx hp hl _ 0 rfl (Nat.zero_le _))
   have e0 : ((preL24 (l.take 0)).length : Int) = 0 := by rw [List.take_zero]; simp [preL24]
   rw [e0]
   simp only [assessorlaw03_TreeRestores.j0, Bool.false_eq_true, if_false]; rfl
 refine Ev.bind (h := fun t627 K => _) (rsmall x 100 (by omega)) ?_
 cases smallB x 100 with
 | false => simp only [Bool.false_eq_true, if_false]; exact hj true
 | true =>
  simp only [if_true]
  split
  ·exact hj true
  ·exact hj _
end Go.Proofs.Ytbheobngeocdfaa.PAll
