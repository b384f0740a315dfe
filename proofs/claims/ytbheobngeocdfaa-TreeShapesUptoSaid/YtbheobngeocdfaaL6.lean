/- Plain: the shapes are the reference's; the law TreeShapes. -/
import Derived.Test.YtbheobngeocdfaaLn
import Derived.Test.YtbheobngeocdfaaL5s
import Derived.Test.YtbheobngeocdfaaPAllxf3
namespace Go.Proofs.Ytbheobngeocdfaa.PAll
open Go.RowKit Go.Proofs.YtbheobngeocdfaaW.PrintWords Go.Proofs.YtbheobngeocdfaaW.PrintLast Go.Proofs.YtbheobngeocdfaaW.PrintMore
set_option linter.unusedVariables false
set_option linter.unusedSimpArgs false

theorem Ev.of_mono {α : Type} {f : Nat → Option α} {v : α} (hm : ∀ k, LeO (f k) (f (k + 1))) (n : Nat) (h : f n = some v) : Ev f v := ⟨n, fun k hk => by
  obtain ⟨d, rfl⟩ : ∃ d, k = n + d := ⟨k - n, by omega⟩
  clear hk
  induction d with
  | zero => exact h
  | succ d ih => exact hm (n + d) _ ih⟩
theorem kind_cases {k : Int} (h1 : ¬ k < 0) (h2 : ¬ k = 1) (h3 : ¬ k > 29) : k = 0 ∨ k = 2 ∨ k = 3 ∨ k = 4 ∨ k = 5 ∨ k = 6 ∨ k = 7 ∨ k = 8 ∨ k = 9 ∨ k = 10 ∨ k = 11 ∨ k = 12 ∨ k = 13 ∨ k = 14 ∨ k = 15 ∨ k = 16 ∨ k = 17 ∨ k = 18 ∨ k = 19 ∨ k = 20 ∨ k = 21 ∨ k = 22 ∨ k = 23 ∨ k = 24 ∨ k = 25 ∨ k = 26 ∨ k = 27 ∨ k = 28 ∨ k = 29 := by omega
theorem shape_range {k : Int} {sh : Sh} (h : shapeOf k = some sh) : ¬ k < 0 ∧ ¬ k = 1 ∧ ¬ k > 29 := by
  unfold shapeOf at h
  obtain ⟨x, hx, _⟩ := Option.map_eq_some_iff.1 h
  have h1 := List.mem_of_find?_eq_some hx
  have h2 := List.find?_some hx
  have h3 : x.2.1 = k := by simpa using h2
  have h4 : ∀ y ∈ insL, ¬ y.2.1 < 0 ∧ ¬ y.2.1 = 1 ∧ ¬ y.2.1 > 29 := by decide
  rw [← h3]; exact h4 x h1
theorem shape_some {k : Int} (h1 : ¬ k < 0) (h2 : ¬ k = 1) (h3 : ¬ k > 29) : ∃ sh, shapeOf k = some sh := by
  rcases kind_cases h1 h2 h3 with rfl | rfl | rfl | rfl | rfl | rfl | rfl | rfl | rfl | rfl | rfl | rfl | rfl | rfl | rfl | rfl | rfl | rfl | rfl | rfl | rfl | rfl | rfl | rfl | rfl | rfl | rfl | rfl | rfl <;> exact ⟨_, rfl⟩
theorem rtype (k : Int) : assessorref03_Type.f k = some (pType k) := by unfold assessorref03_Type.f pType; split <;> rfl
theorem rplace (k : Int) : assessorref03_Place.f k = some (pPlace k) := by unfold assessorref03_Place.f pPlace; split; rfl; split <;> rfl
theorem risexpr (k : Int) : assessorref03_IsExpression.f k = some (pExpr k) := by unfold assessorref03_IsExpression.f pExpr; split <;> rfl
theorem risstmt (k : Int) : assessorref03_IsStatement.f k = some (pStmt k) := by unfold assessorref03_IsStatement.f pStmt; split <;> rfl

theorem two_words (l a b : List UInt8) : (if l = a then some true else some (l == b)) = some ((l == a) || ((l == b) || false)) := by
  by_cases h : l = a
  · rw [if_pos h, beq_iff_eq.2 h, Bool.true_or]
  · rw [if_neg h, beq_eq_false_iff_ne.2 h, Bool.false_or, Bool.or_false]
def rngV (sh : Sh) : Int × Int := match sh.list with | none => ((sh.kids.length : Int), (sh.kids.length : Int)) | some _ => (sh.most, 4096)
theorem rmost (k : Int) (sh : Sh) (h : shapeOf k = some sh) : Ev (fun K => assessorref03_most.f K k) (rngV sh) := by
  obtain ⟨h1, h2, h3⟩ := shape_range h
  refine Ev.of_mono (fun n => assessorref03_most.mono k n) 6 ?_
  rcases kind_cases h1 h2 h3 with rfl | rfl | rfl | rfl | rfl | rfl | rfl | rfl | rfl | rfl | rfl | rfl | rfl | rfl | rfl | rfl | rfl | rfl | rfl | rfl | rfl | rfl | rfl | rfl | rfl | rfl | rfl | rfl | rfl <;> (cases h; rfl)
theorem rtext (k : Int) (s : ByteArray) (b2 b3 : Int) (ks : List S24) (hs : s.size < 4611686018427387904) (sh : Sh) (h : shapeOf k = some sh) : Ev (fun K => assessorref03_text.f K k s b2 b3 ks) (sh.text.ev s) := by
  obtain ⟨h1, h2, h3⟩ := shape_range h
  have hname : Ev (fun K => (assessorref02_Name.f K s).bind fun t => some t) (qName s) := Ev.bind (h := fun t _ => some t) (rname s hs) Ev.const
  have hnum : Ev (fun K => (assessorref03_number.f K s).bind fun t => some t) (qNumber s) := Ev.bind (h := fun t _ => some t) (rnumber s hs) Ev.const
  have hhas := fun l hl => Ev.bind (h := fun t _ => some t) (rhas l s hl) Ev.const
  rcases kind_cases h1 h2 h3 with rfl | rfl | rfl | rfl | rfl | rfl | rfl | rfl | rfl | rfl | rfl | rfl | rfl | rfl | rfl | rfl | rfl | rfl | rfl | rfl | rfl | rfl | rfl | rfl | rfl | rfl | rfl | rfl | rfl <;> cases h
  all_goals first
    | exact Ev.succ (fun k => by rfl) hname
    | exact Ev.succ (fun k => by rfl) (Ev.succ (fun k => by rfl) hnum)
    | exact Ev.succ (fun k => by rfl) (Ev.succ (fun k => by rfl) Ev.const)
    | skip
  · refine Ev.congr (g := fun K => assessorref03_text.j0 K 9 false 9 s b2 b3 ks) (fun k => by rfl) ?_
    refine Ev.succ (g := fun K => if s.toList = ([105, 110, 116] : List UInt8) then some true else (if s.toList = ([98, 111, 111, 108] : List UInt8) then some true else ((assessorref02_Name.f K s).bind fun t226 => some t226))) (fun k => by rfl) ?_
    show Ev _ (((s.toList == wInt.toList) || ((s.toList == wBool.toList) || false)) || qName s)
    rw [wInt_toList, wBool_toList]
    by_cases e1 : s.toList = ([105, 110, 116] : List UInt8)
    · simp only [if_pos e1, beq_iff_eq.2 e1, Bool.true_or]; exact Ev.const
    · by_cases e2 : s.toList = ([98, 111, 111, 108] : List UInt8)
      · simp only [if_neg e1, if_pos e2, beq_iff_eq.2 e2, Bool.true_or, Bool.or_true]; exact Ev.const
      · simp only [if_neg e1, if_neg e2, beq_eq_false_iff_ne.2 e1, beq_eq_false_iff_ne.2 e2, Bool.false_or]; exact hname
  · refine Ev.congr (g := fun K => assessorref03_text.j0 K 25 false 25 s b2 b3 ks) (fun k => by rfl) ?_
    refine Ev.succ (g := fun K => assessorref03_text.j1 K 25 false 25 s b2 b3 ks) (fun k => by rfl) ?_
    refine Ev.succ (g := fun K => if s.toList = ([116, 114, 117, 101] : List UInt8) then some true else some (s.toList == ([102, 97, 108, 115, 101] : List UInt8))) (fun k => by rfl) ?_
    show Ev _ ((s.toList == (⟨#[116, 114, 117, 101]⟩ : ByteArray).toList) || ((s.toList == (⟨#[102, 97, 108, 115, 101]⟩ : ByteArray).toList) || false))
    rw [Go.ByteArray.toList_eq ⟨#[116, 114, 117, 101]⟩, Go.ByteArray.toList_eq ⟨#[102, 97, 108, 115, 101]⟩]
    simp only [two_words]
    exact Ev.const
  · refine Ev.congr (g := fun K => assessorref03_text.j0 K 28 false 28 s b2 b3 ks) (fun k => by rfl) ?_
    refine Ev.succ (g := fun K => assessorref03_text.j1 K 28 false 28 s b2 b3 ks) (fun k => by rfl) ?_
    refine Ev.succ (g := fun K => if s.toList = ([45] : List UInt8) then some true else some (s.toList == ([110, 111, 116] : List UInt8))) (fun k => by rfl) ?_
    show Ev _ ((s.toList == (⟨#[45]⟩ : ByteArray).toList) || ((s.toList == (⟨#[110, 111, 116]⟩ : ByteArray).toList) || false))
    rw [Go.ByteArray.toList_eq ⟨#[45]⟩, Go.ByteArray.toList_eq ⟨#[110, 111, 116]⟩]
    simp only [two_words]
    exact Ev.const
  · refine Ev.congr (g := fun K => assessorref03_text.j0 K 29 false 29 s b2 b3 ks) (fun k => by rfl) ?_
    refine Ev.succ (g := fun K => assessorref03_text.j1 K 29 false 29 s b2 b3 ks) (fun k => by rfl) ?_
    exact Ev.succ (fun k => by rfl) (hhas _ (by decide))

/-- the i-th Kid y below a node of the kind k -/
def kidT (k : Int) (sh : Sh) (i : Nat) (y : S24) : Bool := (match sh.list with | some t => t.ev y.f0 | none => ((sh.kids[i]?).map (fun t => t.ev y.f0)).getD false) && (if k = 4 then (y.f1.toList == wInt.toList || y.f1.toList == wBool.toList) else true)
theorem rkid (k : Int) (sh : Sh) (h : shapeOf k = some sh) (i : Nat) (y : S24) (hi : sh.list = none → i < sh.kids.length) : Ev (fun K => assessorref03_kid.f K k (i : Int) y.f0 y.f1 y.f2 y.f3 y.f4) (kidT k sh i y) := by
  obtain ⟨h1, h2, h3⟩ := shape_range h
  refine Ev.of_mono (fun n => assessorref03_kid.mono k i y.f0 y.f1 y.f2 y.f3 y.f4 n) 2 ?_
  obtain ⟨a, s, b2, b3, ks⟩ := y
  show assessorref03_kid.f 2 k (i : Int) a s b2 b3 ks = some _
  have sp : (sh.list = none ∧ (i = 0 ∨ i = 1 ∨ i = 2) ∧ i < sh.kids.length) ∨ sh.list ≠ none := by
    cases hl : sh.list with
    | none => 
      have h5 : sh.kids.length ≤ 3 := by
        rcases kind_cases h1 h2 h3 with rfl | rfl | rfl | rfl | rfl | rfl | rfl | rfl | rfl | rfl | rfl | rfl | rfl | rfl | rfl | rfl | rfl | rfl | rfl | rfl | rfl | rfl | rfl | rfl | rfl | rfl | rfl | rfl | rfl <;> (cases h; decide)
      have := hi hl
      exact .inl ⟨rfl, by omega, this⟩
    | some t => exact .inr (by simp)
  rcases kind_cases h1 h2 h3 with rfl | rfl | rfl | rfl | rfl | rfl | rfl | rfl | rfl | rfl | rfl | rfl | rfl | rfl | rfl | rfl | rfl | rfl | rfl | rfl | rfl | rfl | rfl | rfl | rfl | rfl | rfl | rfl | rfl <;> cases h
  all_goals rcases sp with ⟨h5, rfl | rfl | rfl, h6⟩ | h5
  all_goals first | exact absurd h6 (by decide) | exact absurd rfl h5 | cases h5 | skip
  all_goals clear hi h1 h2 h3
  all_goals try clear h5 h6
  all_goals try clear h5
  all_goals (simp only [assessorref03_kid.f, assessorref03_kid.j0, risstmt, risexpr, rtype, rplace, Option.bind_some, kidT, wInt_toList, wBool_toList, Ts.ev, List.getElem?_cons_zero, List.getElem?_cons_succ, Option.map_some, Option.getD_some, List.any_cons, List.any_nil])
  all_goals simp [two_words]
  all_goals (repeat' split) <;> simp_all
/-- from the i-th on -/
def kidsT (k : Int) (sh : Sh) : Nat → List S24 → Bool
  | _, [] => true
  | i, y :: ys => kidT k sh i y && kidsT k sh (i + 1) ys
theorem kidT_pos {k : Int} {sh : Sh} {i : Nat} {y : S24} {t : Ts} (h0 : ¬ k = 4) (hl : sh.list = none) (ht : sh.kids[i]? = some t) : kidT k sh i y = t.ev y.f0 := by
  unfold kidT; rw [hl, ht, if_neg h0]; simp
theorem kidT_list {k : Int} {sh : Sh} {i : Nat} {y : S24} {t : Ts} (h0 : ¬ k = 4) (hl : sh.list = some t) : kidT k sh i y = t.ev y.f0 := by
  unfold kidT; rw [hl, if_neg h0]; simp
theorem kidsT_pos {k : Int} {sh : Sh} (h0 : ¬ k = 4) (hl : sh.list = none) : ∀ (ts : List Ts) (i : Nat) (ys : List S24), (∀ j, sh.kids[i + j]? = ts[j]?) → ys.length = ts.length → kidsT k sh i ys = kidsB ts ys
  | [], i, [], _, _ => rfl
  | [], i, _ :: _, _, h => by simp at h
  | _ :: _, i, [], _, h => by simp at h
  | t :: ts, i, y :: ys, hts, h => by
    have h1 : sh.kids[i]? = some t := by have := hts 0; simpa using this
    show (kidT k sh i y && kidsT k sh (i + 1) ys) = (t.ev y.f0 && kidsB ts ys)
    rw [kidT_pos h0 hl h1, kidsT_pos h0 hl ts (i + 1) ys (fun j => by have := hts (j + 1); rw [show i + 1 + j = i + (j + 1) by omega]; simpa using this) (by simpa using h)]
theorem kidsT_list {k : Int} {sh : Sh} {t : Ts} (h0 : ¬ k = 4) (hl : sh.list = some t) : ∀ (i : Nat) (ys : List S24), kidsT k sh i ys = ys.all (fun y => t.ev y.f0)
  | i, [] => rfl
  | i, y :: ys => by
    show (kidT k sh i y && kidsT k sh (i + 1) ys) = _
    rw [kidT_list h0 hl, kidsT_list h0 hl (i + 1) ys]; rfl
theorem shape_most {k : Int} {sh : Sh} (h : shapeOf k = some sh) : sh.kids.length ≤ 3 := by
  obtain ⟨h1, h2, h3⟩ := shape_range h
  rcases kind_cases h1 h2 h3 with rfl | rfl | rfl | rfl | rfl | rfl | rfl | rfl | rfl | rfl | rfl | rfl | rfl | rfl | rfl | rfl | rfl | rfl | rfl | rfl | rfl | rfl | rfl | rfl | rfl | rfl | rfl | rfl | rfl <;> (cases h; decide)
theorem node_kids (x : S24) (sh : Sh) (h : shapeOf x.f0 = some sh) (hl : x.f4.length ≤ 4096) : nodeB x = (sh.text.ev x.f1 && (decide ((rngV sh).1 ≤ (x.f4.length : Int)) && (decide ((x.f4.length : Int) ≤ (rngV sh).2) && kidsT x.f0 sh 0 x.f4))) := by
  have hnb : nodeB x = if fitsB sh x then (if x.f0 = 4 then ((rd_T24 x.f4 0).f1.toList == wInt.toList || (rd_T24 x.f4 0).f1.toList == wBool.toList) else true) else false := by unfold nodeB; rw [h]
  rw [hnb]
  by_cases h4 : x.f0 = 4
  · have hsh : sh = ⟨.name, [(.one [9])], none, 0⟩ := by rw [h4] at h; cases h; rfl
    subst hsh
    unfold fitsB rngV
    simp only [h4, if_true]
    cases he : (Tx.name.ev x.f1) with
    | false => simp
    | true =>
      rcases hx : x.f4 with _ | ⟨y, _ | ⟨z, zs⟩⟩
      · simp
      · simp only [List.length_cons, List.length_nil, Nat.zero_add, if_true, kidsB, Bool.and_true, kidsT, kidT, List.getElem?_cons_zero, Option.map_some, Option.getD_some, rd_T24]
        cases (Ts.one [9]).ev y.f0 <;> simp
      · have e1 : ¬ ((y :: z :: zs).length = 1) := by simp
        have e2 : ¬ (((y :: z :: zs).length : Int) ≤ 1) := by simp; omega
        simp [e1, e2]
        intro _ e; omega
  · rw [if_neg h4]
    unfold fitsB rngV
    cases hs : sh.list with
    | none =>
      simp only []
      by_cases hk : x.f4.length = sh.kids.length
      · rw [kidsT_pos h4 hs sh.kids 0 x.f4 (fun j => by rw [Nat.zero_add]) hk, if_pos hk, hk]
        cases sh.text.ev x.f1 <;> simp
      · have e : (decide ((sh.kids.length : Int) ≤ (x.f4.length : Int)) && (decide ((x.f4.length : Int) ≤ (sh.kids.length : Int)) && kidsT x.f0 sh 0 x.f4)) = false := by
          by_cases h6 : (sh.kids.length : Int) ≤ (x.f4.length : Int)
          · have h7 : ¬ (x.f4.length : Int) ≤ (sh.kids.length : Int) := by omega
            rw [decide_eq_false h7, Bool.false_and, Bool.and_false]
          · rw [decide_eq_false h6, Bool.false_and]
        rw [e, if_neg hk]
        cases sh.text.ev x.f1 <;> simp
    | some t =>
      simp only []
      have h7 : (x.f4.length : Int) ≤ 4096 := by omega
      rw [kidsT_list h4 hs, decide_eq_true h7, Bool.true_and]
      by_cases h6 : (x.f4.length : Int) < sh.most
      · have h8 : ¬ sh.most ≤ (x.f4.length : Int) := by omega
        rw [if_pos h6, decide_eq_false h8]
        cases sh.text.ev x.f1 <;> simp
      · have h8 : sh.most ≤ (x.f4.length : Int) := by omega
        rw [if_neg h6, decide_eq_true h8]
        generalize (x.f4.all fun y => t.ev y.f0) = q
        cases sh.text.ev x.f1 <;> cases q <;> simp

def RShape (x : S24) (K : Nat) : Option Bool := assessorref03_Shape.f K x.f0 x.f1 x.f2 x.f3 x.f4
theorem rshape_l0 (k : Int) (sh : Sh) (h : shapeOf k = some sh) (b1 : ByteArray) (b2 b3 : Int) (xs : List S24) (H : ∀ y ∈ xs, Ev (RShape y) ((pre24 y).all nodeB)) (hl : xs.length < 4611686018427387904) (hi : sh.list = none → xs.length ≤ sh.kids.length) : ∀ (n j : Nat), xs.length - j = n → j ≤ xs.length →
    Ev (fun K => assessorref03_Shape.l0 K (j : Int) k b1 b2 b3 xs) (kidsT k sh j (xs.drop j) && (preL24 (xs.drop j)).all nodeB) := by
  intro n
  induction n with
  | zero =>
    intro j hn hj
    have : j = xs.length := by omega
    subst this
    refine Ev.succ (g := fun _ => some true) (fun k => ?_) ?_
    · simp only [assessorref03_Shape.l0, if_neg (Int.lt_irrefl _)]
    · rw [List.drop_length]; exact Ev.const
  | succ n ih =>
    intro j hn hj
    have hlt : j < xs.length := by omega
    have h1 : (j : Int) < (xs.length : Int) := by omega
    have h2 : (0 : Int) ≤ (j : Int) := by omega
    refine Ev.succ (g := fun K => (assessorref03_kid.f K k (j : Int) xs[j].f0 xs[j].f1 xs[j].f2 xs[j].f3 xs[j].f4).bind fun t255 => (if t255 = true then ((RShape xs[j] K).bind fun t257 => (if t257 = true then (assessorref03_Shape.l0 K (wrap64 ((j : Int) + 1)) k b1 b2 b3 xs) else (some false))) else (some false))) (fun k => ?_) ?_
    · simp only [assessorref03_Shape.l0, if_pos h1, if_pos h2, rd_T24_nat hlt, RShape]
    · refine Ev.bind (h := fun t255 K => (if t255 = true then ((RShape xs[j] K).bind fun t257 => (if t257 = true then (assessorref03_Shape.l0 K (wrap64 ((j : Int) + 1)) k b1 b2 b3 xs) else (some false))) else (some false))) (rkid k sh h j xs[j] (fun e => by have := hi e; omega)) ?_
      have e0 : (preL24 (xs.drop j)).all nodeB = ((pre24 xs[j]).all nodeB && (preL24 (xs.drop (j + 1))).all nodeB) := by
        rw [List.drop_eq_getElem_cons hlt]; simp [preL24]
      have e1 : kidsT k sh j (xs.drop j) = (kidT k sh j xs[j] && kidsT k sh (j + 1) (xs.drop (j + 1))) := by
        rw [List.drop_eq_getElem_cons hlt]; rfl
      rw [e0, e1]
      cases kidT k sh j xs[j] with
      | false => simp only [Bool.false_eq_true, if_false, Bool.false_and]; exact Ev.const
      | true =>
        simp only [if_true, Bool.true_and]
        refine Ev.bind (h := fun t257 K => (if t257 = true then (assessorref03_Shape.l0 K (wrap64 ((j : Int) + 1)) k b1 b2 b3 xs) else (some false))) (H _ (List.getElem_mem hlt)) ?_
        cases (pre24 xs[j]).all nodeB with
        | false => simp only [Bool.false_eq_true, if_false, Bool.false_and, Bool.and_false]; exact Ev.const
        | true =>
          simp only [if_true, Bool.true_and]
          rw [wrap_succ_ (by omega)]
          exact ih (j + 1) (by omega) (by omega)
theorem rshape : ∀ (n : Nat) (x : S24), (pre24 x).length ≤ n → n ≤ 4096 → (∀ y ∈ pre24 x, y.f1.size < 4611686018427387904) → Ev (RShape x) ((pre24 x).all nodeB) := by
  intro n
  induction n with
  | zero => intro x h; have := len_pre24_pos x; omega
  | succ n ih =>
    intro x h hn ht
    have hp : (pre24 x).length = (preL24 x.f4).length + 1 := by rw [pre24_eq x, List.length_cons]
    have hll := len_preL24 x.f4
    have hx1 : x.f1.size < 4611686018427387904 := ht x (by rw [pre24_eq x]; exact List.mem_cons_self)
    have hall : (pre24 x).all nodeB = (nodeB x && (preL24 x.f4).all nodeB) := by rw [pre24_eq x]; rfl
    rw [hall]
    have HK : ∀ y ∈ x.f4, Ev (RShape y) ((pre24 y).all nodeB) := by
      intro y hy
      obtain ⟨j, hj, rfl⟩ := List.mem_iff_getElem.1 hy
      have := pre_mem24 hj
      exact ih _ (by omega) (by omega) (fun z hz => ht z (by rw [pre24_eq x]; exact List.mem_cons_of_mem _ (mem_preL24 hy hz)))
    have hj0t : Ev (fun K => assessorref03_Shape.j0 K true x.f0 x.f1 x.f2 x.f3 x.f4) false := Ev.succ (g := fun _ => some false) (fun k => by simp only [assessorref03_Shape.j0, if_true]) Ev.const
    have hj1t : Ev (fun K => assessorref03_Shape.j1 K true x.f0 x.f1 x.f2 x.f3 x.f4) false := Ev.succ (g := fun _ => some false) (fun k => by simp only [assessorref03_Shape.j1, if_true]) Ev.const
    cases hs : shapeOf x.f0 with
    | none =>
      have hnb : nodeB x = false := by unfold nodeB; rw [hs]
      rw [hnb, Bool.false_and]
      refine Ev.succ (g := fun K => assessorref03_Shape.j0 K true x.f0 x.f1 x.f2 x.f3 x.f4) (fun k => ?_) hj0t
      by_cases c1 : x.f0 < 0
      · simp only [RShape, assessorref03_Shape.f, if_pos c1]
      · by_cases c2 : x.f0 = 1
        · simp only [RShape, assessorref03_Shape.f, if_neg c1, if_pos c2]
        · by_cases c3 : x.f0 > 29
          · simp only [RShape, assessorref03_Shape.f, if_neg c1, if_neg c2, if_pos c3]
          · obtain ⟨sh, e⟩ := shape_some c1 c2 c3
            rw [e] at hs; cases hs
    | some sh =>
      obtain ⟨c1, c2, c3⟩ := shape_range hs
      rw [node_kids x sh hs (by omega)]
      refine Ev.succ (g := fun K => (assessorref03_text.f K x.f0 x.f1 x.f2 x.f3 x.f4).bind fun t251 => assessorref03_Shape.j0 K (!t251) x.f0 x.f1 x.f2 x.f3 x.f4) (fun k => by simp only [RShape, assessorref03_Shape.f, if_neg c1, if_neg c2, if_neg c3]) ?_
      refine Ev.bind (h := fun t251 K => assessorref03_Shape.j0 K (!t251) x.f0 x.f1 x.f2 x.f3 x.f4) (rtext x.f0 x.f1 x.f2 x.f3 x.f4 hx1 sh hs) ?_
      cases sh.text.ev x.f1 with
      | false => simp only [Bool.not_false, Bool.false_and]; exact hj0t
      | true =>
        simp only [Bool.not_true, Bool.true_and]
        refine Ev.succ (g := fun K => (assessorref03_most.f K x.f0).bind fun bt252 => (if (x.f4.length : Int) < bt252.1 then (assessorref03_Shape.j1 K true x.f0 x.f1 x.f2 x.f3 x.f4) else (assessorref03_Shape.j1 K (decide ((x.f4.length : Int) > bt252.2)) x.f0 x.f1 x.f2 x.f3 x.f4))) (fun k => by simp only [assessorref03_Shape.j0, Bool.false_eq_true, if_false]) ?_
        refine Ev.bind (h := fun bt252 K => (if (x.f4.length : Int) < bt252.1 then (assessorref03_Shape.j1 K true x.f0 x.f1 x.f2 x.f3 x.f4) else (assessorref03_Shape.j1 K (decide ((x.f4.length : Int) > bt252.2)) x.f0 x.f1 x.f2 x.f3 x.f4))) (rmost x.f0 sh hs) ?_
        by_cases d1 : (x.f4.length : Int) < (rngV sh).1
        · have d2 : ¬ (rngV sh).1 ≤ (x.f4.length : Int) := by omega
          simp only [if_pos d1, decide_eq_false d2, Bool.false_and]; exact hj1t
        · have d2 : (rngV sh).1 ≤ (x.f4.length : Int) := by omega
          simp only [if_neg d1, decide_eq_true d2, Bool.true_and]
          by_cases d3 : (x.f4.length : Int) > (rngV sh).2
          · have d4 : ¬ (x.f4.length : Int) ≤ (rngV sh).2 := by omega
            simp only [decide_eq_true d3, decide_eq_false d4, Bool.false_and]; exact hj1t
          · have d4 : (x.f4.length : Int) ≤ (rngV sh).2 := by omega
            simp only [decide_eq_false d3, decide_eq_true d4, Bool.true_and]
            refine Ev.succ (g := fun K => assessorref03_Shape.l0 K 0 x.f0 x.f1 x.f2 x.f3 x.f4) (fun k => by simp only [assessorref03_Shape.j1, Bool.false_eq_true, if_false]) ?_
            refine rshape_l0 x.f0 sh hs x.f1 x.f2 x.f3 x.f4 HK (by omega) (fun e => ?_) _ 0 rfl (Nat.zero_le _)
            unfold rngV at d4; rw [e] at d4; simp only [] at d4; omega
theorem rvalid (x : S24) (h : (pre24 x).length ≤ 150) (ht : ∀ y ∈ pre24 x, y.f1.size < 4611686018427387904) : Ev (fun K => assessorref03_Valid.f K x.f0 x.f1 x.f2 x.f3 x.f4) (if x.f0 = 2 then (pre24 x).all nodeB else false) := by
  unfold assessorref03_Valid.f
  split
  · exact Ev.bind (h := fun t _ => some t) (rshape 150 x h (by decide) ht) Ev.const
  · exact Ev.const
theorem rexpression (x : S24) (h : (pre24 x).length ≤ 150) (ht : ∀ y ∈ pre24 x, y.f1.size < 4611686018427387904) : Ev (fun K => assessorref03_Expression.f K x.f0 x.f1 x.f2 x.f3 x.f4) (if pExpr x.f0 = true then (pre24 x).all nodeB else false) := by
  unfold assessorref03_Expression.f
  simp only [risexpr, Option.bind_some]
  split
  · exact Ev.bind (h := fun t _ => some t) (rshape 150 x h (by decide) ht) Ev.const
  · exact Ev.const
theorem rstatement (x : S24) (h : (pre24 x).length ≤ 150) (ht : ∀ y ∈ pre24 x, y.f1.size < 4611686018427387904) : Ev (fun K => assessorref03_Statement.f K x.f0 x.f1 x.f2 x.f3 x.f4) (if pStmt x.f0 = true then (pre24 x).all nodeB else false) := by
  unfold assessorref03_Statement.f
  simp only [risstmt, Option.bind_some]
  split
  · exact Ev.bind (h := fun t _ => some t) (rshape 150 x h (by decide) ht) Ev.const
  · exact Ev.const
theorem rlist (k : Int) : tree_List.f k = assessorref03_List.f k := by
  unfold tree_List.f
  by_cases h1 : k < 0
  · have e : shapeOf k = none := by cases h : shapeOf k with | none => rfl | some s => exact absurd h1 (shape_range h).1
    rw [e]; unfold assessorref03_List.f
    have g : ∀ n : Int, 0 ≤ n → ¬ k = n := fun n _ => by omega
    rw [if_neg (g _ (by decide)), if_neg (g _ (by decide)), if_neg (g _ (by decide)), if_neg (g _ (by decide)), if_neg (g _ (by decide)), if_neg (g _ (by decide)), beq_eq_false_iff_ne.2 (g _ (by decide))]
  · by_cases h2 : k = 1
    · subst h2; rfl
    · by_cases h3 : k > 29
      · have e : shapeOf k = none := by cases h : shapeOf k with | none => rfl | some s => exact absurd h3 (shape_range h).2.2
        rw [e]; unfold assessorref03_List.f
        have g : ∀ n : Int, n ≤ 29 → ¬ k = n := fun n _ => by omega
        rw [if_neg (g _ (by decide)), if_neg (g _ (by decide)), if_neg (g _ (by decide)), if_neg (g _ (by decide)), if_neg (g _ (by decide)), if_neg (g _ (by decide)), beq_eq_false_iff_ne.2 (g _ (by decide))]
      · rcases kind_cases h1 h2 h3 with rfl | rfl | rfl | rfl | rfl | rfl | rfl | rfl | rfl | rfl | rfl | rfl | rfl | rfl | rfl | rfl | rfl | rfl | rfl | rfl | rfl | rfl | rfl | rfl | rfl | rfl | rfl | rfl | rfl <;> rfl
theorem rlist_some (k : Int) : ∃ b, assessorref03_List.f k = some b := by
  rw [← rlist]; exact ⟨_, rfl⟩
theorem shapes_law (x : S24) (a1 : Int) (h : (pre24 x).length < 1099511627776) (ht : ∀ y ∈ pre24 x, y.f1.size < 4611686018427387904) : Ev (fun K => assessorlaw03_TreeShapes.f K x.f0 x.f1 x.f2 x.f3 x.f4 a1) true := by
  refine Ev.bind (h := fun t K => _) (rsmall x 150 (by omega)) ?_
  cases hsm : smallB x 150 with
  | false =>
    simp only [Bool.false_eq_true, if_false]
    exact Ev.bind (h := fun t _ => some t) rawake Ev.const
  | true =>
    have hlen : (pre24 x).length ≤ 150 := by
      unfold smallB at hsm
      have := (Bool.and_eq_true_iff.1 hsm).2
      have := of_decide_eq_true this
      omega
    obtain ⟨b, hb⟩ := rlist_some a1
    simp only [if_true, tvalid_f_ x (by omega) ht, texpr_f_ x (by omega) ht, tstmt_f_ x (by omega) ht, rlist a1, hb, Option.bind_some]
    refine Ev.bind (h := fun t K => _) (rvalid x hlen ht) ?_
    simp only [beq_self_eq_true, if_true]
    refine Ev.bind (h := fun t K => _) (rexpression x hlen ht) ?_
    simp only [beq_self_eq_true, if_true]
    refine Ev.bind (h := fun t K => _) (rstatement x hlen ht) ?_
    simp only [beq_self_eq_true, if_true]
    exact Ev.bind (h := fun t _ => some t) rawake Ev.const
end Go.Proofs.Ytbheobngeocdfaa.PAll
