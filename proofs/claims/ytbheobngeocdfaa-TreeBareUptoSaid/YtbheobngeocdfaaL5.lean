/- Plain: Bare; the law TreeBare. -/
import Derived.Test.YtbheobngeocdfaaLa
import Derived.Test.YtbheobngeocdfaaPAllxf4
namespace Go.Proofs.Ytbheobngeocdfaa.PAll
open Go.RowKit Go.Proofs.YtbheobngeocdfaaW.PrintWords Go.Proofs.YtbheobngeocdfaaW.PrintLast Go.Proofs.YtbheobngeocdfaaW.PrintMore
set_option linter.unusedVariables false
set_option linter.unusedSimpArgs false

mutual
/-- the tree without places -/
def bare24 : S24 → S24
  | ⟨a, b, _, _, ks⟩ => ⟨a, b, 0, 0, bareL24 ks⟩
def bareL24 : List S24 → List S24
  | [] => []
  | k :: ks => bare24 k :: bareL24 ks
end
theorem bare24_eq (x : S24) : bare24 x = ⟨x.f0, x.f1, 0, 0, bareL24 x.f4⟩ := by cases x; simp [bare24]
theorem bareL24_map (ks : List S24) : bareL24 ks = ks.map bare24 := by
  induction ks with
  | nil => rfl
  | cons k ks ih => simp [bareL24, ih]
theorem bare_f4 (x : S24) : (bare24 x).f4 = x.f4.map bare24 := by rw [bare24_eq, ← bareL24_map]
theorem preL_bare (ks : List S24) (h : ∀ k ∈ ks, pre24 (bare24 k) = (pre24 k).map bare24) : preL24 (ks.map bare24) = (preL24 ks).map bare24 := by
  induction ks with
  | nil => rfl
  | cons k ks ih => simp only [List.map_cons, preL24, List.map_append, h k (List.mem_cons_self ..), ih fun y hy => h y (List.mem_cons_of_mem _ hy)]
theorem pre_bare (x : S24) : pre24 (bare24 x) = (pre24 x).map bare24 := by
  induction x using ind24 with
  | h x ih => rw [pre24_eq, pre24_eq x, bare_f4, preL_bare x.f4 ih]; rfl
theorem sameL_refl (ks ls : List S24) (g : S24 → S24) (h : ∀ k ∈ ks, same24 k (g k) = true) (e : ls = ks.map g) : sameL24 ks ls = true := by
  subst e
  induction ks with
  | nil => rfl
  | cons k ks ih => simp only [List.map_cons, sameL24, h k (List.mem_cons_self ..), Bool.true_and]; exact ih fun y hy => h y (List.mem_cons_of_mem _ hy)
theorem same_bare (x : S24) : same24 x (bare24 x) = true := by
  induction x using ind24 with
  | h x ih =>
    rw [same24_eq]
    have e0 : (bare24 x).f0 = x.f0 := by rw [bare24_eq]
    have e1 : (bare24 x).f1 = x.f1 := by rw [bare24_eq]
    rw [e0, e1, if_pos rfl, if_pos rfl]
    exact sameL_refl x.f4 _ bare24 ih (bare_f4 x)
theorem sameL_refl' (ks ls : List S24) (h : ∀ k ∈ ks, same24 (bare24 k) k = true) (e : ls = ks.map bare24) : sameL24 ls ks = true := by
  subst e
  induction ks with
  | nil => rfl
  | cons k ks ih => simp only [List.map_cons, sameL24, h k (List.mem_cons_self ..), Bool.true_and]; exact ih fun y hy => h y (List.mem_cons_of_mem _ hy)
theorem bare_same (x : S24) : same24 (bare24 x) x = true := by
  induction x using ind24 with
  | h x ih =>
    rw [same24_eq]
    have e0 : (bare24 x).f0 = x.f0 := by rw [bare24_eq]
    have e1 : (bare24 x).f1 = x.f1 := by rw [bare24_eq]
    rw [e0, e1, if_pos rfl, if_pos rfl]
    exact sameL_refl' x.f4 _ ih (bare_f4 x)
/-! ### its shape -/
theorem kidsB_map (ts : List Ts) (ks : List S24) : kidsB ts (ks.map bare24) = kidsB ts ks := by
  induction ts generalizing ks with
  | nil => cases ks <;> simp [kidsB]
  | cons t ts ih => cases ks with
    | nil => simp [kidsB]
    | cons k ks => simp only [List.map_cons, kidsB, ih]; rw [bare24_eq]
theorem all_map_bare (t : Ts) (ks : List S24) : (ks.map bare24).all (fun k => t.ev k.f0) = ks.all (fun k => t.ev k.f0) := by
  induction ks with
  | nil => rfl
  | cons k ks ih => simp only [List.map_cons, List.all_cons, ih]; rw [bare24_eq]
theorem fitsB_bare (s : Sh) (x : S24) : fitsB s (bare24 x) = fitsB s x := by
  unfold fitsB
  have e1 : (bare24 x).f1 = x.f1 := by rw [bare24_eq]
  rw [e1, bare_f4, kidsB_map, List.length_map]
  cases s.list with
  | none => rfl
  | some t => simp only [all_map_bare]
theorem nodeB_bare (x : S24) : nodeB (bare24 x) = nodeB x := by
  unfold nodeB
  have e0 : (bare24 x).f0 = x.f0 := by rw [bare24_eq]
  have er : (rd_T24 (bare24 x).f4 0).f1 = (rd_T24 x.f4 0).f1 := by
    rw [bare_f4]
    cases x.f4 with
    | nil => rfl
    | cons k ks => simp only [List.map_cons, rd_T24, List.getD_cons_zero, Int.toNat_zero]; rw [bare24_eq]
  rw [e0, er]
  cases shapeOf x.f0 with
  | none => rfl
  | some s => simp only [fitsB_bare]
theorem shaped_bare (x : S24) : (pre24 (bare24 x)).all nodeB = (pre24 x).all nodeB := by
  rw [pre_bare, List.all_map]
  congr 1
  funext y
  exact nodeB_bare y
/-! ### the printed functions -/
def tup (x : S24) : Int × ByteArray × Int × Int × List S24 := (x.f0, x.f1, x.f2, x.f3, x.f4)
theorem tbare_l0 (xs : List S24) (H : ∀ k ∈ xs, Ev (fun K => tree_Bare.f K k.f0 k.f1 k.f2 k.f3 k.f4) (tup (bare24 k))) (b0 : Int) (b1 : ByteArray) (hl : xs.length < 1099511627776) :
    ∀ (n j : Nat) (a : List S24), xs.length - j = n → j ≤ xs.length → a.length = j → Ev (fun K => tree_Bare.l0 K xs (xs.length : Int) (j : Int) b0 b1 0 0 a) (b0, b1, 0, 0, a ++ (xs.drop j).map bare24) := by
  intro n
  induction n with
  | zero =>
    intro j a hn hj ha
    have : j = xs.length := by omega
    subst this
    refine Ev.succ (g := fun _ => some (b0, b1, 0, 0, a ++ (xs.drop xs.length).map bare24)) (fun k => ?_) Ev.const
    simp [tree_Bare.l0, List.drop_length]
  | succ n ih =>
    intro j a hn hj ha
    have hlt : j < xs.length := by omega
    have h1 : (j : Int) < (xs.length : Int) := by omega
    have h2 : (0 : Int) ≤ (j : Int) := by omega
    refine Ev.succ (g := fun K => (tree_Bare.f K xs[j].f0 xs[j].f1 xs[j].f2 xs[j].f3 xs[j].f4).bind fun t => if a.length < 2199023255552 then tree_Bare.l0 K xs (xs.length : Int) (wrap64 ((j : Int) + 1)) b0 b1 0 0 (a ++ [⟨t.1, t.2.1, t.2.2.1, t.2.2.2.1, t.2.2.2.2⟩]) else none) (fun k => ?_) ?_
    · simp only [tree_Bare.l0, if_pos h1, if_pos h2, rd_T24_nat hlt]
    · refine Ev.bind (H _ (List.getElem_mem hlt)) ?_
      have hc : a.length < 2199023255552 := by omega
      simp only [if_pos hc, tup]
      rw [wrap_succ (by omega)]
      have h3 := ih (j + 1) (a ++ [bare24 xs[j]]) (by omega) (by omega) (by simp [ha])
      have e : a ++ (xs.drop j).map bare24 = a ++ [bare24 xs[j]] ++ (xs.drop (j + 1)).map bare24 := by rw [List.drop_eq_getElem_cons hlt, List.map_cons, List.append_assoc]; rfl
      have e2 : (⟨(bare24 xs[j]).f0, (bare24 xs[j]).f1, (bare24 xs[j]).f2, (bare24 xs[j]).f3, (bare24 xs[j]).f4⟩ : S24) = bare24 xs[j] := by cases bare24 xs[j]; rfl
      rw [e, e2]; exact h3
theorem tbare (x : S24) (h : (pre24 x).length < 1099511627776) : Ev (fun K => tree_Bare.f K x.f0 x.f1 x.f2 x.f3 x.f4) (tup (bare24 x)) := by
  induction x using ind24 with
  | h x ih =>
  have hp : (pre24 x).length = 1 + (preL24 x.f4).length := by rw [pre24_eq]; simp; omega
  have hl2 := len_preL24 x.f4
  refine Ev.succ (g := fun K => tree_Bare.l0 K x.f4 (x.f4.length : Int) 0 x.f0 x.f1 0 0 []) (fun k => by simp only [tree_Bare.f]) ?_
  have h3 := tbare_l0 x.f4 (fun k hk => ih k hk (by obtain ⟨j, hj, rfl⟩ := List.getElem_of_mem hk; have := pre_mem24 hj; omega)) x.f0 x.f1 (by omega) _ 0 [] rfl (Nat.zero_le _) rfl
  have e : tup (bare24 x) = (x.f0, x.f1, 0, 0, [] ++ (x.f4.drop 0).map bare24) := by rw [List.drop_zero, List.nil_append, ← bare_f4, tup, bare24_eq]
  rw [e]; exact h3
theorem tshaped_f (x : S24) (h : (pre24 x).length < 4611686018427387904) (ht : ∀ y ∈ pre24 x, y.f1.size < 4611686018427387904) : tree_shaped.f x.f0 x.f1 x.f2 x.f3 x.f4 = some ((pre24 x).all nodeB) := by
  have e : (⟨x.f0, x.f1, x.f2, x.f3, x.f4⟩ : S24) = x := by cases x; rfl
  unfold tree_shaped.f
  rw [e, if_pos ⟨h, List.all_eq_true.2 fun y hy => by simpa using ht y hy⟩]
theorem tvalid_f (x : S24) (h : (pre24 x).length < 4611686018427387904) (ht : ∀ y ∈ pre24 x, y.f1.size < 4611686018427387904) : tree_Valid.f x.f0 x.f1 x.f2 x.f3 x.f4 = some (if x.f0 = 2 then (pre24 x).all nodeB else false) := by
  unfold tree_Valid.f
  rw [tshaped_f x h ht]
  split <;> rfl
theorem texpr_f (x : S24) (h : (pre24 x).length < 4611686018427387904) (ht : ∀ y ∈ pre24 x, y.f1.size < 4611686018427387904) : tree_Expression.f x.f0 x.f1 x.f2 x.f3 x.f4 = some (if pExpr x.f0 = true then (pre24 x).all nodeB else false) := by
  unfold tree_Expression.f
  have e : tree_isExpression.f x.f0 = some (pExpr x.f0) := by unfold tree_isExpression.f pExpr; split <;> rfl
  rw [tshaped_f x h ht, e, Option.bind_some]
  cases pExpr x.f0 <;> rfl
theorem tstmt_f (x : S24) (h : (pre24 x).length < 4611686018427387904) (ht : ∀ y ∈ pre24 x, y.f1.size < 4611686018427387904) : tree_Statement.f x.f0 x.f1 x.f2 x.f3 x.f4 = some (if pStmt x.f0 = true then (pre24 x).all nodeB else false) := by
  unfold tree_Statement.f
  have e : tree_isStatement.f x.f0 = some (pStmt x.f0) := by unfold tree_isStatement.f pStmt; split <;> rfl
  rw [tshaped_f x h ht, e, Option.bind_some]
  cases pStmt x.f0 <;> rfl
theorem tsame_f (x y : S24) (h : (pre24 x).length < 4611686018427387904) : tree_Same.f x.f0 x.f1 x.f2 x.f3 x.f4 y.f0 y.f1 y.f2 y.f3 y.f4 = some (same24 x y) := by
  have e : (⟨x.f0, x.f1, x.f2, x.f3, x.f4⟩ : S24) = x := by cases x; rfl
  have e2 : (⟨y.f0, y.f1, y.f2, y.f3, y.f4⟩ : S24) = y := by cases y; rfl
  unfold tree_Same.f
  rw [e, e2, if_pos h]
theorem bare_l0 (xs : List S24) (H : ∀ k ∈ xs, k.f2 = 0 ∧ k.f3 = 0) (hl : xs.length < 4611686018427387904) : ∀ (n j : Nat), xs.length - j = n → j ≤ xs.length → Ev (fun K => assessorlaw03_TreeBare.l0 K xs (xs.length : Int) (j : Int)) true := by
  intro n
  induction n with
  | zero =>
    intro j hn hj
    have : j = xs.length := by omega
    subst this
    refine Ev.succ (g := fun K => (assessorlaw03_awake.f K).bind fun t => some t) (fun k => ?_) (Ev.bind (h := fun t _ => some t) rawake Ev.const)
    simp only [assessorlaw03_TreeBare.l0, if_neg (Int.lt_irrefl _)]
  | succ n ih =>
    intro j hn hj
    have hlt : j < xs.length := by omega
    have h1 : (j : Int) < (xs.length : Int) := by omega
    have h2 : (0 : Int) ≤ (j : Int) := by omega
    obtain ⟨h3, h4⟩ := H _ (List.getElem_mem hlt)
    refine Ev.succ (g := fun K => assessorlaw03_TreeBare.l0 K xs (xs.length : Int) (wrap64 ((j : Int) + 1))) (fun k => ?_) ?_
    · simp only [assessorlaw03_TreeBare.l0, if_pos h1, if_pos h2, rd_T24_nat hlt, h3, h4, if_true]
    · rw [wrap_succ (by omega)]
      exact ih (j + 1) (by omega) (by omega)
theorem bare_law (x : S24) (h : (pre24 x).length < 1099511627776) (ht : ∀ y ∈ pre24 x, y.f1.size < 4611686018427387904) : Ev (fun K => assessorlaw03_TreeBare.f K x.f0 x.f1 x.f2 x.f3 x.f4) true := by
  have hbl : (pre24 (bare24 x)).length = (pre24 x).length := by rw [pre_bare, List.length_map]
  have hbt : ∀ y ∈ pre24 (bare24 x), y.f1.size < 4611686018427387904 := fun y hy => by
    rw [pre_bare] at hy
    obtain ⟨z, hz, rfl⟩ := List.mem_map.1 hy
    have := ht z hz
    rw [bare24_eq]; exact this
  have hb0 : (bare24 x).f0 = x.f0 := by rw [bare24_eq]
  refine Ev.bind (h := fun t K => _) (rsmall x 100 (by omega)) ?_
  cases smallB x 100 with
  | false =>
    simp only [Bool.false_eq_true, if_false]
    exact Ev.bind (h := fun t _ => some t) rawake Ev.const
  | true =>
    simp only [if_true]
    refine Ev.bind (h := fun t K => _) (tbare x h) ?_
    simp only [tup]
    simp only [tsame_f x (bare24 x) (by omega), tsame_f (bare24 x) x (by omega), same_bare, bare_same, Option.bind_some, if_true, tcount_f (bare24 x) (by omega), tcount_f x (by omega), hbl,
      tvalid_f (bare24 x) (by omega) hbt, tvalid_f x (by omega) ht, texpr_f (bare24 x) (by omega) hbt, texpr_f x (by omega) ht, tstmt_f (bare24 x) (by omega) hbt, tstmt_f x (by omega) ht, shaped_bare]
    simp only [hb0, bne_self_eq_false, Bool.false_eq_true, if_false]
    have hnd : Ev (fun K => assessorref03_Nodes.f K (bare24 x).f0 (bare24 x).f1 (bare24 x).f2 (bare24 x).f3 (bare24 x).f4) (pre24 (bare24 x)) := rnodes (bare24 x) (by omega)
    simp only [hb0] at hnd
    refine Ev.bind (h := fun t K => _) hnd ?_
    refine bare_l0 (pre24 (bare24 x)) (fun k hk => ?_) (by omega) _ 0 rfl (Nat.zero_le _)
    rw [pre_bare] at hk
    obtain ⟨z, hz, rfl⟩ := List.mem_map.1 hk
    rw [bare24_eq]; exact ⟨rfl, rfl⟩
end Go.Proofs.Ytbheobngeocdfaa.PAll
