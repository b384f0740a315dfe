/- Plain: Valid, Expression, Statement. -/
import Derived.Test.YtbheobngeocdfaaLa
import Derived.Test.YtbheobngeocdfaaPAllxf12
import Derived.Test.YtbheobngeocdfaaPAllxf16
namespace Go.Proofs.Ytbheobngeocdfaa.PAll
open Go.RowKit Go.Proofs.YtbheobngeocdfaaW.PrintWords Go.Proofs.YtbheobngeocdfaaW.PrintLast Go.Proofs.YtbheobngeocdfaaW.PrintMore
set_option linter.unusedVariables false
set_option linter.unusedSimpArgs false

theorem tshaped_f_ (x : S24) (h : (pre24 x).length < 4611686018427387904) (ht : ∀ y ∈ pre24 x, y.f1.size < 4611686018427387904) : tree_shaped.f x.f0 x.f1 x.f2 x.f3 x.f4 = some ((pre24 x).all nodeB) := by
  have e : (⟨x.f0, x.f1, x.f2, x.f3, x.f4⟩ : S24) = x := by cases x; rfl
  unfold tree_shaped.f
  rw [e, if_pos ⟨h, List.all_eq_true.2 fun y hy => by simpa using ht y hy⟩]
theorem tvalid_f_ (x : S24) (h : (pre24 x).length < 4611686018427387904) (ht : ∀ y ∈ pre24 x, y.f1.size < 4611686018427387904) : tree_Valid.f x.f0 x.f1 x.f2 x.f3 x.f4 = some (if x.f0 = 2 then (pre24 x).all nodeB else false) := by
  unfold tree_Valid.f
  rw [tshaped_f_ x h ht]
  split <;> rfl
theorem texpr_f_ (x : S24) (h : (pre24 x).length < 4611686018427387904) (ht : ∀ y ∈ pre24 x, y.f1.size < 4611686018427387904) : tree_Expression.f x.f0 x.f1 x.f2 x.f3 x.f4 = some (if pExpr x.f0 = true then (pre24 x).all nodeB else false) := by
  unfold tree_Expression.f
  have e : tree_isExpression.f x.f0 = some (pExpr x.f0) := by unfold tree_isExpression.f pExpr; split <;> rfl
  rw [tshaped_f_ x h ht, e, Option.bind_some]
  cases pExpr x.f0 <;> rfl
theorem tstmt_f_ (x : S24) (h : (pre24 x).length < 4611686018427387904) (ht : ∀ y ∈ pre24 x, y.f1.size < 4611686018427387904) : tree_Statement.f x.f0 x.f1 x.f2 x.f3 x.f4 = some (if pStmt x.f0 = true then (pre24 x).all nodeB else false) := by
  unfold tree_Statement.f
  have e : tree_isStatement.f x.f0 = some (pStmt x.f0) := by unfold tree_isStatement.f pStmt; split <;> rfl
  rw [tshaped_f_ x h ht, e, Option.bind_some]
  cases pStmt x.f0 <;> rfl
end Go.Proofs.Ytbheobngeocdfaa.PAll
