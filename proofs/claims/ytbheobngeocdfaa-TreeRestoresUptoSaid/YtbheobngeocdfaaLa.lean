/- Plain: small things about trees. -/
import Derived.Test.YtbheobngeocdfaaL0
namespace Go.Proofs.Ytbheobngeocdfaa.PAll
open Go.RowKit Go.Proofs.YtbheobngeocdfaaW.PrintWords Go.Proofs.YtbheobngeocdfaaW.PrintLast Go.Proofs.YtbheobngeocdfaaW.PrintMore
set_option linter.unusedVariables false
set_option linter.unusedSimpArgs false

theorem cast_succ (j : Nat) : ((j : Int) + 1) = ((j + 1 : Nat) : Int) := by omega
theorem wrap_succ {j : Nat} (h : j < 9223372036854775807) : wrap64 ((j : Int) + 1) = ((j + 1 : Nat) : Int) := by rw [wrap_ok (by omega) (by omega), cast_succ]
theorem mx_nat (a b : Nat) : mx (a : Int) (b : Int) = ((max a b : Nat) : Int) := by unfold mx; split <;> omega
theorem rd_nat {xs : List Int} {j : Nat} (h : j < xs.length) : rd xs (j : Int) = xs[j] := by simp [rd, List.getElem?_eq_getElem h]

theorem pre_take_kid {xs : List S24} {i : Nat} (h : i < xs.length) : (preL24 (xs.take i)).length + (pre24 xs[i]).length ≤ (preL24 xs).length := by
  have h1 := length_preL24_take xs i
  have h2 := preL24_drop h
  omega
theorem tcount_f (x : S24) (h : (pre24 x).length < 4611686018427387904) : tree_Count.f x.f0 x.f1 x.f2 x.f3 x.f4 = some ((pre24 x).length : Int) := by
  have e : (⟨x.f0, x.f1, x.f2, x.f3, x.f4⟩ : S24) = x := by cases x; rfl
  unfold tree_Count.f
  rw [e, if_pos h]
end Go.Proofs.Ytbheobngeocdfaa.PAll
