/- Plain: the reference's Count. -/
import Derived.Test.YtbheobngeocdfaaMe
import Derived.Test.YtbheobngeocdfaaH22
import Derived.Test.YtbheobngeocdfaaPAllxf25
namespace Go.Proofs.Ytbheobngeocdfaa.PAll
open Go.RowKit Go.Proofs.YtbheobngeocdfaaW.PrintWords Go.Proofs.YtbheobngeocdfaaW.PrintLast Go.Proofs.YtbheobngeocdfaaW.PrintMore
set_option linter.unusedVariables false
set_option linter.unusedSimpArgs false

def RCount (x : S24) : Nat → Option Int := fun K => assessorref03_Count.f K x.f0 x.f1 x.f2 x.f3 x.f4
theorem rcount_l0 (b0 : Int) (b1 : ByteArray) (b2 b3 : Int) (xs : List S24) (H : ∀ k ∈ xs, Ev (RCount k) ((pre24 k).length : Int)) :
    ∀ (n j : Nat) (a : Int), xs.length - j = n → j ≤ xs.length → 0 ≤ a → a + (preL24 (xs.drop j)).length < 4611686018427387904 → xs.length < 4611686018427387904 → Ev (fun K => assessorref03_Count.l0 K a (j : Int) b0 b1 b2 b3 xs) (a + (preL24 (xs.drop j)).length) := by
  intro n
  induction n with
  | zero =>
    intro j a hn hj ha hb hl
    have : j = xs.length := by omega
    subst this
    refine Ev.succ (g := fun _ => some (a + (preL24 (xs.drop xs.length)).length)) (fun k => ?_) Ev.const
    simp [assessorref03_Count.l0, List.drop_length, preL24]
  | succ n ih =>
    intro j a hn hj ha hb hl
    have hlt : j < xs.length := by omega
    have hd := preL24_drop hlt
    refine Ev.succ (g := fun K => (RCount xs[j] K).bind fun t => assessorref03_Count.l0 K (wrap64 (a + t)) (wrap64 ((j : Int) + 1)) b0 b1 b2 b3 xs) (fun k => ?_) ?_
    · have h1 : (j : Int) < (xs.length : Int) := by omega
      have h2 : (0 : Int) ≤ (j : Int) := by omega
      simp only [assessorref03_Count.l0, if_pos h1, if_pos h2, rd_T24_nat hlt, RCount]
    · refine Ev.bind (H _ (List.getElem_mem hlt)) ?_
      rw [wrap_ok (by omega) (by omega), wrap_ok (by omega) (by omega)]
      have e : ((j : Int) + 1) = ((j + 1 : Nat) : Int) := by omega
      rw [e]
      have h3 := ih (j + 1) (a + (pre24 xs[j]).length) (by omega) (by omega) (by omega) (by omega) hl
      have e2 : a + ((preL24 (xs.drop j)).length : Int) = a + ((pre24 xs[j]).length : Int) + ((preL24 (xs.drop (j + 1))).length : Int) := by omega
      rw [e2]
      exact h3
theorem rcount (x : S24) (h : (pre24 x).length < 4611686018427387904) : Ev (RCount x) ((pre24 x).length : Int) := by
  induction x using ind24 with
  | h x ih =>
  have hp : (pre24 x).length = 1 + (preL24 x.f4).length := by rw [pre24_eq]; simp; omega
  have hl := len_preL24 x.f4
  refine Ev.succ (g := fun K => assessorref03_Count.l0 K 1 0 x.f0 x.f1 x.f2 x.f3 x.f4) (fun k => by simp only [RCount, assessorref03_Count.f]) ?_
  have h3 := rcount_l0 x.f0 x.f1 x.f2 x.f3 x.f4 (fun k hk => ih k hk (by obtain ⟨j, hj, rfl⟩ := List.getElem_of_mem hk; have := pre_mem24 hj; omega)) x.f4.length 0 1 (by omega) (by omega) (by omega) (by simp; omega) (by omega)
  rw [hp]
  simpa using h3
theorem RCount_calls (x : S24) (A : Option Addr) (c : Nat) (w : World) (hC : k24.C w A x.f4.length x.f4) (hc : x.f4.length ≤ c) (hn : (pre24 x).length < 4611686018427387904) :
    Calls Try.prog 32 #[val24 x A c] w fun e w' => e = .returned (.int .i64 ((pre24 x).length : Int)) ∧ Below w.heap.size w w' := by
  obtain ⟨K, hK⟩ := (rcount x hn).at
  exact assessorref03_Count.calls K x.f0 x.f1 x.f2 x.f3 A c x.f4 _ w hC hc hK
end Go.Proofs.Ytbheobngeocdfaa.PAll
