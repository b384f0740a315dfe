/- Plain: the reference's Nodes and Small; the examples hold. -/
import Derived.Test.YtbheobngeocdfaaMe
import Derived.Test.YtbheobngeocdfaaPAllxf11
namespace Go.Proofs.Ytbheobngeocdfaa.PAll
open Go.RowKit Go.Proofs.YtbheobngeocdfaaW.PrintWords Go.Proofs.YtbheobngeocdfaaW.PrintLast Go.Proofs.YtbheobngeocdfaaW.PrintMore
set_option linter.unusedVariables false
set_option linter.unusedSimpArgs false

def RNodes (x : S24) : Nat → Option (List S24) := fun K => assessorref03_Nodes.f K x.f0 x.f1 x.f2 x.f3 x.f4
theorem rnodes_l0 (b0 : Int) (b1 : ByteArray) (b2 b3 : Int) (xs : List S24) (H : ∀ k ∈ xs, Ev (RNodes k) (pre24 k)) (hl : xs.length < 4611686018427387904) :
    ∀ (n j : Nat) (a : List S24), xs.length - j = n → j ≤ xs.length → a.length + (preL24 (xs.drop j)).length < 2199023255552 → Ev (fun K => assessorref03_Nodes.l0 K a (j : Int) b0 b1 b2 b3 xs) (a ++ preL24 (xs.drop j)) := by
  intro n
  induction n with
  | zero =>
    intro j a hn hj hb
    have : j = xs.length := by omega
    subst this
    refine Ev.succ (g := fun _ => some (a ++ preL24 (xs.drop xs.length))) (fun k => ?_) Ev.const
    simp [assessorref03_Nodes.l0, List.drop_length, preL24]
  | succ n ih =>
    intro j a hn hj hb
    have hlt : j < xs.length := by omega
    have hd := preL24_drop hlt
    have he : preL24 (xs.drop j) = pre24 xs[j] ++ preL24 (xs.drop (j + 1)) := by rw [List.drop_eq_getElem_cons hlt]; simp [preL24]
    refine Ev.succ (g := fun K => (RNodes xs[j] K).bind fun t => if a.length + t.length < 2199023255552 then assessorref03_Nodes.l0 K (a ++ t) (wrap64 ((j : Int) + 1)) b0 b1 b2 b3 xs else none) (fun k => ?_) ?_
    · have h1 : (j : Int) < (xs.length : Int) := by omega
      have h2 : (0 : Int) ≤ (j : Int) := by omega
      simp only [assessorref03_Nodes.l0, if_pos h1, if_pos h2, rd_T24_nat hlt, RNodes]
    · refine Ev.bind (H _ (List.getElem_mem hlt)) ?_
      simp only [if_pos (show a.length + (pre24 xs[j]).length < 2199023255552 by omega)]
      rw [wrap_ok (by omega) (by omega)]
      have e : ((j : Int) + 1) = ((j + 1 : Nat) : Int) := by omega
      rw [e, he, ← List.append_assoc]
      exact ih (j + 1) (a ++ pre24 xs[j]) (by omega) (by omega) (by rw [List.length_append]; omega)
theorem rnodes (x : S24) (h : (pre24 x).length < 2199023255552) : Ev (RNodes x) (pre24 x) := by
  induction x using ind24 with
  | h x ih =>
  have hp : (pre24 x).length = 1 + (preL24 x.f4).length := by rw [pre24_eq]; simp; omega
  have hl := len_preL24 x.f4
  refine Ev.succ (g := fun K => assessorref03_Nodes.l0 K [⟨x.f0, x.f1, x.f2, x.f3, x.f4⟩] 0 x.f0 x.f1 x.f2 x.f3 x.f4) (fun k => by simp only [RNodes, assessorref03_Nodes.f]) ?_
  have h3 := rnodes_l0 x.f0 x.f1 x.f2 x.f3 x.f4 (fun k hk => ih k hk (by obtain ⟨j, hj, rfl⟩ := List.getElem_of_mem hk; have := pre_mem24 hj; omega)) (by omega) x.f4.length 0 [⟨x.f0, x.f1, x.f2, x.f3, x.f4⟩] (by omega) (by omega) (by simp; omega)
  have e : (⟨x.f0, x.f1, x.f2, x.f3, x.f4⟩ : S24) = x := by cases x; rfl
  rw [e] at h3 ⊢
  rw [pre24_eq]
  simpa using h3
/-- at most m nodes, with short texts -/
def smallB (x : S24) (m : Int) : Bool := (pre24 x).all (fun y => decide (y.f1.size ≤ 60)) && decide (((pre24 x).length : Int) ≤ m)
theorem small_l0 (m : Int) (xs : List S24) (hl : xs.length < 2199023255552) : ∀ (n j : Nat), xs.length - j = n → j ≤ xs.length → Ev (fun K => assessorref03_Small.l0 K m xs (j : Int)) ((xs.drop j).all (fun y => decide (y.f1.size ≤ 60)) && decide ((xs.length : Int) ≤ m)) := by
  intro n
  induction n with
  | zero =>
    intro j hn hj
    have : j = xs.length := by omega
    subst this
    refine Ev.succ (g := fun _ => some ((xs.drop xs.length).all (fun y => decide (y.f1.size ≤ 60)) && decide ((xs.length : Int) ≤ m))) (fun k => ?_) Ev.const
    simp [assessorref03_Small.l0, List.drop_length]
  | succ n ih =>
    intro j hn hj
    have hlt : j < xs.length := by omega
    have h1 : (j : Int) < (xs.length : Int) := by omega
    have h2 : (0 : Int) ≤ (j : Int) := by omega
    have he : xs.drop j = xs[j] :: xs.drop (j + 1) := List.drop_eq_getElem_cons hlt
    by_cases hs : ((xs[j].f1.size : Nat) : Int) > 60
    · refine Ev.succ (g := fun _ => some false) (fun k => ?_) ?_
      · simp only [assessorref03_Small.l0, if_pos h1, if_pos h2, rd_T24_nat hlt, if_pos hs]
      · have : ((xs.drop j).all (fun y => decide (y.f1.size ≤ 60)) && decide ((xs.length : Int) ≤ m)) = false := by
          have hd0 : decide (xs[j].f1.size ≤ 60) = false := by simp; omega
          rw [he, List.all_cons, hd0]; rfl
        rw [this]; exact Ev.const
    · refine Ev.succ (g := fun K => assessorref03_Small.l0 K m xs (wrap64 ((j : Int) + 1))) (fun k => ?_) ?_
      · simp only [assessorref03_Small.l0, if_pos h1, if_pos h2, rd_T24_nat hlt, if_neg hs]
      · rw [wrap_ok (by omega) (by omega)]
        have e : ((j : Int) + 1) = ((j + 1 : Nat) : Int) := by omega
        rw [e, he, List.all_cons, decide_eq_true (show xs[j].f1.size ≤ 60 by omega), Bool.true_and]
        exact ih (j + 1) (by omega) (by omega)
theorem rsmall (x : S24) (m : Int) (h : (pre24 x).length < 2199023255552) : Ev (fun K => assessorref03_Small.f K x.f0 x.f1 x.f2 x.f3 x.f4 m) (smallB x m) := by
  refine Ev.congr (g := fun K => (RNodes x K).bind fun t => assessorref03_Small.l0 K m t 0) (fun k => rfl) ?_
  refine Ev.bind (rnodes x h) ?_
  have := small_l0 m (pre24 x) h _ 0 rfl (Nat.zero_le _)
  simpa [smallB] using this

theorem awake_holds : assessorlaw03_awake.f 40 = some true := by kernel_rfl
theorem awake_mono : ∀ k, LeO (assessorlaw03_awake.f k) (assessorlaw03_awake.f (k + 1)) := fun k => assessorlaw03_awake.mono k
theorem rawake : Ev assessorlaw03_awake.f true := ⟨40, fun k hk => by
  obtain ⟨d, rfl⟩ : ∃ d, k = 40 + d := ⟨k - 40, by omega⟩
  clear hk
  induction d with
  | zero => exact awake_holds
  | succ d ih => exact awake_mono (40 + d) _ ih⟩
end Go.Proofs.Ytbheobngeocdfaa.PAll
