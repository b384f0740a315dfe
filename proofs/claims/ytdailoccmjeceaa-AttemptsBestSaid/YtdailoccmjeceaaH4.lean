/- The library's slices.Clone of attempts: what its calls come to: for at most 1000 attempts. -/
import Derived.Test.YtdailoccmjeceaaM1
namespace Go.Proofs.Ytdailoccmjeceaa.PAll
open Go.RowKit Go.Lib Go.Sort Go.Proofs.YtdailoccmjeceaaW.PrintWords Go.Proofs.YtdailoccmjeceaaW.PrintLast Go.Proofs.YtdailoccmjeceaaW.PrintMore
set_option linter.unusedVariables false
set_option linter.unusedSimpArgs false

set_option maxHeartbeats 2000000 in
set_option maxRecDepth 100000 in
theorem api_Attempt.calls (A0 : Option Addr) (c0 : Nat) (l0 : List S38) (r : List S38) (w : World) (hr0 : Kd.C k38 w A0 l0.length l0) (hc0 : l0.length ≤ c0) (h : api_Attempt.f l0 = some r) :
    Calls Try.prog 19 #[.slice A0 l0.length c0] w fun e w' => ∃ v0_ : Value, e = .returned (v0_) ∧ Kd.R k38 38 w' w.heap.size (fun _ => True) v0_ r ∧ Below w.heap.size w w' := by
  unfold api_Attempt.f at h
  split at h
  case isFalse => simp at h
  rename_i hn
  obtain rfl := Option.some.inj h
  clear h
  have q22 : ∀ (w : World) (a : Option Addr) (n c n' c' : Nat), (binOp .eql 24 (.slice a n c) (.slice none n' c')).run Try.prog w = .ok (.bool a.isNone) w := fun w a n c n' c' => Lib.run_eql_slice_nil w _ _ a n c n' c' Try.underlying24
  cases A0 with
  | none =>
    have hl : l0 = [] := by
      cases l0 with
      | nil => rfl
      | cons x xs => obtain ⟨ad, e, _⟩ := hr0.2.2 (by simp); cases e
    subst hl
    clear hr0 hc0 hn
    go_enter Try.func19, Try.ntmps19
    go_wp2
    go_ret
    exact ⟨_, rfl, Kd.R_nil _ _ _ _ _, Below.refl _ _⟩
  | some ad =>
    obtain ⟨inner, hrp, hcell⟩ := ReadsRow.inner_ hr0
    obtain rfl := reps38_eq _ _ hrp
    obtain ⟨i, hi, hz⟩ := Option.map_eq_some_iff.1 info38
    simp only [Prod.mk.injEq] at hz
    obtain ⟨hz0, hz1, hz2⟩ := hz
    have HCL := Aside0.mk hcell
    have hl := flat38_len l0
    have HL := Aside0.mk hl
    have HI := Aside0.mk hi
    clear hr0 hc0 hrp hcell hl hi
    go_enter Try.func19, Try.ntmps19
    go_wp2_with (at_builtin; refine wpList_append_own _ rfl _ _ 24 rfl w.heap.size 38 i _ 3 24 Try.underlying24 HI.out hz0 hz1 hz2 rfl (by omega) _ _ _ rfl (World.ownsRow_made w #[] 0 (Nat.le_refl _) (Nat.zero_le _) (by simp)) ad l0.length c0 (flat38 l0) rfl ?qc1 ?qc2 ?qc3 ?qc4 ?qc5 ?qc6 ?_)
    case qc1 => exact HL.out
    case qc2 =>
      intro j u hj
      exact Lib.cell?_alloc_some _ (HCL.out j u hj)
    case qc3 => exact flat38_one _
    case qc4 => rw [Nat.zero_add]; unfold maxLen; omega
    case qc5 => rw [Nat.zero_add]; omega
    case qc6 => simp
    intro v' w1 hown hgrow hnil
    go_wp2
    go_ret
    refine ⟨v', rfl, ⟨fun _ _ => trivial, flat38 l0, (by simpa using hown : w1.ownsRow w.heap.size 38 3 v' l0.length (flat38 l0)), reps38 (fun x => k38_mkM _ _ _ x) l0⟩, ?_⟩
    exact ((Below.refl _ w).alloc (Nat.le_refl _) _).grown hgrow (by simp) (by intro k hk; simp [Value.ownBlock] at hk; omega)
end Go.Proofs.Ytdailoccmjeceaa.PAll
