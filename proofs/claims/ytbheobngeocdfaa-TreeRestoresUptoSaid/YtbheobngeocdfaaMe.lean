/- Plain: what a printed function comes to with enough steps. -/
import Derived.Test.YtbheobngeocdfaaG1
namespace Go.Proofs.Ytbheobngeocdfaa.PAll
open Go.RowKit Go.Proofs.YtbheobngeocdfaaW.PrintWords Go.Proofs.YtbheobngeocdfaaW.PrintLast Go.Proofs.YtbheobngeocdfaaW.PrintMore
set_option linter.unusedVariables false
set_option linter.unusedSimpArgs false

/-- with enough steps -/
def Ev {α : Type} (f : Nat → Option α) (v : α) : Prop := ∃ K, ∀ k, K ≤ k → f k = some v
section
variable {α β : Type} {f g : Nat → Option α} {v : α}
theorem Ev.succ (h : ∀ k, f (k + 1) = g k) (hg : Ev g v) : Ev f v := by
  obtain ⟨K, hK⟩ := hg
  refine ⟨K + 1, fun k hk => ?_⟩
  obtain ⟨k, rfl⟩ : ∃ k', k = k' + 1 := ⟨k - 1, by omega⟩
  rw [h]; exact hK k (by omega)
theorem Ev.congr (h : ∀ k, f k = g k) (hg : Ev g v) : Ev f v := by
  obtain ⟨K, hK⟩ := hg
  exact ⟨K, fun k hk => by rw [h]; exact hK k hk⟩
theorem Ev.const : Ev (fun _ => some v) v := ⟨0, fun _ _ => rfl⟩
theorem Ev.bind {h : α → Nat → Option β} {b : β} (hf : Ev f v) (hg : Ev (h v) b) : Ev (fun k => (f k).bind fun t => h t k) b := by
  obtain ⟨K, hK⟩ := hf
  obtain ⟨L, hL⟩ := hg
  exact ⟨max K L, fun k hk => by simp only [hK k (by omega)]; exact hL k (by omega)⟩
theorem Ev.at (h : Ev f v) : ∃ K, f K = some v := ⟨h.choose, h.choose_spec _ (Nat.le_refl _)⟩
theorem Ev.two {g : Nat → Option β} {b : β} (h : Ev f v) (h2 : Ev g b) : ∃ K, f K = some v ∧ g K = some b := by
  obtain ⟨K, hK⟩ := h
  obtain ⟨L, hL⟩ := h2
  exact ⟨max K L, hK _ (by omega), hL _ (by omega)⟩
end
theorem rd_T24_nat {xs : List S24} {j : Nat} (h : j < xs.length) : rd_T24 xs (j : Int) = xs[j] := by simp [rd_T24, List.getElem?_eq_getElem h]
theorem wrap_ok {z : Int} (h1 : -9223372036854775808 ≤ z) (h2 : z < 9223372036854775808) : wrap64 z = z := by unfold wrap64; omega

end Go.Proofs.Ytbheobngeocdfaa.PAll
