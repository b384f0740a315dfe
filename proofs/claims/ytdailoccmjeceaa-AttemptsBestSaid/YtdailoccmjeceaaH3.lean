/- The program's attempts.chosen: what its calls come to: for fewer than 20 attempts. -/
import Derived.Test.YtdailoccmjeceaaH2
namespace Go.Proofs.Ytdailoccmjeceaa.PAll
open Go.RowKit Go.Lib Go.Sort Go.Proofs.YtdailoccmjeceaaW.PrintWords Go.Proofs.YtdailoccmjeceaaW.PrintLast Go.Proofs.YtdailoccmjeceaaW.PrintMore
attribute [local go_sem] max2_int min2_int max_two min_two max_three min_three max_four min_four
set_option linter.unusedVariables false
set_option linter.unusedSimpArgs false

set_option maxHeartbeats 4000000 in
set_option maxRecDepth 100000 in
theorem attempts_chosen.calls (a0_0 a0_1 a0_2 a0_3 : Int) (A1 : Option Addr) (c1 : Nat) (l1 : List S38) (r : List S38) (w : World) (hr1 : Kd.C k38 w A1 l1.length l1) (hc1 : l1.length ≤ c1) (h : attempts_chosen.f a0_0 a0_1 a0_2 a0_3 l1 = some r) :
    Calls Try.prog 32 #[.agg #[.int .i64 a0_0, .int .i64 a0_1, .int .i64 a0_2, .int .i64 a0_3], .slice A1 l1.length c1] w fun e w' => ∃ v0_ : Value, e = .returned (v0_) ∧ Kd.R k38 38 w' w.heap.size (fun _ => True) v0_ r ∧ Below w.heap.size w w' := by
  unfold attempts_chosen.f at h
  split at h
  case isFalse => simp at h
  rename_i hn
  obtain rfl := Option.some.inj h
  have hu23 := Try.underlying23
  have HR := Aside0.mk hr1
  have HC := Aside0.mk hc1
  clear hr1 hc1 h
  obtain ⟨cur, hcur, hmk⟩ := make38 l1.length hn
  have hd0 : decide ((l1.length : Int) < 0) = false := decide_eq_false (by omega)
  have hd1 : decide (9223372036854775807 < (l1.length : Int)) = false := decide_eq_false (by omega)
  have HCU := Aside0.mk hcur
  have HN := Aside0.mk hn
  clear hcur
  obtain ⟨W0, hW0⟩ : ∃ W0, W0 = (w.alloc (.cells #[.int .i64 a0_0, .int .i64 a0_1, .int .i64 a0_2, .int .i64 a0_3] 23)) := ⟨_, rfl⟩
  have hz0 : W0.heap.size = w.heap.size + 1 := by rw [hW0]; simp
  have hb0 : Below w.heap.size w W0 := by rw [hW0]; exact (Below.refl _ _).alloc (Nat.le_refl _) _
  have hk0 : W0.heap[w.heap.size]? = some (.cells #[.int .i64 a0_0, .int .i64 a0_1, .int .i64 a0_2, .int .i64 a0_3] 23 (0, 0)) := by rw [hW0]; exact heap_alloc_new w _
  have hb1 : Below W0.heap.size W0 (W0.alloc (.cells cur 38)) := (Below.refl _ _).alloc (Nat.le_refl _) _
  obtain ⟨w1, hcp, hg1, hbb, hz1⟩ := copy38 (W0.alloc (.cells cur 38)) (w.heap.size + 1) cur A1 c1 l1 (Kd.C_below (Kd.C_below HR.out hb0) hb1) (by rw [← hz0]; exact heap_alloc_new W0 _) HCU.out
  have hb2 : Below W0.heap.size W0 w1 := hbb _ _ hb1 (by omega)
  have hk1 : w1.heap[w.heap.size]? = some (.cells #[.int .i64 a0_0, .int .i64 a0_1, .int .i64 a0_2, .int .i64 a0_3] 23 (0, 0)) := (hb2.block _ (by omega)).trans hk0
  have HB := Aside0.mk (hb0.trans (hb2.mono (by omega)))
  have HG := Aside0.mk hg1
  have HK := Aside0.mk hk1
  have hw1 : w1.heap.size = w.heap.size + 2 := by rw [hz1]; simp [hz0]
  have HZ := Aside0.mk hw1
  have hx0 : w1.cell? ⟨w.heap.size, 0, none⟩ = some (.int .i64 a0_0) := (blk_cell hk1 0).trans rfl
  have hx3 : w1.cell? ⟨w.heap.size, 3, none⟩ = some (.int .i64 a0_3) := (blk_cell hk1 3).trans rfl
  subst hW0
  clear hz0 hb0 hk0 hb1 hbb hz1 hb2 hk1 hg1 hw1
  have hs : (l1.toArray : Array S38).size = l1.length := by simp
  by_cases hkd : a0_0 = 1
  · subst hkd
    have hr := rev40 (w.heap.size + 1) 0 l1.length l1.toArray w1 (holds38 HG.out) (by simp; omega)
    rw [hs] at hr
    have HRV := Aside0.mk hr
    clear hr
    go_enter Try.func32, Try.ntmps32
    go_wp2_with fail
    clear hcp hmk
    refine HRV.out.mono ?_
    rintro e w2 ⟨rfl, n, hw2⟩
    have hw2' : w2 = sortWorldK enc38 3 w1 (w.heap.size + 1) 0 n l1.toArray.reverse #[] := by rw [hw2]; unfold sortWorldK; rw [grow_empty]
    have HG2 : Aside0 (w2.heap[w.heap.size + 1]? = some (.cells (flat38 l1.reverse).toArray 38 (0, 0))) := ⟨by
      rw [hw2', heap_put38 _ HG.out (by simp [flat38_len])]; simp⟩
    have HB2 : Aside0 (Below w.heap.size w w2) := ⟨by
      rw [hw2']; exact HB.out.grown (grownBy_put38 _) (by have := HZ.out; omega) (by intro k hk; cases hk; omega)⟩
    clear hw2 hw2' HRV
    by_cases h1 : (1 : Int) ≤ (l1.length : Int)
    · go_wp2_with fail
      go_ret
      exact ⟨_, rfl, take38 HG2.out (by omega) (by simp) (by omega) HN.out (by simp [chosenL]), HB2.out⟩
    · go_wp2_with fail
      go_ret
      refine ⟨_, rfl, take38 HG2.out (by omega) (by simp) (Nat.le_refl _) HN.out ?_, HB2.out⟩
      have : l1 = [] := by cases l1 with
        | nil => rfl
        | cons x xs => exact absurd h1 (by simp; omega)
      subst this
      rfl
  · have hkd0 : (a0_0 == 1) = false := beq_eq_false_iff_ne.2 hkd
    have hkd1 : decide (a0_0 = 1) = false := decide_eq_false hkd
    have hr := sort41 (w.heap.size + 1) 0 l1.length l1.toArray w1 (holds38 HG.out) (by have := HZ.out; omega) (by rw [hs]; exact hn)
    rw [hs] at hr
    have HRV := Aside0.mk hr
    clear hr
    have hs2 := sorted38_len l1
    have HS2 := Aside0.mk hs2
    clear hs2
    by_cases hk1 : (1 : Int) ≤ a0_3
    · obtain ⟨k, rfl⟩ := Int.eq_ofNat_of_zero_le (show 0 ≤ a0_3 by omega)
      have hk2 : ¬ (k : Int) < 1 := by omega
      have HK1 := Aside0.mk hk1
      have HKD := Aside0.mk hkd
      go_enter Try.func32, Try.ntmps32
      go_wp2_with fail
      all_goals
        refine HRV.out.mono ?_
        rintro e w2 ⟨rfl, n, os, hw2⟩
        have HG2 : Aside0 (w2.heap[w.heap.size + 1]? = some (.cells (flat38 (sorted38 l1)).toArray 38 (0, 0))) := ⟨by
          rw [hw2, heap_put38 _ HG.out (by have := HS2.out; simp [flat38_len]; simp [sorted38] at this; omega)]; rfl⟩
        have HB2 : Aside0 (Below w.heap.size w w2) := ⟨by
          rw [hw2]; exact HB.out.grown (grownBy_put38 _) (by have := HZ.out; omega) (by intro k hk; cases hk; omega)⟩
        clear hw2 
        by_cases h1 : (k : Int) ≤ (l1.length : Int)
        · go_wp2_with fail
          all_goals
            first
              | (exfalso; omega)
              | (go_ret
                 exact ⟨_, rfl, take38 HG2.out (by omega) HS2.out (by have := HK1.out; omega) HN.out (chosen_take HKD.out (by have := HK1.out; omega)), HB2.out⟩)
        · go_wp2_with fail
          all_goals
            first
              | (exfalso; omega)
              | (go_ret
                 exact ⟨_, rfl, take38 HG2.out (by omega) HS2.out (by have := HK1.out; omega) HN.out (chosen_take HKD.out (by have := HK1.out; omega)), HB2.out⟩)
    · have hk2 : a0_3 < 1 := by omega
      have HK1 := Aside0.mk hk1
      have HKD := Aside0.mk hkd
      go_enter Try.func32, Try.ntmps32
      go_wp2_with fail
      all_goals
        refine HRV.out.mono ?_
        rintro e w2 ⟨rfl, n, os, hw2⟩
        have HG2 : Aside0 (w2.heap[w.heap.size + 1]? = some (.cells (flat38 (sorted38 l1)).toArray 38 (0, 0))) := ⟨by
          rw [hw2, heap_put38 _ HG.out (by have := HS2.out; simp [flat38_len]; simp [sorted38] at this; omega)]; rfl⟩
        have HB2 : Aside0 (Below w.heap.size w w2) := ⟨by
          rw [hw2]; exact HB.out.grown (grownBy_put38 _) (by have := HZ.out; omega) (by intro k hk; cases hk; omega)⟩
        clear hw2
        by_cases h1 : (1 : Int) ≤ (l1.length : Int)
        · go_wp2_with fail
          all_goals
            first
              | (exfalso; omega)
              | (go_ret
                 exact ⟨_, rfl, take38 HG2.out (by omega) HS2.out (by have := HK1.out; omega) HN.out (chosen_take HKD.out (by have := HK1.out; omega)), HB2.out⟩)
        · go_wp2_with fail
          all_goals
            first
              | (exfalso; omega)
              | (go_ret
                 exact ⟨_, rfl, take38 HG2.out (by omega) HS2.out (by have := HK1.out; omega) HN.out (chosen_take HKD.out (by have := HK1.out; omega)), HB2.out⟩)
end Go.Proofs.Ytdailoccmjeceaa.PAll
