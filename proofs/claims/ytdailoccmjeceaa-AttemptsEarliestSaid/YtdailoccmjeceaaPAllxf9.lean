/- What the machine's calls come to, function by function: printed by a program of this session after the kit's print; Lean checks it. -/
import Derived.Test.YtdailoccmjeceaaPAllx0
import Derived.Test.YtdailoccmjeceaaPAllxf36
import Derived.Test.YtdailoccmjeceaaPAllxf27
import Derived.Test.YtdailoccmjeceaaPAllxf38
import Derived.Test.YtdailoccmjeceaaPAllxf23
import Derived.Test.YtdailoccmjeceaaH4
namespace Go.Proofs.Ytdailoccmjeceaa.PAll
open Go.RowKit Go.Proofs.YtdailoccmjeceaaW.PrintWords Go.Proofs.YtdailoccmjeceaaW.PrintLast Go.Proofs.YtdailoccmjeceaaW.PrintMore
attribute [local go_sem] max2_int min2_int max_two min_two max_three min_three max_four min_four   -- for this text's walks alone
set_option linter.unusedVariables false
set_option linter.unusedSimpArgs false

/-! ### assessorlaw52_AttemptsEarliest: function 9 -/
mutual
def assessorlaw52_AttemptsEarliest.j0 : Nat → List (S38) → Int → Bool → Int → Int → Int → Int → Option (Bool)
  | 0, _, _, _, _, _, _, _ => none
  | k + 1, x1, x2, x20, x332000, x332001, x332002, x332003 => if x20 = true then (some true) else ((attempts_Earliest.f k x332000 x332001 x332002 x332003 x1).bind fun bt334 => ((attempts_Allowed.f k x332000 x332001 x332002 x332003 x1 x2).bind fun t336 => (if bt334.2 = true then ((attempts_Allowed.f k x332000 x332001 x332002 x332003 x1 bt334.1).bind fun t337 => (if t337 = 0 then (if x2 ≥ bt334.1 then (assessorlaw52_AttemptsEarliest.j1 k x1 bt334.2 ((decide (x2 ≤ 1099511627776)) != (t336 == 0)) x332000 x332001 x332002 x332003) else (assessorlaw52_AttemptsEarliest.j1 k x1 bt334.2 (false != (t336 == 0)) x332000 x332001 x332002 x332003)) else (assessorlaw52_AttemptsEarliest.j1 k x1 bt334.2 true x332000 x332001 x332002 x332003))) else (if bt334.1 = 0 then (some (t336 != 0)) else (some false)))))
def assessorlaw52_AttemptsEarliest.j1 : Nat → List (S38) → Bool → Bool → Int → Int → Int → Int → Option (Bool)
  | 0, _, _, _, _, _, _, _ => none
  | k + 1, x1, x8, x55, x332000, x332001, x332002, x332003 => if x55 = true then (some false) else ((api_Attempt.f x1).bind fun t338 => (assessorlaw52_AttemptsEarliest.l0 k t338 x8 0 x332000 x332001 x332002 x332003))
def assessorlaw52_AttemptsEarliest.l0 : Nat → List (S38) → Bool → Int → Int → Int → Int → Int → Option (Bool)
  | 0, _, _, _, _, _, _, _ => none
  | k + 1, x1, x8, x58, x332000, x332001, x332002, x332003 => if x58 < 17 then ((attempts_Earliest.f k x332000 x332001 x332002 x332003 x1).bind fun bt342 => (if bt342.2 = true then (if x1.length < 5864062014805 then ((some (x1 ++ [(⟨wrap64 ((x1.length : Int) + 1), bt342.1, 0⟩ : S38)] : List (S38))).bind fun y344 => ((attempts_Valid.f k x332000 x332001 x332002 x332003 y344).bind fun t347 => (if t347 = true then (assessorlaw52_AttemptsEarliest.l0 k y344 bt342.2 (wrap64 (x58 + 1)) x332000 x332001 x332002 x332003) else (some false)))) else (none)) else (if (x1.length : Int) = x332001 then (some true) else (if (x1.length : Int) > 0 then (if 0 ≤ (wrap64 ((x1.length : Int) - 1)) then (if (wrap64 ((x1.length : Int) - 1)) < (x1.length : Int) then (some (decide (((rd_T38 x1 (wrap64 ((x1.length : Int) - 1))).f1) > (wrap64 (1099511627776 - x332002))))) else (none)) else (none)) else (some false))))) else (if x8 = true then (some false) else (if (x1.length : Int) = x332001 then (some true) else (if (x1.length : Int) > 0 then (if 0 ≤ (wrap64 ((x1.length : Int) - 1)) then (if (wrap64 ((x1.length : Int) - 1)) < (x1.length : Int) then (some (decide (((rd_T38 x1 (wrap64 ((x1.length : Int) - 1))).f1) > (wrap64 (1099511627776 - x332002))))) else (none)) else (none)) else (some false))))
end
def assessorlaw52_AttemptsEarliest.f (k : Nat) (a0_0 : Int) (a0_1 : Int) (a0_2 : Int) (a0_3 : Int) (l1 : List (S38)) (a2 : Int) : Option (Bool) := (assessorlaw52_awake.f k).bind fun t332 => (if t332 = true then (if (l1.length : Int) > 20 then (assessorlaw52_AttemptsEarliest.j0 k l1 a2 true a0_0 a0_1 a0_2 a0_3) else ((attempts_Valid.f k a0_0 a0_1 a0_2 a0_3 l1).bind fun t333 => (assessorlaw52_AttemptsEarliest.j0 k l1 a2 (!t333) a0_0 a0_1 a0_2 a0_3))) else (some false))
theorem assessorlaw52_AttemptsEarliest.mono_l : ∀ k, (∀ y0 y1 y2 y3 y4 y5 y6, LeO (assessorlaw52_AttemptsEarliest.j0 k y0 y1 y2 y3 y4 y5 y6) (assessorlaw52_AttemptsEarliest.j0 (k + 1) y0 y1 y2 y3 y4 y5 y6)) ∧ (∀ y0 y1 y2 y3 y4 y5 y6, LeO (assessorlaw52_AttemptsEarliest.j1 k y0 y1 y2 y3 y4 y5 y6) (assessorlaw52_AttemptsEarliest.j1 (k + 1) y0 y1 y2 y3 y4 y5 y6)) ∧ (∀ y0 y1 y2 y3 y4 y5 y6, LeO (assessorlaw52_AttemptsEarliest.l0 k y0 y1 y2 y3 y4 y5 y6) (assessorlaw52_AttemptsEarliest.l0 (k + 1) y0 y1 y2 y3 y4 y5 y6))
  | 0 => ⟨fun _ _ _ _ _ _ _ r h => by simp [assessorlaw52_AttemptsEarliest.j0] at h, fun _ _ _ _ _ _ _ r h => by simp [assessorlaw52_AttemptsEarliest.j1] at h, fun _ _ _ _ _ _ _ r h => by simp [assessorlaw52_AttemptsEarliest.l0] at h⟩
  | k + 1 => by
    obtain ⟨ih0, ih1, ih2⟩ := assessorlaw52_AttemptsEarliest.mono_l k
    refine ⟨?_, ?_, ?_⟩
    · intro y0 y1 y2 y3 y4 y5 y6
      unfold assessorlaw52_AttemptsEarliest.j0
      repeat' first
      | (with_reducible exact ih0 _ _ _ _ _ _ _)
      | (with_reducible exact ih1 _ _ _ _ _ _ _)
      | (with_reducible exact ih2 _ _ _ _ _ _ _)
      | (with_reducible exact assessorlaw52_awake.mono _)
      | (with_reducible exact attempts_Allowed.mono _ _ _ _ _ _ _)
      | (with_reducible exact attempts_Earliest.mono _ _ _ _ _ _)
      | (with_reducible exact attempts_Valid.mono _ _ _ _ _ _)
      | (with_reducible exact LeO.refl _)
      | (with_reducible exact LeO.none _)
      | (with_reducible refine LeO.ite ?_ ?_)
      | (with_reducible refine LeO.bind ?_ (fun _ => ?_))
      | exact ih0 _ _ _ _ _ _ _
      | exact ih1 _ _ _ _ _ _ _
      | exact ih2 _ _ _ _ _ _ _
      | exact assessorlaw52_awake.mono _
      | exact attempts_Allowed.mono _ _ _ _ _ _ _
      | exact attempts_Earliest.mono _ _ _ _ _ _
      | exact attempts_Valid.mono _ _ _ _ _ _
      | exact LeO.none _
      | refine LeO.ite ?_ ?_
      | refine LeO.bind ?_ (fun _ => ?_)
    · intro y0 y1 y2 y3 y4 y5 y6
      unfold assessorlaw52_AttemptsEarliest.j1
      repeat' first
      | (with_reducible exact ih0 _ _ _ _ _ _ _)
      | (with_reducible exact ih1 _ _ _ _ _ _ _)
      | (with_reducible exact ih2 _ _ _ _ _ _ _)
      | (with_reducible exact assessorlaw52_awake.mono _)
      | (with_reducible exact attempts_Allowed.mono _ _ _ _ _ _ _)
      | (with_reducible exact attempts_Earliest.mono _ _ _ _ _ _)
      | (with_reducible exact attempts_Valid.mono _ _ _ _ _ _)
      | (with_reducible exact LeO.refl _)
      | (with_reducible exact LeO.none _)
      | (with_reducible refine LeO.ite ?_ ?_)
      | (with_reducible refine LeO.bind ?_ (fun _ => ?_))
      | exact ih0 _ _ _ _ _ _ _
      | exact ih1 _ _ _ _ _ _ _
      | exact ih2 _ _ _ _ _ _ _
      | exact assessorlaw52_awake.mono _
      | exact attempts_Allowed.mono _ _ _ _ _ _ _
      | exact attempts_Earliest.mono _ _ _ _ _ _
      | exact attempts_Valid.mono _ _ _ _ _ _
      | exact LeO.none _
      | refine LeO.ite ?_ ?_
      | refine LeO.bind ?_ (fun _ => ?_)
    · intro y0 y1 y2 y3 y4 y5 y6
      unfold assessorlaw52_AttemptsEarliest.l0
      repeat' first
      | (with_reducible exact ih0 _ _ _ _ _ _ _)
      | (with_reducible exact ih1 _ _ _ _ _ _ _)
      | (with_reducible exact ih2 _ _ _ _ _ _ _)
      | (with_reducible exact assessorlaw52_awake.mono _)
      | (with_reducible exact attempts_Allowed.mono _ _ _ _ _ _ _)
      | (with_reducible exact attempts_Earliest.mono _ _ _ _ _ _)
      | (with_reducible exact attempts_Valid.mono _ _ _ _ _ _)
      | (with_reducible exact LeO.refl _)
      | (with_reducible exact LeO.none _)
      | (with_reducible refine LeO.ite ?_ ?_)
      | (with_reducible refine LeO.bind ?_ (fun _ => ?_))
      | exact ih0 _ _ _ _ _ _ _
      | exact ih1 _ _ _ _ _ _ _
      | exact ih2 _ _ _ _ _ _ _
      | exact assessorlaw52_awake.mono _
      | exact attempts_Allowed.mono _ _ _ _ _ _ _
      | exact attempts_Earliest.mono _ _ _ _ _ _
      | exact attempts_Valid.mono _ _ _ _ _ _
      | exact LeO.none _
      | refine LeO.ite ?_ ?_
      | refine LeO.bind ?_ (fun _ => ?_)
theorem assessorlaw52_AttemptsEarliest.mono : ∀ a0 a1 a2 a3 a4 a5 k, LeO (assessorlaw52_AttemptsEarliest.f k a0 a1 a2 a3 a4 a5) (assessorlaw52_AttemptsEarliest.f (k + 1) a0 a1 a2 a3 a4 a5) := by
  intro a0 a1 a2 a3 a4 a5 k
  obtain ⟨ih0, ih1, ih2⟩ := assessorlaw52_AttemptsEarliest.mono_l k
  unfold assessorlaw52_AttemptsEarliest.f
  repeat' first
      | (with_reducible exact ih0 _ _ _ _ _ _ _)
      | (with_reducible exact ih1 _ _ _ _ _ _ _)
      | (with_reducible exact ih2 _ _ _ _ _ _ _)
      | (with_reducible exact assessorlaw52_awake.mono _)
      | (with_reducible exact attempts_Allowed.mono _ _ _ _ _ _ _)
      | (with_reducible exact attempts_Earliest.mono _ _ _ _ _ _)
      | (with_reducible exact attempts_Valid.mono _ _ _ _ _ _)
      | (with_reducible exact LeO.refl _)
      | (with_reducible exact LeO.none _)
      | (with_reducible refine LeO.ite ?_ ?_)
      | (with_reducible refine LeO.bind ?_ (fun _ => ?_))
      | exact ih0 _ _ _ _ _ _ _
      | exact ih1 _ _ _ _ _ _ _
      | exact ih2 _ _ _ _ _ _ _
      | exact assessorlaw52_awake.mono _
      | exact attempts_Allowed.mono _ _ _ _ _ _ _
      | exact attempts_Earliest.mono _ _ _ _ _ _
      | exact attempts_Valid.mono _ _ _ _ _ _
      | exact LeO.none _
      | refine LeO.ite ?_ ?_
      | refine LeO.bind ?_ (fun _ => ?_)
set_option maxHeartbeats 8000000 in
set_option maxRecDepth 100000 in
theorem assessorlaw52_AttemptsEarliest.calls (k : Nat) (a0_0 : Int) (a0_1 : Int) (a0_2 : Int) (a0_3 : Int) (A1 : Option Addr) (c1 : Nat) (l1 : List (S38)) (a2 : Int) (r : Bool) (w : World) (hr1 : Kd.C k38 w A1 l1.length l1) (hc1 : l1.length ≤ c1) (h : assessorlaw52_AttemptsEarliest.f k a0_0 a0_1 a0_2 a0_3 l1 a2 = some r) :
    Calls Try.prog 9 #[.agg #[.int .i64 a0_0, .int .i64 a0_1, .int .i64 a0_2, .int .i64 a0_3], .slice A1 l1.length c1, .int .i64 a2] w fun e w' => e = .returned (.bool r) ∧ Below w.heap.size w w' := by
  have hu23 := Try.underlying23
  have hu38 := Try.underlying38
  have HR1 := Aside0.mk hr1
  have HC1 := Aside0.mk hc1
  clear hr1 hc1
  have HB := Aside0.mk (Below.refl w.heap.size w)
  have H : ((assessorlaw52_awake.f k).bind fun t332 => (if t332 = true then (if (l1.length : Int) > 20 then (assessorlaw52_AttemptsEarliest.j0 k l1 a2 true a0_0 a0_1 a0_2 a0_3) else ((attempts_Valid.f k a0_0 a0_1 a0_2 a0_3 l1).bind fun t333 => (assessorlaw52_AttemptsEarliest.j0 k l1 a2 (!t333) a0_0 a0_1 a0_2 a0_3))) else (some false))) = some r := h
  clear h
  replace H := Option.bind_eq_some_iff.mp H
  obtain ⟨t332, A40, H⟩ := H
  replace H : (if t332 = true then (if (l1.length : Int) > 20 then (assessorlaw52_AttemptsEarliest.j0 k l1 a2 true a0_0 a0_1 a0_2 a0_3) else ((attempts_Valid.f k a0_0 a0_1 a0_2 a0_3 l1).bind fun t333 => (assessorlaw52_AttemptsEarliest.j0 k l1 a2 (!t333) a0_0 a0_1 a0_2 a0_3))) else (some false)) = some r := H
  have A4 := Aside0.mk A40
  clear A40
  by_cases c5 : t332 = true
  · subst c5
    have H1 : (if (l1.length : Int) > 20 then (assessorlaw52_AttemptsEarliest.j0 k l1 a2 true a0_0 a0_1 a0_2 a0_3) else ((attempts_Valid.f k a0_0 a0_1 a0_2 a0_3 l1).bind fun t333 => (assessorlaw52_AttemptsEarliest.j0 k l1 a2 (!t333) a0_0 a0_1 a0_2 a0_3))) = some r := by rw [if_pos rfl] at H; exact H
    clear H
    have H := H1
    clear H1
    have HC6 := Aside0.mk H
    clear H
    go_enter Try.func9, Try.ntmps9
    go_upto_region 3 with (first | ((with_reducible refine gate_dst (N := 3) rfl ?_); (try (refine gate_guard (by rfl) ?_; dsimp only)); refine box_event ?hg (N := 3) ?hd (cs := #[.int .i64 a0_0, .int .i64 a0_1, .int .i64 a0_2, .int .i64 a0_3]) (t := 23) ?hr ?_; (case hd => rfl); (case hg => rfl); (case hr => first | (go_simp; done) | (go_simp; rfl)); intro gb331 hg w7 hbox hb; have n0_ := Aside0.mk (below_step (by repeat (first | (with_reducible first | exact HB.out | apply below_alloc | apply pw_below_drewN | apply below_drew1) | exact HB.out)) hb); have n1_ := Aside0.mk (hbox); have n2_ := Aside0.mk ((by rw [hg]; exact (below_size (by repeat (first | (with_reducible first | exact HB.out | apply below_alloc | apply pw_below_drewN | apply below_drew1) | exact HB.out))) : w.heap.size ≤ gb331)); have n3_ := Aside0.mk ((by rw [hg]; exact (below_size (by repeat (first | (with_reducible first | exact HB.out | apply below_alloc | apply pw_below_drewN | apply below_drew1) | exact HB.out))) : w.heap.size ≤ gb331)); clear HB; have HB := n0_; have BK331 := n1_; have GW331 := n2_; have GE331 := n3_; clear n0_ n1_ n2_ n3_; clear hb hbox hg) | (go_at_call 10; (with_reducible refine (assessorlaw52_awake.calls k  true _ A4.out).mono ?_); rintro e w8 ⟨rfl, hb⟩; have n0_ := Aside0.mk (blk_below (g := gb331) (o := .cells #[.int .i64 a0_0, .int .i64 a0_1, .int .i64 a0_2, .int .i64 a0_3] 23 (0, 0)) (by (with_reducible repeat (first | refine blk_drewN ?_ _ | refine blk_drew ?_ | refine blk_alloc ?_ _)); exact BK331.out) hb); have n1_ := Aside0.mk (below_step (by repeat (first | (with_reducible first | exact HB.out | apply below_alloc | apply pw_below_drewN | apply below_drew1 | refine below_set ?_ GE331.out) | exact HB.out)) hb); clear BK331; clear HB; have BK331 := n0_; have HB := n1_; clear n0_ n1_; (try clear hb); (try clear hb2); (try clear hk); (try clear hi)))
    repeat (go_quiet (first | ((with_reducible refine gate_dst (N := 3) rfl ?_); (try (refine gate_guard (by rfl) ?_; dsimp only)); refine box_event ?hg (N := 3) ?hd (cs := #[.int .i64 a0_0, .int .i64 a0_1, .int .i64 a0_2, .int .i64 a0_3]) (t := 23) ?hr ?_; (case hd => rfl); (case hg => rfl); (case hr => first | (go_simp; done) | (go_simp; rfl)); intro gb331 hg w7 hbox hb; have n0_ := Aside0.mk (below_step (by repeat (first | (with_reducible first | exact HB.out | apply below_alloc | apply pw_below_drewN | apply below_drew1) | exact HB.out)) hb); have n1_ := Aside0.mk (hbox); have n2_ := Aside0.mk ((by rw [hg]; exact (below_size (by repeat (first | (with_reducible first | exact HB.out | apply below_alloc | apply pw_below_drewN | apply below_drew1) | exact HB.out))) : w.heap.size ≤ gb331)); have n3_ := Aside0.mk ((by rw [hg]; exact (below_size (by repeat (first | (with_reducible first | exact HB.out | apply below_alloc | apply pw_below_drewN | apply below_drew1) | exact HB.out))) : w.heap.size ≤ gb331)); clear HB; have HB := n0_; have BK331 := n1_; have GW331 := n2_; have GE331 := n3_; clear n0_ n1_ n2_ n3_; clear hb hbox hg) | (go_at_call 10; (with_reducible refine (assessorlaw52_awake.calls k  true _ A4.out).mono ?_); rintro e w8 ⟨rfl, hb⟩; have n0_ := Aside0.mk (blk_below (g := gb331) (o := .cells #[.int .i64 a0_0, .int .i64 a0_1, .int .i64 a0_2, .int .i64 a0_3] 23 (0, 0)) (by (with_reducible repeat (first | refine blk_drewN ?_ _ | refine blk_drew ?_ | refine blk_alloc ?_ _)); exact BK331.out) hb); have n1_ := Aside0.mk (below_step (by repeat (first | (with_reducible first | exact HB.out | apply below_alloc | apply pw_below_drewN | apply below_drew1 | refine below_set ?_ GE331.out) | exact HB.out)) hb); clear BK331; clear HB; have BK331 := n0_; have HB := n1_; clear n0_ n1_; (try clear hb); (try clear hb2); (try clear hk); (try clear hi))); go_upto_region 3 with (first | ((with_reducible refine gate_dst (N := 3) rfl ?_); (try (refine gate_guard (by rfl) ?_; dsimp only)); refine box_event ?hg (N := 3) ?hd (cs := #[.int .i64 a0_0, .int .i64 a0_1, .int .i64 a0_2, .int .i64 a0_3]) (t := 23) ?hr ?_; (case hd => rfl); (case hg => rfl); (case hr => first | (go_simp; done) | (go_simp; rfl)); intro gb331 hg w7 hbox hb; have n0_ := Aside0.mk (below_step (by repeat (first | (with_reducible first | exact HB.out | apply below_alloc | apply pw_below_drewN | apply below_drew1) | exact HB.out)) hb); have n1_ := Aside0.mk (hbox); have n2_ := Aside0.mk ((by rw [hg]; exact (below_size (by repeat (first | (with_reducible first | exact HB.out | apply below_alloc | apply pw_below_drewN | apply below_drew1) | exact HB.out))) : w.heap.size ≤ gb331)); have n3_ := Aside0.mk ((by rw [hg]; exact (below_size (by repeat (first | (with_reducible first | exact HB.out | apply below_alloc | apply pw_below_drewN | apply below_drew1) | exact HB.out))) : w.heap.size ≤ gb331)); clear HB; have HB := n0_; have BK331 := n1_; have GW331 := n2_; have GE331 := n3_; clear n0_ n1_ n2_ n3_; clear hb hbox hg) | (go_at_call 10; (with_reducible refine (assessorlaw52_awake.calls k  true _ A4.out).mono ?_); rintro e w8 ⟨rfl, hb⟩; have n0_ := Aside0.mk (blk_below (g := gb331) (o := .cells #[.int .i64 a0_0, .int .i64 a0_1, .int .i64 a0_2, .int .i64 a0_3] 23 (0, 0)) (by (with_reducible repeat (first | refine blk_drewN ?_ _ | refine blk_drew ?_ | refine blk_alloc ?_ _)); exact BK331.out) hb); have n1_ := Aside0.mk (below_step (by repeat (first | (with_reducible first | exact HB.out | apply below_alloc | apply pw_below_drewN | apply below_drew1 | refine below_set ?_ GE331.out) | exact HB.out)) hb); clear BK331; clear HB; have BK331 := n0_; have HB := n1_; clear n0_ n1_; (try clear hb); (try clear hb2); (try clear hk); (try clear hi))))
    (try simp only [Act.put, List.setIfInBounds_toArray, List.set_cons_zero, List.set_cons_succ])
    go_cut [20] (fun v20 wc => ∃ (kq : Nat) (x20_5 : Bool), v20 = .bool x20_5 ∧ Aside0 (assessorlaw52_AttemptsEarliest.j0 kq l1 a2 x20_5 a0_0 a0_1 a0_2 a0_3 = some r) ∧ Aside0 (kq ≤ k) ∧ Aside0 (wc.heap[gb331]? = some (.cells #[.int .i64 a0_0, .int .i64 a0_1, .int .i64 a0_2, .int .i64 a0_3] 23 (0, 0))) ∧ Aside0 (Below w.heap.size w wc))
    case first =>
      have H := HC6.out
      clear HC6
      by_cases c9 : (l1.length : Int) > 20
      · rw [if_pos c9] at H
        have c9b0 : decide (20 < (l1.length : Int)) = true := decide_eq_true c9
        have c9b1 : decide (20 < l1.length) = true := decide_eq_true (by omega)
        clear c9
        (first | rw [c9b0] | (simp only [i64_w, i32_w]; rw [c9b0]) | skip)
        have H' := Aside0.mk H
        clear H
        go_wp2
        repeat (go_quiet (fail); try go_wp2)
        go_meet
        case rel => exact ⟨_, (true), (by first | rfl | (simp; done) | (simp [*]; done)), H', ⟨by first | omega | exact Nat.le_refl _⟩, ⟨by (with_reducible repeat (first | refine blk_drewN ?_ _ | refine blk_drew ?_ | refine blk_alloc ?_ _)); exact BK331.out⟩, ⟨by repeat (first | (with_reducible first | exact HB.out | apply below_alloc | apply pw_below_drewN | apply below_drew1 | refine below_set ?_ GE331.out) | exact HB.out)⟩⟩
      · rw [if_neg c9] at H
        have c9b0 : decide (20 < (l1.length : Int)) = false := decide_eq_false c9
        have c9b1 : decide (20 < l1.length) = false := decide_eq_false (by omega)
        clear c9
        (first | rw [c9b0] | (simp only [i64_w, i32_w]; rw [c9b0]) | skip)
        replace H := Option.bind_eq_some_iff.mp H
        obtain ⟨t333, A100, H⟩ := H
        replace H : (assessorlaw52_AttemptsEarliest.j0 k l1 a2 (!t333) a0_0 a0_1 a0_2 a0_3) = some r := H
        have A10 := Aside0.mk A100
        clear A100
        have H' := Aside0.mk H
        clear H
        have hcz11_0 : w8.cell? ⟨gb331, 0, none⟩ = some (.int .i64 a0_0) := (blk_cell BK331.out 0).trans rfl
        have hcz11_1 : w8.cell? ⟨gb331, 1, none⟩ = some (.int .i64 a0_1) := (blk_cell BK331.out 1).trans rfl
        have hcz11_2 : w8.cell? ⟨gb331, 2, none⟩ = some (.int .i64 a0_2) := (blk_cell BK331.out 2).trans rfl
        have hcz11_3 : w8.cell? ⟨gb331, 3, none⟩ = some (.int .i64 a0_3) := (blk_cell BK331.out 3).trans rfl
        have hfz11_0 := blk_frozen BK331.out 0
        have hfz11_1 := blk_frozen BK331.out 1
        have hfz11_2 := blk_frozen BK331.out 2
        have hfz11_3 := blk_frozen BK331.out 3
        go_wp2_with (first | (go_at_call 18; (with_reducible refine (attempts_Valid.calls k a0_0 a0_1 a0_2 a0_3 _ _ l1 t333 _ ?side1 ?side2 A10.out).mono ?_); (case side1 => repeat (first | exact (Kd.C_below HR1.out HB.out) | (with_reducible refine Kd.C_alloc ?_ _) | (with_reducible refine Kd.C_drewN ?_ _) | (with_reducible refine Kd.C_drew ?_))); (case side2 => exact HC1.out); rintro e w12 ⟨rfl, hb⟩; have n0_ := Aside0.mk (blk_below (g := gb331) (o := .cells #[.int .i64 a0_0, .int .i64 a0_1, .int .i64 a0_2, .int .i64 a0_3] 23 (0, 0)) (by (with_reducible repeat (first | refine blk_drewN ?_ _ | refine blk_drew ?_ | refine blk_alloc ?_ _)); exact BK331.out) hb); have n1_ := Aside0.mk (below_step (by repeat (first | (with_reducible first | exact HB.out | apply below_alloc | apply pw_below_drewN | apply below_drew1 | refine below_set ?_ GE331.out) | exact HB.out)) hb); clear BK331; clear HB; have BK331 := n0_; have HB := n1_; clear n0_ n1_; (try clear hb); (try clear hb2); (try clear hk); (try clear hi)))
        repeat (go_quiet (first | (go_at_call 18; (with_reducible refine (attempts_Valid.calls k a0_0 a0_1 a0_2 a0_3 _ _ l1 t333 _ ?side1 ?side2 A10.out).mono ?_); (case side1 => repeat (first | exact (Kd.C_below HR1.out HB.out) | (with_reducible refine Kd.C_alloc ?_ _) | (with_reducible refine Kd.C_drewN ?_ _) | (with_reducible refine Kd.C_drew ?_))); (case side2 => exact HC1.out); rintro e w12 ⟨rfl, hb⟩; have n0_ := Aside0.mk (blk_below (g := gb331) (o := .cells #[.int .i64 a0_0, .int .i64 a0_1, .int .i64 a0_2, .int .i64 a0_3] 23 (0, 0)) (by (with_reducible repeat (first | refine blk_drewN ?_ _ | refine blk_drew ?_ | refine blk_alloc ?_ _)); exact BK331.out) hb); have n1_ := Aside0.mk (below_step (by repeat (first | (with_reducible first | exact HB.out | apply below_alloc | apply pw_below_drewN | apply below_drew1 | refine below_set ?_ GE331.out) | exact HB.out)) hb); clear BK331; clear HB; have BK331 := n0_; have HB := n1_; clear n0_ n1_; (try clear hb); (try clear hb2); (try clear hk); (try clear hi))); try go_wp2_with (first | (go_at_call 18; (with_reducible refine (attempts_Valid.calls k a0_0 a0_1 a0_2 a0_3 _ _ l1 t333 _ ?side1 ?side2 A10.out).mono ?_); (case side1 => repeat (first | exact (Kd.C_below HR1.out HB.out) | (with_reducible refine Kd.C_alloc ?_ _) | (with_reducible refine Kd.C_drewN ?_ _) | (with_reducible refine Kd.C_drew ?_))); (case side2 => exact HC1.out); rintro e w12 ⟨rfl, hb⟩; have n0_ := Aside0.mk (blk_below (g := gb331) (o := .cells #[.int .i64 a0_0, .int .i64 a0_1, .int .i64 a0_2, .int .i64 a0_3] 23 (0, 0)) (by (with_reducible repeat (first | refine blk_drewN ?_ _ | refine blk_drew ?_ | refine blk_alloc ?_ _)); exact BK331.out) hb); have n1_ := Aside0.mk (below_step (by repeat (first | (with_reducible first | exact HB.out | apply below_alloc | apply pw_below_drewN | apply below_drew1 | refine below_set ?_ GE331.out) | exact HB.out)) hb); clear BK331; clear HB; have BK331 := n0_; have HB := n1_; clear n0_ n1_; (try clear hb); (try clear hb2); (try clear hk); (try clear hi))))
        go_meet
        case rel => exact ⟨_, (!t333), (by first | rfl | (simp; done) | (simp [*]; done)), H', ⟨by first | omega | exact Nat.le_refl _⟩, ⟨by (with_reducible repeat (first | refine blk_drewN ?_ _ | refine blk_drew ?_ | refine blk_alloc ?_ _)); exact BK331.out⟩, ⟨by repeat (first | (with_reducible first | exact HB.out | apply below_alloc | apply pw_below_drewN | apply below_drew1 | refine below_set ?_ GE331.out) | exact HB.out)⟩⟩
    case rest =>
      clear HC6
      try clear c1
      try clear p2
      try clear c5
      try clear c9
      try clear c9b0
      try clear c9b1
      try clear hcz11_0
      try clear hcz11_1
      try clear hcz11_2
      try clear hcz11_3
      try clear hfz11_0
      try clear hfz11_1
      try clear hfz11_2
      try clear hfz11_3
      obtain ⟨kq, x20_5, rfl, HA, HJ5, BK331, HB⟩ := hcut
      cases kq with
      | zero => exact absurd HA.out (by simp [assessorlaw52_AttemptsEarliest.j0])
      | succ kj5 =>
        have H := HA.out
        clear HA
        simp only [assessorlaw52_AttemptsEarliest.j0] at H
        by_cases c13 : x20_5 = true
        · subst c13
          have H1 : (some true) = some r := by rw [if_pos rfl] at H; exact H
          clear H
          have H := H1
          clear H1
          obtain rfl := Option.some.inj H
          go_wp2
          repeat (go_quiet (fail); try go_wp2)
          go_ret
          exact ⟨by first | rfl | (simp [errW_none, errW_some] <;> rfl) | (simp [*, errW_none, errW_some] <;> rfl) | (simp [IntKind.wrap_i64, wrap64]; done), by repeat (first | (with_reducible first | exact HB.out | apply below_alloc | apply pw_below_drewN | apply below_drew1 | refine below_set ?_ GE331.out) | exact HB.out)⟩
        · replace c13 := Bool.eq_false_iff.mpr c13
          subst c13
          have H1 : ((attempts_Earliest.f kj5 a0_0 a0_1 a0_2 a0_3 l1).bind fun bt334 => ((attempts_Allowed.f kj5 a0_0 a0_1 a0_2 a0_3 l1 a2).bind fun t336 => (if bt334.2 = true then ((attempts_Allowed.f kj5 a0_0 a0_1 a0_2 a0_3 l1 bt334.1).bind fun t337 => (if t337 = 0 then (if a2 ≥ bt334.1 then (assessorlaw52_AttemptsEarliest.j1 kj5 l1 bt334.2 ((decide (a2 ≤ 1099511627776)) != (t336 == 0)) a0_0 a0_1 a0_2 a0_3) else (assessorlaw52_AttemptsEarliest.j1 kj5 l1 bt334.2 (false != (t336 == 0)) a0_0 a0_1 a0_2 a0_3)) else (assessorlaw52_AttemptsEarliest.j1 kj5 l1 bt334.2 true a0_0 a0_1 a0_2 a0_3))) else (if bt334.1 = 0 then (some (t336 != 0)) else (some false))))) = some r := by rw [if_neg (show ¬ (false = true) by decide)] at H; exact H
          clear H
          have H := H1
          clear H1
          replace H := Option.bind_eq_some_iff.mp H
          obtain ⟨⟨t334, t335⟩, A140, H⟩ := H
          replace H : ((attempts_Allowed.f kj5 a0_0 a0_1 a0_2 a0_3 l1 a2).bind fun t336 => (if t335 = true then ((attempts_Allowed.f kj5 a0_0 a0_1 a0_2 a0_3 l1 t334).bind fun t337 => (if t337 = 0 then (if a2 ≥ t334 then (assessorlaw52_AttemptsEarliest.j1 kj5 l1 t335 ((decide (a2 ≤ 1099511627776)) != (t336 == 0)) a0_0 a0_1 a0_2 a0_3) else (assessorlaw52_AttemptsEarliest.j1 kj5 l1 t335 (false != (t336 == 0)) a0_0 a0_1 a0_2 a0_3)) else (assessorlaw52_AttemptsEarliest.j1 kj5 l1 t335 true a0_0 a0_1 a0_2 a0_3))) else (if t334 = 0 then (some (t336 != 0)) else (some false)))) = some r := H
          have A14 := Aside0.mk A140
          clear A140
          replace H := Option.bind_eq_some_iff.mp H
          obtain ⟨t336, A150, H⟩ := H
          replace H : (if t335 = true then ((attempts_Allowed.f kj5 a0_0 a0_1 a0_2 a0_3 l1 t334).bind fun t337 => (if t337 = 0 then (if a2 ≥ t334 then (assessorlaw52_AttemptsEarliest.j1 kj5 l1 t335 ((decide (a2 ≤ 1099511627776)) != (t336 == 0)) a0_0 a0_1 a0_2 a0_3) else (assessorlaw52_AttemptsEarliest.j1 kj5 l1 t335 (false != (t336 == 0)) a0_0 a0_1 a0_2 a0_3)) else (assessorlaw52_AttemptsEarliest.j1 kj5 l1 t335 true a0_0 a0_1 a0_2 a0_3))) else (if t334 = 0 then (some (t336 != 0)) else (some false))) = some r := H
          have A15 := Aside0.mk A150
          clear A150
          by_cases c16 : t335 = true
          · subst c16
            have H1 : ((attempts_Allowed.f kj5 a0_0 a0_1 a0_2 a0_3 l1 t334).bind fun t337 => (if t337 = 0 then (if a2 ≥ t334 then (assessorlaw52_AttemptsEarliest.j1 kj5 l1 true ((decide (a2 ≤ 1099511627776)) != (t336 == 0)) a0_0 a0_1 a0_2 a0_3) else (assessorlaw52_AttemptsEarliest.j1 kj5 l1 true (false != (t336 == 0)) a0_0 a0_1 a0_2 a0_3)) else (assessorlaw52_AttemptsEarliest.j1 kj5 l1 true true a0_0 a0_1 a0_2 a0_3))) = some r := by rw [if_pos rfl] at H; exact H
            clear H
            have H := H1
            clear H1
            have HC17 := Aside0.mk H
            clear H
            have hcz18_0 : wc.cell? ⟨gb331, 0, none⟩ = some (.int .i64 a0_0) := (blk_cell BK331.out 0).trans rfl
            have hcz18_1 : wc.cell? ⟨gb331, 1, none⟩ = some (.int .i64 a0_1) := (blk_cell BK331.out 1).trans rfl
            have hcz18_2 : wc.cell? ⟨gb331, 2, none⟩ = some (.int .i64 a0_2) := (blk_cell BK331.out 2).trans rfl
            have hcz18_3 : wc.cell? ⟨gb331, 3, none⟩ = some (.int .i64 a0_3) := (blk_cell BK331.out 3).trans rfl
            have hfz18_0 := blk_frozen BK331.out 0
            have hfz18_1 := blk_frozen BK331.out 1
            have hfz18_2 := blk_frozen BK331.out 2
            have hfz18_3 := blk_frozen BK331.out 3
            go_upto_region 9 with (first | (go_at_call 22; (with_reducible refine (attempts_Earliest.calls kj5 a0_0 a0_1 a0_2 a0_3 _ _ l1 t334 true _ ?side1 ?side2 A14.out).mono ?_); (case side1 => repeat (first | exact (Kd.C_below HR1.out HB.out) | (with_reducible refine Kd.C_alloc ?_ _) | (with_reducible refine Kd.C_drewN ?_ _) | (with_reducible refine Kd.C_drew ?_))); (case side2 => exact HC1.out); rintro e w19 ⟨rfl, hb⟩; have n0_ := Aside0.mk (blk_below (g := gb331) (o := .cells #[.int .i64 a0_0, .int .i64 a0_1, .int .i64 a0_2, .int .i64 a0_3] 23 (0, 0)) (by (with_reducible repeat (first | refine blk_drewN ?_ _ | refine blk_drew ?_ | refine blk_alloc ?_ _)); exact BK331.out) hb); have n1_ := Aside0.mk (below_step (by repeat (first | (with_reducible first | exact HB.out | apply below_alloc | apply pw_below_drewN | apply below_drew1 | refine below_set ?_ GE331.out) | exact HB.out)) hb); clear BK331; clear HB; have BK331 := n0_; have HB := n1_; clear n0_ n1_; (try clear hb); (try clear hb2); (try clear hk); (try clear hi); have hcz20_0 : w19.cell? ⟨gb331, 0, none⟩ = some (.int .i64 a0_0) := (blk_cell BK331.out 0).trans rfl; have hcz20_1 : w19.cell? ⟨gb331, 1, none⟩ = some (.int .i64 a0_1) := (blk_cell BK331.out 1).trans rfl; have hcz20_2 : w19.cell? ⟨gb331, 2, none⟩ = some (.int .i64 a0_2) := (blk_cell BK331.out 2).trans rfl; have hcz20_3 : w19.cell? ⟨gb331, 3, none⟩ = some (.int .i64 a0_3) := (blk_cell BK331.out 3).trans rfl; have hfz20_0 := blk_frozen BK331.out 0; have hfz20_1 := blk_frozen BK331.out 1; have hfz20_2 := blk_frozen BK331.out 2; have hfz20_3 := blk_frozen BK331.out 3) | (go_at_call 25; (with_reducible refine (attempts_Allowed.calls kj5 a0_0 a0_1 a0_2 a0_3 _ _ l1 a2 t336 _ ?side1 ?side2 A15.out).mono ?_); (case side1 => repeat (first | exact (Kd.C_below HR1.out HB.out) | (with_reducible refine Kd.C_alloc ?_ _) | (with_reducible refine Kd.C_drewN ?_ _) | (with_reducible refine Kd.C_drew ?_))); (case side2 => exact HC1.out); rintro e w21 ⟨rfl, hb⟩; have n0_ := Aside0.mk (blk_below (g := gb331) (o := .cells #[.int .i64 a0_0, .int .i64 a0_1, .int .i64 a0_2, .int .i64 a0_3] 23 (0, 0)) (by (with_reducible repeat (first | refine blk_drewN ?_ _ | refine blk_drew ?_ | refine blk_alloc ?_ _)); exact BK331.out) hb); have n1_ := Aside0.mk (below_step (by repeat (first | (with_reducible first | exact HB.out | apply below_alloc | apply pw_below_drewN | apply below_drew1 | refine below_set ?_ GE331.out) | exact HB.out)) hb); clear BK331; clear HB; have BK331 := n0_; have HB := n1_; clear n0_ n1_; (try clear hb); (try clear hb2); (try clear hk); (try clear hi)))
            repeat (go_quiet (first | (go_at_call 22; (with_reducible refine (attempts_Earliest.calls kj5 a0_0 a0_1 a0_2 a0_3 _ _ l1 t334 true _ ?side1 ?side2 A14.out).mono ?_); (case side1 => repeat (first | exact (Kd.C_below HR1.out HB.out) | (with_reducible refine Kd.C_alloc ?_ _) | (with_reducible refine Kd.C_drewN ?_ _) | (with_reducible refine Kd.C_drew ?_))); (case side2 => exact HC1.out); rintro e w19 ⟨rfl, hb⟩; have n0_ := Aside0.mk (blk_below (g := gb331) (o := .cells #[.int .i64 a0_0, .int .i64 a0_1, .int .i64 a0_2, .int .i64 a0_3] 23 (0, 0)) (by (with_reducible repeat (first | refine blk_drewN ?_ _ | refine blk_drew ?_ | refine blk_alloc ?_ _)); exact BK331.out) hb); have n1_ := Aside0.mk (below_step (by repeat (first | (with_reducible first | exact HB.out | apply below_alloc | apply pw_below_drewN | apply below_drew1 | refine below_set ?_ GE331.out) | exact HB.out)) hb); clear BK331; clear HB; have BK331 := n0_; have HB := n1_; clear n0_ n1_; (try clear hb); (try clear hb2); (try clear hk); (try clear hi); have hcz20_0 : w19.cell? ⟨gb331, 0, none⟩ = some (.int .i64 a0_0) := (blk_cell BK331.out 0).trans rfl; have hcz20_1 : w19.cell? ⟨gb331, 1, none⟩ = some (.int .i64 a0_1) := (blk_cell BK331.out 1).trans rfl; have hcz20_2 : w19.cell? ⟨gb331, 2, none⟩ = some (.int .i64 a0_2) := (blk_cell BK331.out 2).trans rfl; have hcz20_3 : w19.cell? ⟨gb331, 3, none⟩ = some (.int .i64 a0_3) := (blk_cell BK331.out 3).trans rfl; have hfz20_0 := blk_frozen BK331.out 0; have hfz20_1 := blk_frozen BK331.out 1; have hfz20_2 := blk_frozen BK331.out 2; have hfz20_3 := blk_frozen BK331.out 3) | (go_at_call 25; (with_reducible refine (attempts_Allowed.calls kj5 a0_0 a0_1 a0_2 a0_3 _ _ l1 a2 t336 _ ?side1 ?side2 A15.out).mono ?_); (case side1 => repeat (first | exact (Kd.C_below HR1.out HB.out) | (with_reducible refine Kd.C_alloc ?_ _) | (with_reducible refine Kd.C_drewN ?_ _) | (with_reducible refine Kd.C_drew ?_))); (case side2 => exact HC1.out); rintro e w21 ⟨rfl, hb⟩; have n0_ := Aside0.mk (blk_below (g := gb331) (o := .cells #[.int .i64 a0_0, .int .i64 a0_1, .int .i64 a0_2, .int .i64 a0_3] 23 (0, 0)) (by (with_reducible repeat (first | refine blk_drewN ?_ _ | refine blk_drew ?_ | refine blk_alloc ?_ _)); exact BK331.out) hb); have n1_ := Aside0.mk (below_step (by repeat (first | (with_reducible first | exact HB.out | apply below_alloc | apply pw_below_drewN | apply below_drew1 | refine below_set ?_ GE331.out) | exact HB.out)) hb); clear BK331; clear HB; have BK331 := n0_; have HB := n1_; clear n0_ n1_; (try clear hb); (try clear hb2); (try clear hk); (try clear hi))); go_upto_region 9 with (first | (go_at_call 22; (with_reducible refine (attempts_Earliest.calls kj5 a0_0 a0_1 a0_2 a0_3 _ _ l1 t334 true _ ?side1 ?side2 A14.out).mono ?_); (case side1 => repeat (first | exact (Kd.C_below HR1.out HB.out) | (with_reducible refine Kd.C_alloc ?_ _) | (with_reducible refine Kd.C_drewN ?_ _) | (with_reducible refine Kd.C_drew ?_))); (case side2 => exact HC1.out); rintro e w19 ⟨rfl, hb⟩; have n0_ := Aside0.mk (blk_below (g := gb331) (o := .cells #[.int .i64 a0_0, .int .i64 a0_1, .int .i64 a0_2, .int .i64 a0_3] 23 (0, 0)) (by (with_reducible repeat (first | refine blk_drewN ?_ _ | refine blk_drew ?_ | refine blk_alloc ?_ _)); exact BK331.out) hb); have n1_ := Aside0.mk (below_step (by repeat (first | (with_reducible first | exact HB.out | apply below_alloc | apply pw_below_drewN | apply below_drew1 | refine below_set ?_ GE331.out) | exact HB.out)) hb); clear BK331; clear HB; have BK331 := n0_; have HB := n1_; clear n0_ n1_; (try clear hb); (try clear hb2); (try clear hk); (try clear hi); have hcz20_0 : w19.cell? ⟨gb331, 0, none⟩ = some (.int .i64 a0_0) := (blk_cell BK331.out 0).trans rfl; have hcz20_1 : w19.cell? ⟨gb331, 1, none⟩ = some (.int .i64 a0_1) := (blk_cell BK331.out 1).trans rfl; have hcz20_2 : w19.cell? ⟨gb331, 2, none⟩ = some (.int .i64 a0_2) := (blk_cell BK331.out 2).trans rfl; have hcz20_3 : w19.cell? ⟨gb331, 3, none⟩ = some (.int .i64 a0_3) := (blk_cell BK331.out 3).trans rfl; have hfz20_0 := blk_frozen BK331.out 0; have hfz20_1 := blk_frozen BK331.out 1; have hfz20_2 := blk_frozen BK331.out 2; have hfz20_3 := blk_frozen BK331.out 3) | (go_at_call 25; (with_reducible refine (attempts_Allowed.calls kj5 a0_0 a0_1 a0_2 a0_3 _ _ l1 a2 t336 _ ?side1 ?side2 A15.out).mono ?_); (case side1 => repeat (first | exact (Kd.C_below HR1.out HB.out) | (with_reducible refine Kd.C_alloc ?_ _) | (with_reducible refine Kd.C_drewN ?_ _) | (with_reducible refine Kd.C_drew ?_))); (case side2 => exact HC1.out); rintro e w21 ⟨rfl, hb⟩; have n0_ := Aside0.mk (blk_below (g := gb331) (o := .cells #[.int .i64 a0_0, .int .i64 a0_1, .int .i64 a0_2, .int .i64 a0_3] 23 (0, 0)) (by (with_reducible repeat (first | refine blk_drewN ?_ _ | refine blk_drew ?_ | refine blk_alloc ?_ _)); exact BK331.out) hb); have n1_ := Aside0.mk (below_step (by repeat (first | (with_reducible first | exact HB.out | apply below_alloc | apply pw_below_drewN | apply below_drew1 | refine below_set ?_ GE331.out) | exact HB.out)) hb); clear BK331; clear HB; have BK331 := n0_; have HB := n1_; clear n0_ n1_; (try clear hb); (try clear hb2); (try clear hk); (try clear hi))))
            (try simp only [Act.put, List.setIfInBounds_toArray, List.set_cons_zero, List.set_cons_succ])
            go_cut [55] (fun v55 wc => ∃ (kq : Nat) (x55_16 : Bool), v55 = .bool x55_16 ∧ Aside0 (assessorlaw52_AttemptsEarliest.j1 kq l1 true x55_16 a0_0 a0_1 a0_2 a0_3 = some r) ∧ Aside0 (kq ≤ kj5) ∧ Aside0 (wc.heap[gb331]? = some (.cells #[.int .i64 a0_0, .int .i64 a0_1, .int .i64 a0_2, .int .i64 a0_3] 23 (0, 0))) ∧ Aside0 (Below w.heap.size w wc))
            case first =>
              have H := HC17.out
              clear HC17
              replace H := Option.bind_eq_some_iff.mp H
              obtain ⟨t337, A220, H⟩ := H
              replace H : (if t337 = 0 then (if a2 ≥ t334 then (assessorlaw52_AttemptsEarliest.j1 kj5 l1 true ((decide (a2 ≤ 1099511627776)) != (t336 == 0)) a0_0 a0_1 a0_2 a0_3) else (assessorlaw52_AttemptsEarliest.j1 kj5 l1 true (false != (t336 == 0)) a0_0 a0_1 a0_2 a0_3)) else (assessorlaw52_AttemptsEarliest.j1 kj5 l1 true true a0_0 a0_1 a0_2 a0_3)) = some r := H
              have A22 := Aside0.mk A220
              clear A220
              by_cases c23 : t337 = 0
              · rw [if_pos c23] at H
                have c23b0 : (t337 == 0) = true := beq_iff_eq.mpr c23
                have c23b1 : (t337 != 0) = false := bne_eq_false_iff_eq.mpr c23
                clear c23
                (first | rw [c23b0] | (simp only [i64_w, i32_w]; rw [c23b0]) | skip)
                by_cases c24 : a2 ≥ t334
                · rw [if_pos c24] at H
                  have c24b0 : decide (t334 ≤ a2) = true := decide_eq_true c24
                  clear c24
                  have H' := Aside0.mk H
                  clear H
                  have hcz25_0 : w21.cell? ⟨gb331, 0, none⟩ = some (.int .i64 a0_0) := (blk_cell BK331.out 0).trans rfl
                  have hcz25_1 : w21.cell? ⟨gb331, 1, none⟩ = some (.int .i64 a0_1) := (blk_cell BK331.out 1).trans rfl
                  have hcz25_2 : w21.cell? ⟨gb331, 2, none⟩ = some (.int .i64 a0_2) := (blk_cell BK331.out 2).trans rfl
                  have hcz25_3 : w21.cell? ⟨gb331, 3, none⟩ = some (.int .i64 a0_3) := (blk_cell BK331.out 3).trans rfl
                  have hfz25_0 := blk_frozen BK331.out 0
                  have hfz25_1 := blk_frozen BK331.out 1
                  have hfz25_2 := blk_frozen BK331.out 2
                  have hfz25_3 := blk_frozen BK331.out 3
                  go_wp2_with (first | (go_at_call 25; (with_reducible refine (attempts_Allowed.calls kj5 a0_0 a0_1 a0_2 a0_3 _ _ l1 t334 t337 _ ?side1 ?side2 A22.out).mono ?_); (case side1 => repeat (first | exact (Kd.C_below HR1.out HB.out) | (with_reducible refine Kd.C_alloc ?_ _) | (with_reducible refine Kd.C_drewN ?_ _) | (with_reducible refine Kd.C_drew ?_))); (case side2 => exact HC1.out); rintro e w26 ⟨rfl, hb⟩; have n0_ := Aside0.mk (blk_below (g := gb331) (o := .cells #[.int .i64 a0_0, .int .i64 a0_1, .int .i64 a0_2, .int .i64 a0_3] 23 (0, 0)) (by (with_reducible repeat (first | refine blk_drewN ?_ _ | refine blk_drew ?_ | refine blk_alloc ?_ _)); exact BK331.out) hb); have n1_ := Aside0.mk (below_step (by repeat (first | (with_reducible first | exact HB.out | apply below_alloc | apply pw_below_drewN | apply below_drew1 | refine below_set ?_ GE331.out) | exact HB.out)) hb); clear BK331; clear HB; have BK331 := n0_; have HB := n1_; clear n0_ n1_; (try clear hb); (try clear hb2); (try clear hk); (try clear hi)))
                  repeat (go_quiet (first | (go_at_call 25; (with_reducible refine (attempts_Allowed.calls kj5 a0_0 a0_1 a0_2 a0_3 _ _ l1 t334 t337 _ ?side1 ?side2 A22.out).mono ?_); (case side1 => repeat (first | exact (Kd.C_below HR1.out HB.out) | (with_reducible refine Kd.C_alloc ?_ _) | (with_reducible refine Kd.C_drewN ?_ _) | (with_reducible refine Kd.C_drew ?_))); (case side2 => exact HC1.out); rintro e w26 ⟨rfl, hb⟩; have n0_ := Aside0.mk (blk_below (g := gb331) (o := .cells #[.int .i64 a0_0, .int .i64 a0_1, .int .i64 a0_2, .int .i64 a0_3] 23 (0, 0)) (by (with_reducible repeat (first | refine blk_drewN ?_ _ | refine blk_drew ?_ | refine blk_alloc ?_ _)); exact BK331.out) hb); have n1_ := Aside0.mk (below_step (by repeat (first | (with_reducible first | exact HB.out | apply below_alloc | apply pw_below_drewN | apply below_drew1 | refine below_set ?_ GE331.out) | exact HB.out)) hb); clear BK331; clear HB; have BK331 := n0_; have HB := n1_; clear n0_ n1_; (try clear hb); (try clear hb2); (try clear hk); (try clear hi))); try go_wp2_with (first | (go_at_call 25; (with_reducible refine (attempts_Allowed.calls kj5 a0_0 a0_1 a0_2 a0_3 _ _ l1 t334 t337 _ ?side1 ?side2 A22.out).mono ?_); (case side1 => repeat (first | exact (Kd.C_below HR1.out HB.out) | (with_reducible refine Kd.C_alloc ?_ _) | (with_reducible refine Kd.C_drewN ?_ _) | (with_reducible refine Kd.C_drew ?_))); (case side2 => exact HC1.out); rintro e w26 ⟨rfl, hb⟩; have n0_ := Aside0.mk (blk_below (g := gb331) (o := .cells #[.int .i64 a0_0, .int .i64 a0_1, .int .i64 a0_2, .int .i64 a0_3] 23 (0, 0)) (by (with_reducible repeat (first | refine blk_drewN ?_ _ | refine blk_drew ?_ | refine blk_alloc ?_ _)); exact BK331.out) hb); have n1_ := Aside0.mk (below_step (by repeat (first | (with_reducible first | exact HB.out | apply below_alloc | apply pw_below_drewN | apply below_drew1 | refine below_set ?_ GE331.out) | exact HB.out)) hb); clear BK331; clear HB; have BK331 := n0_; have HB := n1_; clear n0_ n1_; (try clear hb); (try clear hb2); (try clear hk); (try clear hi))))
                  go_meet
                  case rel => exact ⟨_, (((decide (a2 ≤ 1099511627776)) != (t336 == 0))), (by first | rfl | (simp; done) | (simp [*]; done)), H', ⟨by have := HJ5.out; first | omega | exact Nat.le_refl _⟩, ⟨by (with_reducible repeat (first | refine blk_drewN ?_ _ | refine blk_drew ?_ | refine blk_alloc ?_ _)); exact BK331.out⟩, ⟨by repeat (first | (with_reducible first | exact HB.out | apply below_alloc | apply pw_below_drewN | apply below_drew1 | refine below_set ?_ GE331.out) | exact HB.out)⟩⟩
                · rw [if_neg c24] at H
                  have c24b0 : decide (t334 ≤ a2) = false := decide_eq_false c24
                  clear c24
                  have H' := Aside0.mk H
                  clear H
                  have hcz27_0 : w21.cell? ⟨gb331, 0, none⟩ = some (.int .i64 a0_0) := (blk_cell BK331.out 0).trans rfl
                  have hcz27_1 : w21.cell? ⟨gb331, 1, none⟩ = some (.int .i64 a0_1) := (blk_cell BK331.out 1).trans rfl
                  have hcz27_2 : w21.cell? ⟨gb331, 2, none⟩ = some (.int .i64 a0_2) := (blk_cell BK331.out 2).trans rfl
                  have hcz27_3 : w21.cell? ⟨gb331, 3, none⟩ = some (.int .i64 a0_3) := (blk_cell BK331.out 3).trans rfl
                  have hfz27_0 := blk_frozen BK331.out 0
                  have hfz27_1 := blk_frozen BK331.out 1
                  have hfz27_2 := blk_frozen BK331.out 2
                  have hfz27_3 := blk_frozen BK331.out 3
                  go_wp2_with (first | (go_at_call 25; (with_reducible refine (attempts_Allowed.calls kj5 a0_0 a0_1 a0_2 a0_3 _ _ l1 t334 t337 _ ?side1 ?side2 A22.out).mono ?_); (case side1 => repeat (first | exact (Kd.C_below HR1.out HB.out) | (with_reducible refine Kd.C_alloc ?_ _) | (with_reducible refine Kd.C_drewN ?_ _) | (with_reducible refine Kd.C_drew ?_))); (case side2 => exact HC1.out); rintro e w28 ⟨rfl, hb⟩; have n0_ := Aside0.mk (blk_below (g := gb331) (o := .cells #[.int .i64 a0_0, .int .i64 a0_1, .int .i64 a0_2, .int .i64 a0_3] 23 (0, 0)) (by (with_reducible repeat (first | refine blk_drewN ?_ _ | refine blk_drew ?_ | refine blk_alloc ?_ _)); exact BK331.out) hb); have n1_ := Aside0.mk (below_step (by repeat (first | (with_reducible first | exact HB.out | apply below_alloc | apply pw_below_drewN | apply below_drew1 | refine below_set ?_ GE331.out) | exact HB.out)) hb); clear BK331; clear HB; have BK331 := n0_; have HB := n1_; clear n0_ n1_; (try clear hb); (try clear hb2); (try clear hk); (try clear hi)))
                  repeat (go_quiet (first | (go_at_call 25; (with_reducible refine (attempts_Allowed.calls kj5 a0_0 a0_1 a0_2 a0_3 _ _ l1 t334 t337 _ ?side1 ?side2 A22.out).mono ?_); (case side1 => repeat (first | exact (Kd.C_below HR1.out HB.out) | (with_reducible refine Kd.C_alloc ?_ _) | (with_reducible refine Kd.C_drewN ?_ _) | (with_reducible refine Kd.C_drew ?_))); (case side2 => exact HC1.out); rintro e w28 ⟨rfl, hb⟩; have n0_ := Aside0.mk (blk_below (g := gb331) (o := .cells #[.int .i64 a0_0, .int .i64 a0_1, .int .i64 a0_2, .int .i64 a0_3] 23 (0, 0)) (by (with_reducible repeat (first | refine blk_drewN ?_ _ | refine blk_drew ?_ | refine blk_alloc ?_ _)); exact BK331.out) hb); have n1_ := Aside0.mk (below_step (by repeat (first | (with_reducible first | exact HB.out | apply below_alloc | apply pw_below_drewN | apply below_drew1 | refine below_set ?_ GE331.out) | exact HB.out)) hb); clear BK331; clear HB; have BK331 := n0_; have HB := n1_; clear n0_ n1_; (try clear hb); (try clear hb2); (try clear hk); (try clear hi))); try go_wp2_with (first | (go_at_call 25; (with_reducible refine (attempts_Allowed.calls kj5 a0_0 a0_1 a0_2 a0_3 _ _ l1 t334 t337 _ ?side1 ?side2 A22.out).mono ?_); (case side1 => repeat (first | exact (Kd.C_below HR1.out HB.out) | (with_reducible refine Kd.C_alloc ?_ _) | (with_reducible refine Kd.C_drewN ?_ _) | (with_reducible refine Kd.C_drew ?_))); (case side2 => exact HC1.out); rintro e w28 ⟨rfl, hb⟩; have n0_ := Aside0.mk (blk_below (g := gb331) (o := .cells #[.int .i64 a0_0, .int .i64 a0_1, .int .i64 a0_2, .int .i64 a0_3] 23 (0, 0)) (by (with_reducible repeat (first | refine blk_drewN ?_ _ | refine blk_drew ?_ | refine blk_alloc ?_ _)); exact BK331.out) hb); have n1_ := Aside0.mk (below_step (by repeat (first | (with_reducible first | exact HB.out | apply below_alloc | apply pw_below_drewN | apply below_drew1 | refine below_set ?_ GE331.out) | exact HB.out)) hb); clear BK331; clear HB; have BK331 := n0_; have HB := n1_; clear n0_ n1_; (try clear hb); (try clear hb2); (try clear hk); (try clear hi))))
                  go_meet
                  case rel => exact ⟨_, ((false != (t336 == 0))), (by first | rfl | (simp; done) | (simp [*]; done)), H', ⟨by have := HJ5.out; first | omega | exact Nat.le_refl _⟩, ⟨by (with_reducible repeat (first | refine blk_drewN ?_ _ | refine blk_drew ?_ | refine blk_alloc ?_ _)); exact BK331.out⟩, ⟨by repeat (first | (with_reducible first | exact HB.out | apply below_alloc | apply pw_below_drewN | apply below_drew1 | refine below_set ?_ GE331.out) | exact HB.out)⟩⟩
              · rw [if_neg c23] at H
                have c23b0 : (t337 == 0) = false := beq_eq_false_iff_ne.mpr c23
                have c23b1 : (t337 != 0) = true := bne_iff_ne.mpr c23
                (first | rw [c23b0] | (simp only [i64_w, i32_w]; rw [c23b0]) | skip)
                have H' := Aside0.mk H
                clear H
                have hcz29_0 : w21.cell? ⟨gb331, 0, none⟩ = some (.int .i64 a0_0) := (blk_cell BK331.out 0).trans rfl
                have hcz29_1 : w21.cell? ⟨gb331, 1, none⟩ = some (.int .i64 a0_1) := (blk_cell BK331.out 1).trans rfl
                have hcz29_2 : w21.cell? ⟨gb331, 2, none⟩ = some (.int .i64 a0_2) := (blk_cell BK331.out 2).trans rfl
                have hcz29_3 : w21.cell? ⟨gb331, 3, none⟩ = some (.int .i64 a0_3) := (blk_cell BK331.out 3).trans rfl
                have hfz29_0 := blk_frozen BK331.out 0
                have hfz29_1 := blk_frozen BK331.out 1
                have hfz29_2 := blk_frozen BK331.out 2
                have hfz29_3 := blk_frozen BK331.out 3
                go_wp2_with (first | (go_at_call 25; (with_reducible refine (attempts_Allowed.calls kj5 a0_0 a0_1 a0_2 a0_3 _ _ l1 t334 t337 _ ?side1 ?side2 A22.out).mono ?_); (case side1 => repeat (first | exact (Kd.C_below HR1.out HB.out) | (with_reducible refine Kd.C_alloc ?_ _) | (with_reducible refine Kd.C_drewN ?_ _) | (with_reducible refine Kd.C_drew ?_))); (case side2 => exact HC1.out); rintro e w30 ⟨rfl, hb⟩; have n0_ := Aside0.mk (blk_below (g := gb331) (o := .cells #[.int .i64 a0_0, .int .i64 a0_1, .int .i64 a0_2, .int .i64 a0_3] 23 (0, 0)) (by (with_reducible repeat (first | refine blk_drewN ?_ _ | refine blk_drew ?_ | refine blk_alloc ?_ _)); exact BK331.out) hb); have n1_ := Aside0.mk (below_step (by repeat (first | (with_reducible first | exact HB.out | apply below_alloc | apply pw_below_drewN | apply below_drew1 | refine below_set ?_ GE331.out) | exact HB.out)) hb); clear BK331; clear HB; have BK331 := n0_; have HB := n1_; clear n0_ n1_; (try clear hb); (try clear hb2); (try clear hk); (try clear hi)))
                repeat (go_quiet (first | (go_at_call 25; (with_reducible refine (attempts_Allowed.calls kj5 a0_0 a0_1 a0_2 a0_3 _ _ l1 t334 t337 _ ?side1 ?side2 A22.out).mono ?_); (case side1 => repeat (first | exact (Kd.C_below HR1.out HB.out) | (with_reducible refine Kd.C_alloc ?_ _) | (with_reducible refine Kd.C_drewN ?_ _) | (with_reducible refine Kd.C_drew ?_))); (case side2 => exact HC1.out); rintro e w30 ⟨rfl, hb⟩; have n0_ := Aside0.mk (blk_below (g := gb331) (o := .cells #[.int .i64 a0_0, .int .i64 a0_1, .int .i64 a0_2, .int .i64 a0_3] 23 (0, 0)) (by (with_reducible repeat (first | refine blk_drewN ?_ _ | refine blk_drew ?_ | refine blk_alloc ?_ _)); exact BK331.out) hb); have n1_ := Aside0.mk (below_step (by repeat (first | (with_reducible first | exact HB.out | apply below_alloc | apply pw_below_drewN | apply below_drew1 | refine below_set ?_ GE331.out) | exact HB.out)) hb); clear BK331; clear HB; have BK331 := n0_; have HB := n1_; clear n0_ n1_; (try clear hb); (try clear hb2); (try clear hk); (try clear hi))); try go_wp2_with (first | (go_at_call 25; (with_reducible refine (attempts_Allowed.calls kj5 a0_0 a0_1 a0_2 a0_3 _ _ l1 t334 t337 _ ?side1 ?side2 A22.out).mono ?_); (case side1 => repeat (first | exact (Kd.C_below HR1.out HB.out) | (with_reducible refine Kd.C_alloc ?_ _) | (with_reducible refine Kd.C_drewN ?_ _) | (with_reducible refine Kd.C_drew ?_))); (case side2 => exact HC1.out); rintro e w30 ⟨rfl, hb⟩; have n0_ := Aside0.mk (blk_below (g := gb331) (o := .cells #[.int .i64 a0_0, .int .i64 a0_1, .int .i64 a0_2, .int .i64 a0_3] 23 (0, 0)) (by (with_reducible repeat (first | refine blk_drewN ?_ _ | refine blk_drew ?_ | refine blk_alloc ?_ _)); exact BK331.out) hb); have n1_ := Aside0.mk (below_step (by repeat (first | (with_reducible first | exact HB.out | apply below_alloc | apply pw_below_drewN | apply below_drew1 | refine below_set ?_ GE331.out) | exact HB.out)) hb); clear BK331; clear HB; have BK331 := n0_; have HB := n1_; clear n0_ n1_; (try clear hb); (try clear hb2); (try clear hk); (try clear hi))))
                go_meet
                case rel => exact ⟨_, (true), (by first | rfl | (simp; done) | (simp [*]; done)), H', ⟨by have := HJ5.out; first | omega | exact Nat.le_refl _⟩, ⟨by (with_reducible repeat (first | refine blk_drewN ?_ _ | refine blk_drew ?_ | refine blk_alloc ?_ _)); exact BK331.out⟩, ⟨by repeat (first | (with_reducible first | exact HB.out | apply below_alloc | apply pw_below_drewN | apply below_drew1 | refine below_set ?_ GE331.out) | exact HB.out)⟩⟩
            case rest =>
              clear HC17
              try clear c1
              try clear c2
              try clear p2
              try clear c5
              try clear c9
              try clear c9b0
              try clear c9b1
              try clear c13
              try clear c16
              try clear c23
              try clear c23b0
              try clear c23b1
              try clear c24
              try clear c24b0
              try clear hcz11_0
              try clear hcz11_1
              try clear hcz11_2
              try clear hcz11_3
              try clear hcz18_0
              try clear hcz18_1
              try clear hcz18_2
              try clear hcz18_3
              try clear hcz20_0
              try clear hcz20_1
              try clear hcz20_2
              try clear hcz20_3
              try clear hcz25_0
              try clear hcz25_1
              try clear hcz25_2
              try clear hcz25_3
              try clear hcz27_0
              try clear hcz27_1
              try clear hcz27_2
              try clear hcz27_3
              try clear hcz29_0
              try clear hcz29_1
              try clear hcz29_2
              try clear hcz29_3
              try clear hfz11_0
              try clear hfz11_1
              try clear hfz11_2
              try clear hfz11_3
              try clear hfz18_0
              try clear hfz18_1
              try clear hfz18_2
              try clear hfz18_3
              try clear hfz20_0
              try clear hfz20_1
              try clear hfz20_2
              try clear hfz20_3
              try clear hfz25_0
              try clear hfz25_1
              try clear hfz25_2
              try clear hfz25_3
              try clear hfz27_0
              try clear hfz27_1
              try clear hfz27_2
              try clear hfz27_3
              try clear hfz29_0
              try clear hfz29_1
              try clear hfz29_2
              try clear hfz29_3
              try clear p2
              obtain ⟨kq, x55_16, rfl, HA, HJ16, BK331, HB⟩ := hcut
              cases kq with
              | zero => exact absurd HA.out (by simp [assessorlaw52_AttemptsEarliest.j1])
              | succ kj16 =>
                have H := HA.out
                clear HA
                simp only [assessorlaw52_AttemptsEarliest.j1] at H
                by_cases c31 : x55_16 = true
                · subst c31
                  have H1 : (some false) = some r := by rw [if_pos rfl] at H; exact H
                  clear H
                  have H := H1
                  clear H1
                  obtain rfl := Option.some.inj H
                  go_wp2
                  repeat (go_quiet (fail); try go_wp2)
                  go_ret
                  exact ⟨by first | rfl | (simp [errW_none, errW_some] <;> rfl) | (simp [*, errW_none, errW_some] <;> rfl) | (simp [IntKind.wrap_i64, wrap64]; done), by repeat (first | (with_reducible first | exact HB.out | apply below_alloc | apply pw_below_drewN | apply below_drew1 | refine below_set ?_ GE331.out) | exact HB.out)⟩
                · replace c31 := Bool.eq_false_iff.mpr c31
                  subst c31
                  have H1 : ((api_Attempt.f l1).bind fun t338 => (assessorlaw52_AttemptsEarliest.l0 kj16 t338 true 0 a0_0 a0_1 a0_2 a0_3)) = some r := by rw [if_neg (show ¬ (false = true) by decide)] at H; exact H
                  clear H
                  have H := H1
                  clear H1
                  replace H := Option.bind_eq_some_iff.mp H
                  obtain ⟨t338, A320, H⟩ := H
                  replace H : (assessorlaw52_AttemptsEarliest.l0 kj16 t338 true 0 a0_0 a0_1 a0_2 a0_3) = some r := H
                  have A32 := Aside0.mk A320
                  clear A320
                  have H' := Aside0.mk H
                  clear H
                  go_wp2_with (first | (go_at_call 19; (with_reducible refine (api_Attempt.calls _ _ l1 t338 _ ?side1 ?side2 A32.out).mono ?_); (case side1 => repeat (first | exact (Kd.C_below HR1.out HB.out) | (with_reducible refine Kd.C_alloc ?_ _) | (with_reducible refine Kd.C_drewN ?_ _) | (with_reducible refine Kd.C_drew ?_))); (case side2 => exact HC1.out); rintro e w33 ⟨v339, rfl, ho0, hb⟩; have n0_ := Aside0.mk (Kd.R_lower ho0 (below_size (by repeat (first | (with_reducible first | exact HB.out | apply below_alloc | apply pw_below_drewN | apply below_drew1 | refine below_set ?_ GE331.out) | exact HB.out)))); have n1_ := Aside0.mk (blk_below (g := gb331) (o := .cells #[.int .i64 a0_0, .int .i64 a0_1, .int .i64 a0_2, .int .i64 a0_3] 23 (0, 0)) (by (with_reducible repeat (first | refine blk_drewN ?_ _ | refine blk_drew ?_ | refine blk_alloc ?_ _)); exact BK331.out) hb); have n2_ := Aside0.mk (below_step (by repeat (first | (with_reducible first | exact HB.out | apply below_alloc | apply pw_below_drewN | apply below_drew1 | refine below_set ?_ GE331.out) | exact HB.out)) hb); clear BK331; clear HB; have HO340 := n0_; have BK331 := n1_; have HB := n2_; clear n0_ n1_ n2_; (try clear hb); (try clear hb2); (try clear hk); (try clear hi); (try clear ho0)))
                  repeat (go_quiet (first | (go_at_call 19; (with_reducible refine (api_Attempt.calls _ _ l1 t338 _ ?side1 ?side2 A32.out).mono ?_); (case side1 => repeat (first | exact (Kd.C_below HR1.out HB.out) | (with_reducible refine Kd.C_alloc ?_ _) | (with_reducible refine Kd.C_drewN ?_ _) | (with_reducible refine Kd.C_drew ?_))); (case side2 => exact HC1.out); rintro e w33 ⟨v339, rfl, ho0, hb⟩; have n0_ := Aside0.mk (Kd.R_lower ho0 (below_size (by repeat (first | (with_reducible first | exact HB.out | apply below_alloc | apply pw_below_drewN | apply below_drew1 | refine below_set ?_ GE331.out) | exact HB.out)))); have n1_ := Aside0.mk (blk_below (g := gb331) (o := .cells #[.int .i64 a0_0, .int .i64 a0_1, .int .i64 a0_2, .int .i64 a0_3] 23 (0, 0)) (by (with_reducible repeat (first | refine blk_drewN ?_ _ | refine blk_drew ?_ | refine blk_alloc ?_ _)); exact BK331.out) hb); have n2_ := Aside0.mk (below_step (by repeat (first | (with_reducible first | exact HB.out | apply below_alloc | apply pw_below_drewN | apply below_drew1 | refine below_set ?_ GE331.out) | exact HB.out)) hb); clear BK331; clear HB; have HO340 := n0_; have BK331 := n1_; have HB := n2_; clear n0_ n1_ n2_; (try clear hb); (try clear hb2); (try clear hk); (try clear hi); (try clear ho0))); try go_wp2_with (first | (go_at_call 19; (with_reducible refine (api_Attempt.calls _ _ l1 t338 _ ?side1 ?side2 A32.out).mono ?_); (case side1 => repeat (first | exact (Kd.C_below HR1.out HB.out) | (with_reducible refine Kd.C_alloc ?_ _) | (with_reducible refine Kd.C_drewN ?_ _) | (with_reducible refine Kd.C_drew ?_))); (case side2 => exact HC1.out); rintro e w33 ⟨v339, rfl, ho0, hb⟩; have n0_ := Aside0.mk (Kd.R_lower ho0 (below_size (by repeat (first | (with_reducible first | exact HB.out | apply below_alloc | apply pw_below_drewN | apply below_drew1 | refine below_set ?_ GE331.out) | exact HB.out)))); have n1_ := Aside0.mk (blk_below (g := gb331) (o := .cells #[.int .i64 a0_0, .int .i64 a0_1, .int .i64 a0_2, .int .i64 a0_3] 23 (0, 0)) (by (with_reducible repeat (first | refine blk_drewN ?_ _ | refine blk_drew ?_ | refine blk_alloc ?_ _)); exact BK331.out) hb); have n2_ := Aside0.mk (below_step (by repeat (first | (with_reducible first | exact HB.out | apply below_alloc | apply pw_below_drewN | apply below_drew1 | refine below_set ?_ GE331.out) | exact HB.out)) hb); clear BK331; clear HB; have HO340 := n0_; have BK331 := n1_; have HB := n2_; clear n0_ n1_ n2_; (try clear hb); (try clear hb2); (try clear hk); (try clear hi); (try clear ho0))))
                  go_loopg [1, 8, 58] kj16 (fun kq v1 v8 v58 w' => ∃ (x1_3 : List (S38)) (x8_3 : Bool) (x58_3 : Int), v8 = .bool x8_3 ∧ v58 = .int .i64 x58_3 ∧ Aside0 (assessorlaw52_AttemptsEarliest.l0 kq x1_3 x8_3 x58_3 a0_0 a0_1 a0_2 a0_3 = some r) ∧ Aside0 (kq ≤ kj16) ∧ Aside0 (Kd.R k38 38 w' w.heap.size (fun _ => True) v1 x1_3) ∧ Aside0 (w'.heap[gb331]? = some (.cells #[.int .i64 a0_0, .int .i64 a0_1, .int .i64 a0_2, .int .i64 a0_3] 23 (0, 0))) ∧ Aside0 (Below w.heap.size w w'))
                  case atStart => exact ⟨(t338), (true), (0), (by first | rfl | (simp; done) | (simp [*]; done)), (by first | rfl | (simp; done) | (simp [*]; done)), H', ⟨Nat.le_refl _⟩, ⟨by (with_reducible repeat (first | apply Kd.R_alloc | apply Kd.R_drewN | apply Kd.R_drew)); exact HO340.out⟩, ⟨by (with_reducible repeat (first | refine blk_drewN ?_ _ | refine blk_drew ?_ | refine blk_alloc ?_ _)); exact BK331.out⟩, ⟨by repeat (first | (with_reducible first | exact HB.out | apply below_alloc | apply pw_below_drewN | apply below_drew1 | refine below_set ?_ GE331.out) | exact HB.out)⟩⟩
                  case round =>
                    clear H'
                    try clear c1
                    try clear c2
                    try clear p2
                    try clear c3
                    try clear c5
                    try clear c9
                    try clear c9b0
                    try clear c9b1
                    try clear c13
                    try clear c16
                    try clear c23
                    try clear c23b0
                    try clear c23b1
                    try clear c24
                    try clear c24b0
                    try clear c31
                    try clear hcz11_0
                    try clear hcz11_1
                    try clear hcz11_2
                    try clear hcz11_3
                    try clear hcz18_0
                    try clear hcz18_1
                    try clear hcz18_2
                    try clear hcz18_3
                    try clear hcz20_0
                    try clear hcz20_1
                    try clear hcz20_2
                    try clear hcz20_3
                    try clear hcz25_0
                    try clear hcz25_1
                    try clear hcz25_2
                    try clear hcz25_3
                    try clear hcz27_0
                    try clear hcz27_1
                    try clear hcz27_2
                    try clear hcz27_3
                    try clear hcz29_0
                    try clear hcz29_1
                    try clear hcz29_2
                    try clear hcz29_3
                    try clear hfz11_0
                    try clear hfz11_1
                    try clear hfz11_2
                    try clear hfz11_3
                    try clear hfz18_0
                    try clear hfz18_1
                    try clear hfz18_2
                    try clear hfz18_3
                    try clear hfz20_0
                    try clear hfz20_1
                    try clear hfz20_2
                    try clear hfz20_3
                    try clear hfz25_0
                    try clear hfz25_1
                    try clear hfz25_2
                    try clear hfz25_3
                    try clear hfz27_0
                    try clear hfz27_1
                    try clear hfz27_2
                    try clear hfz27_3
                    try clear hfz29_0
                    try clear hfz29_1
                    try clear hfz29_2
                    try clear hfz29_3
                    try clear p2
                    obtain ⟨x1_3, x8_3, x58_3, rfl, rfl, HA, HK3, HO_1, BK331, HB⟩ := hrel
                    cases gk with
                    | zero => exact absurd HA.out (by simp [assessorlaw52_AttemptsEarliest.l0])
                    | succ k3 =>
                      have H := HA.out
                      clear HA
                      simp only [assessorlaw52_AttemptsEarliest.l0] at H
                      by_cases c34 : x58_3 < 17
                      · rw [if_pos c34] at H
                        have c34b0 : decide (x58_3 < 17) = true := decide_eq_true c34
                        clear c34
                        replace H := Option.bind_eq_some_iff.mp H
                        obtain ⟨⟨t342, t343⟩, A350, H⟩ := H
                        replace H : (if t343 = true then (if x1_3.length < 5864062014805 then ((some (x1_3 ++ [(⟨wrap64 ((x1_3.length : Int) + 1), t342, 0⟩ : S38)] : List (S38))).bind fun y344 => ((attempts_Valid.f k3 a0_0 a0_1 a0_2 a0_3 y344).bind fun t347 => (if t347 = true then (assessorlaw52_AttemptsEarliest.l0 k3 y344 t343 (wrap64 (x58_3 + 1)) a0_0 a0_1 a0_2 a0_3) else (some false)))) else (none)) else (if (x1_3.length : Int) = a0_1 then (some true) else (if (x1_3.length : Int) > 0 then (if 0 ≤ (wrap64 ((x1_3.length : Int) - 1)) then (if (wrap64 ((x1_3.length : Int) - 1)) < (x1_3.length : Int) then (some (decide (((rd_T38 x1_3 (wrap64 ((x1_3.length : Int) - 1))).f1) > (wrap64 (1099511627776 - a0_2))))) else (none)) else (none)) else (some false)))) = some r := H
                        have A35 := Aside0.mk A350
                        clear A350
                        by_cases c36 : t343 = true
                        · subst c36
                          have H1 : (if x1_3.length < 5864062014805 then ((some (x1_3 ++ [(⟨wrap64 ((x1_3.length : Int) + 1), t342, 0⟩ : S38)] : List (S38))).bind fun y344 => ((attempts_Valid.f k3 a0_0 a0_1 a0_2 a0_3 y344).bind fun t347 => (if t347 = true then (assessorlaw52_AttemptsEarliest.l0 k3 y344 true (wrap64 (x58_3 + 1)) a0_0 a0_1 a0_2 a0_3) else (some false)))) else (none)) = some r := by rw [if_pos rfl] at H; exact H
                          clear H
                          have H := H1
                          clear H1
                          by_cases c37 : x1_3.length < 5864062014805
                          · rw [if_pos c37] at H
                            have LMc37 := Aside0.mk c37
                            clear c37
                            obtain ⟨y344, hy344⟩ : ∃ y_ : List (S38), y_ = (x1_3 ++ [(⟨wrap64 ((x1_3.length : Int) + 1), t342, 0⟩ : S38)]) := ⟨_, rfl⟩
                            replace H : ((attempts_Valid.f k3 a0_0 a0_1 a0_2 a0_3 y344).bind fun t347 => (if t347 = true then (assessorlaw52_AttemptsEarliest.l0 k3 y344 true (wrap64 (x58_3 + 1)) a0_0 a0_1 a0_2 a0_3) else (some false))) = some r := by first | (rw [hy344]; with_reducible exact H) | (have H2_ := (Option.bind_some _ _).symm.trans H; rw [hy344]; with_reducible exact H2_) | (have H2_ := (Option.bind_some _ _).symm.trans H; with_reducible exact H2_) | with_reducible exact H | (rw [hy344]; exact H) | exact H
                            have Ny344 := Aside0.mk hy344
                            clear hy344
                            replace H := Option.bind_eq_some_iff.mp H
                            obtain ⟨t347, A380, H⟩ := H
                            replace H : (if t347 = true then (assessorlaw52_AttemptsEarliest.l0 k3 y344 true (wrap64 (x58_3 + 1)) a0_0 a0_1 a0_2 a0_3) else (some false)) = some r := H
                            have A38 := Aside0.mk A380
                            clear A380
                            by_cases c39 : t347 = true
                            · subst c39
                              have H1 : (assessorlaw52_AttemptsEarliest.l0 k3 y344 true (wrap64 (x58_3 + 1)) a0_0 a0_1 a0_2 a0_3) = some r := by rw [if_pos rfl] at H; exact H
                              clear H
                              have H := H1
                              clear H1
                              have H' := Aside0.mk H
                              clear H
                              have hcz40_0 : wr.cell? ⟨gb331, 0, none⟩ = some (.int .i64 a0_0) := (blk_cell BK331.out 0).trans rfl
                              have hcz40_1 : wr.cell? ⟨gb331, 1, none⟩ = some (.int .i64 a0_1) := (blk_cell BK331.out 1).trans rfl
                              have hcz40_2 : wr.cell? ⟨gb331, 2, none⟩ = some (.int .i64 a0_2) := (blk_cell BK331.out 2).trans rfl
                              have hcz40_3 : wr.cell? ⟨gb331, 3, none⟩ = some (.int .i64 a0_3) := (blk_cell BK331.out 3).trans rfl
                              have hfz40_0 := blk_frozen BK331.out 0
                              have hfz40_1 := blk_frozen BK331.out 1
                              have hfz40_2 := blk_frozen BK331.out 2
                              have hfz40_3 := blk_frozen BK331.out 3
                              obtain ⟨Ao41, co41, eo41⟩ := Kd.R_slice HO_1.out
                              subst eo41
                              go_wp2_with (first | (go_at_call 22; (with_reducible refine (attempts_Earliest.calls k3 a0_0 a0_1 a0_2 a0_3 _ _ x1_3 t342 true _ ?side1 ?side2 A35.out).mono ?_); (case side1 => repeat (first | exact (Kd.R_reads' HO_1.out).2.2 | (with_reducible refine Kd.C_alloc ?_ _) | (with_reducible refine Kd.C_drewN ?_ _) | (with_reducible refine Kd.C_drew ?_))); (case side2 => exact (Kd.R_reads' HO_1.out).2.1); rintro e w42 ⟨rfl, hb⟩; have n0_ := Aside0.mk (Kd.R_below (by (with_reducible repeat (first | apply Kd.R_alloc | apply Kd.R_drewN | apply Kd.R_drew)); exact HO_1.out) hb); have n1_ := Aside0.mk (blk_below (g := gb331) (o := .cells #[.int .i64 a0_0, .int .i64 a0_1, .int .i64 a0_2, .int .i64 a0_3] 23 (0, 0)) (by (with_reducible repeat (first | refine blk_drewN ?_ _ | refine blk_drew ?_ | refine blk_alloc ?_ _)); exact BK331.out) hb); have n2_ := Aside0.mk (below_step (by repeat (first | (with_reducible first | exact HB.out | apply below_alloc | apply pw_below_drewN | apply below_drew1 | refine below_set ?_ GE331.out) | exact HB.out)) hb); clear HO_1; clear BK331; clear HB; have HO_1 := n0_; have BK331 := n1_; have HB := n2_; clear n0_ n1_ n2_; (try clear hb); (try clear hb2); (try clear hk); (try clear hi)) | ((with_reducible refine gate_builtin (b := .append) (xs := #[.tmp 68, .tmp 74]) rfl ?_); (try (refine gate_guard (by rfl) ?_; dsimp only)); at_builtin; refine Kd.R_append k38 (w0 := w) w.heap.size rfl (.tmp 68) (.tmp 74) 24 38 (.agg #[(.int .i64 0), (.int .i64 0), (.int .i64 0)]) 24 rfl Try.underlying24 info38 rfl (by decide) (by omega) (.slice Ao41 x1_3.length co41) x1_3 (⟨wrap64 ((x1_3.length : Int) + 1), t342, 0⟩ : S38) [.int .i64 (wrap64 ((x1_3.length : Int) + 1)), .int .i64 t342, .int .i64 0] (fun _ => True) (fun _ => False) rfl rfl ?aP (fun _ hk => hk.elim) ?aF ?aO ?aB ?aS ?aL ?_; (case aP => exact k38_mkM _ _ _ (⟨wrap64 ((x1_3.length : Int) + 1), t342, 0⟩ : S38)); (case aB => exact (by repeat (first | (with_reducible first | exact HB.out | apply below_alloc | apply pw_below_drewN | apply below_drew1 | refine below_set ?_ GE331.out) | exact HB.out))); (case aF => exact (fun _ _ => trivial)); (case aO => exact (by (with_reducible repeat (first | apply Kd.R_alloc | apply Kd.R_drewN | apply Kd.R_drew)); exact HO_1.out)); (case aS => exact (below_size (by repeat (first | (with_reducible first | exact HB.out | apply below_alloc | apply pw_below_drewN | apply below_drew1 | refine below_set ?_ GE331.out) | exact HB.out)))); (case aL => have := LMc37.out; omega); intro v345 w43 ho hb hg hat; rw [← Ny344.out] at ho; have n0_ := Aside0.mk (blk_grown (g := gb331) (o := .cells #[.int .i64 a0_0, .int .i64 a0_1, .int .i64 a0_2, .int .i64 a0_3] 23 (0, 0)) (by (with_reducible repeat (first | refine blk_drewN ?_ _ | refine blk_drew ?_ | refine blk_alloc ?_ _)); exact BK331.out) hg (Kd.R_ne HO_1.out BK331.out (by decide))); have n1_ := Aside0.mk (hb); have n2_ := Aside0.mk (ho); clear BK331; clear HB; clear HO_1; have BK331 := n0_; have HB := n1_; have HO346 := n2_; clear n0_ n1_ n2_; clear ho hb hg hat; have hcz44_0 : w43.cell? ⟨gb331, 0, none⟩ = some (.int .i64 a0_0) := (blk_cell BK331.out 0).trans rfl; have hcz44_1 : w43.cell? ⟨gb331, 1, none⟩ = some (.int .i64 a0_1) := (blk_cell BK331.out 1).trans rfl; have hcz44_2 : w43.cell? ⟨gb331, 2, none⟩ = some (.int .i64 a0_2) := (blk_cell BK331.out 2).trans rfl; have hcz44_3 : w43.cell? ⟨gb331, 3, none⟩ = some (.int .i64 a0_3) := (blk_cell BK331.out 3).trans rfl; have hfz44_0 := blk_frozen BK331.out 0; have hfz44_1 := blk_frozen BK331.out 1; have hfz44_2 := blk_frozen BK331.out 2; have hfz44_3 := blk_frozen BK331.out 3; obtain ⟨Ao45, co45, eo45⟩ := Kd.R_slice HO346.out; subst eo45) | (go_at_call 18; (with_reducible refine (attempts_Valid.calls k3 a0_0 a0_1 a0_2 a0_3 _ _ y344 true _ ?side1 ?side2 A38.out).mono ?_); (case side1 => repeat (first | exact (Kd.R_reads' HO346.out).2.2 | (with_reducible refine Kd.C_alloc ?_ _) | (with_reducible refine Kd.C_drewN ?_ _) | (with_reducible refine Kd.C_drew ?_))); (case side2 => exact (Kd.R_reads' HO346.out).2.1); rintro e w46 ⟨rfl, hb⟩; have n0_ := Aside0.mk (Kd.R_below (by (with_reducible repeat (first | apply Kd.R_alloc | apply Kd.R_drewN | apply Kd.R_drew)); exact HO346.out) hb); have n1_ := Aside0.mk (blk_below (g := gb331) (o := .cells #[.int .i64 a0_0, .int .i64 a0_1, .int .i64 a0_2, .int .i64 a0_3] 23 (0, 0)) (by (with_reducible repeat (first | refine blk_drewN ?_ _ | refine blk_drew ?_ | refine blk_alloc ?_ _)); exact BK331.out) hb); have n2_ := Aside0.mk (below_step (by repeat (first | (with_reducible first | exact HB.out | apply below_alloc | apply pw_below_drewN | apply below_drew1 | refine below_set ?_ GE331.out) | exact HB.out)) hb); clear HO346; clear BK331; clear HB; have HO346 := n0_; have BK331 := n1_; have HB := n2_; clear n0_ n1_ n2_; (try clear hb); (try clear hb2); (try clear hk); (try clear hi)))
                              repeat (go_quiet (first | (go_at_call 22; (with_reducible refine (attempts_Earliest.calls k3 a0_0 a0_1 a0_2 a0_3 _ _ x1_3 t342 true _ ?side1 ?side2 A35.out).mono ?_); (case side1 => repeat (first | exact (Kd.R_reads' HO_1.out).2.2 | (with_reducible refine Kd.C_alloc ?_ _) | (with_reducible refine Kd.C_drewN ?_ _) | (with_reducible refine Kd.C_drew ?_))); (case side2 => exact (Kd.R_reads' HO_1.out).2.1); rintro e w42 ⟨rfl, hb⟩; have n0_ := Aside0.mk (Kd.R_below (by (with_reducible repeat (first | apply Kd.R_alloc | apply Kd.R_drewN | apply Kd.R_drew)); exact HO_1.out) hb); have n1_ := Aside0.mk (blk_below (g := gb331) (o := .cells #[.int .i64 a0_0, .int .i64 a0_1, .int .i64 a0_2, .int .i64 a0_3] 23 (0, 0)) (by (with_reducible repeat (first | refine blk_drewN ?_ _ | refine blk_drew ?_ | refine blk_alloc ?_ _)); exact BK331.out) hb); have n2_ := Aside0.mk (below_step (by repeat (first | (with_reducible first | exact HB.out | apply below_alloc | apply pw_below_drewN | apply below_drew1 | refine below_set ?_ GE331.out) | exact HB.out)) hb); clear HO_1; clear BK331; clear HB; have HO_1 := n0_; have BK331 := n1_; have HB := n2_; clear n0_ n1_ n2_; (try clear hb); (try clear hb2); (try clear hk); (try clear hi)) | ((with_reducible refine gate_builtin (b := .append) (xs := #[.tmp 68, .tmp 74]) rfl ?_); (try (refine gate_guard (by rfl) ?_; dsimp only)); at_builtin; refine Kd.R_append k38 (w0 := w) w.heap.size rfl (.tmp 68) (.tmp 74) 24 38 (.agg #[(.int .i64 0), (.int .i64 0), (.int .i64 0)]) 24 rfl Try.underlying24 info38 rfl (by decide) (by omega) (.slice Ao41 x1_3.length co41) x1_3 (⟨wrap64 ((x1_3.length : Int) + 1), t342, 0⟩ : S38) [.int .i64 (wrap64 ((x1_3.length : Int) + 1)), .int .i64 t342, .int .i64 0] (fun _ => True) (fun _ => False) rfl rfl ?aP (fun _ hk => hk.elim) ?aF ?aO ?aB ?aS ?aL ?_; (case aP => exact k38_mkM _ _ _ (⟨wrap64 ((x1_3.length : Int) + 1), t342, 0⟩ : S38)); (case aB => exact (by repeat (first | (with_reducible first | exact HB.out | apply below_alloc | apply pw_below_drewN | apply below_drew1 | refine below_set ?_ GE331.out) | exact HB.out))); (case aF => exact (fun _ _ => trivial)); (case aO => exact (by (with_reducible repeat (first | apply Kd.R_alloc | apply Kd.R_drewN | apply Kd.R_drew)); exact HO_1.out)); (case aS => exact (below_size (by repeat (first | (with_reducible first | exact HB.out | apply below_alloc | apply pw_below_drewN | apply below_drew1 | refine below_set ?_ GE331.out) | exact HB.out)))); (case aL => have := LMc37.out; omega); intro v345 w43 ho hb hg hat; rw [← Ny344.out] at ho; have n0_ := Aside0.mk (blk_grown (g := gb331) (o := .cells #[.int .i64 a0_0, .int .i64 a0_1, .int .i64 a0_2, .int .i64 a0_3] 23 (0, 0)) (by (with_reducible repeat (first | refine blk_drewN ?_ _ | refine blk_drew ?_ | refine blk_alloc ?_ _)); exact BK331.out) hg (Kd.R_ne HO_1.out BK331.out (by decide))); have n1_ := Aside0.mk (hb); have n2_ := Aside0.mk (ho); clear BK331; clear HB; clear HO_1; have BK331 := n0_; have HB := n1_; have HO346 := n2_; clear n0_ n1_ n2_; clear ho hb hg hat; have hcz44_0 : w43.cell? ⟨gb331, 0, none⟩ = some (.int .i64 a0_0) := (blk_cell BK331.out 0).trans rfl; have hcz44_1 : w43.cell? ⟨gb331, 1, none⟩ = some (.int .i64 a0_1) := (blk_cell BK331.out 1).trans rfl; have hcz44_2 : w43.cell? ⟨gb331, 2, none⟩ = some (.int .i64 a0_2) := (blk_cell BK331.out 2).trans rfl; have hcz44_3 : w43.cell? ⟨gb331, 3, none⟩ = some (.int .i64 a0_3) := (blk_cell BK331.out 3).trans rfl; have hfz44_0 := blk_frozen BK331.out 0; have hfz44_1 := blk_frozen BK331.out 1; have hfz44_2 := blk_frozen BK331.out 2; have hfz44_3 := blk_frozen BK331.out 3; obtain ⟨Ao45, co45, eo45⟩ := Kd.R_slice HO346.out; subst eo45) | (go_at_call 18; (with_reducible refine (attempts_Valid.calls k3 a0_0 a0_1 a0_2 a0_3 _ _ y344 true _ ?side1 ?side2 A38.out).mono ?_); (case side1 => repeat (first | exact (Kd.R_reads' HO346.out).2.2 | (with_reducible refine Kd.C_alloc ?_ _) | (with_reducible refine Kd.C_drewN ?_ _) | (with_reducible refine Kd.C_drew ?_))); (case side2 => exact (Kd.R_reads' HO346.out).2.1); rintro e w46 ⟨rfl, hb⟩; have n0_ := Aside0.mk (Kd.R_below (by (with_reducible repeat (first | apply Kd.R_alloc | apply Kd.R_drewN | apply Kd.R_drew)); exact HO346.out) hb); have n1_ := Aside0.mk (blk_below (g := gb331) (o := .cells #[.int .i64 a0_0, .int .i64 a0_1, .int .i64 a0_2, .int .i64 a0_3] 23 (0, 0)) (by (with_reducible repeat (first | refine blk_drewN ?_ _ | refine blk_drew ?_ | refine blk_alloc ?_ _)); exact BK331.out) hb); have n2_ := Aside0.mk (below_step (by repeat (first | (with_reducible first | exact HB.out | apply below_alloc | apply pw_below_drewN | apply below_drew1 | refine below_set ?_ GE331.out) | exact HB.out)) hb); clear HO346; clear BK331; clear HB; have HO346 := n0_; have BK331 := n1_; have HB := n2_; clear n0_ n1_ n2_; (try clear hb); (try clear hb2); (try clear hk); (try clear hi))); try go_wp2_with (first | (go_at_call 22; (with_reducible refine (attempts_Earliest.calls k3 a0_0 a0_1 a0_2 a0_3 _ _ x1_3 t342 true _ ?side1 ?side2 A35.out).mono ?_); (case side1 => repeat (first | exact (Kd.R_reads' HO_1.out).2.2 | (with_reducible refine Kd.C_alloc ?_ _) | (with_reducible refine Kd.C_drewN ?_ _) | (with_reducible refine Kd.C_drew ?_))); (case side2 => exact (Kd.R_reads' HO_1.out).2.1); rintro e w42 ⟨rfl, hb⟩; have n0_ := Aside0.mk (Kd.R_below (by (with_reducible repeat (first | apply Kd.R_alloc | apply Kd.R_drewN | apply Kd.R_drew)); exact HO_1.out) hb); have n1_ := Aside0.mk (blk_below (g := gb331) (o := .cells #[.int .i64 a0_0, .int .i64 a0_1, .int .i64 a0_2, .int .i64 a0_3] 23 (0, 0)) (by (with_reducible repeat (first | refine blk_drewN ?_ _ | refine blk_drew ?_ | refine blk_alloc ?_ _)); exact BK331.out) hb); have n2_ := Aside0.mk (below_step (by repeat (first | (with_reducible first | exact HB.out | apply below_alloc | apply pw_below_drewN | apply below_drew1 | refine below_set ?_ GE331.out) | exact HB.out)) hb); clear HO_1; clear BK331; clear HB; have HO_1 := n0_; have BK331 := n1_; have HB := n2_; clear n0_ n1_ n2_; (try clear hb); (try clear hb2); (try clear hk); (try clear hi)) | ((with_reducible refine gate_builtin (b := .append) (xs := #[.tmp 68, .tmp 74]) rfl ?_); (try (refine gate_guard (by rfl) ?_; dsimp only)); at_builtin; refine Kd.R_append k38 (w0 := w) w.heap.size rfl (.tmp 68) (.tmp 74) 24 38 (.agg #[(.int .i64 0), (.int .i64 0), (.int .i64 0)]) 24 rfl Try.underlying24 info38 rfl (by decide) (by omega) (.slice Ao41 x1_3.length co41) x1_3 (⟨wrap64 ((x1_3.length : Int) + 1), t342, 0⟩ : S38) [.int .i64 (wrap64 ((x1_3.length : Int) + 1)), .int .i64 t342, .int .i64 0] (fun _ => True) (fun _ => False) rfl rfl ?aP (fun _ hk => hk.elim) ?aF ?aO ?aB ?aS ?aL ?_; (case aP => exact k38_mkM _ _ _ (⟨wrap64 ((x1_3.length : Int) + 1), t342, 0⟩ : S38)); (case aB => exact (by repeat (first | (with_reducible first | exact HB.out | apply below_alloc | apply pw_below_drewN | apply below_drew1 | refine below_set ?_ GE331.out) | exact HB.out))); (case aF => exact (fun _ _ => trivial)); (case aO => exact (by (with_reducible repeat (first | apply Kd.R_alloc | apply Kd.R_drewN | apply Kd.R_drew)); exact HO_1.out)); (case aS => exact (below_size (by repeat (first | (with_reducible first | exact HB.out | apply below_alloc | apply pw_below_drewN | apply below_drew1 | refine below_set ?_ GE331.out) | exact HB.out)))); (case aL => have := LMc37.out; omega); intro v345 w43 ho hb hg hat; rw [← Ny344.out] at ho; have n0_ := Aside0.mk (blk_grown (g := gb331) (o := .cells #[.int .i64 a0_0, .int .i64 a0_1, .int .i64 a0_2, .int .i64 a0_3] 23 (0, 0)) (by (with_reducible repeat (first | refine blk_drewN ?_ _ | refine blk_drew ?_ | refine blk_alloc ?_ _)); exact BK331.out) hg (Kd.R_ne HO_1.out BK331.out (by decide))); have n1_ := Aside0.mk (hb); have n2_ := Aside0.mk (ho); clear BK331; clear HB; clear HO_1; have BK331 := n0_; have HB := n1_; have HO346 := n2_; clear n0_ n1_ n2_; clear ho hb hg hat; have hcz44_0 : w43.cell? ⟨gb331, 0, none⟩ = some (.int .i64 a0_0) := (blk_cell BK331.out 0).trans rfl; have hcz44_1 : w43.cell? ⟨gb331, 1, none⟩ = some (.int .i64 a0_1) := (blk_cell BK331.out 1).trans rfl; have hcz44_2 : w43.cell? ⟨gb331, 2, none⟩ = some (.int .i64 a0_2) := (blk_cell BK331.out 2).trans rfl; have hcz44_3 : w43.cell? ⟨gb331, 3, none⟩ = some (.int .i64 a0_3) := (blk_cell BK331.out 3).trans rfl; have hfz44_0 := blk_frozen BK331.out 0; have hfz44_1 := blk_frozen BK331.out 1; have hfz44_2 := blk_frozen BK331.out 2; have hfz44_3 := blk_frozen BK331.out 3; obtain ⟨Ao45, co45, eo45⟩ := Kd.R_slice HO346.out; subst eo45) | (go_at_call 18; (with_reducible refine (attempts_Valid.calls k3 a0_0 a0_1 a0_2 a0_3 _ _ y344 true _ ?side1 ?side2 A38.out).mono ?_); (case side1 => repeat (first | exact (Kd.R_reads' HO346.out).2.2 | (with_reducible refine Kd.C_alloc ?_ _) | (with_reducible refine Kd.C_drewN ?_ _) | (with_reducible refine Kd.C_drew ?_))); (case side2 => exact (Kd.R_reads' HO346.out).2.1); rintro e w46 ⟨rfl, hb⟩; have n0_ := Aside0.mk (Kd.R_below (by (with_reducible repeat (first | apply Kd.R_alloc | apply Kd.R_drewN | apply Kd.R_drew)); exact HO346.out) hb); have n1_ := Aside0.mk (blk_below (g := gb331) (o := .cells #[.int .i64 a0_0, .int .i64 a0_1, .int .i64 a0_2, .int .i64 a0_3] 23 (0, 0)) (by (with_reducible repeat (first | refine blk_drewN ?_ _ | refine blk_drew ?_ | refine blk_alloc ?_ _)); exact BK331.out) hb); have n2_ := Aside0.mk (below_step (by repeat (first | (with_reducible first | exact HB.out | apply below_alloc | apply pw_below_drewN | apply below_drew1 | refine below_set ?_ GE331.out) | exact HB.out)) hb); clear HO346; clear BK331; clear HB; have HO346 := n0_; have BK331 := n1_; have HB := n2_; clear n0_ n1_ n2_; (try clear hb); (try clear hb2); (try clear hk); (try clear hi))))
                              go_roundg k3
                              case measure => have := HJ5.out; have := HJ16.out; have := HK3.out; omega
                              case rel => exact ⟨(y344), (true), (wrap64 (x58_3 + 1)), (by first | rfl | (simp; done) | (simp [*]; done)), (by first | rfl | (simp; done) | (simp [*]; done)), H', ⟨by have := HJ5.out; have := HJ16.out; have := HK3.out; omega⟩, ⟨by (with_reducible repeat (first | apply Kd.R_alloc | apply Kd.R_drewN | apply Kd.R_drew)); exact HO346.out⟩, ⟨by (with_reducible repeat (first | refine blk_drewN ?_ _ | refine blk_drew ?_ | refine blk_alloc ?_ _)); exact BK331.out⟩, ⟨by repeat (first | (with_reducible first | exact HB.out | apply below_alloc | apply pw_below_drewN | apply below_drew1 | refine below_set ?_ GE331.out) | exact HB.out)⟩⟩
                            · replace c39 := Bool.eq_false_iff.mpr c39
                              subst c39
                              have H1 : (some false) = some r := by rw [if_neg (show ¬ (false = true) by decide)] at H; exact H
                              clear H
                              have H := H1
                              clear H1
                              obtain rfl := Option.some.inj H
                              have hcz47_0 : wr.cell? ⟨gb331, 0, none⟩ = some (.int .i64 a0_0) := (blk_cell BK331.out 0).trans rfl
                              have hcz47_1 : wr.cell? ⟨gb331, 1, none⟩ = some (.int .i64 a0_1) := (blk_cell BK331.out 1).trans rfl
                              have hcz47_2 : wr.cell? ⟨gb331, 2, none⟩ = some (.int .i64 a0_2) := (blk_cell BK331.out 2).trans rfl
                              have hcz47_3 : wr.cell? ⟨gb331, 3, none⟩ = some (.int .i64 a0_3) := (blk_cell BK331.out 3).trans rfl
                              have hfz47_0 := blk_frozen BK331.out 0
                              have hfz47_1 := blk_frozen BK331.out 1
                              have hfz47_2 := blk_frozen BK331.out 2
                              have hfz47_3 := blk_frozen BK331.out 3
                              obtain ⟨Ao48, co48, eo48⟩ := Kd.R_slice HO_1.out
                              subst eo48
                              go_wp2_with (first | (go_at_call 22; (with_reducible refine (attempts_Earliest.calls k3 a0_0 a0_1 a0_2 a0_3 _ _ x1_3 t342 true _ ?side1 ?side2 A35.out).mono ?_); (case side1 => repeat (first | exact (Kd.R_reads' HO_1.out).2.2 | (with_reducible refine Kd.C_alloc ?_ _) | (with_reducible refine Kd.C_drewN ?_ _) | (with_reducible refine Kd.C_drew ?_))); (case side2 => exact (Kd.R_reads' HO_1.out).2.1); rintro e w49 ⟨rfl, hb⟩; have n0_ := Aside0.mk (Kd.R_below (by (with_reducible repeat (first | apply Kd.R_alloc | apply Kd.R_drewN | apply Kd.R_drew)); exact HO_1.out) hb); have n1_ := Aside0.mk (blk_below (g := gb331) (o := .cells #[.int .i64 a0_0, .int .i64 a0_1, .int .i64 a0_2, .int .i64 a0_3] 23 (0, 0)) (by (with_reducible repeat (first | refine blk_drewN ?_ _ | refine blk_drew ?_ | refine blk_alloc ?_ _)); exact BK331.out) hb); have n2_ := Aside0.mk (below_step (by repeat (first | (with_reducible first | exact HB.out | apply below_alloc | apply pw_below_drewN | apply below_drew1 | refine below_set ?_ GE331.out) | exact HB.out)) hb); clear HO_1; clear BK331; clear HB; have HO_1 := n0_; have BK331 := n1_; have HB := n2_; clear n0_ n1_ n2_; (try clear hb); (try clear hb2); (try clear hk); (try clear hi)) | ((with_reducible refine gate_builtin (b := .append) (xs := #[.tmp 68, .tmp 74]) rfl ?_); (try (refine gate_guard (by rfl) ?_; dsimp only)); at_builtin; refine Kd.R_append k38 (w0 := w) w.heap.size rfl (.tmp 68) (.tmp 74) 24 38 (.agg #[(.int .i64 0), (.int .i64 0), (.int .i64 0)]) 24 rfl Try.underlying24 info38 rfl (by decide) (by omega) (.slice Ao48 x1_3.length co48) x1_3 (⟨wrap64 ((x1_3.length : Int) + 1), t342, 0⟩ : S38) [.int .i64 (wrap64 ((x1_3.length : Int) + 1)), .int .i64 t342, .int .i64 0] (fun _ => True) (fun _ => False) rfl rfl ?aP (fun _ hk => hk.elim) ?aF ?aO ?aB ?aS ?aL ?_; (case aP => exact k38_mkM _ _ _ (⟨wrap64 ((x1_3.length : Int) + 1), t342, 0⟩ : S38)); (case aB => exact (by repeat (first | (with_reducible first | exact HB.out | apply below_alloc | apply pw_below_drewN | apply below_drew1 | refine below_set ?_ GE331.out) | exact HB.out))); (case aF => exact (fun _ _ => trivial)); (case aO => exact (by (with_reducible repeat (first | apply Kd.R_alloc | apply Kd.R_drewN | apply Kd.R_drew)); exact HO_1.out)); (case aS => exact (below_size (by repeat (first | (with_reducible first | exact HB.out | apply below_alloc | apply pw_below_drewN | apply below_drew1 | refine below_set ?_ GE331.out) | exact HB.out)))); (case aL => have := LMc37.out; omega); intro v345 w50 ho hb hg hat; rw [← Ny344.out] at ho; have n0_ := Aside0.mk (blk_grown (g := gb331) (o := .cells #[.int .i64 a0_0, .int .i64 a0_1, .int .i64 a0_2, .int .i64 a0_3] 23 (0, 0)) (by (with_reducible repeat (first | refine blk_drewN ?_ _ | refine blk_drew ?_ | refine blk_alloc ?_ _)); exact BK331.out) hg (Kd.R_ne HO_1.out BK331.out (by decide))); have n1_ := Aside0.mk (hb); have n2_ := Aside0.mk (ho); clear BK331; clear HB; clear HO_1; have BK331 := n0_; have HB := n1_; have HO346 := n2_; clear n0_ n1_ n2_; clear ho hb hg hat; have hcz51_0 : w50.cell? ⟨gb331, 0, none⟩ = some (.int .i64 a0_0) := (blk_cell BK331.out 0).trans rfl; have hcz51_1 : w50.cell? ⟨gb331, 1, none⟩ = some (.int .i64 a0_1) := (blk_cell BK331.out 1).trans rfl; have hcz51_2 : w50.cell? ⟨gb331, 2, none⟩ = some (.int .i64 a0_2) := (blk_cell BK331.out 2).trans rfl; have hcz51_3 : w50.cell? ⟨gb331, 3, none⟩ = some (.int .i64 a0_3) := (blk_cell BK331.out 3).trans rfl; have hfz51_0 := blk_frozen BK331.out 0; have hfz51_1 := blk_frozen BK331.out 1; have hfz51_2 := blk_frozen BK331.out 2; have hfz51_3 := blk_frozen BK331.out 3; obtain ⟨Ao52, co52, eo52⟩ := Kd.R_slice HO346.out; subst eo52) | (go_at_call 18; (with_reducible refine (attempts_Valid.calls k3 a0_0 a0_1 a0_2 a0_3 _ _ y344 false _ ?side1 ?side2 A38.out).mono ?_); (case side1 => repeat (first | exact (Kd.R_reads' HO346.out).2.2 | (with_reducible refine Kd.C_alloc ?_ _) | (with_reducible refine Kd.C_drewN ?_ _) | (with_reducible refine Kd.C_drew ?_))); (case side2 => exact (Kd.R_reads' HO346.out).2.1); rintro e w53 ⟨rfl, hb⟩; have n0_ := Aside0.mk (Kd.R_below (by (with_reducible repeat (first | apply Kd.R_alloc | apply Kd.R_drewN | apply Kd.R_drew)); exact HO346.out) hb); have n1_ := Aside0.mk (blk_below (g := gb331) (o := .cells #[.int .i64 a0_0, .int .i64 a0_1, .int .i64 a0_2, .int .i64 a0_3] 23 (0, 0)) (by (with_reducible repeat (first | refine blk_drewN ?_ _ | refine blk_drew ?_ | refine blk_alloc ?_ _)); exact BK331.out) hb); have n2_ := Aside0.mk (below_step (by repeat (first | (with_reducible first | exact HB.out | apply below_alloc | apply pw_below_drewN | apply below_drew1 | refine below_set ?_ GE331.out) | exact HB.out)) hb); clear HO346; clear BK331; clear HB; have HO346 := n0_; have BK331 := n1_; have HB := n2_; clear n0_ n1_ n2_; (try clear hb); (try clear hb2); (try clear hk); (try clear hi)))
                              repeat (go_quiet (first | (go_at_call 22; (with_reducible refine (attempts_Earliest.calls k3 a0_0 a0_1 a0_2 a0_3 _ _ x1_3 t342 true _ ?side1 ?side2 A35.out).mono ?_); (case side1 => repeat (first | exact (Kd.R_reads' HO_1.out).2.2 | (with_reducible refine Kd.C_alloc ?_ _) | (with_reducible refine Kd.C_drewN ?_ _) | (with_reducible refine Kd.C_drew ?_))); (case side2 => exact (Kd.R_reads' HO_1.out).2.1); rintro e w49 ⟨rfl, hb⟩; have n0_ := Aside0.mk (Kd.R_below (by (with_reducible repeat (first | apply Kd.R_alloc | apply Kd.R_drewN | apply Kd.R_drew)); exact HO_1.out) hb); have n1_ := Aside0.mk (blk_below (g := gb331) (o := .cells #[.int .i64 a0_0, .int .i64 a0_1, .int .i64 a0_2, .int .i64 a0_3] 23 (0, 0)) (by (with_reducible repeat (first | refine blk_drewN ?_ _ | refine blk_drew ?_ | refine blk_alloc ?_ _)); exact BK331.out) hb); have n2_ := Aside0.mk (below_step (by repeat (first | (with_reducible first | exact HB.out | apply below_alloc | apply pw_below_drewN | apply below_drew1 | refine below_set ?_ GE331.out) | exact HB.out)) hb); clear HO_1; clear BK331; clear HB; have HO_1 := n0_; have BK331 := n1_; have HB := n2_; clear n0_ n1_ n2_; (try clear hb); (try clear hb2); (try clear hk); (try clear hi)) | ((with_reducible refine gate_builtin (b := .append) (xs := #[.tmp 68, .tmp 74]) rfl ?_); (try (refine gate_guard (by rfl) ?_; dsimp only)); at_builtin; refine Kd.R_append k38 (w0 := w) w.heap.size rfl (.tmp 68) (.tmp 74) 24 38 (.agg #[(.int .i64 0), (.int .i64 0), (.int .i64 0)]) 24 rfl Try.underlying24 info38 rfl (by decide) (by omega) (.slice Ao48 x1_3.length co48) x1_3 (⟨wrap64 ((x1_3.length : Int) + 1), t342, 0⟩ : S38) [.int .i64 (wrap64 ((x1_3.length : Int) + 1)), .int .i64 t342, .int .i64 0] (fun _ => True) (fun _ => False) rfl rfl ?aP (fun _ hk => hk.elim) ?aF ?aO ?aB ?aS ?aL ?_; (case aP => exact k38_mkM _ _ _ (⟨wrap64 ((x1_3.length : Int) + 1), t342, 0⟩ : S38)); (case aB => exact (by repeat (first | (with_reducible first | exact HB.out | apply below_alloc | apply pw_below_drewN | apply below_drew1 | refine below_set ?_ GE331.out) | exact HB.out))); (case aF => exact (fun _ _ => trivial)); (case aO => exact (by (with_reducible repeat (first | apply Kd.R_alloc | apply Kd.R_drewN | apply Kd.R_drew)); exact HO_1.out)); (case aS => exact (below_size (by repeat (first | (with_reducible first | exact HB.out | apply below_alloc | apply pw_below_drewN | apply below_drew1 | refine below_set ?_ GE331.out) | exact HB.out)))); (case aL => have := LMc37.out; omega); intro v345 w50 ho hb hg hat; rw [← Ny344.out] at ho; have n0_ := Aside0.mk (blk_grown (g := gb331) (o := .cells #[.int .i64 a0_0, .int .i64 a0_1, .int .i64 a0_2, .int .i64 a0_3] 23 (0, 0)) (by (with_reducible repeat (first | refine blk_drewN ?_ _ | refine blk_drew ?_ | refine blk_alloc ?_ _)); exact BK331.out) hg (Kd.R_ne HO_1.out BK331.out (by decide))); have n1_ := Aside0.mk (hb); have n2_ := Aside0.mk (ho); clear BK331; clear HB; clear HO_1; have BK331 := n0_; have HB := n1_; have HO346 := n2_; clear n0_ n1_ n2_; clear ho hb hg hat; have hcz51_0 : w50.cell? ⟨gb331, 0, none⟩ = some (.int .i64 a0_0) := (blk_cell BK331.out 0).trans rfl; have hcz51_1 : w50.cell? ⟨gb331, 1, none⟩ = some (.int .i64 a0_1) := (blk_cell BK331.out 1).trans rfl; have hcz51_2 : w50.cell? ⟨gb331, 2, none⟩ = some (.int .i64 a0_2) := (blk_cell BK331.out 2).trans rfl; have hcz51_3 : w50.cell? ⟨gb331, 3, none⟩ = some (.int .i64 a0_3) := (blk_cell BK331.out 3).trans rfl; have hfz51_0 := blk_frozen BK331.out 0; have hfz51_1 := blk_frozen BK331.out 1; have hfz51_2 := blk_frozen BK331.out 2; have hfz51_3 := blk_frozen BK331.out 3; obtain ⟨Ao52, co52, eo52⟩ := Kd.R_slice HO346.out; subst eo52) | (go_at_call 18; (with_reducible refine (attempts_Valid.calls k3 a0_0 a0_1 a0_2 a0_3 _ _ y344 false _ ?side1 ?side2 A38.out).mono ?_); (case side1 => repeat (first | exact (Kd.R_reads' HO346.out).2.2 | (with_reducible refine Kd.C_alloc ?_ _) | (with_reducible refine Kd.C_drewN ?_ _) | (with_reducible refine Kd.C_drew ?_))); (case side2 => exact (Kd.R_reads' HO346.out).2.1); rintro e w53 ⟨rfl, hb⟩; have n0_ := Aside0.mk (Kd.R_below (by (with_reducible repeat (first | apply Kd.R_alloc | apply Kd.R_drewN | apply Kd.R_drew)); exact HO346.out) hb); have n1_ := Aside0.mk (blk_below (g := gb331) (o := .cells #[.int .i64 a0_0, .int .i64 a0_1, .int .i64 a0_2, .int .i64 a0_3] 23 (0, 0)) (by (with_reducible repeat (first | refine blk_drewN ?_ _ | refine blk_drew ?_ | refine blk_alloc ?_ _)); exact BK331.out) hb); have n2_ := Aside0.mk (below_step (by repeat (first | (with_reducible first | exact HB.out | apply below_alloc | apply pw_below_drewN | apply below_drew1 | refine below_set ?_ GE331.out) | exact HB.out)) hb); clear HO346; clear BK331; clear HB; have HO346 := n0_; have BK331 := n1_; have HB := n2_; clear n0_ n1_ n2_; (try clear hb); (try clear hb2); (try clear hk); (try clear hi))); try go_wp2_with (first | (go_at_call 22; (with_reducible refine (attempts_Earliest.calls k3 a0_0 a0_1 a0_2 a0_3 _ _ x1_3 t342 true _ ?side1 ?side2 A35.out).mono ?_); (case side1 => repeat (first | exact (Kd.R_reads' HO_1.out).2.2 | (with_reducible refine Kd.C_alloc ?_ _) | (with_reducible refine Kd.C_drewN ?_ _) | (with_reducible refine Kd.C_drew ?_))); (case side2 => exact (Kd.R_reads' HO_1.out).2.1); rintro e w49 ⟨rfl, hb⟩; have n0_ := Aside0.mk (Kd.R_below (by (with_reducible repeat (first | apply Kd.R_alloc | apply Kd.R_drewN | apply Kd.R_drew)); exact HO_1.out) hb); have n1_ := Aside0.mk (blk_below (g := gb331) (o := .cells #[.int .i64 a0_0, .int .i64 a0_1, .int .i64 a0_2, .int .i64 a0_3] 23 (0, 0)) (by (with_reducible repeat (first | refine blk_drewN ?_ _ | refine blk_drew ?_ | refine blk_alloc ?_ _)); exact BK331.out) hb); have n2_ := Aside0.mk (below_step (by repeat (first | (with_reducible first | exact HB.out | apply below_alloc | apply pw_below_drewN | apply below_drew1 | refine below_set ?_ GE331.out) | exact HB.out)) hb); clear HO_1; clear BK331; clear HB; have HO_1 := n0_; have BK331 := n1_; have HB := n2_; clear n0_ n1_ n2_; (try clear hb); (try clear hb2); (try clear hk); (try clear hi)) | ((with_reducible refine gate_builtin (b := .append) (xs := #[.tmp 68, .tmp 74]) rfl ?_); (try (refine gate_guard (by rfl) ?_; dsimp only)); at_builtin; refine Kd.R_append k38 (w0 := w) w.heap.size rfl (.tmp 68) (.tmp 74) 24 38 (.agg #[(.int .i64 0), (.int .i64 0), (.int .i64 0)]) 24 rfl Try.underlying24 info38 rfl (by decide) (by omega) (.slice Ao48 x1_3.length co48) x1_3 (⟨wrap64 ((x1_3.length : Int) + 1), t342, 0⟩ : S38) [.int .i64 (wrap64 ((x1_3.length : Int) + 1)), .int .i64 t342, .int .i64 0] (fun _ => True) (fun _ => False) rfl rfl ?aP (fun _ hk => hk.elim) ?aF ?aO ?aB ?aS ?aL ?_; (case aP => exact k38_mkM _ _ _ (⟨wrap64 ((x1_3.length : Int) + 1), t342, 0⟩ : S38)); (case aB => exact (by repeat (first | (with_reducible first | exact HB.out | apply below_alloc | apply pw_below_drewN | apply below_drew1 | refine below_set ?_ GE331.out) | exact HB.out))); (case aF => exact (fun _ _ => trivial)); (case aO => exact (by (with_reducible repeat (first | apply Kd.R_alloc | apply Kd.R_drewN | apply Kd.R_drew)); exact HO_1.out)); (case aS => exact (below_size (by repeat (first | (with_reducible first | exact HB.out | apply below_alloc | apply pw_below_drewN | apply below_drew1 | refine below_set ?_ GE331.out) | exact HB.out)))); (case aL => have := LMc37.out; omega); intro v345 w50 ho hb hg hat; rw [← Ny344.out] at ho; have n0_ := Aside0.mk (blk_grown (g := gb331) (o := .cells #[.int .i64 a0_0, .int .i64 a0_1, .int .i64 a0_2, .int .i64 a0_3] 23 (0, 0)) (by (with_reducible repeat (first | refine blk_drewN ?_ _ | refine blk_drew ?_ | refine blk_alloc ?_ _)); exact BK331.out) hg (Kd.R_ne HO_1.out BK331.out (by decide))); have n1_ := Aside0.mk (hb); have n2_ := Aside0.mk (ho); clear BK331; clear HB; clear HO_1; have BK331 := n0_; have HB := n1_; have HO346 := n2_; clear n0_ n1_ n2_; clear ho hb hg hat; have hcz51_0 : w50.cell? ⟨gb331, 0, none⟩ = some (.int .i64 a0_0) := (blk_cell BK331.out 0).trans rfl; have hcz51_1 : w50.cell? ⟨gb331, 1, none⟩ = some (.int .i64 a0_1) := (blk_cell BK331.out 1).trans rfl; have hcz51_2 : w50.cell? ⟨gb331, 2, none⟩ = some (.int .i64 a0_2) := (blk_cell BK331.out 2).trans rfl; have hcz51_3 : w50.cell? ⟨gb331, 3, none⟩ = some (.int .i64 a0_3) := (blk_cell BK331.out 3).trans rfl; have hfz51_0 := blk_frozen BK331.out 0; have hfz51_1 := blk_frozen BK331.out 1; have hfz51_2 := blk_frozen BK331.out 2; have hfz51_3 := blk_frozen BK331.out 3; obtain ⟨Ao52, co52, eo52⟩ := Kd.R_slice HO346.out; subst eo52) | (go_at_call 18; (with_reducible refine (attempts_Valid.calls k3 a0_0 a0_1 a0_2 a0_3 _ _ y344 false _ ?side1 ?side2 A38.out).mono ?_); (case side1 => repeat (first | exact (Kd.R_reads' HO346.out).2.2 | (with_reducible refine Kd.C_alloc ?_ _) | (with_reducible refine Kd.C_drewN ?_ _) | (with_reducible refine Kd.C_drew ?_))); (case side2 => exact (Kd.R_reads' HO346.out).2.1); rintro e w53 ⟨rfl, hb⟩; have n0_ := Aside0.mk (Kd.R_below (by (with_reducible repeat (first | apply Kd.R_alloc | apply Kd.R_drewN | apply Kd.R_drew)); exact HO346.out) hb); have n1_ := Aside0.mk (blk_below (g := gb331) (o := .cells #[.int .i64 a0_0, .int .i64 a0_1, .int .i64 a0_2, .int .i64 a0_3] 23 (0, 0)) (by (with_reducible repeat (first | refine blk_drewN ?_ _ | refine blk_drew ?_ | refine blk_alloc ?_ _)); exact BK331.out) hb); have n2_ := Aside0.mk (below_step (by repeat (first | (with_reducible first | exact HB.out | apply below_alloc | apply pw_below_drewN | apply below_drew1 | refine below_set ?_ GE331.out) | exact HB.out)) hb); clear HO346; clear BK331; clear HB; have HO346 := n0_; have BK331 := n1_; have HB := n2_; clear n0_ n1_ n2_; (try clear hb); (try clear hb2); (try clear hk); (try clear hi))))
                              go_ret
                              exact ⟨by first | rfl | (simp [errW_none, errW_some] <;> rfl) | (simp [*, errW_none, errW_some] <;> rfl) | (simp [IntKind.wrap_i64, wrap64]; done), by repeat (first | (with_reducible first | exact HB.out | apply below_alloc | apply pw_below_drewN | apply below_drew1 | refine below_set ?_ GE331.out) | exact HB.out)⟩
                          · rw [if_neg c37] at H
                            exact absurd H (by simp)
                        · replace c36 := Bool.eq_false_iff.mpr c36
                          subst c36
                          have H1 : (if (x1_3.length : Int) = a0_1 then (some true) else (if (x1_3.length : Int) > 0 then (if 0 ≤ (wrap64 ((x1_3.length : Int) - 1)) then (if (wrap64 ((x1_3.length : Int) - 1)) < (x1_3.length : Int) then (some (decide (((rd_T38 x1_3 (wrap64 ((x1_3.length : Int) - 1))).f1) > (wrap64 (1099511627776 - a0_2))))) else (none)) else (none)) else (some false))) = some r := by rw [if_neg (show ¬ (false = true) by decide)] at H; exact H
                          clear H
                          have H := H1
                          clear H1
                          by_cases c54 : (x1_3.length : Int) = a0_1
                          · rw [if_pos c54] at H
                            have c54b0 : ((x1_3.length : Int) == a0_1) = true := beq_iff_eq.mpr c54
                            have c54b1 : ((x1_3.length : Int) != a0_1) = false := bne_eq_false_iff_eq.mpr c54
                            clear c54
                            obtain rfl := Option.some.inj H
                            have hcz55_0 : wr.cell? ⟨gb331, 0, none⟩ = some (.int .i64 a0_0) := (blk_cell BK331.out 0).trans rfl
                            have hcz55_1 : wr.cell? ⟨gb331, 1, none⟩ = some (.int .i64 a0_1) := (blk_cell BK331.out 1).trans rfl
                            have hcz55_2 : wr.cell? ⟨gb331, 2, none⟩ = some (.int .i64 a0_2) := (blk_cell BK331.out 2).trans rfl
                            have hcz55_3 : wr.cell? ⟨gb331, 3, none⟩ = some (.int .i64 a0_3) := (blk_cell BK331.out 3).trans rfl
                            have hfz55_0 := blk_frozen BK331.out 0
                            have hfz55_1 := blk_frozen BK331.out 1
                            have hfz55_2 := blk_frozen BK331.out 2
                            have hfz55_3 := blk_frozen BK331.out 3
                            obtain ⟨Ao56, co56, eo56⟩ := Kd.R_slice HO_1.out
                            subst eo56
                            go_wp2_with (first | (go_at_call 22; (with_reducible refine (attempts_Earliest.calls k3 a0_0 a0_1 a0_2 a0_3 _ _ x1_3 t342 false _ ?side1 ?side2 A35.out).mono ?_); (case side1 => repeat (first | exact (Kd.R_reads' HO_1.out).2.2 | (with_reducible refine Kd.C_alloc ?_ _) | (with_reducible refine Kd.C_drewN ?_ _) | (with_reducible refine Kd.C_drew ?_))); (case side2 => exact (Kd.R_reads' HO_1.out).2.1); rintro e w57 ⟨rfl, hb⟩; have n0_ := Aside0.mk (Kd.R_below (by (with_reducible repeat (first | apply Kd.R_alloc | apply Kd.R_drewN | apply Kd.R_drew)); exact HO_1.out) hb); have n1_ := Aside0.mk (blk_below (g := gb331) (o := .cells #[.int .i64 a0_0, .int .i64 a0_1, .int .i64 a0_2, .int .i64 a0_3] 23 (0, 0)) (by (with_reducible repeat (first | refine blk_drewN ?_ _ | refine blk_drew ?_ | refine blk_alloc ?_ _)); exact BK331.out) hb); have n2_ := Aside0.mk (below_step (by repeat (first | (with_reducible first | exact HB.out | apply below_alloc | apply pw_below_drewN | apply below_drew1 | refine below_set ?_ GE331.out) | exact HB.out)) hb); clear HO_1; clear BK331; clear HB; have HO_1 := n0_; have BK331 := n1_; have HB := n2_; clear n0_ n1_ n2_; (try clear hb); (try clear hb2); (try clear hk); (try clear hi); have hcz58_0 : w57.cell? ⟨gb331, 0, none⟩ = some (.int .i64 a0_0) := (blk_cell BK331.out 0).trans rfl; have hcz58_1 : w57.cell? ⟨gb331, 1, none⟩ = some (.int .i64 a0_1) := (blk_cell BK331.out 1).trans rfl; have hcz58_2 : w57.cell? ⟨gb331, 2, none⟩ = some (.int .i64 a0_2) := (blk_cell BK331.out 2).trans rfl; have hcz58_3 : w57.cell? ⟨gb331, 3, none⟩ = some (.int .i64 a0_3) := (blk_cell BK331.out 3).trans rfl; have hfz58_0 := blk_frozen BK331.out 0; have hfz58_1 := blk_frozen BK331.out 1; have hfz58_2 := blk_frozen BK331.out 2; have hfz58_3 := blk_frozen BK331.out 3))
                            repeat (go_quiet (first | (go_at_call 22; (with_reducible refine (attempts_Earliest.calls k3 a0_0 a0_1 a0_2 a0_3 _ _ x1_3 t342 false _ ?side1 ?side2 A35.out).mono ?_); (case side1 => repeat (first | exact (Kd.R_reads' HO_1.out).2.2 | (with_reducible refine Kd.C_alloc ?_ _) | (with_reducible refine Kd.C_drewN ?_ _) | (with_reducible refine Kd.C_drew ?_))); (case side2 => exact (Kd.R_reads' HO_1.out).2.1); rintro e w57 ⟨rfl, hb⟩; have n0_ := Aside0.mk (Kd.R_below (by (with_reducible repeat (first | apply Kd.R_alloc | apply Kd.R_drewN | apply Kd.R_drew)); exact HO_1.out) hb); have n1_ := Aside0.mk (blk_below (g := gb331) (o := .cells #[.int .i64 a0_0, .int .i64 a0_1, .int .i64 a0_2, .int .i64 a0_3] 23 (0, 0)) (by (with_reducible repeat (first | refine blk_drewN ?_ _ | refine blk_drew ?_ | refine blk_alloc ?_ _)); exact BK331.out) hb); have n2_ := Aside0.mk (below_step (by repeat (first | (with_reducible first | exact HB.out | apply below_alloc | apply pw_below_drewN | apply below_drew1 | refine below_set ?_ GE331.out) | exact HB.out)) hb); clear HO_1; clear BK331; clear HB; have HO_1 := n0_; have BK331 := n1_; have HB := n2_; clear n0_ n1_ n2_; (try clear hb); (try clear hb2); (try clear hk); (try clear hi); have hcz58_0 : w57.cell? ⟨gb331, 0, none⟩ = some (.int .i64 a0_0) := (blk_cell BK331.out 0).trans rfl; have hcz58_1 : w57.cell? ⟨gb331, 1, none⟩ = some (.int .i64 a0_1) := (blk_cell BK331.out 1).trans rfl; have hcz58_2 : w57.cell? ⟨gb331, 2, none⟩ = some (.int .i64 a0_2) := (blk_cell BK331.out 2).trans rfl; have hcz58_3 : w57.cell? ⟨gb331, 3, none⟩ = some (.int .i64 a0_3) := (blk_cell BK331.out 3).trans rfl; have hfz58_0 := blk_frozen BK331.out 0; have hfz58_1 := blk_frozen BK331.out 1; have hfz58_2 := blk_frozen BK331.out 2; have hfz58_3 := blk_frozen BK331.out 3)); try go_wp2_with (first | (go_at_call 22; (with_reducible refine (attempts_Earliest.calls k3 a0_0 a0_1 a0_2 a0_3 _ _ x1_3 t342 false _ ?side1 ?side2 A35.out).mono ?_); (case side1 => repeat (first | exact (Kd.R_reads' HO_1.out).2.2 | (with_reducible refine Kd.C_alloc ?_ _) | (with_reducible refine Kd.C_drewN ?_ _) | (with_reducible refine Kd.C_drew ?_))); (case side2 => exact (Kd.R_reads' HO_1.out).2.1); rintro e w57 ⟨rfl, hb⟩; have n0_ := Aside0.mk (Kd.R_below (by (with_reducible repeat (first | apply Kd.R_alloc | apply Kd.R_drewN | apply Kd.R_drew)); exact HO_1.out) hb); have n1_ := Aside0.mk (blk_below (g := gb331) (o := .cells #[.int .i64 a0_0, .int .i64 a0_1, .int .i64 a0_2, .int .i64 a0_3] 23 (0, 0)) (by (with_reducible repeat (first | refine blk_drewN ?_ _ | refine blk_drew ?_ | refine blk_alloc ?_ _)); exact BK331.out) hb); have n2_ := Aside0.mk (below_step (by repeat (first | (with_reducible first | exact HB.out | apply below_alloc | apply pw_below_drewN | apply below_drew1 | refine below_set ?_ GE331.out) | exact HB.out)) hb); clear HO_1; clear BK331; clear HB; have HO_1 := n0_; have BK331 := n1_; have HB := n2_; clear n0_ n1_ n2_; (try clear hb); (try clear hb2); (try clear hk); (try clear hi); have hcz58_0 : w57.cell? ⟨gb331, 0, none⟩ = some (.int .i64 a0_0) := (blk_cell BK331.out 0).trans rfl; have hcz58_1 : w57.cell? ⟨gb331, 1, none⟩ = some (.int .i64 a0_1) := (blk_cell BK331.out 1).trans rfl; have hcz58_2 : w57.cell? ⟨gb331, 2, none⟩ = some (.int .i64 a0_2) := (blk_cell BK331.out 2).trans rfl; have hcz58_3 : w57.cell? ⟨gb331, 3, none⟩ = some (.int .i64 a0_3) := (blk_cell BK331.out 3).trans rfl; have hfz58_0 := blk_frozen BK331.out 0; have hfz58_1 := blk_frozen BK331.out 1; have hfz58_2 := blk_frozen BK331.out 2; have hfz58_3 := blk_frozen BK331.out 3)))
                            go_ret
                            exact ⟨by first | rfl | (simp [errW_none, errW_some] <;> rfl) | (simp [*, errW_none, errW_some] <;> rfl) | (simp [IntKind.wrap_i64, wrap64]; done), by repeat (first | (with_reducible first | exact HB.out | apply below_alloc | apply pw_below_drewN | apply below_drew1 | refine below_set ?_ GE331.out) | exact HB.out)⟩
                          · rw [if_neg c54] at H
                            have c54b0 : ((x1_3.length : Int) == a0_1) = false := beq_eq_false_iff_ne.mpr c54
                            have c54b1 : ((x1_3.length : Int) != a0_1) = true := bne_iff_ne.mpr c54
                            by_cases c59 : (x1_3.length : Int) > 0
                            · rw [if_pos c59] at H
                              have c59b0 : decide (0 < (x1_3.length : Int)) = true := decide_eq_true c59
                              have c59b1 : decide (0 < x1_3.length) = true := decide_eq_true (by omega)
                              clear c59
                              obtain ⟨ji60, hji60⟩ : ∃ j_ : Int, (wrap64 ((x1_3.length : Int) - 1)) = j_ := ⟨_, rfl⟩
                              replace H : (if 0 ≤ (ji60) then (if (ji60) < (x1_3.length : Int) then (some (decide (((rd_T38 x1_3 (ji60)).f1) > (wrap64 (1099511627776 - a0_2))))) else (none)) else (none)) = some r := by first | (rw [hji60] at H; exact H) | (simp only [hji60] at H ⊢; exact H)
                              (try rw [hji60] at A35)
                              have hji60w : (IntKind.i64.wrap ((x1_3.length : Int) - 1)) = ji60 := (i64_w _).trans hji60
                              by_cases c61 : 0 ≤ (ji60)
                              · rw [if_pos c61] at H
                                have c61b0 : decide (0 ≤ (ji60)) = true := decide_eq_true c61
                                clear c61
                                by_cases c62 : (ji60) < (x1_3.length : Int)
                                · rw [if_pos c62] at H
                                  have c62b0 : decide ((ji60) < (x1_3.length : Int)) = true := decide_eq_true c62
                                  clear c62
                                  obtain rfl := Option.some.inj H
                                  have hcz63_0 : wr.cell? ⟨gb331, 0, none⟩ = some (.int .i64 a0_0) := (blk_cell BK331.out 0).trans rfl
                                  have hcz63_1 : wr.cell? ⟨gb331, 1, none⟩ = some (.int .i64 a0_1) := (blk_cell BK331.out 1).trans rfl
                                  have hcz63_2 : wr.cell? ⟨gb331, 2, none⟩ = some (.int .i64 a0_2) := (blk_cell BK331.out 2).trans rfl
                                  have hcz63_3 : wr.cell? ⟨gb331, 3, none⟩ = some (.int .i64 a0_3) := (blk_cell BK331.out 3).trans rfl
                                  have hfz63_0 := blk_frozen BK331.out 0
                                  have hfz63_1 := blk_frozen BK331.out 1
                                  have hfz63_2 := blk_frozen BK331.out 2
                                  have hfz63_3 := blk_frozen BK331.out 3
                                  obtain ⟨Ao64, co64, eo64⟩ := Kd.R_slice HO_1.out
                                  subst eo64
                                  go_wp2_with (first | (go_at_call 22; (with_reducible refine (attempts_Earliest.calls k3 a0_0 a0_1 a0_2 a0_3 _ _ x1_3 t342 false _ ?side1 ?side2 A35.out).mono ?_); (case side1 => repeat (first | exact (Kd.R_reads' HO_1.out).2.2 | (with_reducible refine Kd.C_alloc ?_ _) | (with_reducible refine Kd.C_drewN ?_ _) | (with_reducible refine Kd.C_drew ?_))); (case side2 => exact (Kd.R_reads' HO_1.out).2.1); rintro e w65 ⟨rfl, hb⟩; have n0_ := Aside0.mk (Kd.R_below (by (with_reducible repeat (first | apply Kd.R_alloc | apply Kd.R_drewN | apply Kd.R_drew)); exact HO_1.out) hb); have n1_ := Aside0.mk (blk_below (g := gb331) (o := .cells #[.int .i64 a0_0, .int .i64 a0_1, .int .i64 a0_2, .int .i64 a0_3] 23 (0, 0)) (by (with_reducible repeat (first | refine blk_drewN ?_ _ | refine blk_drew ?_ | refine blk_alloc ?_ _)); exact BK331.out) hb); have n2_ := Aside0.mk (below_step (by repeat (first | (with_reducible first | exact HB.out | apply below_alloc | apply pw_below_drewN | apply below_drew1 | refine below_set ?_ GE331.out) | exact HB.out)) hb); clear HO_1; clear BK331; clear HB; have HO_1 := n0_; have BK331 := n1_; have HB := n2_; clear n0_ n1_ n2_; (try clear hb); (try clear hb2); (try clear hk); (try clear hi); have hcz66_0 : w65.cell? ⟨gb331, 0, none⟩ = some (.int .i64 a0_0) := (blk_cell BK331.out 0).trans rfl; have hcz66_1 : w65.cell? ⟨gb331, 1, none⟩ = some (.int .i64 a0_1) := (blk_cell BK331.out 1).trans rfl; have hcz66_2 : w65.cell? ⟨gb331, 2, none⟩ = some (.int .i64 a0_2) := (blk_cell BK331.out 2).trans rfl; have hcz66_3 : w65.cell? ⟨gb331, 3, none⟩ = some (.int .i64 a0_3) := (blk_cell BK331.out 3).trans rfl; have hfz66_0 := blk_frozen BK331.out 0; have hfz66_1 := blk_frozen BK331.out 1; have hfz66_2 := blk_frozen BK331.out 2; have hfz66_3 := blk_frozen BK331.out 3; have p348 : 0 ≤ ((ji60) : Int) := of_decide_eq_true (by first | (with_reducible assumption) | assumption); have q348 : (ji60) < (x1_3.length : Int) := of_decide_eq_true (by first | (with_reducible assumption) | assumption); obtain ⟨ad348, e348, hx348_0, hx348_1, hx348_2⟩ := at_T38 (Kd.R_reads' HO_1.out).2.2 (ji60) p348 q348; cases e348; replace p348 := eq_true p348; replace q348 := eq_true q348))
                                  repeat (go_quiet (first | (go_at_call 22; (with_reducible refine (attempts_Earliest.calls k3 a0_0 a0_1 a0_2 a0_3 _ _ x1_3 t342 false _ ?side1 ?side2 A35.out).mono ?_); (case side1 => repeat (first | exact (Kd.R_reads' HO_1.out).2.2 | (with_reducible refine Kd.C_alloc ?_ _) | (with_reducible refine Kd.C_drewN ?_ _) | (with_reducible refine Kd.C_drew ?_))); (case side2 => exact (Kd.R_reads' HO_1.out).2.1); rintro e w65 ⟨rfl, hb⟩; have n0_ := Aside0.mk (Kd.R_below (by (with_reducible repeat (first | apply Kd.R_alloc | apply Kd.R_drewN | apply Kd.R_drew)); exact HO_1.out) hb); have n1_ := Aside0.mk (blk_below (g := gb331) (o := .cells #[.int .i64 a0_0, .int .i64 a0_1, .int .i64 a0_2, .int .i64 a0_3] 23 (0, 0)) (by (with_reducible repeat (first | refine blk_drewN ?_ _ | refine blk_drew ?_ | refine blk_alloc ?_ _)); exact BK331.out) hb); have n2_ := Aside0.mk (below_step (by repeat (first | (with_reducible first | exact HB.out | apply below_alloc | apply pw_below_drewN | apply below_drew1 | refine below_set ?_ GE331.out) | exact HB.out)) hb); clear HO_1; clear BK331; clear HB; have HO_1 := n0_; have BK331 := n1_; have HB := n2_; clear n0_ n1_ n2_; (try clear hb); (try clear hb2); (try clear hk); (try clear hi); have hcz66_0 : w65.cell? ⟨gb331, 0, none⟩ = some (.int .i64 a0_0) := (blk_cell BK331.out 0).trans rfl; have hcz66_1 : w65.cell? ⟨gb331, 1, none⟩ = some (.int .i64 a0_1) := (blk_cell BK331.out 1).trans rfl; have hcz66_2 : w65.cell? ⟨gb331, 2, none⟩ = some (.int .i64 a0_2) := (blk_cell BK331.out 2).trans rfl; have hcz66_3 : w65.cell? ⟨gb331, 3, none⟩ = some (.int .i64 a0_3) := (blk_cell BK331.out 3).trans rfl; have hfz66_0 := blk_frozen BK331.out 0; have hfz66_1 := blk_frozen BK331.out 1; have hfz66_2 := blk_frozen BK331.out 2; have hfz66_3 := blk_frozen BK331.out 3; have p348 : 0 ≤ ((ji60) : Int) := of_decide_eq_true (by first | (with_reducible assumption) | assumption); have q348 : (ji60) < (x1_3.length : Int) := of_decide_eq_true (by first | (with_reducible assumption) | assumption); obtain ⟨ad348, e348, hx348_0, hx348_1, hx348_2⟩ := at_T38 (Kd.R_reads' HO_1.out).2.2 (ji60) p348 q348; cases e348; replace p348 := eq_true p348; replace q348 := eq_true q348)); try go_wp2_with (first | (go_at_call 22; (with_reducible refine (attempts_Earliest.calls k3 a0_0 a0_1 a0_2 a0_3 _ _ x1_3 t342 false _ ?side1 ?side2 A35.out).mono ?_); (case side1 => repeat (first | exact (Kd.R_reads' HO_1.out).2.2 | (with_reducible refine Kd.C_alloc ?_ _) | (with_reducible refine Kd.C_drewN ?_ _) | (with_reducible refine Kd.C_drew ?_))); (case side2 => exact (Kd.R_reads' HO_1.out).2.1); rintro e w65 ⟨rfl, hb⟩; have n0_ := Aside0.mk (Kd.R_below (by (with_reducible repeat (first | apply Kd.R_alloc | apply Kd.R_drewN | apply Kd.R_drew)); exact HO_1.out) hb); have n1_ := Aside0.mk (blk_below (g := gb331) (o := .cells #[.int .i64 a0_0, .int .i64 a0_1, .int .i64 a0_2, .int .i64 a0_3] 23 (0, 0)) (by (with_reducible repeat (first | refine blk_drewN ?_ _ | refine blk_drew ?_ | refine blk_alloc ?_ _)); exact BK331.out) hb); have n2_ := Aside0.mk (below_step (by repeat (first | (with_reducible first | exact HB.out | apply below_alloc | apply pw_below_drewN | apply below_drew1 | refine below_set ?_ GE331.out) | exact HB.out)) hb); clear HO_1; clear BK331; clear HB; have HO_1 := n0_; have BK331 := n1_; have HB := n2_; clear n0_ n1_ n2_; (try clear hb); (try clear hb2); (try clear hk); (try clear hi); have hcz66_0 : w65.cell? ⟨gb331, 0, none⟩ = some (.int .i64 a0_0) := (blk_cell BK331.out 0).trans rfl; have hcz66_1 : w65.cell? ⟨gb331, 1, none⟩ = some (.int .i64 a0_1) := (blk_cell BK331.out 1).trans rfl; have hcz66_2 : w65.cell? ⟨gb331, 2, none⟩ = some (.int .i64 a0_2) := (blk_cell BK331.out 2).trans rfl; have hcz66_3 : w65.cell? ⟨gb331, 3, none⟩ = some (.int .i64 a0_3) := (blk_cell BK331.out 3).trans rfl; have hfz66_0 := blk_frozen BK331.out 0; have hfz66_1 := blk_frozen BK331.out 1; have hfz66_2 := blk_frozen BK331.out 2; have hfz66_3 := blk_frozen BK331.out 3; have p348 : 0 ≤ ((ji60) : Int) := of_decide_eq_true (by first | (with_reducible assumption) | assumption); have q348 : (ji60) < (x1_3.length : Int) := of_decide_eq_true (by first | (with_reducible assumption) | assumption); obtain ⟨ad348, e348, hx348_0, hx348_1, hx348_2⟩ := at_T38 (Kd.R_reads' HO_1.out).2.2 (ji60) p348 q348; cases e348; replace p348 := eq_true p348; replace q348 := eq_true q348)))
                                  go_ret
                                  exact ⟨by first | rfl | (simp [errW_none, errW_some] <;> rfl) | (simp only [← hji60]; first | rfl | (simp [errW_none, errW_some] <;> rfl)) | (simp [*, errW_none, errW_some] <;> rfl) | (simp [IntKind.wrap_i64, wrap64]; done), by repeat (first | (with_reducible first | exact HB.out | apply below_alloc | apply pw_below_drewN | apply below_drew1 | refine below_set ?_ GE331.out) | exact HB.out)⟩
                                · rw [if_neg c62] at H
                                  exact absurd H (by simp)
                              · rw [if_neg c61] at H
                                exact absurd H (by simp)
                            · rw [if_neg c59] at H
                              have c59b0 : decide (0 < (x1_3.length : Int)) = false := decide_eq_false c59
                              have c59b1 : decide (0 < x1_3.length) = false := decide_eq_false (by omega)
                              clear c59
                              obtain rfl := Option.some.inj H
                              have hcz67_0 : wr.cell? ⟨gb331, 0, none⟩ = some (.int .i64 a0_0) := (blk_cell BK331.out 0).trans rfl
                              have hcz67_1 : wr.cell? ⟨gb331, 1, none⟩ = some (.int .i64 a0_1) := (blk_cell BK331.out 1).trans rfl
                              have hcz67_2 : wr.cell? ⟨gb331, 2, none⟩ = some (.int .i64 a0_2) := (blk_cell BK331.out 2).trans rfl
                              have hcz67_3 : wr.cell? ⟨gb331, 3, none⟩ = some (.int .i64 a0_3) := (blk_cell BK331.out 3).trans rfl
                              have hfz67_0 := blk_frozen BK331.out 0
                              have hfz67_1 := blk_frozen BK331.out 1
                              have hfz67_2 := blk_frozen BK331.out 2
                              have hfz67_3 := blk_frozen BK331.out 3
                              obtain ⟨Ao68, co68, eo68⟩ := Kd.R_slice HO_1.out
                              subst eo68
                              go_wp2_with (first | (go_at_call 22; (with_reducible refine (attempts_Earliest.calls k3 a0_0 a0_1 a0_2 a0_3 _ _ x1_3 t342 false _ ?side1 ?side2 A35.out).mono ?_); (case side1 => repeat (first | exact (Kd.R_reads' HO_1.out).2.2 | (with_reducible refine Kd.C_alloc ?_ _) | (with_reducible refine Kd.C_drewN ?_ _) | (with_reducible refine Kd.C_drew ?_))); (case side2 => exact (Kd.R_reads' HO_1.out).2.1); rintro e w69 ⟨rfl, hb⟩; have n0_ := Aside0.mk (Kd.R_below (by (with_reducible repeat (first | apply Kd.R_alloc | apply Kd.R_drewN | apply Kd.R_drew)); exact HO_1.out) hb); have n1_ := Aside0.mk (blk_below (g := gb331) (o := .cells #[.int .i64 a0_0, .int .i64 a0_1, .int .i64 a0_2, .int .i64 a0_3] 23 (0, 0)) (by (with_reducible repeat (first | refine blk_drewN ?_ _ | refine blk_drew ?_ | refine blk_alloc ?_ _)); exact BK331.out) hb); have n2_ := Aside0.mk (below_step (by repeat (first | (with_reducible first | exact HB.out | apply below_alloc | apply pw_below_drewN | apply below_drew1 | refine below_set ?_ GE331.out) | exact HB.out)) hb); clear HO_1; clear BK331; clear HB; have HO_1 := n0_; have BK331 := n1_; have HB := n2_; clear n0_ n1_ n2_; (try clear hb); (try clear hb2); (try clear hk); (try clear hi); have hcz70_0 : w69.cell? ⟨gb331, 0, none⟩ = some (.int .i64 a0_0) := (blk_cell BK331.out 0).trans rfl; have hcz70_1 : w69.cell? ⟨gb331, 1, none⟩ = some (.int .i64 a0_1) := (blk_cell BK331.out 1).trans rfl; have hcz70_2 : w69.cell? ⟨gb331, 2, none⟩ = some (.int .i64 a0_2) := (blk_cell BK331.out 2).trans rfl; have hcz70_3 : w69.cell? ⟨gb331, 3, none⟩ = some (.int .i64 a0_3) := (blk_cell BK331.out 3).trans rfl; have hfz70_0 := blk_frozen BK331.out 0; have hfz70_1 := blk_frozen BK331.out 1; have hfz70_2 := blk_frozen BK331.out 2; have hfz70_3 := blk_frozen BK331.out 3))
                              repeat (go_quiet (first | (go_at_call 22; (with_reducible refine (attempts_Earliest.calls k3 a0_0 a0_1 a0_2 a0_3 _ _ x1_3 t342 false _ ?side1 ?side2 A35.out).mono ?_); (case side1 => repeat (first | exact (Kd.R_reads' HO_1.out).2.2 | (with_reducible refine Kd.C_alloc ?_ _) | (with_reducible refine Kd.C_drewN ?_ _) | (with_reducible refine Kd.C_drew ?_))); (case side2 => exact (Kd.R_reads' HO_1.out).2.1); rintro e w69 ⟨rfl, hb⟩; have n0_ := Aside0.mk (Kd.R_below (by (with_reducible repeat (first | apply Kd.R_alloc | apply Kd.R_drewN | apply Kd.R_drew)); exact HO_1.out) hb); have n1_ := Aside0.mk (blk_below (g := gb331) (o := .cells #[.int .i64 a0_0, .int .i64 a0_1, .int .i64 a0_2, .int .i64 a0_3] 23 (0, 0)) (by (with_reducible repeat (first | refine blk_drewN ?_ _ | refine blk_drew ?_ | refine blk_alloc ?_ _)); exact BK331.out) hb); have n2_ := Aside0.mk (below_step (by repeat (first | (with_reducible first | exact HB.out | apply below_alloc | apply pw_below_drewN | apply below_drew1 | refine below_set ?_ GE331.out) | exact HB.out)) hb); clear HO_1; clear BK331; clear HB; have HO_1 := n0_; have BK331 := n1_; have HB := n2_; clear n0_ n1_ n2_; (try clear hb); (try clear hb2); (try clear hk); (try clear hi); have hcz70_0 : w69.cell? ⟨gb331, 0, none⟩ = some (.int .i64 a0_0) := (blk_cell BK331.out 0).trans rfl; have hcz70_1 : w69.cell? ⟨gb331, 1, none⟩ = some (.int .i64 a0_1) := (blk_cell BK331.out 1).trans rfl; have hcz70_2 : w69.cell? ⟨gb331, 2, none⟩ = some (.int .i64 a0_2) := (blk_cell BK331.out 2).trans rfl; have hcz70_3 : w69.cell? ⟨gb331, 3, none⟩ = some (.int .i64 a0_3) := (blk_cell BK331.out 3).trans rfl; have hfz70_0 := blk_frozen BK331.out 0; have hfz70_1 := blk_frozen BK331.out 1; have hfz70_2 := blk_frozen BK331.out 2; have hfz70_3 := blk_frozen BK331.out 3)); try go_wp2_with (first | (go_at_call 22; (with_reducible refine (attempts_Earliest.calls k3 a0_0 a0_1 a0_2 a0_3 _ _ x1_3 t342 false _ ?side1 ?side2 A35.out).mono ?_); (case side1 => repeat (first | exact (Kd.R_reads' HO_1.out).2.2 | (with_reducible refine Kd.C_alloc ?_ _) | (with_reducible refine Kd.C_drewN ?_ _) | (with_reducible refine Kd.C_drew ?_))); (case side2 => exact (Kd.R_reads' HO_1.out).2.1); rintro e w69 ⟨rfl, hb⟩; have n0_ := Aside0.mk (Kd.R_below (by (with_reducible repeat (first | apply Kd.R_alloc | apply Kd.R_drewN | apply Kd.R_drew)); exact HO_1.out) hb); have n1_ := Aside0.mk (blk_below (g := gb331) (o := .cells #[.int .i64 a0_0, .int .i64 a0_1, .int .i64 a0_2, .int .i64 a0_3] 23 (0, 0)) (by (with_reducible repeat (first | refine blk_drewN ?_ _ | refine blk_drew ?_ | refine blk_alloc ?_ _)); exact BK331.out) hb); have n2_ := Aside0.mk (below_step (by repeat (first | (with_reducible first | exact HB.out | apply below_alloc | apply pw_below_drewN | apply below_drew1 | refine below_set ?_ GE331.out) | exact HB.out)) hb); clear HO_1; clear BK331; clear HB; have HO_1 := n0_; have BK331 := n1_; have HB := n2_; clear n0_ n1_ n2_; (try clear hb); (try clear hb2); (try clear hk); (try clear hi); have hcz70_0 : w69.cell? ⟨gb331, 0, none⟩ = some (.int .i64 a0_0) := (blk_cell BK331.out 0).trans rfl; have hcz70_1 : w69.cell? ⟨gb331, 1, none⟩ = some (.int .i64 a0_1) := (blk_cell BK331.out 1).trans rfl; have hcz70_2 : w69.cell? ⟨gb331, 2, none⟩ = some (.int .i64 a0_2) := (blk_cell BK331.out 2).trans rfl; have hcz70_3 : w69.cell? ⟨gb331, 3, none⟩ = some (.int .i64 a0_3) := (blk_cell BK331.out 3).trans rfl; have hfz70_0 := blk_frozen BK331.out 0; have hfz70_1 := blk_frozen BK331.out 1; have hfz70_2 := blk_frozen BK331.out 2; have hfz70_3 := blk_frozen BK331.out 3)))
                              go_ret
                              exact ⟨by first | rfl | (simp [errW_none, errW_some] <;> rfl) | (simp [*, errW_none, errW_some] <;> rfl) | (simp [IntKind.wrap_i64, wrap64]; done), by repeat (first | (with_reducible first | exact HB.out | apply below_alloc | apply pw_below_drewN | apply below_drew1 | refine below_set ?_ GE331.out) | exact HB.out)⟩
                      · rw [if_neg c34] at H
                        have c34b0 : decide (x58_3 < 17) = false := decide_eq_false c34
                        clear c34
                        by_cases c71 : x8_3 = true
                        · subst c71
                          have H1 : (some false) = some r := by rw [if_pos rfl] at H; exact H
                          clear H
                          have H := H1
                          clear H1
                          obtain rfl := Option.some.inj H
                          go_wp2
                          repeat (go_quiet (fail); try go_wp2)
                          go_ret
                          exact ⟨by first | rfl | (simp [errW_none, errW_some] <;> rfl) | (simp [*, errW_none, errW_some] <;> rfl) | (simp [IntKind.wrap_i64, wrap64]; done), by repeat (first | (with_reducible first | exact HB.out | apply below_alloc | apply pw_below_drewN | apply below_drew1 | refine below_set ?_ GE331.out) | exact HB.out)⟩
                        · replace c71 := Bool.eq_false_iff.mpr c71
                          subst c71
                          have H1 : (if (x1_3.length : Int) = a0_1 then (some true) else (if (x1_3.length : Int) > 0 then (if 0 ≤ (wrap64 ((x1_3.length : Int) - 1)) then (if (wrap64 ((x1_3.length : Int) - 1)) < (x1_3.length : Int) then (some (decide (((rd_T38 x1_3 (wrap64 ((x1_3.length : Int) - 1))).f1) > (wrap64 (1099511627776 - a0_2))))) else (none)) else (none)) else (some false))) = some r := by rw [if_neg (show ¬ (false = true) by decide)] at H; exact H
                          clear H
                          have H := H1
                          clear H1
                          by_cases c72 : (x1_3.length : Int) = a0_1
                          · rw [if_pos c72] at H
                            have c72b0 : ((x1_3.length : Int) == a0_1) = true := beq_iff_eq.mpr c72
                            have c72b1 : ((x1_3.length : Int) != a0_1) = false := bne_eq_false_iff_eq.mpr c72
                            clear c72
                            obtain rfl := Option.some.inj H
                            obtain ⟨Ao73, co73, eo73⟩ := Kd.R_slice HO_1.out
                            subst eo73
                            have hcz74_0 : wr.cell? ⟨gb331, 0, none⟩ = some (.int .i64 a0_0) := (blk_cell BK331.out 0).trans rfl
                            have hcz74_1 : wr.cell? ⟨gb331, 1, none⟩ = some (.int .i64 a0_1) := (blk_cell BK331.out 1).trans rfl
                            have hcz74_2 : wr.cell? ⟨gb331, 2, none⟩ = some (.int .i64 a0_2) := (blk_cell BK331.out 2).trans rfl
                            have hcz74_3 : wr.cell? ⟨gb331, 3, none⟩ = some (.int .i64 a0_3) := (blk_cell BK331.out 3).trans rfl
                            have hfz74_0 := blk_frozen BK331.out 0
                            have hfz74_1 := blk_frozen BK331.out 1
                            have hfz74_2 := blk_frozen BK331.out 2
                            have hfz74_3 := blk_frozen BK331.out 3
                            go_wp2
                            repeat (go_quiet (fail); try go_wp2)
                            go_ret
                            exact ⟨by first | rfl | (simp [errW_none, errW_some] <;> rfl) | (simp [*, errW_none, errW_some] <;> rfl) | (simp [IntKind.wrap_i64, wrap64]; done), by repeat (first | (with_reducible first | exact HB.out | apply below_alloc | apply pw_below_drewN | apply below_drew1 | refine below_set ?_ GE331.out) | exact HB.out)⟩
                          · rw [if_neg c72] at H
                            have c72b0 : ((x1_3.length : Int) == a0_1) = false := beq_eq_false_iff_ne.mpr c72
                            have c72b1 : ((x1_3.length : Int) != a0_1) = true := bne_iff_ne.mpr c72
                            by_cases c75 : (x1_3.length : Int) > 0
                            · rw [if_pos c75] at H
                              have c75b0 : decide (0 < (x1_3.length : Int)) = true := decide_eq_true c75
                              have c75b1 : decide (0 < x1_3.length) = true := decide_eq_true (by omega)
                              clear c75
                              obtain ⟨ji76, hji76⟩ : ∃ j_ : Int, (wrap64 ((x1_3.length : Int) - 1)) = j_ := ⟨_, rfl⟩
                              replace H : (if 0 ≤ (ji76) then (if (ji76) < (x1_3.length : Int) then (some (decide (((rd_T38 x1_3 (ji76)).f1) > (wrap64 (1099511627776 - a0_2))))) else (none)) else (none)) = some r := by first | (rw [hji76] at H; exact H) | (simp only [hji76] at H ⊢; exact H)
                              have hji76w : (IntKind.i64.wrap ((x1_3.length : Int) - 1)) = ji76 := (i64_w _).trans hji76
                              by_cases c77 : 0 ≤ (ji76)
                              · rw [if_pos c77] at H
                                have c77b0 : decide (0 ≤ (ji76)) = true := decide_eq_true c77
                                clear c77
                                by_cases c78 : (ji76) < (x1_3.length : Int)
                                · rw [if_pos c78] at H
                                  have c78b0 : decide ((ji76) < (x1_3.length : Int)) = true := decide_eq_true c78
                                  clear c78
                                  obtain rfl := Option.some.inj H
                                  obtain ⟨Ao79, co79, eo79⟩ := Kd.R_slice HO_1.out
                                  subst eo79
                                  have hcz80_0 : wr.cell? ⟨gb331, 0, none⟩ = some (.int .i64 a0_0) := (blk_cell BK331.out 0).trans rfl
                                  have hcz80_1 : wr.cell? ⟨gb331, 1, none⟩ = some (.int .i64 a0_1) := (blk_cell BK331.out 1).trans rfl
                                  have hcz80_2 : wr.cell? ⟨gb331, 2, none⟩ = some (.int .i64 a0_2) := (blk_cell BK331.out 2).trans rfl
                                  have hcz80_3 : wr.cell? ⟨gb331, 3, none⟩ = some (.int .i64 a0_3) := (blk_cell BK331.out 3).trans rfl
                                  have hfz80_0 := blk_frozen BK331.out 0
                                  have hfz80_1 := blk_frozen BK331.out 1
                                  have hfz80_2 := blk_frozen BK331.out 2
                                  have hfz80_3 := blk_frozen BK331.out 3
                                  have p341 : 0 ≤ ((ji76) : Int) := of_decide_eq_true (by first | (with_reducible assumption) | assumption)
                                  have q341 : (ji76) < (x1_3.length : Int) := of_decide_eq_true (by first | (with_reducible assumption) | assumption)
                                  obtain ⟨ad341, e341, hx341_0, hx341_1, hx341_2⟩ := at_T38 (Kd.R_reads' HO_1.out).2.2 (ji76) p341 q341
                                  cases e341
                                  replace p341 := eq_true p341
                                  replace q341 := eq_true q341
                                  go_wp2
                                  repeat (go_quiet (fail); try go_wp2)
                                  go_ret
                                  exact ⟨by first | rfl | (simp [errW_none, errW_some] <;> rfl) | (simp only [← hji76]; first | rfl | (simp [errW_none, errW_some] <;> rfl)) | (simp [*, errW_none, errW_some] <;> rfl) | (simp [IntKind.wrap_i64, wrap64]; done), by repeat (first | (with_reducible first | exact HB.out | apply below_alloc | apply pw_below_drewN | apply below_drew1 | refine below_set ?_ GE331.out) | exact HB.out)⟩
                                · rw [if_neg c78] at H
                                  exact absurd H (by simp)
                              · rw [if_neg c77] at H
                                exact absurd H (by simp)
                            · rw [if_neg c75] at H
                              have c75b0 : decide (0 < (x1_3.length : Int)) = false := decide_eq_false c75
                              have c75b1 : decide (0 < x1_3.length) = false := decide_eq_false (by omega)
                              clear c75
                              obtain rfl := Option.some.inj H
                              obtain ⟨Ao81, co81, eo81⟩ := Kd.R_slice HO_1.out
                              subst eo81
                              have hcz82_0 : wr.cell? ⟨gb331, 0, none⟩ = some (.int .i64 a0_0) := (blk_cell BK331.out 0).trans rfl
                              have hcz82_1 : wr.cell? ⟨gb331, 1, none⟩ = some (.int .i64 a0_1) := (blk_cell BK331.out 1).trans rfl
                              have hcz82_2 : wr.cell? ⟨gb331, 2, none⟩ = some (.int .i64 a0_2) := (blk_cell BK331.out 2).trans rfl
                              have hcz82_3 : wr.cell? ⟨gb331, 3, none⟩ = some (.int .i64 a0_3) := (blk_cell BK331.out 3).trans rfl
                              have hfz82_0 := blk_frozen BK331.out 0
                              have hfz82_1 := blk_frozen BK331.out 1
                              have hfz82_2 := blk_frozen BK331.out 2
                              have hfz82_3 := blk_frozen BK331.out 3
                              go_wp2
                              repeat (go_quiet (fail); try go_wp2)
                              go_ret
                              exact ⟨by first | rfl | (simp [errW_none, errW_some] <;> rfl) | (simp [*, errW_none, errW_some] <;> rfl) | (simp [IntKind.wrap_i64, wrap64]; done), by repeat (first | (with_reducible first | exact HB.out | apply below_alloc | apply pw_below_drewN | apply below_drew1 | refine below_set ?_ GE331.out) | exact HB.out)⟩
          · replace c16 := Bool.eq_false_iff.mpr c16
            subst c16
            have H1 : (if t334 = 0 then (some (t336 != 0)) else (some false)) = some r := by rw [if_neg (show ¬ (false = true) by decide)] at H; exact H
            clear H
            have H := H1
            clear H1
            by_cases c83 : t334 = 0
            · rw [if_pos c83] at H
              have c83b0 : (t334 == 0) = true := beq_iff_eq.mpr c83
              have c83b1 : (t334 != 0) = false := bne_eq_false_iff_eq.mpr c83
              clear c83
              obtain rfl := Option.some.inj H
              have hcz84_0 : wc.cell? ⟨gb331, 0, none⟩ = some (.int .i64 a0_0) := (blk_cell BK331.out 0).trans rfl
              have hcz84_1 : wc.cell? ⟨gb331, 1, none⟩ = some (.int .i64 a0_1) := (blk_cell BK331.out 1).trans rfl
              have hcz84_2 : wc.cell? ⟨gb331, 2, none⟩ = some (.int .i64 a0_2) := (blk_cell BK331.out 2).trans rfl
              have hcz84_3 : wc.cell? ⟨gb331, 3, none⟩ = some (.int .i64 a0_3) := (blk_cell BK331.out 3).trans rfl
              have hfz84_0 := blk_frozen BK331.out 0
              have hfz84_1 := blk_frozen BK331.out 1
              have hfz84_2 := blk_frozen BK331.out 2
              have hfz84_3 := blk_frozen BK331.out 3
              go_wp2_with (first | (go_at_call 22; (with_reducible refine (attempts_Earliest.calls kj5 a0_0 a0_1 a0_2 a0_3 _ _ l1 t334 false _ ?side1 ?side2 A14.out).mono ?_); (case side1 => repeat (first | exact (Kd.C_below HR1.out HB.out) | (with_reducible refine Kd.C_alloc ?_ _) | (with_reducible refine Kd.C_drewN ?_ _) | (with_reducible refine Kd.C_drew ?_))); (case side2 => exact HC1.out); rintro e w85 ⟨rfl, hb⟩; have n0_ := Aside0.mk (blk_below (g := gb331) (o := .cells #[.int .i64 a0_0, .int .i64 a0_1, .int .i64 a0_2, .int .i64 a0_3] 23 (0, 0)) (by (with_reducible repeat (first | refine blk_drewN ?_ _ | refine blk_drew ?_ | refine blk_alloc ?_ _)); exact BK331.out) hb); have n1_ := Aside0.mk (below_step (by repeat (first | (with_reducible first | exact HB.out | apply below_alloc | apply pw_below_drewN | apply below_drew1 | refine below_set ?_ GE331.out) | exact HB.out)) hb); clear BK331; clear HB; have BK331 := n0_; have HB := n1_; clear n0_ n1_; (try clear hb); (try clear hb2); (try clear hk); (try clear hi); have hcz86_0 : w85.cell? ⟨gb331, 0, none⟩ = some (.int .i64 a0_0) := (blk_cell BK331.out 0).trans rfl; have hcz86_1 : w85.cell? ⟨gb331, 1, none⟩ = some (.int .i64 a0_1) := (blk_cell BK331.out 1).trans rfl; have hcz86_2 : w85.cell? ⟨gb331, 2, none⟩ = some (.int .i64 a0_2) := (blk_cell BK331.out 2).trans rfl; have hcz86_3 : w85.cell? ⟨gb331, 3, none⟩ = some (.int .i64 a0_3) := (blk_cell BK331.out 3).trans rfl; have hfz86_0 := blk_frozen BK331.out 0; have hfz86_1 := blk_frozen BK331.out 1; have hfz86_2 := blk_frozen BK331.out 2; have hfz86_3 := blk_frozen BK331.out 3) | (go_at_call 25; (with_reducible refine (attempts_Allowed.calls kj5 a0_0 a0_1 a0_2 a0_3 _ _ l1 a2 t336 _ ?side1 ?side2 A15.out).mono ?_); (case side1 => repeat (first | exact (Kd.C_below HR1.out HB.out) | (with_reducible refine Kd.C_alloc ?_ _) | (with_reducible refine Kd.C_drewN ?_ _) | (with_reducible refine Kd.C_drew ?_))); (case side2 => exact HC1.out); rintro e w87 ⟨rfl, hb⟩; have n0_ := Aside0.mk (blk_below (g := gb331) (o := .cells #[.int .i64 a0_0, .int .i64 a0_1, .int .i64 a0_2, .int .i64 a0_3] 23 (0, 0)) (by (with_reducible repeat (first | refine blk_drewN ?_ _ | refine blk_drew ?_ | refine blk_alloc ?_ _)); exact BK331.out) hb); have n1_ := Aside0.mk (below_step (by repeat (first | (with_reducible first | exact HB.out | apply below_alloc | apply pw_below_drewN | apply below_drew1 | refine below_set ?_ GE331.out) | exact HB.out)) hb); clear BK331; clear HB; have BK331 := n0_; have HB := n1_; clear n0_ n1_; (try clear hb); (try clear hb2); (try clear hk); (try clear hi)))
              repeat (go_quiet (first | (go_at_call 22; (with_reducible refine (attempts_Earliest.calls kj5 a0_0 a0_1 a0_2 a0_3 _ _ l1 t334 false _ ?side1 ?side2 A14.out).mono ?_); (case side1 => repeat (first | exact (Kd.C_below HR1.out HB.out) | (with_reducible refine Kd.C_alloc ?_ _) | (with_reducible refine Kd.C_drewN ?_ _) | (with_reducible refine Kd.C_drew ?_))); (case side2 => exact HC1.out); rintro e w85 ⟨rfl, hb⟩; have n0_ := Aside0.mk (blk_below (g := gb331) (o := .cells #[.int .i64 a0_0, .int .i64 a0_1, .int .i64 a0_2, .int .i64 a0_3] 23 (0, 0)) (by (with_reducible repeat (first | refine blk_drewN ?_ _ | refine blk_drew ?_ | refine blk_alloc ?_ _)); exact BK331.out) hb); have n1_ := Aside0.mk (below_step (by repeat (first | (with_reducible first | exact HB.out | apply below_alloc | apply pw_below_drewN | apply below_drew1 | refine below_set ?_ GE331.out) | exact HB.out)) hb); clear BK331; clear HB; have BK331 := n0_; have HB := n1_; clear n0_ n1_; (try clear hb); (try clear hb2); (try clear hk); (try clear hi); have hcz86_0 : w85.cell? ⟨gb331, 0, none⟩ = some (.int .i64 a0_0) := (blk_cell BK331.out 0).trans rfl; have hcz86_1 : w85.cell? ⟨gb331, 1, none⟩ = some (.int .i64 a0_1) := (blk_cell BK331.out 1).trans rfl; have hcz86_2 : w85.cell? ⟨gb331, 2, none⟩ = some (.int .i64 a0_2) := (blk_cell BK331.out 2).trans rfl; have hcz86_3 : w85.cell? ⟨gb331, 3, none⟩ = some (.int .i64 a0_3) := (blk_cell BK331.out 3).trans rfl; have hfz86_0 := blk_frozen BK331.out 0; have hfz86_1 := blk_frozen BK331.out 1; have hfz86_2 := blk_frozen BK331.out 2; have hfz86_3 := blk_frozen BK331.out 3) | (go_at_call 25; (with_reducible refine (attempts_Allowed.calls kj5 a0_0 a0_1 a0_2 a0_3 _ _ l1 a2 t336 _ ?side1 ?side2 A15.out).mono ?_); (case side1 => repeat (first | exact (Kd.C_below HR1.out HB.out) | (with_reducible refine Kd.C_alloc ?_ _) | (with_reducible refine Kd.C_drewN ?_ _) | (with_reducible refine Kd.C_drew ?_))); (case side2 => exact HC1.out); rintro e w87 ⟨rfl, hb⟩; have n0_ := Aside0.mk (blk_below (g := gb331) (o := .cells #[.int .i64 a0_0, .int .i64 a0_1, .int .i64 a0_2, .int .i64 a0_3] 23 (0, 0)) (by (with_reducible repeat (first | refine blk_drewN ?_ _ | refine blk_drew ?_ | refine blk_alloc ?_ _)); exact BK331.out) hb); have n1_ := Aside0.mk (below_step (by repeat (first | (with_reducible first | exact HB.out | apply below_alloc | apply pw_below_drewN | apply below_drew1 | refine below_set ?_ GE331.out) | exact HB.out)) hb); clear BK331; clear HB; have BK331 := n0_; have HB := n1_; clear n0_ n1_; (try clear hb); (try clear hb2); (try clear hk); (try clear hi))); try go_wp2_with (first | (go_at_call 22; (with_reducible refine (attempts_Earliest.calls kj5 a0_0 a0_1 a0_2 a0_3 _ _ l1 t334 false _ ?side1 ?side2 A14.out).mono ?_); (case side1 => repeat (first | exact (Kd.C_below HR1.out HB.out) | (with_reducible refine Kd.C_alloc ?_ _) | (with_reducible refine Kd.C_drewN ?_ _) | (with_reducible refine Kd.C_drew ?_))); (case side2 => exact HC1.out); rintro e w85 ⟨rfl, hb⟩; have n0_ := Aside0.mk (blk_below (g := gb331) (o := .cells #[.int .i64 a0_0, .int .i64 a0_1, .int .i64 a0_2, .int .i64 a0_3] 23 (0, 0)) (by (with_reducible repeat (first | refine blk_drewN ?_ _ | refine blk_drew ?_ | refine blk_alloc ?_ _)); exact BK331.out) hb); have n1_ := Aside0.mk (below_step (by repeat (first | (with_reducible first | exact HB.out | apply below_alloc | apply pw_below_drewN | apply below_drew1 | refine below_set ?_ GE331.out) | exact HB.out)) hb); clear BK331; clear HB; have BK331 := n0_; have HB := n1_; clear n0_ n1_; (try clear hb); (try clear hb2); (try clear hk); (try clear hi); have hcz86_0 : w85.cell? ⟨gb331, 0, none⟩ = some (.int .i64 a0_0) := (blk_cell BK331.out 0).trans rfl; have hcz86_1 : w85.cell? ⟨gb331, 1, none⟩ = some (.int .i64 a0_1) := (blk_cell BK331.out 1).trans rfl; have hcz86_2 : w85.cell? ⟨gb331, 2, none⟩ = some (.int .i64 a0_2) := (blk_cell BK331.out 2).trans rfl; have hcz86_3 : w85.cell? ⟨gb331, 3, none⟩ = some (.int .i64 a0_3) := (blk_cell BK331.out 3).trans rfl; have hfz86_0 := blk_frozen BK331.out 0; have hfz86_1 := blk_frozen BK331.out 1; have hfz86_2 := blk_frozen BK331.out 2; have hfz86_3 := blk_frozen BK331.out 3) | (go_at_call 25; (with_reducible refine (attempts_Allowed.calls kj5 a0_0 a0_1 a0_2 a0_3 _ _ l1 a2 t336 _ ?side1 ?side2 A15.out).mono ?_); (case side1 => repeat (first | exact (Kd.C_below HR1.out HB.out) | (with_reducible refine Kd.C_alloc ?_ _) | (with_reducible refine Kd.C_drewN ?_ _) | (with_reducible refine Kd.C_drew ?_))); (case side2 => exact HC1.out); rintro e w87 ⟨rfl, hb⟩; have n0_ := Aside0.mk (blk_below (g := gb331) (o := .cells #[.int .i64 a0_0, .int .i64 a0_1, .int .i64 a0_2, .int .i64 a0_3] 23 (0, 0)) (by (with_reducible repeat (first | refine blk_drewN ?_ _ | refine blk_drew ?_ | refine blk_alloc ?_ _)); exact BK331.out) hb); have n1_ := Aside0.mk (below_step (by repeat (first | (with_reducible first | exact HB.out | apply below_alloc | apply pw_below_drewN | apply below_drew1 | refine below_set ?_ GE331.out) | exact HB.out)) hb); clear BK331; clear HB; have BK331 := n0_; have HB := n1_; clear n0_ n1_; (try clear hb); (try clear hb2); (try clear hk); (try clear hi))))
              go_ret
              exact ⟨by first | rfl | (simp [errW_none, errW_some] <;> rfl) | (simp [*, errW_none, errW_some] <;> rfl) | (simp [IntKind.wrap_i64, wrap64]; done), by repeat (first | (with_reducible first | exact HB.out | apply below_alloc | apply pw_below_drewN | apply below_drew1 | refine below_set ?_ GE331.out) | exact HB.out)⟩
            · rw [if_neg c83] at H
              have c83b0 : (t334 == 0) = false := beq_eq_false_iff_ne.mpr c83
              have c83b1 : (t334 != 0) = true := bne_iff_ne.mpr c83
              obtain rfl := Option.some.inj H
              have hcz88_0 : wc.cell? ⟨gb331, 0, none⟩ = some (.int .i64 a0_0) := (blk_cell BK331.out 0).trans rfl
              have hcz88_1 : wc.cell? ⟨gb331, 1, none⟩ = some (.int .i64 a0_1) := (blk_cell BK331.out 1).trans rfl
              have hcz88_2 : wc.cell? ⟨gb331, 2, none⟩ = some (.int .i64 a0_2) := (blk_cell BK331.out 2).trans rfl
              have hcz88_3 : wc.cell? ⟨gb331, 3, none⟩ = some (.int .i64 a0_3) := (blk_cell BK331.out 3).trans rfl
              have hfz88_0 := blk_frozen BK331.out 0
              have hfz88_1 := blk_frozen BK331.out 1
              have hfz88_2 := blk_frozen BK331.out 2
              have hfz88_3 := blk_frozen BK331.out 3
              go_wp2_with (first | (go_at_call 22; (with_reducible refine (attempts_Earliest.calls kj5 a0_0 a0_1 a0_2 a0_3 _ _ l1 t334 false _ ?side1 ?side2 A14.out).mono ?_); (case side1 => repeat (first | exact (Kd.C_below HR1.out HB.out) | (with_reducible refine Kd.C_alloc ?_ _) | (with_reducible refine Kd.C_drewN ?_ _) | (with_reducible refine Kd.C_drew ?_))); (case side2 => exact HC1.out); rintro e w89 ⟨rfl, hb⟩; have n0_ := Aside0.mk (blk_below (g := gb331) (o := .cells #[.int .i64 a0_0, .int .i64 a0_1, .int .i64 a0_2, .int .i64 a0_3] 23 (0, 0)) (by (with_reducible repeat (first | refine blk_drewN ?_ _ | refine blk_drew ?_ | refine blk_alloc ?_ _)); exact BK331.out) hb); have n1_ := Aside0.mk (below_step (by repeat (first | (with_reducible first | exact HB.out | apply below_alloc | apply pw_below_drewN | apply below_drew1 | refine below_set ?_ GE331.out) | exact HB.out)) hb); clear BK331; clear HB; have BK331 := n0_; have HB := n1_; clear n0_ n1_; (try clear hb); (try clear hb2); (try clear hk); (try clear hi); have hcz90_0 : w89.cell? ⟨gb331, 0, none⟩ = some (.int .i64 a0_0) := (blk_cell BK331.out 0).trans rfl; have hcz90_1 : w89.cell? ⟨gb331, 1, none⟩ = some (.int .i64 a0_1) := (blk_cell BK331.out 1).trans rfl; have hcz90_2 : w89.cell? ⟨gb331, 2, none⟩ = some (.int .i64 a0_2) := (blk_cell BK331.out 2).trans rfl; have hcz90_3 : w89.cell? ⟨gb331, 3, none⟩ = some (.int .i64 a0_3) := (blk_cell BK331.out 3).trans rfl; have hfz90_0 := blk_frozen BK331.out 0; have hfz90_1 := blk_frozen BK331.out 1; have hfz90_2 := blk_frozen BK331.out 2; have hfz90_3 := blk_frozen BK331.out 3) | (go_at_call 25; (with_reducible refine (attempts_Allowed.calls kj5 a0_0 a0_1 a0_2 a0_3 _ _ l1 a2 t336 _ ?side1 ?side2 A15.out).mono ?_); (case side1 => repeat (first | exact (Kd.C_below HR1.out HB.out) | (with_reducible refine Kd.C_alloc ?_ _) | (with_reducible refine Kd.C_drewN ?_ _) | (with_reducible refine Kd.C_drew ?_))); (case side2 => exact HC1.out); rintro e w91 ⟨rfl, hb⟩; have n0_ := Aside0.mk (blk_below (g := gb331) (o := .cells #[.int .i64 a0_0, .int .i64 a0_1, .int .i64 a0_2, .int .i64 a0_3] 23 (0, 0)) (by (with_reducible repeat (first | refine blk_drewN ?_ _ | refine blk_drew ?_ | refine blk_alloc ?_ _)); exact BK331.out) hb); have n1_ := Aside0.mk (below_step (by repeat (first | (with_reducible first | exact HB.out | apply below_alloc | apply pw_below_drewN | apply below_drew1 | refine below_set ?_ GE331.out) | exact HB.out)) hb); clear BK331; clear HB; have BK331 := n0_; have HB := n1_; clear n0_ n1_; (try clear hb); (try clear hb2); (try clear hk); (try clear hi)))
              repeat (go_quiet (first | (go_at_call 22; (with_reducible refine (attempts_Earliest.calls kj5 a0_0 a0_1 a0_2 a0_3 _ _ l1 t334 false _ ?side1 ?side2 A14.out).mono ?_); (case side1 => repeat (first | exact (Kd.C_below HR1.out HB.out) | (with_reducible refine Kd.C_alloc ?_ _) | (with_reducible refine Kd.C_drewN ?_ _) | (with_reducible refine Kd.C_drew ?_))); (case side2 => exact HC1.out); rintro e w89 ⟨rfl, hb⟩; have n0_ := Aside0.mk (blk_below (g := gb331) (o := .cells #[.int .i64 a0_0, .int .i64 a0_1, .int .i64 a0_2, .int .i64 a0_3] 23 (0, 0)) (by (with_reducible repeat (first | refine blk_drewN ?_ _ | refine blk_drew ?_ | refine blk_alloc ?_ _)); exact BK331.out) hb); have n1_ := Aside0.mk (below_step (by repeat (first | (with_reducible first | exact HB.out | apply below_alloc | apply pw_below_drewN | apply below_drew1 | refine below_set ?_ GE331.out) | exact HB.out)) hb); clear BK331; clear HB; have BK331 := n0_; have HB := n1_; clear n0_ n1_; (try clear hb); (try clear hb2); (try clear hk); (try clear hi); have hcz90_0 : w89.cell? ⟨gb331, 0, none⟩ = some (.int .i64 a0_0) := (blk_cell BK331.out 0).trans rfl; have hcz90_1 : w89.cell? ⟨gb331, 1, none⟩ = some (.int .i64 a0_1) := (blk_cell BK331.out 1).trans rfl; have hcz90_2 : w89.cell? ⟨gb331, 2, none⟩ = some (.int .i64 a0_2) := (blk_cell BK331.out 2).trans rfl; have hcz90_3 : w89.cell? ⟨gb331, 3, none⟩ = some (.int .i64 a0_3) := (blk_cell BK331.out 3).trans rfl; have hfz90_0 := blk_frozen BK331.out 0; have hfz90_1 := blk_frozen BK331.out 1; have hfz90_2 := blk_frozen BK331.out 2; have hfz90_3 := blk_frozen BK331.out 3) | (go_at_call 25; (with_reducible refine (attempts_Allowed.calls kj5 a0_0 a0_1 a0_2 a0_3 _ _ l1 a2 t336 _ ?side1 ?side2 A15.out).mono ?_); (case side1 => repeat (first | exact (Kd.C_below HR1.out HB.out) | (with_reducible refine Kd.C_alloc ?_ _) | (with_reducible refine Kd.C_drewN ?_ _) | (with_reducible refine Kd.C_drew ?_))); (case side2 => exact HC1.out); rintro e w91 ⟨rfl, hb⟩; have n0_ := Aside0.mk (blk_below (g := gb331) (o := .cells #[.int .i64 a0_0, .int .i64 a0_1, .int .i64 a0_2, .int .i64 a0_3] 23 (0, 0)) (by (with_reducible repeat (first | refine blk_drewN ?_ _ | refine blk_drew ?_ | refine blk_alloc ?_ _)); exact BK331.out) hb); have n1_ := Aside0.mk (below_step (by repeat (first | (with_reducible first | exact HB.out | apply below_alloc | apply pw_below_drewN | apply below_drew1 | refine below_set ?_ GE331.out) | exact HB.out)) hb); clear BK331; clear HB; have BK331 := n0_; have HB := n1_; clear n0_ n1_; (try clear hb); (try clear hb2); (try clear hk); (try clear hi))); try go_wp2_with (first | (go_at_call 22; (with_reducible refine (attempts_Earliest.calls kj5 a0_0 a0_1 a0_2 a0_3 _ _ l1 t334 false _ ?side1 ?side2 A14.out).mono ?_); (case side1 => repeat (first | exact (Kd.C_below HR1.out HB.out) | (with_reducible refine Kd.C_alloc ?_ _) | (with_reducible refine Kd.C_drewN ?_ _) | (with_reducible refine Kd.C_drew ?_))); (case side2 => exact HC1.out); rintro e w89 ⟨rfl, hb⟩; have n0_ := Aside0.mk (blk_below (g := gb331) (o := .cells #[.int .i64 a0_0, .int .i64 a0_1, .int .i64 a0_2, .int .i64 a0_3] 23 (0, 0)) (by (with_reducible repeat (first | refine blk_drewN ?_ _ | refine blk_drew ?_ | refine blk_alloc ?_ _)); exact BK331.out) hb); have n1_ := Aside0.mk (below_step (by repeat (first | (with_reducible first | exact HB.out | apply below_alloc | apply pw_below_drewN | apply below_drew1 | refine below_set ?_ GE331.out) | exact HB.out)) hb); clear BK331; clear HB; have BK331 := n0_; have HB := n1_; clear n0_ n1_; (try clear hb); (try clear hb2); (try clear hk); (try clear hi); have hcz90_0 : w89.cell? ⟨gb331, 0, none⟩ = some (.int .i64 a0_0) := (blk_cell BK331.out 0).trans rfl; have hcz90_1 : w89.cell? ⟨gb331, 1, none⟩ = some (.int .i64 a0_1) := (blk_cell BK331.out 1).trans rfl; have hcz90_2 : w89.cell? ⟨gb331, 2, none⟩ = some (.int .i64 a0_2) := (blk_cell BK331.out 2).trans rfl; have hcz90_3 : w89.cell? ⟨gb331, 3, none⟩ = some (.int .i64 a0_3) := (blk_cell BK331.out 3).trans rfl; have hfz90_0 := blk_frozen BK331.out 0; have hfz90_1 := blk_frozen BK331.out 1; have hfz90_2 := blk_frozen BK331.out 2; have hfz90_3 := blk_frozen BK331.out 3) | (go_at_call 25; (with_reducible refine (attempts_Allowed.calls kj5 a0_0 a0_1 a0_2 a0_3 _ _ l1 a2 t336 _ ?side1 ?side2 A15.out).mono ?_); (case side1 => repeat (first | exact (Kd.C_below HR1.out HB.out) | (with_reducible refine Kd.C_alloc ?_ _) | (with_reducible refine Kd.C_drewN ?_ _) | (with_reducible refine Kd.C_drew ?_))); (case side2 => exact HC1.out); rintro e w91 ⟨rfl, hb⟩; have n0_ := Aside0.mk (blk_below (g := gb331) (o := .cells #[.int .i64 a0_0, .int .i64 a0_1, .int .i64 a0_2, .int .i64 a0_3] 23 (0, 0)) (by (with_reducible repeat (first | refine blk_drewN ?_ _ | refine blk_drew ?_ | refine blk_alloc ?_ _)); exact BK331.out) hb); have n1_ := Aside0.mk (below_step (by repeat (first | (with_reducible first | exact HB.out | apply below_alloc | apply pw_below_drewN | apply below_drew1 | refine below_set ?_ GE331.out) | exact HB.out)) hb); clear BK331; clear HB; have BK331 := n0_; have HB := n1_; clear n0_ n1_; (try clear hb); (try clear hb2); (try clear hk); (try clear hi))))
              go_ret
              exact ⟨by first | rfl | (simp [errW_none, errW_some] <;> rfl) | (simp [*, errW_none, errW_some] <;> rfl) | (simp [IntKind.wrap_i64, wrap64]; done), by repeat (first | (with_reducible first | exact HB.out | apply below_alloc | apply pw_below_drewN | apply below_drew1 | refine below_set ?_ GE331.out) | exact HB.out)⟩
  · replace c5 := Bool.eq_false_iff.mpr c5
    subst c5
    have H1 : (some false) = some r := by rw [if_neg (show ¬ (false = true) by decide)] at H; exact H
    clear H
    have H := H1
    clear H1
    obtain rfl := Option.some.inj H
    go_enter Try.func9, Try.ntmps9
    go_wp2_with (first | ((with_reducible refine gate_dst (N := 3) rfl ?_); (try (refine gate_guard (by rfl) ?_; dsimp only)); refine box_event ?hg (N := 3) ?hd (cs := #[.int .i64 a0_0, .int .i64 a0_1, .int .i64 a0_2, .int .i64 a0_3]) (t := 23) ?hr ?_; (case hd => rfl); (case hg => rfl); (case hr => first | (go_simp; done) | (go_simp; rfl)); intro gb331 hg w92 hbox hb; have n0_ := Aside0.mk (below_step (by repeat (first | (with_reducible first | exact HB.out | apply below_alloc | apply pw_below_drewN | apply below_drew1) | exact HB.out)) hb); have n1_ := Aside0.mk (hbox); have n2_ := Aside0.mk ((by rw [hg]; exact (below_size (by repeat (first | (with_reducible first | exact HB.out | apply below_alloc | apply pw_below_drewN | apply below_drew1) | exact HB.out))) : w.heap.size ≤ gb331)); have n3_ := Aside0.mk ((by rw [hg]; exact (below_size (by repeat (first | (with_reducible first | exact HB.out | apply below_alloc | apply pw_below_drewN | apply below_drew1) | exact HB.out))) : w.heap.size ≤ gb331)); clear HB; have HB := n0_; have BK331 := n1_; have GW331 := n2_; have GE331 := n3_; clear n0_ n1_ n2_ n3_; clear hb hbox hg) | (go_at_call 10; (with_reducible refine (assessorlaw52_awake.calls k  false _ A4.out).mono ?_); rintro e w93 ⟨rfl, hb⟩; have n0_ := Aside0.mk (blk_below (g := gb331) (o := .cells #[.int .i64 a0_0, .int .i64 a0_1, .int .i64 a0_2, .int .i64 a0_3] 23 (0, 0)) (by (with_reducible repeat (first | refine blk_drewN ?_ _ | refine blk_drew ?_ | refine blk_alloc ?_ _)); exact BK331.out) hb); have n1_ := Aside0.mk (below_step (by repeat (first | (with_reducible first | exact HB.out | apply below_alloc | apply pw_below_drewN | apply below_drew1 | refine below_set ?_ GE331.out) | exact HB.out)) hb); clear BK331; clear HB; have BK331 := n0_; have HB := n1_; clear n0_ n1_; (try clear hb); (try clear hb2); (try clear hk); (try clear hi)))
    repeat (go_quiet (first | ((with_reducible refine gate_dst (N := 3) rfl ?_); (try (refine gate_guard (by rfl) ?_; dsimp only)); refine box_event ?hg (N := 3) ?hd (cs := #[.int .i64 a0_0, .int .i64 a0_1, .int .i64 a0_2, .int .i64 a0_3]) (t := 23) ?hr ?_; (case hd => rfl); (case hg => rfl); (case hr => first | (go_simp; done) | (go_simp; rfl)); intro gb331 hg w92 hbox hb; have n0_ := Aside0.mk (below_step (by repeat (first | (with_reducible first | exact HB.out | apply below_alloc | apply pw_below_drewN | apply below_drew1) | exact HB.out)) hb); have n1_ := Aside0.mk (hbox); have n2_ := Aside0.mk ((by rw [hg]; exact (below_size (by repeat (first | (with_reducible first | exact HB.out | apply below_alloc | apply pw_below_drewN | apply below_drew1) | exact HB.out))) : w.heap.size ≤ gb331)); have n3_ := Aside0.mk ((by rw [hg]; exact (below_size (by repeat (first | (with_reducible first | exact HB.out | apply below_alloc | apply pw_below_drewN | apply below_drew1) | exact HB.out))) : w.heap.size ≤ gb331)); clear HB; have HB := n0_; have BK331 := n1_; have GW331 := n2_; have GE331 := n3_; clear n0_ n1_ n2_ n3_; clear hb hbox hg) | (go_at_call 10; (with_reducible refine (assessorlaw52_awake.calls k  false _ A4.out).mono ?_); rintro e w93 ⟨rfl, hb⟩; have n0_ := Aside0.mk (blk_below (g := gb331) (o := .cells #[.int .i64 a0_0, .int .i64 a0_1, .int .i64 a0_2, .int .i64 a0_3] 23 (0, 0)) (by (with_reducible repeat (first | refine blk_drewN ?_ _ | refine blk_drew ?_ | refine blk_alloc ?_ _)); exact BK331.out) hb); have n1_ := Aside0.mk (below_step (by repeat (first | (with_reducible first | exact HB.out | apply below_alloc | apply pw_below_drewN | apply below_drew1 | refine below_set ?_ GE331.out) | exact HB.out)) hb); clear BK331; clear HB; have BK331 := n0_; have HB := n1_; clear n0_ n1_; (try clear hb); (try clear hb2); (try clear hk); (try clear hi))); try go_wp2_with (first | ((with_reducible refine gate_dst (N := 3) rfl ?_); (try (refine gate_guard (by rfl) ?_; dsimp only)); refine box_event ?hg (N := 3) ?hd (cs := #[.int .i64 a0_0, .int .i64 a0_1, .int .i64 a0_2, .int .i64 a0_3]) (t := 23) ?hr ?_; (case hd => rfl); (case hg => rfl); (case hr => first | (go_simp; done) | (go_simp; rfl)); intro gb331 hg w92 hbox hb; have n0_ := Aside0.mk (below_step (by repeat (first | (with_reducible first | exact HB.out | apply below_alloc | apply pw_below_drewN | apply below_drew1) | exact HB.out)) hb); have n1_ := Aside0.mk (hbox); have n2_ := Aside0.mk ((by rw [hg]; exact (below_size (by repeat (first | (with_reducible first | exact HB.out | apply below_alloc | apply pw_below_drewN | apply below_drew1) | exact HB.out))) : w.heap.size ≤ gb331)); have n3_ := Aside0.mk ((by rw [hg]; exact (below_size (by repeat (first | (with_reducible first | exact HB.out | apply below_alloc | apply pw_below_drewN | apply below_drew1) | exact HB.out))) : w.heap.size ≤ gb331)); clear HB; have HB := n0_; have BK331 := n1_; have GW331 := n2_; have GE331 := n3_; clear n0_ n1_ n2_ n3_; clear hb hbox hg) | (go_at_call 10; (with_reducible refine (assessorlaw52_awake.calls k  false _ A4.out).mono ?_); rintro e w93 ⟨rfl, hb⟩; have n0_ := Aside0.mk (blk_below (g := gb331) (o := .cells #[.int .i64 a0_0, .int .i64 a0_1, .int .i64 a0_2, .int .i64 a0_3] 23 (0, 0)) (by (with_reducible repeat (first | refine blk_drewN ?_ _ | refine blk_drew ?_ | refine blk_alloc ?_ _)); exact BK331.out) hb); have n1_ := Aside0.mk (below_step (by repeat (first | (with_reducible first | exact HB.out | apply below_alloc | apply pw_below_drewN | apply below_drew1 | refine below_set ?_ GE331.out) | exact HB.out)) hb); clear BK331; clear HB; have BK331 := n0_; have HB := n1_; clear n0_ n1_; (try clear hb); (try clear hb2); (try clear hk); (try clear hi))))
    go_ret
    exact ⟨by first | rfl | (simp [errW_none, errW_some] <;> rfl) | (simp [*, errW_none, errW_some] <;> rfl) | (simp [IntKind.wrap_i64, wrap64]; done), by repeat (first | (with_reducible first | exact HB.out | apply below_alloc | apply pw_below_drewN | apply below_drew1 | refine below_set ?_ GE331.out) | exact HB.out)⟩

end Go.Proofs.Ytdailoccmjeceaa.PAll
