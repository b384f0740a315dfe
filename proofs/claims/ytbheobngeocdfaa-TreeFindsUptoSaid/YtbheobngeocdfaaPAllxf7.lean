/- What the machine's calls come to, function by function: printed by a program of this session after the kit's print; Lean checks it. SLIM -/
import Derived.Test.YtbheobngeocdfaaPAllx0
import Derived.Test.YtbheobngeocdfaaPAllxf23
import Derived.Test.YtbheobngeocdfaaPAllxf11
import Derived.Test.YtbheobngeocdfaaPAllxf24
import Derived.Test.YtbheobngeocdfaaG1
import Derived.Test.YtbheobngeocdfaaH22
namespace Go.Proofs.Ytbheobngeocdfaa.PAll
open Go.RowKit Go.Proofs.YtbheobngeocdfaaW.PrintWords Go.Proofs.YtbheobngeocdfaaW.PrintLast Go.Proofs.YtbheobngeocdfaaW.PrintMore
attribute [local go_sem] max2_int min2_int max_two min_two max_three min_three max_four min_four   -- for this text's walks alone
set_option linter.unusedVariables false
set_option linter.unusedSimpArgs false

/-! ### assessorlaw03_TreeFinds: function 7 -/
mutual
def assessorlaw03_TreeFinds.j0 : Nat → Int → Int → Bool → Bool → Int → ByteArray → Int → Int → List (S24) → Option (Bool)
 | 0, _, _, _, _, _, _, _, _, _ => none
 | k + 1, x1, x5, x6, x34, x425000, x425001, x425002, x425003, x425004 => if x34 = true then (some false) else (if x6 = true then ((tree_Path.f x425000 x425001 x425002 x425003 x425004 x5).bind fun bt430 => ((tree_Get.f k x425000 x425001 x425002 x425003 x425004 bt430.1).bind fun bt434 => (if bt430.2 = true then (if bt434.2.2.2.2.2 = true then (if x1 < bt434.2.2.1 then (none) else (if x1 ≥ bt434.2.2.2.1 then (some false) else (assessorlaw03_TreeFinds.l0 k x1 bt434.2.2.2.2.1 (bt434.2.2.2.2.1.length : Int) 0))) else (none)) else (none)))) else (if x5 = 0 then ((assessorlaw03_awake.f k).bind fun t429 => (some t429)) else (some false)))
def assessorlaw03_TreeFinds.l0 : Nat → Int → List (S24) → Int → Int → Option (Bool)
 | 0, _, _, _, _ => none
 | k + 1, x1, x73, x74, x75 => if x75 < x74 then (if 0 ≤ x75 then (if x75 < (x73.length : Int) then (if ((rd_T24 x73 x75).f2) ≤ x1 then (if x1 < ((rd_T24 x73 x75).f3) then (some false) else (assessorlaw03_TreeFinds.l0 k x1 x73 x74 (wrap64 (x75 + 1)))) else (assessorlaw03_TreeFinds.l0 k x1 x73 x74 (wrap64 (x75 + 1)))) else (none)) else (none)) else ((assessorlaw03_awake.f k).bind fun t445 => (some t445))
end
def assessorlaw03_TreeFinds.f (k : Nat) (a0_0 : Int) (a0_1 : ByteArray) (a0_2 : Int) (a0_3 : Int) (l0_4 : List (S24)) (a1 : Int) : Option (Bool) := (assessorref03_Small.f k a0_0 a0_1 a0_2 a0_3 l0_4 100).bind fun t425 => (if t425 = true then ((tree_Find.f a0_0 a0_1 a0_2 a0_3 l0_4 a1).bind fun bt427 => (if a0_2 ≤ a1 then (assessorlaw03_TreeFinds.j0 k a1 bt427.1 bt427.2 (bt427.2 != (decide (a1 < a0_3))) a0_0 a0_1 a0_2 a0_3 l0_4) else (assessorlaw03_TreeFinds.j0 k a1 bt427.1 bt427.2 (bt427.2 != false) a0_0 a0_1 a0_2 a0_3 l0_4))) else ((assessorlaw03_awake.f k).bind fun t426 => (some t426)))
theorem assessorlaw03_TreeFinds.mono_l : ∀ k, (∀ y0 y1 y2 y3 y4 y5 y6 y7 y8, LeO (assessorlaw03_TreeFinds.j0 k y0 y1 y2 y3 y4 y5 y6 y7 y8) (assessorlaw03_TreeFinds.j0 (k + 1) y0 y1 y2 y3 y4 y5 y6 y7 y8)) ∧ (∀ y0 y1 y2 y3, LeO (assessorlaw03_TreeFinds.l0 k y0 y1 y2 y3) (assessorlaw03_TreeFinds.l0 (k + 1) y0 y1 y2 y3))
 | 0 => ⟨fun _ _ _ _ _ _ _ _ _ r h => by simp [assessorlaw03_TreeFinds.j0] at h, fun _ _ _ _ r h => by simp [assessorlaw03_TreeFinds.l0] at h⟩
 | k + 1 => by
  obtain ⟨ih0, ih1⟩ := assessorlaw03_TreeFinds.mono_l k
  refine ⟨?_, ?_⟩
  ·intro y0 y1 y2 y3 y4 y5 y6 y7 y8
   unfold assessorlaw03_TreeFinds.j0
   repeat' first
   | (with_reducible exact ih0 _ _ _ _ _ _ _ _ _)
   | (with_reducible exact ih1 _ _ _ _)
   | (with_reducible exact assessorlaw03_awake.mono _)
   | (with_reducible exact assessorref03_Small.mono _ _ _ _ _ _ _)
   | (with_reducible exact tree_Get.mono _ _ _ _ _ _ _)
   | (with_reducible exact LeO.refl _)
   | (with_reducible exact LeO.none _)
   | (with_reducible refine LeO.ite ?_ ?_)
   | (with_reducible refine LeO.bind ?_ (fun _ => ?_))
   | exact ih0 _ _ _ _ _ _ _ _ _
   | exact ih1 _ _ _ _
   | exact assessorlaw03_awake.mono _
   | exact assessorref03_Small.mono _ _ _ _ _ _ _
   | exact tree_Get.mono _ _ _ _ _ _ _
   | exact LeO.none _
   | refine LeO.ite ?_ ?_
   | refine LeO.bind ?_ (fun _ => ?_)
  ·intro y0 y1 y2 y3
   unfold assessorlaw03_TreeFinds.l0
   repeat' first
   | (with_reducible exact ih0 _ _ _ _ _ _ _ _ _)
   | (with_reducible exact ih1 _ _ _ _)
   | (with_reducible exact assessorlaw03_awake.mono _)
   | (with_reducible exact assessorref03_Small.mono _ _ _ _ _ _ _)
   | (with_reducible exact tree_Get.mono _ _ _ _ _ _ _)
   | (with_reducible exact LeO.refl _)
   | (with_reducible exact LeO.none _)
   | (with_reducible refine LeO.ite ?_ ?_)
   | (with_reducible refine LeO.bind ?_ (fun _ => ?_))
   | exact ih0 _ _ _ _ _ _ _ _ _
   | exact ih1 _ _ _ _
   | exact assessorlaw03_awake.mono _
   | exact assessorref03_Small.mono _ _ _ _ _ _ _
   | exact tree_Get.mono _ _ _ _ _ _ _
   | exact LeO.none _
   | refine LeO.ite ?_ ?_
   | refine LeO.bind ?_ (fun _ => ?_)
theorem assessorlaw03_TreeFinds.mono : ∀ a0 a1 a2 a3 a4 a5 k, LeO (assessorlaw03_TreeFinds.f k a0 a1 a2 a3 a4 a5) (assessorlaw03_TreeFinds.f (k + 1) a0 a1 a2 a3 a4 a5) := by
 intro a0 a1 a2 a3 a4 a5 k
 obtain ⟨ih0, ih1⟩ := assessorlaw03_TreeFinds.mono_l k
 unfold assessorlaw03_TreeFinds.f
 repeat' first
   | (with_reducible exact ih0 _ _ _ _ _ _ _ _ _)
   | (with_reducible exact ih1 _ _ _ _)
   | (with_reducible exact assessorlaw03_awake.mono _)
   | (with_reducible exact assessorref03_Small.mono _ _ _ _ _ _ _)
   | (with_reducible exact tree_Get.mono _ _ _ _ _ _ _)
   | (with_reducible exact LeO.refl _)
   | (with_reducible exact LeO.none _)
   | (with_reducible refine LeO.ite ?_ ?_)
   | (with_reducible refine LeO.bind ?_ (fun _ => ?_))
   | exact ih0 _ _ _ _ _ _ _ _ _
   | exact ih1 _ _ _ _
   | exact assessorlaw03_awake.mono _
   | exact assessorref03_Small.mono _ _ _ _ _ _ _
   | exact tree_Get.mono _ _ _ _ _ _ _
   | exact LeO.none _
   | refine LeO.ite ?_ ?_
   | refine LeO.bind ?_ (fun _ => ?_)
set_option maxHeartbeats 8000000 in
set_option maxRecDepth 100000 in
theorem assessorlaw03_TreeFinds.calls (k : Nat) (a0_0 : Int) (a0_1 : ByteArray) (a0_2 : Int) (a0_3 : Int) (A0_4 : Option Addr) (c0_4 : Nat) (l0_4 : List (S24)) (a1 : Int) (r : Bool) (w : World) (hr0_4 : Kd.C k24 w A0_4 l0_4.length l0_4) (hc0_4 : l0_4.length ≤ c0_4) (h : assessorlaw03_TreeFinds.f k a0_0 a0_1 a0_2 a0_3 l0_4 a1 = some r) :
  Calls Try.prog 7 #[.agg #[.int .i64 a0_0, .string a0_1, .int .i64 a0_2, .int .i64 a0_3, .slice A0_4 l0_4.length c0_4], .int .i64 a1] w fun e w' => e = .returned (.bool r) ∧ Below w.heap.size w w' := by
 have hu24 := Try.underlying24
 have HR0_4 := Aside0.mk hr0_4
 have HC0_4 := Aside0.mk hc0_4
 clear hr0_4 hc0_4
 have HB := Aside0.mk (Below.refl w.heap.size w)
 have H : ((assessorref03_Small.f k a0_0 a0_1 a0_2 a0_3 l0_4 100).bind fun t425 => (if t425 = true then ((tree_Find.f a0_0 a0_1 a0_2 a0_3 l0_4 a1).bind fun bt427 => (if a0_2 ≤ a1 then (assessorlaw03_TreeFinds.j0 k a1 bt427.1 bt427.2 (bt427.2 != (decide (a1 < a0_3))) a0_0 a0_1 a0_2 a0_3 l0_4) else (assessorlaw03_TreeFinds.j0 k a1 bt427.1 bt427.2 (bt427.2 != false) a0_0 a0_1 a0_2 a0_3 l0_4))) else ((assessorlaw03_awake.f k).bind fun t426 => (some t426)))) = some r := h
 clear h
 replace H := Option.bind_eq_some_iff.mp H
 obtain ⟨t425, A30, H⟩ := H
 replace H : (if t425 = true then ((tree_Find.f a0_0 a0_1 a0_2 a0_3 l0_4 a1).bind fun bt427 => (if a0_2 ≤ a1 then (assessorlaw03_TreeFinds.j0 k a1 bt427.1 bt427.2 (bt427.2 != (decide (a1 < a0_3))) a0_0 a0_1 a0_2 a0_3 l0_4) else (assessorlaw03_TreeFinds.j0 k a1 bt427.1 bt427.2 (bt427.2 != false) a0_0 a0_1 a0_2 a0_3 l0_4))) else ((assessorlaw03_awake.f k).bind fun t426 => (some t426))) = some r := H
 have A3 := Aside0.mk A30
 clear A30
 by_cases c4 : t425 = true
 ·subst c4
  have H1 : ((tree_Find.f a0_0 a0_1 a0_2 a0_3 l0_4 a1).bind fun bt427 => (if a0_2 ≤ a1 then (assessorlaw03_TreeFinds.j0 k a1 bt427.1 bt427.2 (bt427.2 != (decide (a1 < a0_3))) a0_0 a0_1 a0_2 a0_3 l0_4) else (assessorlaw03_TreeFinds.j0 k a1 bt427.1 bt427.2 (bt427.2 != false) a0_0 a0_1 a0_2 a0_3 l0_4))) = some r := by rw [if_pos rfl] at H; exact H
  clear H
  have H := H1
  clear H1
  replace H := Option.bind_eq_some_iff.mp H
  obtain ⟨⟨t427, t428⟩, A50, H⟩ := H
  replace H : (if a0_2 ≤ a1 then (assessorlaw03_TreeFinds.j0 k a1 t427 t428 (t428 != (decide (a1 < a0_3))) a0_0 a0_1 a0_2 a0_3 l0_4) else (assessorlaw03_TreeFinds.j0 k a1 t427 t428 (t428 != false) a0_0 a0_1 a0_2 a0_3 l0_4)) = some r := H
  have A5 := Aside0.mk A50
  clear A50
  have HC6 := Aside0.mk H
  clear H
  go_enter Try.func7, Try.ntmps7
  go_upto_region 4 with (first | ((with_reducible refine gate_dst (N := 2) rfl ?_); refine box_event ?hg (N := 2) ?hd (cs := #[.int .i64 a0_0, .string a0_1, .int .i64 a0_2, .int .i64 a0_3, .slice A0_4 l0_4.length c0_4]) (t := 24) ?hr ?_; (case hd => rfl); (case hg => rfl); (case hr => first | (go_simp; done) | (go_simp; rfl)); intro gb424 hg w7 hbox hb; have n0_ := Aside0.mk (below_step (by repeat (first | (with_reducible first | exact HB.out | apply below_alloc | apply pw_below_drewN | apply below_drew1) | exact HB.out)) hb); have n1_ := Aside0.mk (hbox); have n2_ := Aside0.mk ((by rw [hg]; exact (below_size (by repeat (first | (with_reducible first | exact HB.out | apply below_alloc | apply pw_below_drewN | apply below_drew1) | exact HB.out))) : w.heap.size ≤ gb424)); have n3_ := Aside0.mk ((by rw [hg]; exact (below_size (by repeat (first | (with_reducible first | exact HB.out | apply below_alloc | apply pw_below_drewN | apply below_drew1) | exact HB.out))) : w.heap.size ≤ gb424)); clear HB; have HB := n0_; have BK424 := n1_; have GW424 := n2_; have GE424 := n3_; clear n0_ n1_ n2_ n3_; clear hb hbox hg; have hcz8_0 : w7.cell? ⟨gb424, 0, none⟩ = some (.int .i64 a0_0) := (blk_cell BK424.out 0).trans rfl; have hcz8_1 : w7.cell? ⟨gb424, 1, none⟩ = some (.string a0_1) := (blk_cell BK424.out 1).trans rfl; have hcz8_2 : w7.cell? ⟨gb424, 2, none⟩ = some (.int .i64 a0_2) := (blk_cell BK424.out 2).trans rfl; have hcz8_3 : w7.cell? ⟨gb424, 3, none⟩ = some (.int .i64 a0_3) := (blk_cell BK424.out 3).trans rfl; have hcz8_4 : w7.cell? ⟨gb424, 4, none⟩ = some (.slice A0_4 l0_4.length c0_4) := (blk_cell BK424.out 4).trans rfl; have hfz8_0 := blk_frozen BK424.out 0; have hfz8_1 := blk_frozen BK424.out 1; have hfz8_2 := blk_frozen BK424.out 2; have hfz8_3 := blk_frozen BK424.out 3; have hfz8_4 := blk_frozen BK424.out 4) | ((with_reducible refine gate_callee (f := 10) rfl ?_); refine goesL_ (some 14) rfl rfl Try.func10 (by kernel_rfl) rfl #[.agg #[.int .i64 a0_0, .string a0_1, .int .i64 a0_2, .int .i64 a0_3, .slice A0_4 l0_4.length c0_4], .int .i64 100] rfl (by (try simp only [List.map_toArray, List.map_cons, List.map_nil]); first | done | rfl | (simp only [List.length_drop, List.length_take]; rfl)) ?_; (with_reducible refine (assessorref03_Small.calls k a0_0 a0_1 a0_2 a0_3 _ _ l0_4 100 true _ ?side1 ?side2 A3.out).mono ?_); (case side1 => repeat (first | exact (Kd.C_below HR0_4.out HB.out) | (with_reducible refine Kd.C_alloc ?_ _) | (with_reducible refine Kd.C_drewN ?_ _) | (with_reducible refine Kd.C_drew ?_))); (case side2 => exact HC0_4.out); rintro e w9 ⟨rfl, hb⟩; refine ⟨_, rfl, ?_⟩; have n0_ := Aside0.mk (blk_below (g := gb424) (o := .cells #[.int .i64 a0_0, .string a0_1, .int .i64 a0_2, .int .i64 a0_3, .slice A0_4 l0_4.length c0_4] 24 (0, 0)) (by (with_reducible repeat (first | refine blk_drewN ?_ _ | refine blk_drew ?_ | refine blk_alloc ?_ _)); exact BK424.out) hb); have n1_ := Aside0.mk (below_step (by repeat (first | (with_reducible first | exact HB.out | apply below_alloc | apply pw_below_drewN | apply below_drew1 | refine below_set ?_ GE424.out) | exact HB.out)) hb); clear BK424; clear HB; have BK424 := n0_; have HB := n1_; clear n0_ n1_; (try clear hb); (try clear hb2); (try clear hk); (try clear hi); have hcz10_0 : w9.cell? ⟨gb424, 0, none⟩ = some (.int .i64 a0_0) := (blk_cell BK424.out 0).trans rfl; have hcz10_1 : w9.cell? ⟨gb424, 1, none⟩ = some (.string a0_1) := (blk_cell BK424.out 1).trans rfl; have hcz10_2 : w9.cell? ⟨gb424, 2, none⟩ = some (.int .i64 a0_2) := (blk_cell BK424.out 2).trans rfl; have hcz10_3 : w9.cell? ⟨gb424, 3, none⟩ = some (.int .i64 a0_3) := (blk_cell BK424.out 3).trans rfl; have hcz10_4 : w9.cell? ⟨gb424, 4, none⟩ = some (.slice A0_4 l0_4.length c0_4) := (blk_cell BK424.out 4).trans rfl; have hfz10_0 := blk_frozen BK424.out 0; have hfz10_1 := blk_frozen BK424.out 1; have hfz10_2 := blk_frozen BK424.out 2; have hfz10_3 := blk_frozen BK424.out 3; have hfz10_4 := blk_frozen BK424.out 4) | ((with_reducible refine gate_callee (f := 30) rfl ?_); refine goesL_ (some 20) rfl rfl Try.func30 (by kernel_rfl) rfl #[.agg #[.int .i64 a0_0, .string a0_1, .int .i64 a0_2, .int .i64 a0_3, .slice A0_4 l0_4.length c0_4], .int .i64 a1] rfl (by (try simp only [List.map_toArray, List.map_cons, List.map_nil]); first | done | rfl | (simp only [List.length_drop, List.length_take]; rfl)) ?_; (with_reducible refine (tree_Find.calls a0_0 a0_1 a0_2 a0_3 _ _ l0_4 a1 t427 t428 _ ?side1 ?side2 A5.out).mono ?_); (case side1 => repeat (first | exact (Kd.C_below HR0_4.out HB.out) | (with_reducible refine Kd.C_alloc ?_ _) | (with_reducible refine Kd.C_drewN ?_ _) | (with_reducible refine Kd.C_drew ?_))); (case side2 => exact HC0_4.out); rintro e w11 ⟨rfl, hb⟩; refine ⟨_, rfl, ?_⟩; have n0_ := Aside0.mk (blk_below (g := gb424) (o := .cells #[.int .i64 a0_0, .string a0_1, .int .i64 a0_2, .int .i64 a0_3, .slice A0_4 l0_4.length c0_4] 24 (0, 0)) (by (with_reducible repeat (first | refine blk_drewN ?_ _ | refine blk_drew ?_ | refine blk_alloc ?_ _)); exact BK424.out) hb); have n1_ := Aside0.mk (below_step (by repeat (first | (with_reducible first | exact HB.out | apply below_alloc | apply pw_below_drewN | apply below_drew1 | refine below_set ?_ GE424.out) | exact HB.out)) hb); clear BK424; clear HB; have BK424 := n0_; have HB := n1_; clear n0_ n1_; (try clear hb); (try clear hb2); (try clear hk); (try clear hi)))
  (try simp only [Act.put, List.setIfInBounds_toArray, List.set_cons_zero, List.set_cons_succ])
  go_cut [34] (fun v34 wc => ∃ (kq : Nat) (x34_5 : Bool), v34 = .bool x34_5 ∧ Aside0 (assessorlaw03_TreeFinds.j0 kq a1 t427 t428 x34_5 a0_0 a0_1 a0_2 a0_3 l0_4 = some r) ∧ Aside0 (kq ≤ k) ∧ Aside0 (wc.heap[gb424]? = some (.cells #[.int .i64 a0_0, .string a0_1, .int .i64 a0_2, .int .i64 a0_3, (.slice A0_4 l0_4.length c0_4)] 24 (0, 0))) ∧ Aside0 (Below w.heap.size w wc))
  case first =>
   have H := HC6.out
   clear HC6
   by_cases c12 : a0_2 ≤ a1
   ·rw [if_pos c12] at H
    have c12b0 : decide (a0_2 ≤ a1) = true := decide_eq_true c12
    clear c12
    (first | rw [c12b0] | (simp only [i64_w, i32_w]; rw [c12b0]) | skip)
    have H' := Aside0.mk H
    clear H
    have hcz13_0 : w11.cell? ⟨gb424, 0, none⟩ = some (.int .i64 a0_0) := (blk_cell BK424.out 0).trans rfl
    have hcz13_1 : w11.cell? ⟨gb424, 1, none⟩ = some (.string a0_1) := (blk_cell BK424.out 1).trans rfl
    have hcz13_2 : w11.cell? ⟨gb424, 2, none⟩ = some (.int .i64 a0_2) := (blk_cell BK424.out 2).trans rfl
    have hcz13_3 : w11.cell? ⟨gb424, 3, none⟩ = some (.int .i64 a0_3) := (blk_cell BK424.out 3).trans rfl
    have hcz13_4 : w11.cell? ⟨gb424, 4, none⟩ = some (.slice A0_4 l0_4.length c0_4) := (blk_cell BK424.out 4).trans rfl
    have hfz13_0 := blk_frozen BK424.out 0
    have hfz13_1 := blk_frozen BK424.out 1
    have hfz13_2 := blk_frozen BK424.out 2
    have hfz13_3 := blk_frozen BK424.out 3
    have hfz13_4 := blk_frozen BK424.out 4
    go_wp2
    go_meet
    case rel => exact ⟨_, ((t428 != (decide (a1 < a0_3)))), (by first | rfl | (simp; done) | (simp [*]; done)), H', ⟨by first | omega | exact Nat.le_refl _⟩, ⟨by (with_reducible repeat (first | refine blk_drewN ?_ _ | refine blk_drew ?_ | refine blk_alloc ?_ _)); exact BK424.out⟩, ⟨by repeat (first | (with_reducible first | exact HB.out | apply below_alloc | apply pw_below_drewN | apply below_drew1 | refine below_set ?_ GE424.out) | exact HB.out)⟩⟩
   ·rw [if_neg c12] at H
    have c12b0 : decide (a0_2 ≤ a1) = false := decide_eq_false c12
    clear c12
    (first | rw [c12b0] | (simp only [i64_w, i32_w]; rw [c12b0]) | skip)
    have H' := Aside0.mk H
    clear H
    have hcz14_0 : w11.cell? ⟨gb424, 0, none⟩ = some (.int .i64 a0_0) := (blk_cell BK424.out 0).trans rfl
    have hcz14_1 : w11.cell? ⟨gb424, 1, none⟩ = some (.string a0_1) := (blk_cell BK424.out 1).trans rfl
    have hcz14_2 : w11.cell? ⟨gb424, 2, none⟩ = some (.int .i64 a0_2) := (blk_cell BK424.out 2).trans rfl
    have hcz14_3 : w11.cell? ⟨gb424, 3, none⟩ = some (.int .i64 a0_3) := (blk_cell BK424.out 3).trans rfl
    have hcz14_4 : w11.cell? ⟨gb424, 4, none⟩ = some (.slice A0_4 l0_4.length c0_4) := (blk_cell BK424.out 4).trans rfl
    have hfz14_0 := blk_frozen BK424.out 0
    have hfz14_1 := blk_frozen BK424.out 1
    have hfz14_2 := blk_frozen BK424.out 2
    have hfz14_3 := blk_frozen BK424.out 3
    have hfz14_4 := blk_frozen BK424.out 4
    go_wp2
    go_meet
    case rel => exact ⟨_, ((t428 != false)), (by first | rfl | (simp; done) | (simp [*]; done)), H', ⟨by first | omega | exact Nat.le_refl _⟩, ⟨by (with_reducible repeat (first | refine blk_drewN ?_ _ | refine blk_drew ?_ | refine blk_alloc ?_ _)); exact BK424.out⟩, ⟨by repeat (first | (with_reducible first | exact HB.out | apply below_alloc | apply pw_below_drewN | apply below_drew1 | refine below_set ?_ GE424.out) | exact HB.out)⟩⟩
  case rest =>
   clear HC6
   try clear c1
   try clear p2
   try clear c3
   try clear c4
   try clear c7
   try clear c10
   try clear c12
   try clear c12b0
   try clear hcz10_0
   try clear hcz10_1
   try clear hcz10_2
   try clear hcz10_3
   try clear hcz10_4
   try clear hcz13_0
   try clear hcz13_1
   try clear hcz13_2
   try clear hcz13_3
   try clear hcz13_4
   try clear hcz14_0
   try clear hcz14_1
   try clear hcz14_2
   try clear hcz14_3
   try clear hcz14_4
   try clear hcz8_0
   try clear hcz8_1
   try clear hcz8_2
   try clear hcz8_3
   try clear hcz8_4
   try clear hfz10_0
   try clear hfz10_1
   try clear hfz10_2
   try clear hfz10_3
   try clear hfz10_4
   try clear hfz13_0
   try clear hfz13_1
   try clear hfz13_2
   try clear hfz13_3
   try clear hfz13_4
   try clear hfz14_0
   try clear hfz14_1
   try clear hfz14_2
   try clear hfz14_3
   try clear hfz14_4
   try clear hfz8_0
   try clear hfz8_1
   try clear hfz8_2
   try clear hfz8_3
   try clear hfz8_4
   obtain ⟨kq, x34_5, rfl, HA, HJ5, BK424, HB⟩ := hcut
   cases kq with
   | zero => exact absurd HA.out (by simp [assessorlaw03_TreeFinds.j0])
   | succ kj5 =>
    have H := HA.out
    clear HA
    simp only [assessorlaw03_TreeFinds.j0] at H
    by_cases c15 : x34_5 = true
    ·subst c15
     have H1 : (some false) = some r := by rw [if_pos rfl] at H; exact H
     clear H
     have H := H1
     clear H1
     obtain rfl := Option.some.inj H
     go_wp2
     go_ret
     exact ⟨by first | rfl | (simp [errW_none, errW_some] <;> rfl) | (simp [*, errW_none, errW_some] <;> rfl) | (simp [IntKind.wrap_i64, wrap64]; done), by repeat (first | (with_reducible first | exact HB.out | apply below_alloc | apply pw_below_drewN | apply below_drew1 | refine below_set ?_ GE424.out) | exact HB.out)⟩
    ·replace c15 := Bool.eq_false_iff.mpr c15
     subst c15
     have H1 : (if t428 = true then ((tree_Path.f a0_0 a0_1 a0_2 a0_3 l0_4 t427).bind fun bt430 => ((tree_Get.f kj5 a0_0 a0_1 a0_2 a0_3 l0_4 bt430.1).bind fun bt434 => (if bt430.2 = true then (if bt434.2.2.2.2.2 = true then (if a1 < bt434.2.2.1 then (none) else (if a1 ≥ bt434.2.2.2.1 then (some false) else (assessorlaw03_TreeFinds.l0 kj5 a1 bt434.2.2.2.2.1 (bt434.2.2.2.2.1.length : Int) 0))) else (none)) else (none)))) else (if t427 = 0 then ((assessorlaw03_awake.f kj5).bind fun t429 => (some t429)) else (some false))) = some r := by rw [if_neg (show ¬ (false = true) by decide)] at H; exact H
     clear H
     have H := H1
     clear H1
     by_cases c16 : t428 = true
     ·subst c16
      have H1 : ((tree_Path.f a0_0 a0_1 a0_2 a0_3 l0_4 t427).bind fun bt430 => ((tree_Get.f kj5 a0_0 a0_1 a0_2 a0_3 l0_4 bt430.1).bind fun bt434 => (if bt430.2 = true then (if bt434.2.2.2.2.2 = true then (if a1 < bt434.2.2.1 then (none) else (if a1 ≥ bt434.2.2.2.1 then (some false) else (assessorlaw03_TreeFinds.l0 kj5 a1 bt434.2.2.2.2.1 (bt434.2.2.2.2.1.length : Int) 0))) else (none)) else (none)))) = some r := by rw [if_pos rfl] at H; exact H
      clear H
      have H := H1
      clear H1
      replace H := Option.bind_eq_some_iff.mp H
      obtain ⟨⟨t430, t433⟩, A170, H⟩ := H
      replace H : ((tree_Get.f kj5 a0_0 a0_1 a0_2 a0_3 l0_4 t430).bind fun bt434 => (if t433 = true then (if bt434.2.2.2.2.2 = true then (if a1 < bt434.2.2.1 then (none) else (if a1 ≥ bt434.2.2.2.1 then (some false) else (assessorlaw03_TreeFinds.l0 kj5 a1 bt434.2.2.2.2.1 (bt434.2.2.2.2.1.length : Int) 0))) else (none)) else (none))) = some r := H
      have A17 := Aside0.mk A170
      clear A170
      replace H := Option.bind_eq_some_iff.mp H
      obtain ⟨⟨t434, t435, t436, t437, t438, t441⟩, A180, H⟩ := H
      replace H : (if t433 = true then (if t441 = true then (if a1 < t436 then (none) else (if a1 ≥ t437 then (some false) else (assessorlaw03_TreeFinds.l0 kj5 a1 t438 (t438.length : Int) 0))) else (none)) else (none)) = some r := H
      have A18 := Aside0.mk A180
      clear A180
      by_cases c19 : t433 = true
      ·subst c19
       have H1 : (if t441 = true then (if a1 < t436 then (none) else (if a1 ≥ t437 then (some false) else (assessorlaw03_TreeFinds.l0 kj5 a1 t438 (t438.length : Int) 0))) else (none)) = some r := by rw [if_pos rfl] at H; exact H
       clear H
       have H := H1
       clear H1
       by_cases c20 : t441 = true
       ·subst c20
        have H1 : (if a1 < t436 then (none) else (if a1 ≥ t437 then (some false) else (assessorlaw03_TreeFinds.l0 kj5 a1 t438 (t438.length : Int) 0))) = some r := by rw [if_pos rfl] at H; exact H
        clear H
        have H := H1
        clear H1
        by_cases c21 : a1 < t436
        ·rw [if_pos c21] at H
         exact absurd H (by simp)
        ·rw [if_neg c21] at H
         have c21b0 : decide (a1 < t436) = false := decide_eq_false c21
         clear c21
         by_cases c22 : a1 ≥ t437
         ·rw [if_pos c22] at H
          have c22b0 : decide (t437 ≤ a1) = true := decide_eq_true c22
          clear c22
          obtain rfl := Option.some.inj H
          have hcz23_0 : wc.cell? ⟨gb424, 0, none⟩ = some (.int .i64 a0_0) := (blk_cell BK424.out 0).trans rfl
          have hcz23_1 : wc.cell? ⟨gb424, 1, none⟩ = some (.string a0_1) := (blk_cell BK424.out 1).trans rfl
          have hcz23_2 : wc.cell? ⟨gb424, 2, none⟩ = some (.int .i64 a0_2) := (blk_cell BK424.out 2).trans rfl
          have hcz23_3 : wc.cell? ⟨gb424, 3, none⟩ = some (.int .i64 a0_3) := (blk_cell BK424.out 3).trans rfl
          have hcz23_4 : wc.cell? ⟨gb424, 4, none⟩ = some (.slice A0_4 l0_4.length c0_4) := (blk_cell BK424.out 4).trans rfl
          have hfz23_0 := blk_frozen BK424.out 0
          have hfz23_1 := blk_frozen BK424.out 1
          have hfz23_2 := blk_frozen BK424.out 2
          have hfz23_3 := blk_frozen BK424.out 3
          have hfz23_4 := blk_frozen BK424.out 4
          go_wp2_with (first | ((with_reducible refine gate_callee (f := 26) rfl ?_); refine goesL_ (some 45) rfl rfl Try.func26 (by kernel_rfl) rfl #[.agg #[.int .i64 a0_0, .string a0_1, .int .i64 a0_2, .int .i64 a0_3, .slice A0_4 l0_4.length c0_4], .int .i64 t427] rfl (by (try simp only [List.map_toArray, List.map_cons, List.map_nil]); first | done | rfl | (simp only [List.length_drop, List.length_take]; rfl)) ?_; (with_reducible refine (tree_Path.calls a0_0 a0_1 a0_2 a0_3 _ _ l0_4 t427 t430 true _ ?side1 ?side2 A17.out).mono ?_); (case side1 => repeat (first | exact (Kd.C_below HR0_4.out HB.out) | (with_reducible refine Kd.C_alloc ?_ _) | (with_reducible refine Kd.C_drewN ?_ _) | (with_reducible refine Kd.C_drew ?_))); (case side2 => exact HC0_4.out); rintro e w24 ⟨v431, rfl, ho0, hb⟩; refine ⟨_, rfl, ?_⟩; have n0_ := Aside0.mk (Kd.R_lower ho0 (below_size (by repeat (first | (with_reducible first | exact HB.out | apply below_alloc | apply pw_below_drewN | apply below_drew1 | refine below_set ?_ GE424.out) | exact HB.out)))); have n1_ := Aside0.mk (blk_below (g := gb424) (o := .cells #[.int .i64 a0_0, .string a0_1, .int .i64 a0_2, .int .i64 a0_3, .slice A0_4 l0_4.length c0_4] 24 (0, 0)) (by (with_reducible repeat (first | refine blk_drewN ?_ _ | refine blk_drew ?_ | refine blk_alloc ?_ _)); exact BK424.out) hb); have n2_ := Aside0.mk (below_step (by repeat (first | (with_reducible first | exact HB.out | apply below_alloc | apply pw_below_drewN | apply below_drew1 | refine below_set ?_ GE424.out) | exact HB.out)) hb); clear BK424; clear HB; have HO432 := n0_; have BK424 := n1_; have HB := n2_; clear n0_ n1_ n2_; (try clear hb); (try clear hb2); (try clear hk); (try clear hi); (try clear ho0); have hcz25_0 : w24.cell? ⟨gb424, 0, none⟩ = some (.int .i64 a0_0) := (blk_cell BK424.out 0).trans rfl; have hcz25_1 : w24.cell? ⟨gb424, 1, none⟩ = some (.string a0_1) := (blk_cell BK424.out 1).trans rfl; have hcz25_2 : w24.cell? ⟨gb424, 2, none⟩ = some (.int .i64 a0_2) := (blk_cell BK424.out 2).trans rfl; have hcz25_3 : w24.cell? ⟨gb424, 3, none⟩ = some (.int .i64 a0_3) := (blk_cell BK424.out 3).trans rfl; have hcz25_4 : w24.cell? ⟨gb424, 4, none⟩ = some (.slice A0_4 l0_4.length c0_4) := (blk_cell BK424.out 4).trans rfl; have hfz25_0 := blk_frozen BK424.out 0; have hfz25_1 := blk_frozen BK424.out 1; have hfz25_2 := blk_frozen BK424.out 2; have hfz25_3 := blk_frozen BK424.out 3; have hfz25_4 := blk_frozen BK424.out 4; obtain ⟨Ao26, co26, eo26⟩ := Kd.R_slice HO432.out; subst eo26) | ((with_reducible refine gate_callee (f := 24) rfl ?_); refine goesL_ (some 51) rfl rfl Try.func24 (by kernel_rfl) rfl #[.agg #[.int .i64 a0_0, .string a0_1, .int .i64 a0_2, .int .i64 a0_3, .slice A0_4 l0_4.length c0_4], .slice Ao26 t430.length co26] rfl (by (try simp only [List.map_toArray, List.map_cons, List.map_nil]); first | done | rfl | (simp only [List.length_drop, List.length_take]; rfl)) ?_; (with_reducible refine (tree_Get.calls kj5 a0_0 a0_1 a0_2 a0_3 (fun k_ => k_ < w.heap.size) _ _ l0_4 _ _ t430 t434 t435 t436 t437 t438 true _ ?side1 ?side2 ?side3 A18.out).mono ?_); (case side1 => exact Kd.V_mk HC0_4.out (Kd.F_below (Kd.C_F k24_heap HR0_4.out) (by repeat (first | (with_reducible first | exact HB.out | apply below_alloc | apply pw_below_drewN | apply below_drew1 | refine below_set ?_ GE424.out) | exact HB.out)))); (case side2 => repeat (first | exact (Kd.R_reads' HO432.out).2.2 | (with_reducible refine Kd.C_alloc ?_ _) | (with_reducible refine Kd.C_drewN ?_ _) | (with_reducible refine Kd.C_drew ?_))); (case side3 => exact (Kd.R_reads' HO432.out).2.1); rintro e w27 ⟨v439, rfl, ho0, hb⟩; refine ⟨_, rfl, ?_⟩; have n0_ := Aside0.mk (Kd.R_below (by (with_reducible repeat (first | apply Kd.R_alloc | apply Kd.R_drewN | apply Kd.R_drew)); exact HO432.out) hb); have n1_ := Aside0.mk (Kd.V_lower (Kd.V_mono (ok' := fun k_ => some k_ ≠ (.slice Ao26 t430.length co26 : Value).ownBlock ∧ k_ ≠ gb424) ho0 (fun k_ hk_ => ⟨Or.elim hk_ (fun hs_ => fun e_ => Nat.not_le.2 hs_ (Kd.R_base HO432.out k_ e_.symm)) (fun hn_ => (Kd.fresh' (Kd.R_lt (by (with_reducible repeat (first | apply Kd.R_alloc | apply Kd.R_drewN | apply Kd.R_drew)); exact HO432.out)) k_ hn_)), Or.elim hk_ (fun hs_ => fun e_ => Nat.not_le.2 hs_ (by rw [e_]; exact GW424.out)) (fun hn_ => (Kd.freshB (g := gb424) (o := .cells #[.int .i64 a0_0, .string a0_1, .int .i64 a0_2, .int .i64 a0_3, .slice A0_4 l0_4.length c0_4] 24 (0, 0)) (by (with_reducible repeat (first | refine blk_drewN ?_ _ | refine blk_drew ?_ | refine blk_alloc ?_ _)); exact BK424.out) k_ hn_))⟩)) (below_size (by repeat (first | (with_reducible first | exact HB.out | apply below_alloc | apply pw_below_drewN | apply below_drew1 | refine below_set ?_ GE424.out) | exact HB.out)))); have n2_ := Aside0.mk (blk_below (g := gb424) (o := .cells #[.int .i64 a0_0, .string a0_1, .int .i64 a0_2, .int .i64 a0_3, .slice A0_4 l0_4.length c0_4] 24 (0, 0)) (by (with_reducible repeat (first | refine blk_drewN ?_ _ | refine blk_drew ?_ | refine blk_alloc ?_ _)); exact BK424.out) hb); have n3_ := Aside0.mk (below_step (by repeat (first | (with_reducible first | exact HB.out | apply below_alloc | apply pw_below_drewN | apply below_drew1 | refine below_set ?_ GE424.out) | exact HB.out)) hb); clear HO432; clear BK424; clear HB; have HO432 := n0_; have HO440 := n1_; have BK424 := n2_; have HB := n3_; clear n0_ n1_ n2_ n3_; (try clear hb); (try clear hb2); (try clear hk); (try clear hi); (try clear ho0)) | ((with_reducible refine gate_dst (N := 9) rfl ?_); refine box_event ?hg (N := 9) ?hd (cs := #[.int .i64 0, .string (⟨#[]⟩ : ByteArray), .int .i64 0, .int .i64 0, .slice none 0 0]) (t := 24) ?hr ?_; (case hd => rfl); (case hg => rfl); (case hr => first | (go_simp; done) | (go_simp; rfl)); intro gb442 hg w28 hbox hb; have n0_ := Aside0.mk (Kd.R_below (by (with_reducible repeat (first | apply Kd.R_alloc | apply Kd.R_drewN | apply Kd.R_drew)); exact HO432.out) hb); have n1_ := Aside0.mk (Kd.V_below (Kd.V_elderB (by (with_reducible repeat (first | apply Kd.V_alloc | apply Kd.V_drewN | apply Kd.V_drew)); exact HO440.out) gb442 (Nat.le_of_eq hg.symm)) hb); have n2_ := Aside0.mk (blk_below (g := gb424) (o := .cells #[.int .i64 a0_0, .string a0_1, .int .i64 a0_2, .int .i64 a0_3, .slice A0_4 l0_4.length c0_4] 24 (0, 0)) (by (with_reducible repeat (first | refine blk_drewN ?_ _ | refine blk_drew ?_ | refine blk_alloc ?_ _)); exact BK424.out) hb); have n3_ := Aside0.mk (below_step (by repeat (first | (with_reducible first | exact HB.out | apply below_alloc | apply pw_below_drewN | apply below_drew1 | refine below_set ?_ GE424.out) | exact HB.out)) hb); have n4_ := Aside0.mk (hbox); have n5_ := Aside0.mk ((by rw [hg]; exact (below_size (by repeat (first | (with_reducible first | exact HB.out | apply below_alloc | apply pw_below_drewN | apply below_drew1 | refine below_set ?_ GE424.out) | exact HB.out))) : w.heap.size ≤ gb442)); have n6_ := Aside0.mk ((by rw [hg]; exact (below_size (by repeat (first | (with_reducible first | exact HB.out | apply below_alloc | apply pw_below_drewN | apply below_drew1 | refine below_set ?_ GE424.out) | exact HB.out))) : w.heap.size ≤ gb442)); have n7_ := Aside0.mk ((by rw [hg]; exact Nat.ne_of_lt (blk_lt (g := gb424) (o := .cells #[.int .i64 a0_0, .string a0_1, .int .i64 a0_2, .int .i64 a0_3, .slice A0_4 l0_4.length c0_4] 24 (0, 0)) (by (with_reducible repeat (first | refine blk_drewN ?_ _ | refine blk_drew ?_ | refine blk_alloc ?_ _)); exact BK424.out)) : gb424 ≠ gb442)); have n8_ := Aside0.mk ((by rw [hg]; exact Nat.ne_of_gt (blk_lt (g := gb424) (o := .cells #[.int .i64 a0_0, .string a0_1, .int .i64 a0_2, .int .i64 a0_3, .slice A0_4 l0_4.length c0_4] 24 (0, 0)) (by (with_reducible repeat (first | refine blk_drewN ?_ _ | refine blk_drew ?_ | refine blk_alloc ?_ _)); exact BK424.out)) : gb442 ≠ gb424)); clear HO432; clear HO440; clear BK424; clear HB; have HO432 := n0_; have HO440 := n1_; have BK424 := n2_; have HB := n3_; have BK442 := n4_; have GW442 := n5_; have GE442 := n6_; have NB424_442 := n7_; have NB442_424 := n8_; clear n0_ n1_ n2_ n3_ n4_ n5_ n6_ n7_ n8_; clear hb hbox hg; have hnb29 := NB442_424.out; have hnc29 := NB424_442.out; have hcz30_0 : w28.cell? ⟨gb442, 0, none⟩ = some (.int .i64 0) := (blk_cell BK442.out 0).trans rfl; have hcz30_1 : w28.cell? ⟨gb442, 1, none⟩ = some (.string (⟨#[]⟩ : ByteArray)) := (blk_cell BK442.out 1).trans rfl; have hcz30_2 : w28.cell? ⟨gb442, 2, none⟩ = some (.int .i64 0) := (blk_cell BK442.out 2).trans rfl; have hcz30_3 : w28.cell? ⟨gb442, 3, none⟩ = some (.int .i64 0) := (blk_cell BK442.out 3).trans rfl; have hcz30_4 : w28.cell? ⟨gb442, 4, none⟩ = some (.slice none 0 0) := (blk_cell BK442.out 4).trans rfl; have hfz30_0 := blk_frozen BK442.out 0; have hfz30_1 := blk_frozen BK442.out 1; have hfz30_2 := blk_frozen BK442.out 2; have hfz30_3 := blk_frozen BK442.out 3; have hfz30_4 := blk_frozen BK442.out 4; obtain ⟨Ao31, co31, eo31⟩ := Kd.V_slice HO440.out; subst eo31))
          go_ret
          exact ⟨by first | rfl | (simp [errW_none, errW_some] <;> rfl) | (simp [*, errW_none, errW_some] <;> rfl) | (simp [IntKind.wrap_i64, wrap64]; done), by repeat (first | (with_reducible first | exact HB.out | apply below_alloc | apply pw_below_drewN | apply below_drew1 | refine below_set ?_ GE424.out | refine below_set ?_ GE442.out) | exact HB.out)⟩
         ·rw [if_neg c22] at H
          have c22b0 : decide (t437 ≤ a1) = false := decide_eq_false c22
          clear c22
          have H' := Aside0.mk H
          clear H
          have hcz32_0 : wc.cell? ⟨gb424, 0, none⟩ = some (.int .i64 a0_0) := (blk_cell BK424.out 0).trans rfl
          have hcz32_1 : wc.cell? ⟨gb424, 1, none⟩ = some (.string a0_1) := (blk_cell BK424.out 1).trans rfl
          have hcz32_2 : wc.cell? ⟨gb424, 2, none⟩ = some (.int .i64 a0_2) := (blk_cell BK424.out 2).trans rfl
          have hcz32_3 : wc.cell? ⟨gb424, 3, none⟩ = some (.int .i64 a0_3) := (blk_cell BK424.out 3).trans rfl
          have hcz32_4 : wc.cell? ⟨gb424, 4, none⟩ = some (.slice A0_4 l0_4.length c0_4) := (blk_cell BK424.out 4).trans rfl
          have hfz32_0 := blk_frozen BK424.out 0
          have hfz32_1 := blk_frozen BK424.out 1
          have hfz32_2 := blk_frozen BK424.out 2
          have hfz32_3 := blk_frozen BK424.out 3
          have hfz32_4 := blk_frozen BK424.out 4
          go_wp2_with (first | ((with_reducible refine gate_callee (f := 26) rfl ?_); refine goesL_ (some 45) rfl rfl Try.func26 (by kernel_rfl) rfl #[.agg #[.int .i64 a0_0, .string a0_1, .int .i64 a0_2, .int .i64 a0_3, .slice A0_4 l0_4.length c0_4], .int .i64 t427] rfl (by (try simp only [List.map_toArray, List.map_cons, List.map_nil]); first | done | rfl | (simp only [List.length_drop, List.length_take]; rfl)) ?_; (with_reducible refine (tree_Path.calls a0_0 a0_1 a0_2 a0_3 _ _ l0_4 t427 t430 true _ ?side1 ?side2 A17.out).mono ?_); (case side1 => repeat (first | exact (Kd.C_below HR0_4.out HB.out) | (with_reducible refine Kd.C_alloc ?_ _) | (with_reducible refine Kd.C_drewN ?_ _) | (with_reducible refine Kd.C_drew ?_))); (case side2 => exact HC0_4.out); rintro e w33 ⟨v431, rfl, ho0, hb⟩; refine ⟨_, rfl, ?_⟩; have n0_ := Aside0.mk (Kd.R_lower ho0 (below_size (by repeat (first | (with_reducible first | exact HB.out | apply below_alloc | apply pw_below_drewN | apply below_drew1 | refine below_set ?_ GE424.out) | exact HB.out)))); have n1_ := Aside0.mk (blk_below (g := gb424) (o := .cells #[.int .i64 a0_0, .string a0_1, .int .i64 a0_2, .int .i64 a0_3, .slice A0_4 l0_4.length c0_4] 24 (0, 0)) (by (with_reducible repeat (first | refine blk_drewN ?_ _ | refine blk_drew ?_ | refine blk_alloc ?_ _)); exact BK424.out) hb); have n2_ := Aside0.mk (below_step (by repeat (first | (with_reducible first | exact HB.out | apply below_alloc | apply pw_below_drewN | apply below_drew1 | refine below_set ?_ GE424.out) | exact HB.out)) hb); clear BK424; clear HB; have HO432 := n0_; have BK424 := n1_; have HB := n2_; clear n0_ n1_ n2_; (try clear hb); (try clear hb2); (try clear hk); (try clear hi); (try clear ho0); have hcz34_0 : w33.cell? ⟨gb424, 0, none⟩ = some (.int .i64 a0_0) := (blk_cell BK424.out 0).trans rfl; have hcz34_1 : w33.cell? ⟨gb424, 1, none⟩ = some (.string a0_1) := (blk_cell BK424.out 1).trans rfl; have hcz34_2 : w33.cell? ⟨gb424, 2, none⟩ = some (.int .i64 a0_2) := (blk_cell BK424.out 2).trans rfl; have hcz34_3 : w33.cell? ⟨gb424, 3, none⟩ = some (.int .i64 a0_3) := (blk_cell BK424.out 3).trans rfl; have hcz34_4 : w33.cell? ⟨gb424, 4, none⟩ = some (.slice A0_4 l0_4.length c0_4) := (blk_cell BK424.out 4).trans rfl; have hfz34_0 := blk_frozen BK424.out 0; have hfz34_1 := blk_frozen BK424.out 1; have hfz34_2 := blk_frozen BK424.out 2; have hfz34_3 := blk_frozen BK424.out 3; have hfz34_4 := blk_frozen BK424.out 4; obtain ⟨Ao35, co35, eo35⟩ := Kd.R_slice HO432.out; subst eo35) | ((with_reducible refine gate_callee (f := 24) rfl ?_); refine goesL_ (some 51) rfl rfl Try.func24 (by kernel_rfl) rfl #[.agg #[.int .i64 a0_0, .string a0_1, .int .i64 a0_2, .int .i64 a0_3, .slice A0_4 l0_4.length c0_4], .slice Ao35 t430.length co35] rfl (by (try simp only [List.map_toArray, List.map_cons, List.map_nil]); first | done | rfl | (simp only [List.length_drop, List.length_take]; rfl)) ?_; (with_reducible refine (tree_Get.calls kj5 a0_0 a0_1 a0_2 a0_3 (fun k_ => k_ < w.heap.size) _ _ l0_4 _ _ t430 t434 t435 t436 t437 t438 true _ ?side1 ?side2 ?side3 A18.out).mono ?_); (case side1 => exact Kd.V_mk HC0_4.out (Kd.F_below (Kd.C_F k24_heap HR0_4.out) (by repeat (first | (with_reducible first | exact HB.out | apply below_alloc | apply pw_below_drewN | apply below_drew1 | refine below_set ?_ GE424.out) | exact HB.out)))); (case side2 => repeat (first | exact (Kd.R_reads' HO432.out).2.2 | (with_reducible refine Kd.C_alloc ?_ _) | (with_reducible refine Kd.C_drewN ?_ _) | (with_reducible refine Kd.C_drew ?_))); (case side3 => exact (Kd.R_reads' HO432.out).2.1); rintro e w36 ⟨v439, rfl, ho0, hb⟩; refine ⟨_, rfl, ?_⟩; have n0_ := Aside0.mk (Kd.R_below (by (with_reducible repeat (first | apply Kd.R_alloc | apply Kd.R_drewN | apply Kd.R_drew)); exact HO432.out) hb); have n1_ := Aside0.mk (Kd.V_lower (Kd.V_mono (ok' := fun k_ => some k_ ≠ (.slice Ao35 t430.length co35 : Value).ownBlock ∧ k_ ≠ gb424) ho0 (fun k_ hk_ => ⟨Or.elim hk_ (fun hs_ => fun e_ => Nat.not_le.2 hs_ (Kd.R_base HO432.out k_ e_.symm)) (fun hn_ => (Kd.fresh' (Kd.R_lt (by (with_reducible repeat (first | apply Kd.R_alloc | apply Kd.R_drewN | apply Kd.R_drew)); exact HO432.out)) k_ hn_)), Or.elim hk_ (fun hs_ => fun e_ => Nat.not_le.2 hs_ (by rw [e_]; exact GW424.out)) (fun hn_ => (Kd.freshB (g := gb424) (o := .cells #[.int .i64 a0_0, .string a0_1, .int .i64 a0_2, .int .i64 a0_3, .slice A0_4 l0_4.length c0_4] 24 (0, 0)) (by (with_reducible repeat (first | refine blk_drewN ?_ _ | refine blk_drew ?_ | refine blk_alloc ?_ _)); exact BK424.out) k_ hn_))⟩)) (below_size (by repeat (first | (with_reducible first | exact HB.out | apply below_alloc | apply pw_below_drewN | apply below_drew1 | refine below_set ?_ GE424.out) | exact HB.out)))); have n2_ := Aside0.mk (blk_below (g := gb424) (o := .cells #[.int .i64 a0_0, .string a0_1, .int .i64 a0_2, .int .i64 a0_3, .slice A0_4 l0_4.length c0_4] 24 (0, 0)) (by (with_reducible repeat (first | refine blk_drewN ?_ _ | refine blk_drew ?_ | refine blk_alloc ?_ _)); exact BK424.out) hb); have n3_ := Aside0.mk (below_step (by repeat (first | (with_reducible first | exact HB.out | apply below_alloc | apply pw_below_drewN | apply below_drew1 | refine below_set ?_ GE424.out) | exact HB.out)) hb); clear HO432; clear BK424; clear HB; have HO432 := n0_; have HO440 := n1_; have BK424 := n2_; have HB := n3_; clear n0_ n1_ n2_ n3_; (try clear hb); (try clear hb2); (try clear hk); (try clear hi); (try clear ho0)) | ((with_reducible refine gate_dst (N := 9) rfl ?_); refine box_event ?hg (N := 9) ?hd (cs := #[.int .i64 0, .string (⟨#[]⟩ : ByteArray), .int .i64 0, .int .i64 0, .slice none 0 0]) (t := 24) ?hr ?_; (case hd => rfl); (case hg => rfl); (case hr => first | (go_simp; done) | (go_simp; rfl)); intro gb442 hg w37 hbox hb; have n0_ := Aside0.mk (Kd.R_below (by (with_reducible repeat (first | apply Kd.R_alloc | apply Kd.R_drewN | apply Kd.R_drew)); exact HO432.out) hb); have n1_ := Aside0.mk (Kd.V_below (Kd.V_elderB (by (with_reducible repeat (first | apply Kd.V_alloc | apply Kd.V_drewN | apply Kd.V_drew)); exact HO440.out) gb442 (Nat.le_of_eq hg.symm)) hb); have n2_ := Aside0.mk (blk_below (g := gb424) (o := .cells #[.int .i64 a0_0, .string a0_1, .int .i64 a0_2, .int .i64 a0_3, .slice A0_4 l0_4.length c0_4] 24 (0, 0)) (by (with_reducible repeat (first | refine blk_drewN ?_ _ | refine blk_drew ?_ | refine blk_alloc ?_ _)); exact BK424.out) hb); have n3_ := Aside0.mk (below_step (by repeat (first | (with_reducible first | exact HB.out | apply below_alloc | apply pw_below_drewN | apply below_drew1 | refine below_set ?_ GE424.out) | exact HB.out)) hb); have n4_ := Aside0.mk (hbox); have n5_ := Aside0.mk ((by rw [hg]; exact (below_size (by repeat (first | (with_reducible first | exact HB.out | apply below_alloc | apply pw_below_drewN | apply below_drew1 | refine below_set ?_ GE424.out) | exact HB.out))) : w.heap.size ≤ gb442)); have n6_ := Aside0.mk ((by rw [hg]; exact (below_size (by repeat (first | (with_reducible first | exact HB.out | apply below_alloc | apply pw_below_drewN | apply below_drew1 | refine below_set ?_ GE424.out) | exact HB.out))) : w.heap.size ≤ gb442)); have n7_ := Aside0.mk ((by rw [hg]; exact Nat.ne_of_lt (blk_lt (g := gb424) (o := .cells #[.int .i64 a0_0, .string a0_1, .int .i64 a0_2, .int .i64 a0_3, .slice A0_4 l0_4.length c0_4] 24 (0, 0)) (by (with_reducible repeat (first | refine blk_drewN ?_ _ | refine blk_drew ?_ | refine blk_alloc ?_ _)); exact BK424.out)) : gb424 ≠ gb442)); have n8_ := Aside0.mk ((by rw [hg]; exact Nat.ne_of_gt (blk_lt (g := gb424) (o := .cells #[.int .i64 a0_0, .string a0_1, .int .i64 a0_2, .int .i64 a0_3, .slice A0_4 l0_4.length c0_4] 24 (0, 0)) (by (with_reducible repeat (first | refine blk_drewN ?_ _ | refine blk_drew ?_ | refine blk_alloc ?_ _)); exact BK424.out)) : gb442 ≠ gb424)); clear HO432; clear HO440; clear BK424; clear HB; have HO432 := n0_; have HO440 := n1_; have BK424 := n2_; have HB := n3_; have BK442 := n4_; have GW442 := n5_; have GE442 := n6_; have NB424_442 := n7_; have NB442_424 := n8_; clear n0_ n1_ n2_ n3_ n4_ n5_ n6_ n7_ n8_; clear hb hbox hg; have hnb38 := NB442_424.out; have hnc38 := NB424_442.out; have hcz39_0 : w37.cell? ⟨gb442, 0, none⟩ = some (.int .i64 0) := (blk_cell BK442.out 0).trans rfl; have hcz39_1 : w37.cell? ⟨gb442, 1, none⟩ = some (.string (⟨#[]⟩ : ByteArray)) := (blk_cell BK442.out 1).trans rfl; have hcz39_2 : w37.cell? ⟨gb442, 2, none⟩ = some (.int .i64 0) := (blk_cell BK442.out 2).trans rfl; have hcz39_3 : w37.cell? ⟨gb442, 3, none⟩ = some (.int .i64 0) := (blk_cell BK442.out 3).trans rfl; have hcz39_4 : w37.cell? ⟨gb442, 4, none⟩ = some (.slice none 0 0) := (blk_cell BK442.out 4).trans rfl; have hfz39_0 := blk_frozen BK442.out 0; have hfz39_1 := blk_frozen BK442.out 1; have hfz39_2 := blk_frozen BK442.out 2; have hfz39_3 := blk_frozen BK442.out 3; have hfz39_4 := blk_frozen BK442.out 4; obtain ⟨Ao40, co40, eo40⟩ := Kd.V_slice HO440.out; subst eo40))
          go_loopg [75] kj5 (fun kq v75 w' => ∃ (x75_2 : Int), v75 = .int .i64 x75_2 ∧ Aside0 (assessorlaw03_TreeFinds.l0 kq a1 t438 (t438.length : Int) x75_2 = some r) ∧ Aside0 (kq ≤ kj5) ∧ Aside0 (Kd.V k24 24 w' w.heap.size (fun k_ => k_ ≠ gb424 ∧ k_ ≠ gb442) (.slice Ao40 t438.length co40) t438) ∧ Aside0 (Kd.V k24 24 w' w.heap.size (fun k_ => k_ ≠ gb424 ∧ k_ ≠ gb442) (.slice Ao40 t438.length co40) t438) ∧ Aside0 (w'.heap[gb424]? = some (.cells #[.int .i64 a0_0, .string a0_1, .int .i64 a0_2, .int .i64 a0_3, (.slice A0_4 l0_4.length c0_4)] 24 (0, 0))) ∧ Aside0 (w'.heap[gb442]? = some (.cells #[.int .i64 t434, .string t435, .int .i64 t436, .int .i64 t437, (.slice Ao40 t438.length co40)] 24 (0, 0))) ∧ Aside0 (Below w.heap.size w w'))
          case atStart => exact ⟨(0), (by first | rfl | (simp; done) | (simp [*]; done)), H', ⟨Nat.le_refl _⟩, ⟨by (with_reducible repeat (first | apply Kd.V_alloc | apply Kd.V_drewN | apply Kd.V_drew)); exact Kd.V_mono (Kd.V_far (p := ⟨gb442, 4, none⟩) (Kd.V_far (p := ⟨gb442, 3, none⟩) (Kd.V_far (p := ⟨gb442, 2, none⟩) (Kd.V_far (p := ⟨gb442, 1, none⟩) (Kd.V_far (p := ⟨gb442, 0, none⟩) (Kd.V_mono HO440.out (fun k_ hk => (⟨hk, hk.2⟩ : _ ∧ k_ ≠ gb442))) (fun _ hk => hk.2) (.int .i64 t434)) (fun _ hk => hk.2) (.string t435)) (fun _ hk => hk.2) (.int .i64 t436)) (fun _ hk => hk.2) (.int .i64 t437)) (fun _ hk => hk.2) (.slice Ao40 t438.length co40)) (fun _ hk => ⟨hk.1.1.2, hk.1.2⟩)⟩, ⟨by (with_reducible repeat (first | apply Kd.V_alloc | apply Kd.V_drewN | apply Kd.V_drew)); exact Kd.V_mono (Kd.V_far (p := ⟨gb442, 4, none⟩) (Kd.V_far (p := ⟨gb442, 3, none⟩) (Kd.V_far (p := ⟨gb442, 2, none⟩) (Kd.V_far (p := ⟨gb442, 1, none⟩) (Kd.V_far (p := ⟨gb442, 0, none⟩) (Kd.V_mono HO440.out (fun k_ hk => (⟨hk, hk.2⟩ : _ ∧ k_ ≠ gb442))) (fun _ hk => hk.2) (.int .i64 t434)) (fun _ hk => hk.2) (.string t435)) (fun _ hk => hk.2) (.int .i64 t436)) (fun _ hk => hk.2) (.int .i64 t437)) (fun _ hk => hk.2) (.slice Ao40 t438.length co40)) (fun _ hk => ⟨hk.1.1.2, hk.1.2⟩)⟩, ⟨by (with_reducible repeat (first | refine blk_drewN ?_ _ | refine blk_drew ?_ | refine blk_alloc ?_ _)); refine blk_far ?_ NB424_442.out _; (with_reducible repeat (first | refine blk_drewN ?_ _ | refine blk_drew ?_ | refine blk_alloc ?_ _)); refine blk_far ?_ NB424_442.out _; (with_reducible repeat (first | refine blk_drewN ?_ _ | refine blk_drew ?_ | refine blk_alloc ?_ _)); refine blk_far ?_ NB424_442.out _; (with_reducible repeat (first | refine blk_drewN ?_ _ | refine blk_drew ?_ | refine blk_alloc ?_ _)); refine blk_far ?_ NB424_442.out _; (with_reducible repeat (first | refine blk_drewN ?_ _ | refine blk_drew ?_ | refine blk_alloc ?_ _)); refine blk_far ?_ NB424_442.out _; (with_reducible repeat (first | refine blk_drewN ?_ _ | refine blk_drew ?_ | refine blk_alloc ?_ _)); exact BK424.out⟩, ⟨by (with_reducible repeat (first | refine blk_drewN ?_ _ | refine blk_drew ?_ | refine blk_alloc ?_ _)); refine blk_put (cs := #[.int .i64 t434, .string t435, .int .i64 t436, .int .i64 t437, .slice none 0 0]) ?_ 4 _ rfl; (with_reducible repeat (first | refine blk_drewN ?_ _ | refine blk_drew ?_ | refine blk_alloc ?_ _)); refine blk_put (cs := #[.int .i64 t434, .string t435, .int .i64 t436, .int .i64 0, .slice none 0 0]) ?_ 3 _ rfl; (with_reducible repeat (first | refine blk_drewN ?_ _ | refine blk_drew ?_ | refine blk_alloc ?_ _)); refine blk_put (cs := #[.int .i64 t434, .string t435, .int .i64 0, .int .i64 0, .slice none 0 0]) ?_ 2 _ rfl; (with_reducible repeat (first | refine blk_drewN ?_ _ | refine blk_drew ?_ | refine blk_alloc ?_ _)); refine blk_put (cs := #[.int .i64 t434, .string (⟨#[]⟩ : ByteArray), .int .i64 0, .int .i64 0, .slice none 0 0]) ?_ 1 _ rfl; (with_reducible repeat (first | refine blk_drewN ?_ _ | refine blk_drew ?_ | refine blk_alloc ?_ _)); refine blk_put (cs := #[.int .i64 0, .string (⟨#[]⟩ : ByteArray), .int .i64 0, .int .i64 0, .slice none 0 0]) ?_ 0 _ rfl; (with_reducible repeat (first | refine blk_drewN ?_ _ | refine blk_drew ?_ | refine blk_alloc ?_ _)); exact BK442.out⟩, ⟨by repeat (first | (with_reducible first | exact HB.out | apply below_alloc | apply pw_below_drewN | apply below_drew1 | refine below_set ?_ GE424.out | refine below_set ?_ GE442.out) | exact HB.out)⟩⟩
          case round =>
           clear H'
           try clear c1
           try clear c2
           try clear p2
           try clear c3
           try clear c4
           try clear c7
           try clear c10
           try clear c12
           try clear c12b0
           try clear c15
           try clear c16
           try clear c19
           try clear c20
           try clear c21
           try clear c21b0
           try clear c22
           try clear c22b0
           try clear c24
           try clear c26
           try clear c29
           try clear c30
           try clear c38
           try clear hcz10_0
           try clear hcz10_1
           try clear hcz10_2
           try clear hcz10_3
           try clear hcz10_4
           try clear hcz13_0
           try clear hcz13_1
           try clear hcz13_2
           try clear hcz13_3
           try clear hcz13_4
           try clear hcz14_0
           try clear hcz14_1
           try clear hcz14_2
           try clear hcz14_3
           try clear hcz14_4
           try clear hcz23_0
           try clear hcz23_1
           try clear hcz23_2
           try clear hcz23_3
           try clear hcz23_4
           try clear hcz25_0
           try clear hcz25_1
           try clear hcz25_2
           try clear hcz25_3
           try clear hcz25_4
           try clear hcz30_0
           try clear hcz30_1
           try clear hcz30_2
           try clear hcz30_3
           try clear hcz30_4
           try clear hcz32_0
           try clear hcz32_1
           try clear hcz32_2
           try clear hcz32_3
           try clear hcz32_4
           try clear hcz34_0
           try clear hcz34_1
           try clear hcz34_2
           try clear hcz34_3
           try clear hcz34_4
           try clear hcz39_0
           try clear hcz39_1
           try clear hcz39_2
           try clear hcz39_3
           try clear hcz39_4
           try clear hcz8_0
           try clear hcz8_1
           try clear hcz8_2
           try clear hcz8_3
           try clear hcz8_4
           try clear hfz10_0
           try clear hfz10_1
           try clear hfz10_2
           try clear hfz10_3
           try clear hfz10_4
           try clear hfz13_0
           try clear hfz13_1
           try clear hfz13_2
           try clear hfz13_3
           try clear hfz13_4
           try clear hfz14_0
           try clear hfz14_1
           try clear hfz14_2
           try clear hfz14_3
           try clear hfz14_4
           try clear hfz23_0
           try clear hfz23_1
           try clear hfz23_2
           try clear hfz23_3
           try clear hfz23_4
           try clear hfz25_0
           try clear hfz25_1
           try clear hfz25_2
           try clear hfz25_3
           try clear hfz25_4
           try clear hfz30_0
           try clear hfz30_1
           try clear hfz30_2
           try clear hfz30_3
           try clear hfz30_4
           try clear hfz32_0
           try clear hfz32_1
           try clear hfz32_2
           try clear hfz32_3
           try clear hfz32_4
           try clear hfz34_0
           try clear hfz34_1
           try clear hfz34_2
           try clear hfz34_3
           try clear hfz34_4
           try clear hfz39_0
           try clear hfz39_1
           try clear hfz39_2
           try clear hfz39_3
           try clear hfz39_4
           try clear hfz8_0
           try clear hfz8_1
           try clear hfz8_2
           try clear hfz8_3
           try clear hfz8_4
           try clear p2
           obtain ⟨x75_2, rfl, HA, HK2, HO_73, HO_443004, BK424, BK442, HB⟩ := hrel
           cases gk with
           | zero => exact absurd HA.out (by simp [assessorlaw03_TreeFinds.l0])
           | succ k2 =>
            have H := HA.out
            clear HA
            simp only [assessorlaw03_TreeFinds.l0] at H
            by_cases c41 : x75_2 < (t438.length : Int)
            ·rw [if_pos c41] at H
             have c41b0 : decide (x75_2 < (t438.length : Int)) = true := decide_eq_true c41
             clear c41
             by_cases c42 : 0 ≤ x75_2
             ·rw [if_pos c42] at H
              have c42b0 : decide (0 ≤ x75_2) = true := decide_eq_true c42
              clear c42
              by_cases c43 : x75_2 < (t438.length : Int)
              ·rw [if_pos c43] at H
               have c43b0 : decide (x75_2 < (t438.length : Int)) = true := decide_eq_true c43
               clear c43
               by_cases c44 : ((rd_T24 t438 x75_2).f2) ≤ a1
               ·rw [if_pos c44] at H
                have c44b0 : decide (((rd_T24 t438 x75_2).f2) ≤ a1) = true := decide_eq_true c44
                clear c44
                by_cases c45 : a1 < ((rd_T24 t438 x75_2).f3)
                ·rw [if_pos c45] at H
                 have c45b0 : decide (a1 < ((rd_T24 t438 x75_2).f3)) = true := decide_eq_true c45
                 clear c45
                 obtain rfl := Option.some.inj H
                 have p443 : 0 ≤ (x75_2 : Int) := of_decide_eq_true (by first | (with_reducible assumption) | assumption)
                 have q443 : x75_2 < (t438.length : Int) := of_decide_eq_true (by first | (with_reducible assumption) | assumption)
                 obtain ⟨ad443, A443_4, c443_4, e443, hx443_0, hx443_1, hx443_2, hx443_3, hx443_4, hl443_4, hi443_4⟩ := at_T24 (Kd.V_reads' HO_73.out).2.2 x75_2 p443 q443
                 cases e443
                 obtain ⟨ce443, hce443, hMe443, hcc443⟩ := Kd.V_get HO_73.out z24 x75_2 p443 (by first | exact q443 | exact of_decide_eq_true (by first | (with_reducible assumption) | assumption) | (have e_ := (Kd.V_reads' HO_73.out).1; omega))
                 obtain ⟨ua443_4, uc443_4, rfl, ul443_4, ge443_4⟩ := k24_openF hMe443
                 have hv443_4 := hcc443 4 _ rfl
                 rw [add_field _ _ 4 (by omega)] at hv443_4
                 replace hv443_4 := Option.some.inj (hv443_4.symm.trans hx443_4)
                 injection hv443_4 with hva_ hvn_ hvc_
                 rw [hva_] at ge443_4
                 rw [hvc_] at ul443_4
                 have HL443_4 := Aside0.mk (show Kd.V k24 24 _ w.heap.size _ _ ((rd_T24 t438 x75_2).f4) from Kd.V_mk ul443_4 ge443_4)
                 clear hva_ hvn_ hvc_ ge443_4 ul443_4
                 clear hcc443 hce443
                 have HR443_4 := Aside0.mk hi443_4
                 have HC443_4 := Aside0.mk hl443_4
                 clear hi443_4 hl443_4
                 replace p443 := eq_true p443
                 replace q443 := eq_true q443
                 go_wp2_with (first | ((with_reducible refine gate_dst (N := 12) rfl ?_); refine box_event ?hg (N := 12) ?hd (cs := #[.int .i64 0, .string (⟨#[]⟩ : ByteArray), .int .i64 0, .int .i64 0, .slice none 0 0]) (t := 24) ?hr ?_; (case hd => rfl); (case hg => rfl); (case hr => first | (go_simp; done) | (go_simp; rfl)); intro gb444 hg w46 hbox hb; have n0_ := Aside0.mk (Kd.V_below (Kd.V_elderB (by (with_reducible repeat (first | apply Kd.V_alloc | apply Kd.V_drewN | apply Kd.V_drew)); exact HO_73.out) gb444 (Nat.le_of_eq hg.symm)) hb); have n1_ := Aside0.mk (Kd.V_below (Kd.V_elderB (by (with_reducible repeat (first | apply Kd.V_alloc | apply Kd.V_drewN | apply Kd.V_drew)); exact HO_443004.out) gb444 (Nat.le_of_eq hg.symm)) hb); have n2_ := Aside0.mk (Kd.V_below (Kd.V_elderB (by (with_reducible repeat (first | apply Kd.V_alloc | apply Kd.V_drewN | apply Kd.V_drew)); exact HL443_4.out) gb444 (Nat.le_of_eq hg.symm)) hb); have n3_ := Aside0.mk (blk_below (g := gb424) (o := .cells #[.int .i64 a0_0, .string a0_1, .int .i64 a0_2, .int .i64 a0_3, .slice A0_4 l0_4.length c0_4] 24 (0, 0)) (by (with_reducible repeat (first | refine blk_drewN ?_ _ | refine blk_drew ?_ | refine blk_alloc ?_ _)); exact BK424.out) hb); have n4_ := Aside0.mk (blk_below (g := gb442) (o := .cells #[.int .i64 t434, .string t435, .int .i64 t436, .int .i64 t437, .slice (some ad443) t438.length co40] 24 (0, 0)) (by (with_reducible repeat (first | refine blk_drewN ?_ _ | refine blk_drew ?_ | refine blk_alloc ?_ _)); exact BK442.out) hb); have n5_ := Aside0.mk (Kd.C_below (by repeat (first | (with_reducible exact HR443_4.out) | (with_reducible refine Kd.C_alloc ?_ _) | (with_reducible refine Kd.C_drewN ?_ _) | (with_reducible refine Kd.C_drew ?_) | exact HR443_4.out)) hb); have n6_ := Aside0.mk (below_step (by repeat (first | (with_reducible first | exact HB.out | apply below_alloc | apply pw_below_drewN | apply below_drew1 | refine below_set ?_ GE424.out | refine below_set ?_ GE442.out) | exact HB.out)) hb); have n7_ := Aside0.mk (hbox); have n8_ := Aside0.mk ((by rw [hg]; exact (below_size (by repeat (first | (with_reducible first | exact HB.out | apply below_alloc | apply pw_below_drewN | apply below_drew1 | refine below_set ?_ GE424.out | refine below_set ?_ GE442.out) | exact HB.out))) : w.heap.size ≤ gb444)); have n9_ := Aside0.mk ((by rw [hg]; exact (below_size (by repeat (first | (with_reducible first | exact HB.out | apply below_alloc | apply pw_below_drewN | apply below_drew1 | refine below_set ?_ GE424.out | refine below_set ?_ GE442.out) | exact HB.out))) : w.heap.size ≤ gb444)); have n10_ := Aside0.mk ((by rw [hg]; exact Nat.ne_of_lt (blk_lt (g := gb424) (o := .cells #[.int .i64 a0_0, .string a0_1, .int .i64 a0_2, .int .i64 a0_3, .slice A0_4 l0_4.length c0_4] 24 (0, 0)) (by (with_reducible repeat (first | refine blk_drewN ?_ _ | refine blk_drew ?_ | refine blk_alloc ?_ _)); exact BK424.out)) : gb424 ≠ gb444)); have n11_ := Aside0.mk ((by rw [hg]; exact Nat.ne_of_gt (blk_lt (g := gb424) (o := .cells #[.int .i64 a0_0, .string a0_1, .int .i64 a0_2, .int .i64 a0_3, .slice A0_4 l0_4.length c0_4] 24 (0, 0)) (by (with_reducible repeat (first | refine blk_drewN ?_ _ | refine blk_drew ?_ | refine blk_alloc ?_ _)); exact BK424.out)) : gb444 ≠ gb424)); have n12_ := Aside0.mk ((by rw [hg]; exact Nat.ne_of_lt (blk_lt (g := gb442) (o := .cells #[.int .i64 t434, .string t435, .int .i64 t436, .int .i64 t437, .slice (some ad443) t438.length co40] 24 (0, 0)) (by (with_reducible repeat (first | refine blk_drewN ?_ _ | refine blk_drew ?_ | refine blk_alloc ?_ _)); exact BK442.out)) : gb442 ≠ gb444)); have n13_ := Aside0.mk ((by rw [hg]; exact Nat.ne_of_gt (blk_lt (g := gb442) (o := .cells #[.int .i64 t434, .string t435, .int .i64 t436, .int .i64 t437, .slice (some ad443) t438.length co40] 24 (0, 0)) (by (with_reducible repeat (first | refine blk_drewN ?_ _ | refine blk_drew ?_ | refine blk_alloc ?_ _)); exact BK442.out)) : gb444 ≠ gb442)); clear HO_73; clear HO_443004; clear HL443_4; clear BK424; clear BK442; clear HR443_4; clear HB; have HO_73 := n0_; have HO_443004 := n1_; have HL443_4 := n2_; have BK424 := n3_; have BK442 := n4_; have HR443_4 := n5_; have HB := n6_; have BK444 := n7_; have GW444 := n8_; have GE444 := n9_; have NB424_444 := n10_; have NB444_424 := n11_; have NB442_444 := n12_; have NB444_442 := n13_; clear n0_ n1_ n2_ n3_ n4_ n5_ n6_ n7_ n8_ n9_ n10_ n11_ n12_ n13_; clear hb hbox hg; have hnb47 := NB444_424.out; have hnc47 := NB424_444.out; have hnb48 := NB444_442.out; have hnc48 := NB442_444.out; have hcz49_0 : w46.cell? ⟨gb444, 0, none⟩ = some (.int .i64 0) := (blk_cell BK444.out 0).trans rfl; have hcz49_1 : w46.cell? ⟨gb444, 1, none⟩ = some (.string (⟨#[]⟩ : ByteArray)) := (blk_cell BK444.out 1).trans rfl; have hcz49_2 : w46.cell? ⟨gb444, 2, none⟩ = some (.int .i64 0) := (blk_cell BK444.out 2).trans rfl; have hcz49_3 : w46.cell? ⟨gb444, 3, none⟩ = some (.int .i64 0) := (blk_cell BK444.out 3).trans rfl; have hcz49_4 : w46.cell? ⟨gb444, 4, none⟩ = some (.slice none 0 0) := (blk_cell BK444.out 4).trans rfl; have hfz49_0 := blk_frozen BK444.out 0; have hfz49_1 := blk_frozen BK444.out 1; have hfz49_2 := blk_frozen BK444.out 2; have hfz49_3 := blk_frozen BK444.out 3; have hfz49_4 := blk_frozen BK444.out 4))
                 go_ret
                 exact ⟨by first | rfl | (simp [errW_none, errW_some] <;> rfl) | (simp [*, errW_none, errW_some] <;> rfl) | (simp [IntKind.wrap_i64, wrap64]; done), by repeat (first | (with_reducible first | exact HB.out | apply below_alloc | apply pw_below_drewN | apply below_drew1 | refine below_set ?_ GE424.out | refine below_set ?_ GE442.out | refine below_set ?_ GE444.out) | exact HB.out)⟩
                ·rw [if_neg c45] at H
                 have c45b0 : decide (a1 < ((rd_T24 t438 x75_2).f3)) = false := decide_eq_false c45
                 clear c45
                 have H' := Aside0.mk H
                 clear H
                 have p443 : 0 ≤ (x75_2 : Int) := of_decide_eq_true (by first | (with_reducible assumption) | assumption)
                 have q443 : x75_2 < (t438.length : Int) := of_decide_eq_true (by first | (with_reducible assumption) | assumption)
                 obtain ⟨ad443, A443_4, c443_4, e443, hx443_0, hx443_1, hx443_2, hx443_3, hx443_4, hl443_4, hi443_4⟩ := at_T24 (Kd.V_reads' HO_73.out).2.2 x75_2 p443 q443
                 cases e443
                 obtain ⟨ce443, hce443, hMe443, hcc443⟩ := Kd.V_get HO_73.out z24 x75_2 p443 (by first | exact q443 | exact of_decide_eq_true (by first | (with_reducible assumption) | assumption) | (have e_ := (Kd.V_reads' HO_73.out).1; omega))
                 obtain ⟨ua443_4, uc443_4, rfl, ul443_4, ge443_4⟩ := k24_openF hMe443
                 have hv443_4 := hcc443 4 _ rfl
                 rw [add_field _ _ 4 (by omega)] at hv443_4
                 replace hv443_4 := Option.some.inj (hv443_4.symm.trans hx443_4)
                 injection hv443_4 with hva_ hvn_ hvc_
                 rw [hva_] at ge443_4
                 rw [hvc_] at ul443_4
                 have HL443_4 := Aside0.mk (show Kd.V k24 24 _ w.heap.size _ _ ((rd_T24 t438 x75_2).f4) from Kd.V_mk ul443_4 ge443_4)
                 clear hva_ hvn_ hvc_ ge443_4 ul443_4
                 clear hcc443 hce443
                 have HR443_4 := Aside0.mk hi443_4
                 have HC443_4 := Aside0.mk hl443_4
                 clear hi443_4 hl443_4
                 replace p443 := eq_true p443
                 replace q443 := eq_true q443
                 go_wp2_with (first | ((with_reducible refine gate_dst (N := 12) rfl ?_); refine box_event ?hg (N := 12) ?hd (cs := #[.int .i64 0, .string (⟨#[]⟩ : ByteArray), .int .i64 0, .int .i64 0, .slice none 0 0]) (t := 24) ?hr ?_; (case hd => rfl); (case hg => rfl); (case hr => first | (go_simp; done) | (go_simp; rfl)); intro gb444 hg w50 hbox hb; have n0_ := Aside0.mk (Kd.V_below (Kd.V_elderB (by (with_reducible repeat (first | apply Kd.V_alloc | apply Kd.V_drewN | apply Kd.V_drew)); exact HO_73.out) gb444 (Nat.le_of_eq hg.symm)) hb); have n1_ := Aside0.mk (Kd.V_below (Kd.V_elderB (by (with_reducible repeat (first | apply Kd.V_alloc | apply Kd.V_drewN | apply Kd.V_drew)); exact HO_443004.out) gb444 (Nat.le_of_eq hg.symm)) hb); have n2_ := Aside0.mk (Kd.V_below (Kd.V_elderB (by (with_reducible repeat (first | apply Kd.V_alloc | apply Kd.V_drewN | apply Kd.V_drew)); exact HL443_4.out) gb444 (Nat.le_of_eq hg.symm)) hb); have n3_ := Aside0.mk (blk_below (g := gb424) (o := .cells #[.int .i64 a0_0, .string a0_1, .int .i64 a0_2, .int .i64 a0_3, .slice A0_4 l0_4.length c0_4] 24 (0, 0)) (by (with_reducible repeat (first | refine blk_drewN ?_ _ | refine blk_drew ?_ | refine blk_alloc ?_ _)); exact BK424.out) hb); have n4_ := Aside0.mk (blk_below (g := gb442) (o := .cells #[.int .i64 t434, .string t435, .int .i64 t436, .int .i64 t437, .slice (some ad443) t438.length co40] 24 (0, 0)) (by (with_reducible repeat (first | refine blk_drewN ?_ _ | refine blk_drew ?_ | refine blk_alloc ?_ _)); exact BK442.out) hb); have n5_ := Aside0.mk (Kd.C_below (by repeat (first | (with_reducible exact HR443_4.out) | (with_reducible refine Kd.C_alloc ?_ _) | (with_reducible refine Kd.C_drewN ?_ _) | (with_reducible refine Kd.C_drew ?_) | exact HR443_4.out)) hb); have n6_ := Aside0.mk (below_step (by repeat (first | (with_reducible first | exact HB.out | apply below_alloc | apply pw_below_drewN | apply below_drew1 | refine below_set ?_ GE424.out | refine below_set ?_ GE442.out) | exact HB.out)) hb); have n7_ := Aside0.mk (hbox); have n8_ := Aside0.mk ((by rw [hg]; exact (below_size (by repeat (first | (with_reducible first | exact HB.out | apply below_alloc | apply pw_below_drewN | apply below_drew1 | refine below_set ?_ GE424.out | refine below_set ?_ GE442.out) | exact HB.out))) : w.heap.size ≤ gb444)); have n9_ := Aside0.mk ((by rw [hg]; exact (below_size (by repeat (first | (with_reducible first | exact HB.out | apply below_alloc | apply pw_below_drewN | apply below_drew1 | refine below_set ?_ GE424.out | refine below_set ?_ GE442.out) | exact HB.out))) : w.heap.size ≤ gb444)); have n10_ := Aside0.mk ((by rw [hg]; exact Nat.ne_of_lt (blk_lt (g := gb424) (o := .cells #[.int .i64 a0_0, .string a0_1, .int .i64 a0_2, .int .i64 a0_3, .slice A0_4 l0_4.length c0_4] 24 (0, 0)) (by (with_reducible repeat (first | refine blk_drewN ?_ _ | refine blk_drew ?_ | refine blk_alloc ?_ _)); exact BK424.out)) : gb424 ≠ gb444)); have n11_ := Aside0.mk ((by rw [hg]; exact Nat.ne_of_gt (blk_lt (g := gb424) (o := .cells #[.int .i64 a0_0, .string a0_1, .int .i64 a0_2, .int .i64 a0_3, .slice A0_4 l0_4.length c0_4] 24 (0, 0)) (by (with_reducible repeat (first | refine blk_drewN ?_ _ | refine blk_drew ?_ | refine blk_alloc ?_ _)); exact BK424.out)) : gb444 ≠ gb424)); have n12_ := Aside0.mk ((by rw [hg]; exact Nat.ne_of_lt (blk_lt (g := gb442) (o := .cells #[.int .i64 t434, .string t435, .int .i64 t436, .int .i64 t437, .slice (some ad443) t438.length co40] 24 (0, 0)) (by (with_reducible repeat (first | refine blk_drewN ?_ _ | refine blk_drew ?_ | refine blk_alloc ?_ _)); exact BK442.out)) : gb442 ≠ gb444)); have n13_ := Aside0.mk ((by rw [hg]; exact Nat.ne_of_gt (blk_lt (g := gb442) (o := .cells #[.int .i64 t434, .string t435, .int .i64 t436, .int .i64 t437, .slice (some ad443) t438.length co40] 24 (0, 0)) (by (with_reducible repeat (first | refine blk_drewN ?_ _ | refine blk_drew ?_ | refine blk_alloc ?_ _)); exact BK442.out)) : gb444 ≠ gb442)); clear HO_73; clear HO_443004; clear HL443_4; clear BK424; clear BK442; clear HR443_4; clear HB; have HO_73 := n0_; have HO_443004 := n1_; have HL443_4 := n2_; have BK424 := n3_; have BK442 := n4_; have HR443_4 := n5_; have HB := n6_; have BK444 := n7_; have GW444 := n8_; have GE444 := n9_; have NB424_444 := n10_; have NB444_424 := n11_; have NB442_444 := n12_; have NB444_442 := n13_; clear n0_ n1_ n2_ n3_ n4_ n5_ n6_ n7_ n8_ n9_ n10_ n11_ n12_ n13_; clear hb hbox hg; have hnb51 := NB444_424.out; have hnc51 := NB424_444.out; have hnb52 := NB444_442.out; have hnc52 := NB442_444.out; have hcz53_0 : w50.cell? ⟨gb444, 0, none⟩ = some (.int .i64 0) := (blk_cell BK444.out 0).trans rfl; have hcz53_1 : w50.cell? ⟨gb444, 1, none⟩ = some (.string (⟨#[]⟩ : ByteArray)) := (blk_cell BK444.out 1).trans rfl; have hcz53_2 : w50.cell? ⟨gb444, 2, none⟩ = some (.int .i64 0) := (blk_cell BK444.out 2).trans rfl; have hcz53_3 : w50.cell? ⟨gb444, 3, none⟩ = some (.int .i64 0) := (blk_cell BK444.out 3).trans rfl; have hcz53_4 : w50.cell? ⟨gb444, 4, none⟩ = some (.slice none 0 0) := (blk_cell BK444.out 4).trans rfl; have hfz53_0 := blk_frozen BK444.out 0; have hfz53_1 := blk_frozen BK444.out 1; have hfz53_2 := blk_frozen BK444.out 2; have hfz53_3 := blk_frozen BK444.out 3; have hfz53_4 := blk_frozen BK444.out 4))
                 go_roundg k2
                 case measure => have := HJ5.out; have := HK2.out; omega
                 case rel => exact ⟨(wrap64 (x75_2 + 1)), (by first | rfl | (simp; done) | (simp [*]; done)), H', ⟨by have := HJ5.out; have := HK2.out; omega⟩, ⟨by (with_reducible repeat (first | apply Kd.V_alloc | apply Kd.V_drewN | apply Kd.V_drew)); exact Kd.V_mono (Kd.V_far (p := ⟨gb444, 4, none⟩) (Kd.V_far (p := ⟨gb444, 3, none⟩) (Kd.V_far (p := ⟨gb444, 2, none⟩) (Kd.V_far (p := ⟨gb444, 1, none⟩) (Kd.V_far (p := ⟨gb444, 0, none⟩) (Kd.V_mono HO_73.out (fun k_ hk => (⟨hk, hk.2⟩ : _ ∧ k_ ≠ gb444))) (fun _ hk => hk.2) (.int .i64 ((rd_T24 t438 x75_2).f0))) (fun _ hk => hk.2) (.string ((rd_T24 t438 x75_2).f1))) (fun _ hk => hk.2) (.int .i64 ((rd_T24 t438 x75_2).f2))) (fun _ hk => hk.2) (.int .i64 ((rd_T24 t438 x75_2).f3))) (fun _ hk => hk.2) (.slice A443_4 ((rd_T24 t438 x75_2).f4).length c443_4)) (fun _ hk => ⟨hk.1.1.1, hk.1.1.2⟩)⟩, ⟨by (with_reducible repeat (first | apply Kd.V_alloc | apply Kd.V_drewN | apply Kd.V_drew)); exact Kd.V_mono (Kd.V_far (p := ⟨gb444, 4, none⟩) (Kd.V_far (p := ⟨gb444, 3, none⟩) (Kd.V_far (p := ⟨gb444, 2, none⟩) (Kd.V_far (p := ⟨gb444, 1, none⟩) (Kd.V_far (p := ⟨gb444, 0, none⟩) (Kd.V_mono HO_443004.out (fun k_ hk => (⟨hk, hk.2⟩ : _ ∧ k_ ≠ gb444))) (fun _ hk => hk.2) (.int .i64 ((rd_T24 t438 x75_2).f0))) (fun _ hk => hk.2) (.string ((rd_T24 t438 x75_2).f1))) (fun _ hk => hk.2) (.int .i64 ((rd_T24 t438 x75_2).f2))) (fun _ hk => hk.2) (.int .i64 ((rd_T24 t438 x75_2).f3))) (fun _ hk => hk.2) (.slice A443_4 ((rd_T24 t438 x75_2).f4).length c443_4)) (fun _ hk => ⟨hk.1.1.1, hk.1.1.2⟩)⟩, ⟨by (with_reducible repeat (first | refine blk_drewN ?_ _ | refine blk_drew ?_ | refine blk_alloc ?_ _)); refine blk_far ?_ NB424_444.out _; (with_reducible repeat (first | refine blk_drewN ?_ _ | refine blk_drew ?_ | refine blk_alloc ?_ _)); refine blk_far ?_ NB424_444.out _; (with_reducible repeat (first | refine blk_drewN ?_ _ | refine blk_drew ?_ | refine blk_alloc ?_ _)); refine blk_far ?_ NB424_444.out _; (with_reducible repeat (first | refine blk_drewN ?_ _ | refine blk_drew ?_ | refine blk_alloc ?_ _)); refine blk_far ?_ NB424_444.out _; (with_reducible repeat (first | refine blk_drewN ?_ _ | refine blk_drew ?_ | refine blk_alloc ?_ _)); refine blk_far ?_ NB424_444.out _; (with_reducible repeat (first | refine blk_drewN ?_ _ | refine blk_drew ?_ | refine blk_alloc ?_ _)); exact BK424.out⟩, ⟨by (with_reducible repeat (first | refine blk_drewN ?_ _ | refine blk_drew ?_ | refine blk_alloc ?_ _)); refine blk_far ?_ NB442_444.out _; (with_reducible repeat (first | refine blk_drewN ?_ _ | refine blk_drew ?_ | refine blk_alloc ?_ _)); refine blk_far ?_ NB442_444.out _; (with_reducible repeat (first | refine blk_drewN ?_ _ | refine blk_drew ?_ | refine blk_alloc ?_ _)); refine blk_far ?_ NB442_444.out _; (with_reducible repeat (first | refine blk_drewN ?_ _ | refine blk_drew ?_ | refine blk_alloc ?_ _)); refine blk_far ?_ NB442_444.out _; (with_reducible repeat (first | refine blk_drewN ?_ _ | refine blk_drew ?_ | refine blk_alloc ?_ _)); refine blk_far ?_ NB442_444.out _; (with_reducible repeat (first | refine blk_drewN ?_ _ | refine blk_drew ?_ | refine blk_alloc ?_ _)); exact BK442.out⟩, ⟨by repeat (first | (with_reducible first | exact HB.out | apply below_alloc | apply pw_below_drewN | apply below_drew1 | refine below_set ?_ GE424.out | refine below_set ?_ GE442.out | refine below_set ?_ GE444.out) | exact HB.out)⟩⟩
               ·rw [if_neg c44] at H
                have c44b0 : decide (((rd_T24 t438 x75_2).f2) ≤ a1) = false := decide_eq_false c44
                clear c44
                have H' := Aside0.mk H
                clear H
                have p443 : 0 ≤ (x75_2 : Int) := of_decide_eq_true (by first | (with_reducible assumption) | assumption)
                have q443 : x75_2 < (t438.length : Int) := of_decide_eq_true (by first | (with_reducible assumption) | assumption)
                obtain ⟨ad443, A443_4, c443_4, e443, hx443_0, hx443_1, hx443_2, hx443_3, hx443_4, hl443_4, hi443_4⟩ := at_T24 (Kd.V_reads' HO_73.out).2.2 x75_2 p443 q443
                cases e443
                obtain ⟨ce443, hce443, hMe443, hcc443⟩ := Kd.V_get HO_73.out z24 x75_2 p443 (by first | exact q443 | exact of_decide_eq_true (by first | (with_reducible assumption) | assumption) | (have e_ := (Kd.V_reads' HO_73.out).1; omega))
                obtain ⟨ua443_4, uc443_4, rfl, ul443_4, ge443_4⟩ := k24_openF hMe443
                have hv443_4 := hcc443 4 _ rfl
                rw [add_field _ _ 4 (by omega)] at hv443_4
                replace hv443_4 := Option.some.inj (hv443_4.symm.trans hx443_4)
                injection hv443_4 with hva_ hvn_ hvc_
                rw [hva_] at ge443_4
                rw [hvc_] at ul443_4
                have HL443_4 := Aside0.mk (show Kd.V k24 24 _ w.heap.size _ _ ((rd_T24 t438 x75_2).f4) from Kd.V_mk ul443_4 ge443_4)
                clear hva_ hvn_ hvc_ ge443_4 ul443_4
                clear hcc443 hce443
                have HR443_4 := Aside0.mk hi443_4
                have HC443_4 := Aside0.mk hl443_4
                clear hi443_4 hl443_4
                replace p443 := eq_true p443
                replace q443 := eq_true q443
                go_wp2_with (first | ((with_reducible refine gate_dst (N := 12) rfl ?_); refine box_event ?hg (N := 12) ?hd (cs := #[.int .i64 0, .string (⟨#[]⟩ : ByteArray), .int .i64 0, .int .i64 0, .slice none 0 0]) (t := 24) ?hr ?_; (case hd => rfl); (case hg => rfl); (case hr => first | (go_simp; done) | (go_simp; rfl)); intro gb444 hg w54 hbox hb; have n0_ := Aside0.mk (Kd.V_below (Kd.V_elderB (by (with_reducible repeat (first | apply Kd.V_alloc | apply Kd.V_drewN | apply Kd.V_drew)); exact HO_73.out) gb444 (Nat.le_of_eq hg.symm)) hb); have n1_ := Aside0.mk (Kd.V_below (Kd.V_elderB (by (with_reducible repeat (first | apply Kd.V_alloc | apply Kd.V_drewN | apply Kd.V_drew)); exact HO_443004.out) gb444 (Nat.le_of_eq hg.symm)) hb); have n2_ := Aside0.mk (Kd.V_below (Kd.V_elderB (by (with_reducible repeat (first | apply Kd.V_alloc | apply Kd.V_drewN | apply Kd.V_drew)); exact HL443_4.out) gb444 (Nat.le_of_eq hg.symm)) hb); have n3_ := Aside0.mk (blk_below (g := gb424) (o := .cells #[.int .i64 a0_0, .string a0_1, .int .i64 a0_2, .int .i64 a0_3, .slice A0_4 l0_4.length c0_4] 24 (0, 0)) (by (with_reducible repeat (first | refine blk_drewN ?_ _ | refine blk_drew ?_ | refine blk_alloc ?_ _)); exact BK424.out) hb); have n4_ := Aside0.mk (blk_below (g := gb442) (o := .cells #[.int .i64 t434, .string t435, .int .i64 t436, .int .i64 t437, .slice (some ad443) t438.length co40] 24 (0, 0)) (by (with_reducible repeat (first | refine blk_drewN ?_ _ | refine blk_drew ?_ | refine blk_alloc ?_ _)); exact BK442.out) hb); have n5_ := Aside0.mk (Kd.C_below (by repeat (first | (with_reducible exact HR443_4.out) | (with_reducible refine Kd.C_alloc ?_ _) | (with_reducible refine Kd.C_drewN ?_ _) | (with_reducible refine Kd.C_drew ?_) | exact HR443_4.out)) hb); have n6_ := Aside0.mk (below_step (by repeat (first | (with_reducible first | exact HB.out | apply below_alloc | apply pw_below_drewN | apply below_drew1 | refine below_set ?_ GE424.out | refine below_set ?_ GE442.out) | exact HB.out)) hb); have n7_ := Aside0.mk (hbox); have n8_ := Aside0.mk ((by rw [hg]; exact (below_size (by repeat (first | (with_reducible first | exact HB.out | apply below_alloc | apply pw_below_drewN | apply below_drew1 | refine below_set ?_ GE424.out | refine below_set ?_ GE442.out) | exact HB.out))) : w.heap.size ≤ gb444)); have n9_ := Aside0.mk ((by rw [hg]; exact (below_size (by repeat (first | (with_reducible first | exact HB.out | apply below_alloc | apply pw_below_drewN | apply below_drew1 | refine below_set ?_ GE424.out | refine below_set ?_ GE442.out) | exact HB.out))) : w.heap.size ≤ gb444)); have n10_ := Aside0.mk ((by rw [hg]; exact Nat.ne_of_lt (blk_lt (g := gb424) (o := .cells #[.int .i64 a0_0, .string a0_1, .int .i64 a0_2, .int .i64 a0_3, .slice A0_4 l0_4.length c0_4] 24 (0, 0)) (by (with_reducible repeat (first | refine blk_drewN ?_ _ | refine blk_drew ?_ | refine blk_alloc ?_ _)); exact BK424.out)) : gb424 ≠ gb444)); have n11_ := Aside0.mk ((by rw [hg]; exact Nat.ne_of_gt (blk_lt (g := gb424) (o := .cells #[.int .i64 a0_0, .string a0_1, .int .i64 a0_2, .int .i64 a0_3, .slice A0_4 l0_4.length c0_4] 24 (0, 0)) (by (with_reducible repeat (first | refine blk_drewN ?_ _ | refine blk_drew ?_ | refine blk_alloc ?_ _)); exact BK424.out)) : gb444 ≠ gb424)); have n12_ := Aside0.mk ((by rw [hg]; exact Nat.ne_of_lt (blk_lt (g := gb442) (o := .cells #[.int .i64 t434, .string t435, .int .i64 t436, .int .i64 t437, .slice (some ad443) t438.length co40] 24 (0, 0)) (by (with_reducible repeat (first | refine blk_drewN ?_ _ | refine blk_drew ?_ | refine blk_alloc ?_ _)); exact BK442.out)) : gb442 ≠ gb444)); have n13_ := Aside0.mk ((by rw [hg]; exact Nat.ne_of_gt (blk_lt (g := gb442) (o := .cells #[.int .i64 t434, .string t435, .int .i64 t436, .int .i64 t437, .slice (some ad443) t438.length co40] 24 (0, 0)) (by (with_reducible repeat (first | refine blk_drewN ?_ _ | refine blk_drew ?_ | refine blk_alloc ?_ _)); exact BK442.out)) : gb444 ≠ gb442)); clear HO_73; clear HO_443004; clear HL443_4; clear BK424; clear BK442; clear HR443_4; clear HB; have HO_73 := n0_; have HO_443004 := n1_; have HL443_4 := n2_; have BK424 := n3_; have BK442 := n4_; have HR443_4 := n5_; have HB := n6_; have BK444 := n7_; have GW444 := n8_; have GE444 := n9_; have NB424_444 := n10_; have NB444_424 := n11_; have NB442_444 := n12_; have NB444_442 := n13_; clear n0_ n1_ n2_ n3_ n4_ n5_ n6_ n7_ n8_ n9_ n10_ n11_ n12_ n13_; clear hb hbox hg; have hnb55 := NB444_424.out; have hnc55 := NB424_444.out; have hnb56 := NB444_442.out; have hnc56 := NB442_444.out; have hcz57_0 : w54.cell? ⟨gb444, 0, none⟩ = some (.int .i64 0) := (blk_cell BK444.out 0).trans rfl; have hcz57_1 : w54.cell? ⟨gb444, 1, none⟩ = some (.string (⟨#[]⟩ : ByteArray)) := (blk_cell BK444.out 1).trans rfl; have hcz57_2 : w54.cell? ⟨gb444, 2, none⟩ = some (.int .i64 0) := (blk_cell BK444.out 2).trans rfl; have hcz57_3 : w54.cell? ⟨gb444, 3, none⟩ = some (.int .i64 0) := (blk_cell BK444.out 3).trans rfl; have hcz57_4 : w54.cell? ⟨gb444, 4, none⟩ = some (.slice none 0 0) := (blk_cell BK444.out 4).trans rfl; have hfz57_0 := blk_frozen BK444.out 0; have hfz57_1 := blk_frozen BK444.out 1; have hfz57_2 := blk_frozen BK444.out 2; have hfz57_3 := blk_frozen BK444.out 3; have hfz57_4 := blk_frozen BK444.out 4))
                go_roundg k2
                case measure => have := HJ5.out; have := HK2.out; omega
                case rel => exact ⟨(wrap64 (x75_2 + 1)), (by first | rfl | (simp; done) | (simp [*]; done)), H', ⟨by have := HJ5.out; have := HK2.out; omega⟩, ⟨by (with_reducible repeat (first | apply Kd.V_alloc | apply Kd.V_drewN | apply Kd.V_drew)); exact Kd.V_mono (Kd.V_far (p := ⟨gb444, 4, none⟩) (Kd.V_far (p := ⟨gb444, 3, none⟩) (Kd.V_far (p := ⟨gb444, 2, none⟩) (Kd.V_far (p := ⟨gb444, 1, none⟩) (Kd.V_far (p := ⟨gb444, 0, none⟩) (Kd.V_mono HO_73.out (fun k_ hk => (⟨hk, hk.2⟩ : _ ∧ k_ ≠ gb444))) (fun _ hk => hk.2) (.int .i64 ((rd_T24 t438 x75_2).f0))) (fun _ hk => hk.2) (.string ((rd_T24 t438 x75_2).f1))) (fun _ hk => hk.2) (.int .i64 ((rd_T24 t438 x75_2).f2))) (fun _ hk => hk.2) (.int .i64 ((rd_T24 t438 x75_2).f3))) (fun _ hk => hk.2) (.slice A443_4 ((rd_T24 t438 x75_2).f4).length c443_4)) (fun _ hk => ⟨hk.1.1.1, hk.1.1.2⟩)⟩, ⟨by (with_reducible repeat (first | apply Kd.V_alloc | apply Kd.V_drewN | apply Kd.V_drew)); exact Kd.V_mono (Kd.V_far (p := ⟨gb444, 4, none⟩) (Kd.V_far (p := ⟨gb444, 3, none⟩) (Kd.V_far (p := ⟨gb444, 2, none⟩) (Kd.V_far (p := ⟨gb444, 1, none⟩) (Kd.V_far (p := ⟨gb444, 0, none⟩) (Kd.V_mono HO_443004.out (fun k_ hk => (⟨hk, hk.2⟩ : _ ∧ k_ ≠ gb444))) (fun _ hk => hk.2) (.int .i64 ((rd_T24 t438 x75_2).f0))) (fun _ hk => hk.2) (.string ((rd_T24 t438 x75_2).f1))) (fun _ hk => hk.2) (.int .i64 ((rd_T24 t438 x75_2).f2))) (fun _ hk => hk.2) (.int .i64 ((rd_T24 t438 x75_2).f3))) (fun _ hk => hk.2) (.slice A443_4 ((rd_T24 t438 x75_2).f4).length c443_4)) (fun _ hk => ⟨hk.1.1.1, hk.1.1.2⟩)⟩, ⟨by (with_reducible repeat (first | refine blk_drewN ?_ _ | refine blk_drew ?_ | refine blk_alloc ?_ _)); refine blk_far ?_ NB424_444.out _; (with_reducible repeat (first | refine blk_drewN ?_ _ | refine blk_drew ?_ | refine blk_alloc ?_ _)); refine blk_far ?_ NB424_444.out _; (with_reducible repeat (first | refine blk_drewN ?_ _ | refine blk_drew ?_ | refine blk_alloc ?_ _)); refine blk_far ?_ NB424_444.out _; (with_reducible repeat (first | refine blk_drewN ?_ _ | refine blk_drew ?_ | refine blk_alloc ?_ _)); refine blk_far ?_ NB424_444.out _; (with_reducible repeat (first | refine blk_drewN ?_ _ | refine blk_drew ?_ | refine blk_alloc ?_ _)); refine blk_far ?_ NB424_444.out _; (with_reducible repeat (first | refine blk_drewN ?_ _ | refine blk_drew ?_ | refine blk_alloc ?_ _)); exact BK424.out⟩, ⟨by (with_reducible repeat (first | refine blk_drewN ?_ _ | refine blk_drew ?_ | refine blk_alloc ?_ _)); refine blk_far ?_ NB442_444.out _; (with_reducible repeat (first | refine blk_drewN ?_ _ | refine blk_drew ?_ | refine blk_alloc ?_ _)); refine blk_far ?_ NB442_444.out _; (with_reducible repeat (first | refine blk_drewN ?_ _ | refine blk_drew ?_ | refine blk_alloc ?_ _)); refine blk_far ?_ NB442_444.out _; (with_reducible repeat (first | refine blk_drewN ?_ _ | refine blk_drew ?_ | refine blk_alloc ?_ _)); refine blk_far ?_ NB442_444.out _; (with_reducible repeat (first | refine blk_drewN ?_ _ | refine blk_drew ?_ | refine blk_alloc ?_ _)); refine blk_far ?_ NB442_444.out _; (with_reducible repeat (first | refine blk_drewN ?_ _ | refine blk_drew ?_ | refine blk_alloc ?_ _)); exact BK442.out⟩, ⟨by repeat (first | (with_reducible first | exact HB.out | apply below_alloc | apply pw_below_drewN | apply below_drew1 | refine below_set ?_ GE424.out | refine below_set ?_ GE442.out | refine below_set ?_ GE444.out) | exact HB.out)⟩⟩
              ·rw [if_neg c43] at H
               exact absurd H (by simp)
             ·rw [if_neg c42] at H
              exact absurd H (by simp)
            ·rw [if_neg c41] at H
             have c41b0 : decide (x75_2 < (t438.length : Int)) = false := decide_eq_false c41
             clear c41
             replace H := Option.bind_eq_some_iff.mp H
             obtain ⟨t445, A580, H⟩ := H
             replace H : (some t445) = some r := H
             have A58 := Aside0.mk A580
             clear A580
             obtain rfl := Option.some.inj H
             go_wp2_with (first | ((with_reducible refine gate_callee (f := 11) rfl ?_); refine goesL_ (some 90) rfl rfl Try.func11 (by kernel_rfl) rfl #[] rfl (by (try simp only [List.map_toArray, List.map_cons, List.map_nil]); first | done | rfl | (simp only [List.length_drop, List.length_take]; rfl)) ?_; (with_reducible refine (assessorlaw03_awake.calls k2  t445 _ A58.out).mono ?_); rintro e w59 ⟨rfl, hb⟩; refine ⟨_, rfl, ?_⟩; have n0_ := Aside0.mk (Kd.V_below (by (with_reducible repeat (first | apply Kd.V_alloc | apply Kd.V_drewN | apply Kd.V_drew)); exact HO_73.out) hb); have n1_ := Aside0.mk (Kd.V_below (by (with_reducible repeat (first | apply Kd.V_alloc | apply Kd.V_drewN | apply Kd.V_drew)); exact HO_443004.out) hb); have n2_ := Aside0.mk (blk_below (g := gb424) (o := .cells #[.int .i64 a0_0, .string a0_1, .int .i64 a0_2, .int .i64 a0_3, .slice A0_4 l0_4.length c0_4] 24 (0, 0)) (by (with_reducible repeat (first | refine blk_drewN ?_ _ | refine blk_drew ?_ | refine blk_alloc ?_ _)); exact BK424.out) hb); have n3_ := Aside0.mk (blk_below (g := gb442) (o := .cells #[.int .i64 t434, .string t435, .int .i64 t436, .int .i64 t437, .slice Ao40 t438.length co40] 24 (0, 0)) (by (with_reducible repeat (first | refine blk_drewN ?_ _ | refine blk_drew ?_ | refine blk_alloc ?_ _)); exact BK442.out) hb); have n4_ := Aside0.mk (below_step (by repeat (first | (with_reducible first | exact HB.out | apply below_alloc | apply pw_below_drewN | apply below_drew1 | refine below_set ?_ GE424.out | refine below_set ?_ GE442.out) | exact HB.out)) hb); clear HO_73; clear HO_443004; clear BK424; clear BK442; clear HB; have HO_73 := n0_; have HO_443004 := n1_; have BK424 := n2_; have BK442 := n3_; have HB := n4_; clear n0_ n1_ n2_ n3_ n4_; (try clear hb); (try clear hb2); (try clear hk); (try clear hi)))
             go_ret
             exact ⟨by first | rfl | (simp [errW_none, errW_some] <;> rfl) | (simp [*, errW_none, errW_some] <;> rfl) | (simp [IntKind.wrap_i64, wrap64]; done), by repeat (first | (with_reducible first | exact HB.out | apply below_alloc | apply pw_below_drewN | apply below_drew1 | refine below_set ?_ GE424.out | refine below_set ?_ GE442.out) | exact HB.out)⟩
       ·replace c20 := Bool.eq_false_iff.mpr c20
        subst c20
        have H1 : (none) = some r := by rw [if_neg (show ¬ (false = true) by decide)] at H; exact H
        clear H
        have H := H1
        clear H1
        exact absurd H (by simp)
      ·replace c19 := Bool.eq_false_iff.mpr c19
       subst c19
       have H1 : (none) = some r := by rw [if_neg (show ¬ (false = true) by decide)] at H; exact H
       clear H
       have H := H1
       clear H1
       exact absurd H (by simp)
     ·replace c16 := Bool.eq_false_iff.mpr c16
      subst c16
      have H1 : (if t427 = 0 then ((assessorlaw03_awake.f kj5).bind fun t429 => (some t429)) else (some false)) = some r := by rw [if_neg (show ¬ (false = true) by decide)] at H; exact H
      clear H
      have H := H1
      clear H1
      by_cases c60 : t427 = 0
      ·rw [if_pos c60] at H
       have c60b0 : (t427 == 0) = true := beq_iff_eq.mpr c60
       have c60b1 : (t427 != 0) = false := bne_eq_false_iff_eq.mpr c60
       clear c60
       replace H := Option.bind_eq_some_iff.mp H
       obtain ⟨t429, A610, H⟩ := H
       replace H : (some t429) = some r := H
       have A61 := Aside0.mk A610
       clear A610
       obtain rfl := Option.some.inj H
       go_wp2_with (first | (go_at_call 11; (with_reducible refine (assessorlaw03_awake.calls kj5  t429 _ A61.out).mono ?_); rintro e w62 ⟨rfl, hb⟩; have n0_ := Aside0.mk (blk_below (g := gb424) (o := .cells #[.int .i64 a0_0, .string a0_1, .int .i64 a0_2, .int .i64 a0_3, .slice A0_4 l0_4.length c0_4] 24 (0, 0)) (by (with_reducible repeat (first | refine blk_drewN ?_ _ | refine blk_drew ?_ | refine blk_alloc ?_ _)); exact BK424.out) hb); have n1_ := Aside0.mk (below_step (by repeat (first | (with_reducible first | exact HB.out | apply below_alloc | apply pw_below_drewN | apply below_drew1 | refine below_set ?_ GE424.out) | exact HB.out)) hb); clear BK424; clear HB; have BK424 := n0_; have HB := n1_; clear n0_ n1_; (try clear hb); (try clear hb2); (try clear hk); (try clear hi)))
       go_ret
       exact ⟨by first | rfl | (simp [errW_none, errW_some] <;> rfl) | (simp [*, errW_none, errW_some] <;> rfl) | (simp [IntKind.wrap_i64, wrap64]; done), by repeat (first | (with_reducible first | exact HB.out | apply below_alloc | apply pw_below_drewN | apply below_drew1 | refine below_set ?_ GE424.out) | exact HB.out)⟩
      ·rw [if_neg c60] at H
       have c60b0 : (t427 == 0) = false := beq_eq_false_iff_ne.mpr c60
       have c60b1 : (t427 != 0) = true := bne_iff_ne.mpr c60
       obtain rfl := Option.some.inj H
       go_wp2
       go_ret
       exact ⟨by first | rfl | (simp [errW_none, errW_some] <;> rfl) | (simp [*, errW_none, errW_some] <;> rfl) | (simp [IntKind.wrap_i64, wrap64]; done), by repeat (first | (with_reducible first | exact HB.out | apply below_alloc | apply pw_below_drewN | apply below_drew1 | refine below_set ?_ GE424.out) | exact HB.out)⟩
 ·replace c4 := Bool.eq_false_iff.mpr c4
  subst c4
  have H1 : ((assessorlaw03_awake.f k).bind fun t426 => (some t426)) = some r := by rw [if_neg (show ¬ (false = true) by decide)] at H; exact H
  clear H
  have H := H1
  clear H1
  replace H := Option.bind_eq_some_iff.mp H
  obtain ⟨t426, A630, H⟩ := H
  replace H : (some t426) = some r := H
  have A63 := Aside0.mk A630
  clear A630
  obtain rfl := Option.some.inj H
  go_enter Try.func7, Try.ntmps7
  go_wp2_with (first | ((with_reducible refine gate_dst (N := 2) rfl ?_); refine box_event ?hg (N := 2) ?hd (cs := #[.int .i64 a0_0, .string a0_1, .int .i64 a0_2, .int .i64 a0_3, .slice A0_4 l0_4.length c0_4]) (t := 24) ?hr ?_; (case hd => rfl); (case hg => rfl); (case hr => first | (go_simp; done) | (go_simp; rfl)); intro gb424 hg w64 hbox hb; have n0_ := Aside0.mk (below_step (by repeat (first | (with_reducible first | exact HB.out | apply below_alloc | apply pw_below_drewN | apply below_drew1) | exact HB.out)) hb); have n1_ := Aside0.mk (hbox); have n2_ := Aside0.mk ((by rw [hg]; exact (below_size (by repeat (first | (with_reducible first | exact HB.out | apply below_alloc | apply pw_below_drewN | apply below_drew1) | exact HB.out))) : w.heap.size ≤ gb424)); have n3_ := Aside0.mk ((by rw [hg]; exact (below_size (by repeat (first | (with_reducible first | exact HB.out | apply below_alloc | apply pw_below_drewN | apply below_drew1) | exact HB.out))) : w.heap.size ≤ gb424)); clear HB; have HB := n0_; have BK424 := n1_; have GW424 := n2_; have GE424 := n3_; clear n0_ n1_ n2_ n3_; clear hb hbox hg; have hcz65_0 : w64.cell? ⟨gb424, 0, none⟩ = some (.int .i64 a0_0) := (blk_cell BK424.out 0).trans rfl; have hcz65_1 : w64.cell? ⟨gb424, 1, none⟩ = some (.string a0_1) := (blk_cell BK424.out 1).trans rfl; have hcz65_2 : w64.cell? ⟨gb424, 2, none⟩ = some (.int .i64 a0_2) := (blk_cell BK424.out 2).trans rfl; have hcz65_3 : w64.cell? ⟨gb424, 3, none⟩ = some (.int .i64 a0_3) := (blk_cell BK424.out 3).trans rfl; have hcz65_4 : w64.cell? ⟨gb424, 4, none⟩ = some (.slice A0_4 l0_4.length c0_4) := (blk_cell BK424.out 4).trans rfl; have hfz65_0 := blk_frozen BK424.out 0; have hfz65_1 := blk_frozen BK424.out 1; have hfz65_2 := blk_frozen BK424.out 2; have hfz65_3 := blk_frozen BK424.out 3; have hfz65_4 := blk_frozen BK424.out 4) | ((with_reducible refine gate_callee (f := 10) rfl ?_); refine goesL_ (some 14) rfl rfl Try.func10 (by kernel_rfl) rfl #[.agg #[.int .i64 a0_0, .string a0_1, .int .i64 a0_2, .int .i64 a0_3, .slice A0_4 l0_4.length c0_4], .int .i64 100] rfl (by (try simp only [List.map_toArray, List.map_cons, List.map_nil]); first | done | rfl | (simp only [List.length_drop, List.length_take]; rfl)) ?_; (with_reducible refine (assessorref03_Small.calls k a0_0 a0_1 a0_2 a0_3 _ _ l0_4 100 false _ ?side1 ?side2 A3.out).mono ?_); (case side1 => repeat (first | exact (Kd.C_below HR0_4.out HB.out) | (with_reducible refine Kd.C_alloc ?_ _) | (with_reducible refine Kd.C_drewN ?_ _) | (with_reducible refine Kd.C_drew ?_))); (case side2 => exact HC0_4.out); rintro e w66 ⟨rfl, hb⟩; refine ⟨_, rfl, ?_⟩; have n0_ := Aside0.mk (blk_below (g := gb424) (o := .cells #[.int .i64 a0_0, .string a0_1, .int .i64 a0_2, .int .i64 a0_3, .slice A0_4 l0_4.length c0_4] 24 (0, 0)) (by (with_reducible repeat (first | refine blk_drewN ?_ _ | refine blk_drew ?_ | refine blk_alloc ?_ _)); exact BK424.out) hb); have n1_ := Aside0.mk (below_step (by repeat (first | (with_reducible first | exact HB.out | apply below_alloc | apply pw_below_drewN | apply below_drew1 | refine below_set ?_ GE424.out) | exact HB.out)) hb); clear BK424; clear HB; have BK424 := n0_; have HB := n1_; clear n0_ n1_; (try clear hb); (try clear hb2); (try clear hk); (try clear hi)) | ((with_reducible refine gate_callee (f := 11) rfl ?_); refine goesL_ (some 16) rfl rfl Try.func11 (by kernel_rfl) rfl #[] rfl (by (try simp only [List.map_toArray, List.map_cons, List.map_nil]); first | done | rfl | (simp only [List.length_drop, List.length_take]; rfl)) ?_; (with_reducible refine (assessorlaw03_awake.calls k  t426 _ A63.out).mono ?_); rintro e w67 ⟨rfl, hb⟩; refine ⟨_, rfl, ?_⟩; have n0_ := Aside0.mk (blk_below (g := gb424) (o := .cells #[.int .i64 a0_0, .string a0_1, .int .i64 a0_2, .int .i64 a0_3, .slice A0_4 l0_4.length c0_4] 24 (0, 0)) (by (with_reducible repeat (first | refine blk_drewN ?_ _ | refine blk_drew ?_ | refine blk_alloc ?_ _)); exact BK424.out) hb); have n1_ := Aside0.mk (below_step (by repeat (first | (with_reducible first | exact HB.out | apply below_alloc | apply pw_below_drewN | apply below_drew1 | refine below_set ?_ GE424.out) | exact HB.out)) hb); clear BK424; clear HB; have BK424 := n0_; have HB := n1_; clear n0_ n1_; (try clear hb); (try clear hb2); (try clear hk); (try clear hi)))
  go_ret
  exact ⟨by first | rfl | (simp [errW_none, errW_some] <;> rfl) | (simp [*, errW_none, errW_some] <;> rfl) | (simp [IntKind.wrap_i64, wrap64]; done), by repeat (first | (with_reducible first | exact HB.out | apply below_alloc | apply pw_below_drewN | apply below_drew1 | refine below_set ?_ GE424.out) | exact HB.out)⟩

end Go.Proofs.Ytbheobngeocdfaa.PAll
