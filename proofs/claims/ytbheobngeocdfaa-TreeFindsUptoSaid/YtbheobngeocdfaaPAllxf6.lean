/- What the machine's calls come to, function by function: printed by a program of this session after the kit's print; Lean checks it. SLIM -/
import Derived.Test.YtbheobngeocdfaaPAllx0
import Derived.Test.YtbheobngeocdfaaPAllxf23
import Derived.Test.YtbheobngeocdfaaPAllxf28
import Derived.Test.YtbheobngeocdfaaPAllxf33
import Derived.Test.YtbheobngeocdfaaPAllxf11
import Derived.Test.YtbheobngeocdfaaPAllxf24
import Derived.Test.YtbheobngeocdfaaG1
import Derived.Test.YtbheobngeocdfaaH22
namespace Go.Proofs.Ytbheobngeocdfaa.PAll
open Go.RowKit Go.Proofs.YtbheobngeocdfaaW.PrintWords Go.Proofs.YtbheobngeocdfaaW.PrintLast Go.Proofs.YtbheobngeocdfaaW.PrintMore
attribute [local go_sem] max2_int min2_int max_two min_two max_three min_three max_four min_four   -- for this text's walks alone
set_option linter.unusedVariables false
set_option linter.unusedSimpArgs false

/-! ### assessorlaw03_TreePaths: function 6 -/
def assessorlaw03_TreePaths.l0 : Nat → Int → Int → Int → Int → ByteArray → Int → Int → List (S24) → Option (Bool)
 | 0, _, _, _, _, _, _, _, _ => none
 | k + 1, x3, x20, x21, x395000, x395001, x395002, x395003, x395004 => if x21 < x20 then ((tree_Path.f x395000 x395001 x395002 x395003 x395004 x21).bind fun bt398 => ((tree_Number.f k x395000 x395001 x395002 x395003 x395004 bt398.1).bind fun bt402 => ((tree_Get.f k x395000 x395001 x395002 x395003 x395004 bt398.1).bind fun bt404 => (if bt398.2 = true then (if bt402.2 = true then (if bt404.2.2.2.2.2 = true then (if bt402.1 = x21 then (assessorlaw03_TreePaths.l0 k (mx x3 (wrap64 ((bt398.1.length : Int) + 1))) x20 (wrap64 (x21 + 1)) x395000 x395001 x395002 x395003 x395004) else (some false)) else (none)) else (none)) else (none))))) else ((tree_Path.f x395000 x395001 x395002 x395003 x395004 (-1)).bind fun bt413 => ((tree_Count.f x395000 x395001 x395002 x395003 x395004).bind fun t417 => ((tree_Path.f x395000 x395001 x395002 x395003 x395004 t417).bind fun bt418 => (if bt413.2 = true then (none) else (if bt418.2 = true then (none) else ((tree_Levels.f k x395000 x395001 x395002 x395003 x395004).bind fun t422 => (if x3 = t422 then ((assessorlaw03_awake.f k).bind fun t423 => (some t423)) else (none))))))))
def assessorlaw03_TreePaths.f (k : Nat) (a0_0 : Int) (a0_1 : ByteArray) (a0_2 : Int) (a0_3 : Int) (l0_4 : List (S24)) : Option (Bool) := (assessorref03_Small.f k a0_0 a0_1 a0_2 a0_3 l0_4 100).bind fun t395 => (if t395 = true then ((tree_Count.f a0_0 a0_1 a0_2 a0_3 l0_4).bind fun t397 => (assessorlaw03_TreePaths.l0 k 0 t397 0 a0_0 a0_1 a0_2 a0_3 l0_4)) else ((assessorlaw03_awake.f k).bind fun t396 => (some t396)))
theorem assessorlaw03_TreePaths.mono_l : ∀ k, (∀ y0 y1 y2 y3 y4 y5 y6 y7, LeO (assessorlaw03_TreePaths.l0 k y0 y1 y2 y3 y4 y5 y6 y7) (assessorlaw03_TreePaths.l0 (k + 1) y0 y1 y2 y3 y4 y5 y6 y7))
 | 0 => fun _ _ _ _ _ _ _ _ r h => by simp [assessorlaw03_TreePaths.l0] at h
 | k + 1 => by
  have ih0 := assessorlaw03_TreePaths.mono_l k
  ·intro y0 y1 y2 y3 y4 y5 y6 y7
   unfold assessorlaw03_TreePaths.l0
   repeat' first
   | (with_reducible exact ih0 _ _ _ _ _ _ _ _)
   | (with_reducible exact assessorlaw03_awake.mono _)
   | (with_reducible exact assessorref03_Small.mono _ _ _ _ _ _ _)
   | (with_reducible exact tree_Get.mono _ _ _ _ _ _ _)
   | (with_reducible exact tree_Levels.mono _ _ _ _ _ _)
   | (with_reducible exact tree_Number.mono _ _ _ _ _ _ _)
   | (with_reducible exact LeO.refl _)
   | (with_reducible exact LeO.none _)
   | (with_reducible refine LeO.ite ?_ ?_)
   | (with_reducible refine LeO.bind ?_ (fun _ => ?_))
   | exact ih0 _ _ _ _ _ _ _ _
   | exact assessorlaw03_awake.mono _
   | exact assessorref03_Small.mono _ _ _ _ _ _ _
   | exact tree_Get.mono _ _ _ _ _ _ _
   | exact tree_Levels.mono _ _ _ _ _ _
   | exact tree_Number.mono _ _ _ _ _ _ _
   | exact LeO.none _
   | refine LeO.ite ?_ ?_
   | refine LeO.bind ?_ (fun _ => ?_)
theorem assessorlaw03_TreePaths.mono : ∀ a0 a1 a2 a3 a4 k, LeO (assessorlaw03_TreePaths.f k a0 a1 a2 a3 a4) (assessorlaw03_TreePaths.f (k + 1) a0 a1 a2 a3 a4) := by
 intro a0 a1 a2 a3 a4 k
 have ih0 := assessorlaw03_TreePaths.mono_l k
 unfold assessorlaw03_TreePaths.f
 repeat' first
   | (with_reducible exact ih0 _ _ _ _ _ _ _ _)
   | (with_reducible exact assessorlaw03_awake.mono _)
   | (with_reducible exact assessorref03_Small.mono _ _ _ _ _ _ _)
   | (with_reducible exact tree_Get.mono _ _ _ _ _ _ _)
   | (with_reducible exact tree_Levels.mono _ _ _ _ _ _)
   | (with_reducible exact tree_Number.mono _ _ _ _ _ _ _)
   | (with_reducible exact LeO.refl _)
   | (with_reducible exact LeO.none _)
   | (with_reducible refine LeO.ite ?_ ?_)
   | (with_reducible refine LeO.bind ?_ (fun _ => ?_))
   | exact ih0 _ _ _ _ _ _ _ _
   | exact assessorlaw03_awake.mono _
   | exact assessorref03_Small.mono _ _ _ _ _ _ _
   | exact tree_Get.mono _ _ _ _ _ _ _
   | exact tree_Levels.mono _ _ _ _ _ _
   | exact tree_Number.mono _ _ _ _ _ _ _
   | exact LeO.none _
   | refine LeO.ite ?_ ?_
   | refine LeO.bind ?_ (fun _ => ?_)
def assessorlaw03_TreePaths.T15 : Bool × List (List Nat × List Nat) := (true, [([], []), ([], []), ([1], [1]), ([0, 2, 2], [0, 2]), ([3], [3]), ([4], [4]), ([4], [4]), ([5, 3, 0, 1, 2, 3, 4, 5], [5]), ([6, 7, 0, 1, 2, 3, 4, 5, 6, 7], [6])])
def assessorlaw03_TreePaths.B15 : List Nat := [0, 0, 2, 7, 15, 31, 31, 63, 255]
theorem assessorlaw03_TreePaths.tab15 : rtab .any (opsOf Try.f6 15) = assessorlaw03_TreePaths.T15 := by kernel_rfl
theorem assessorlaw03_TreePaths.bits15 : waitsOk assessorlaw03_TreePaths.T15.2 assessorlaw03_TreePaths.B15 = true := by kernel_rfl
set_option maxHeartbeats 8000000 in
set_option maxRecDepth 100000 in
theorem assessorlaw03_TreePaths.calls (k : Nat) (a0_0 : Int) (a0_1 : ByteArray) (a0_2 : Int) (a0_3 : Int) (A0_4 : Option Addr) (c0_4 : Nat) (l0_4 : List (S24)) (r : Bool) (w : World) (hr0_4 : Kd.C k24 w A0_4 l0_4.length l0_4) (hc0_4 : l0_4.length ≤ c0_4) (h : assessorlaw03_TreePaths.f k a0_0 a0_1 a0_2 a0_3 l0_4 = some r) :
  Calls Try.prog 6 #[.agg #[.int .i64 a0_0, .string a0_1, .int .i64 a0_2, .int .i64 a0_3, .slice A0_4 l0_4.length c0_4]] w fun e w' => e = .returned (.bool r) ∧ Below w.heap.size w w' := by
 have hu24 := Try.underlying24
 have HR0_4 := Aside0.mk hr0_4
 have HC0_4 := Aside0.mk hc0_4
 clear hr0_4 hc0_4
 have HB := Aside0.mk (Below.refl w.heap.size w)
 have H : ((assessorref03_Small.f k a0_0 a0_1 a0_2 a0_3 l0_4 100).bind fun t395 => (if t395 = true then ((tree_Count.f a0_0 a0_1 a0_2 a0_3 l0_4).bind fun t397 => (assessorlaw03_TreePaths.l0 k 0 t397 0 a0_0 a0_1 a0_2 a0_3 l0_4)) else ((assessorlaw03_awake.f k).bind fun t396 => (some t396)))) = some r := h
 clear h
 replace H := Option.bind_eq_some_iff.mp H
 obtain ⟨t395, A20, H⟩ := H
 replace H : (if t395 = true then ((tree_Count.f a0_0 a0_1 a0_2 a0_3 l0_4).bind fun t397 => (assessorlaw03_TreePaths.l0 k 0 t397 0 a0_0 a0_1 a0_2 a0_3 l0_4)) else ((assessorlaw03_awake.f k).bind fun t396 => (some t396))) = some r := H
 have A2 := Aside0.mk A20
 clear A20
 by_cases c3 : t395 = true
 ·subst c3
  have H1 : ((tree_Count.f a0_0 a0_1 a0_2 a0_3 l0_4).bind fun t397 => (assessorlaw03_TreePaths.l0 k 0 t397 0 a0_0 a0_1 a0_2 a0_3 l0_4)) = some r := by rw [if_pos rfl] at H; exact H
  clear H
  have H := H1
  clear H1
  replace H := Option.bind_eq_some_iff.mp H
  obtain ⟨t397, A40, H⟩ := H
  replace H : (assessorlaw03_TreePaths.l0 k 0 t397 0 a0_0 a0_1 a0_2 a0_3 l0_4) = some r := H
  have A4 := Aside0.mk A40
  clear A40
  have H' := Aside0.mk H
  clear H
  go_enter Try.func6, Try.ntmps6
  go_wp2_with (first | ((with_reducible refine gate_dst (N := 1) rfl ?_); refine box_event ?hg (N := 1) ?hd (cs := #[.int .i64 a0_0, .string a0_1, .int .i64 a0_2, .int .i64 a0_3, .slice A0_4 l0_4.length c0_4]) (t := 24) ?hr ?_; (case hd => rfl); (case hg => rfl); (case hr => first | (go_simp; done) | (go_simp; rfl)); intro gb394 hg w5 hbox hb; have n0_ := Aside0.mk (below_step (by repeat (first | (with_reducible first | exact HB.out | apply below_alloc | apply pw_below_drewN | apply below_drew1) | exact HB.out)) hb); have n1_ := Aside0.mk (hbox); have n2_ := Aside0.mk ((by rw [hg]; exact (below_size (by repeat (first | (with_reducible first | exact HB.out | apply below_alloc | apply pw_below_drewN | apply below_drew1) | exact HB.out))) : w.heap.size ≤ gb394)); have n3_ := Aside0.mk ((by rw [hg]; exact (below_size (by repeat (first | (with_reducible first | exact HB.out | apply below_alloc | apply pw_below_drewN | apply below_drew1) | exact HB.out))) : w.heap.size ≤ gb394)); clear HB; have HB := n0_; have BK394 := n1_; have GW394 := n2_; have GE394 := n3_; clear n0_ n1_ n2_ n3_; clear hb hbox hg; have hcz6_0 : w5.cell? ⟨gb394, 0, none⟩ = some (.int .i64 a0_0) := (blk_cell BK394.out 0).trans rfl; have hcz6_1 : w5.cell? ⟨gb394, 1, none⟩ = some (.string a0_1) := (blk_cell BK394.out 1).trans rfl; have hcz6_2 : w5.cell? ⟨gb394, 2, none⟩ = some (.int .i64 a0_2) := (blk_cell BK394.out 2).trans rfl; have hcz6_3 : w5.cell? ⟨gb394, 3, none⟩ = some (.int .i64 a0_3) := (blk_cell BK394.out 3).trans rfl; have hcz6_4 : w5.cell? ⟨gb394, 4, none⟩ = some (.slice A0_4 l0_4.length c0_4) := (blk_cell BK394.out 4).trans rfl; have hfz6_0 := blk_frozen BK394.out 0; have hfz6_1 := blk_frozen BK394.out 1; have hfz6_2 := blk_frozen BK394.out 2; have hfz6_3 := blk_frozen BK394.out 3; have hfz6_4 := blk_frozen BK394.out 4) | ((with_reducible refine gate_callee (f := 10) rfl ?_); refine goesL_ (some 16) rfl rfl Try.func10 (by kernel_rfl) rfl #[.agg #[.int .i64 a0_0, .string a0_1, .int .i64 a0_2, .int .i64 a0_3, .slice A0_4 l0_4.length c0_4], .int .i64 100] rfl (by (try simp only [List.map_toArray, List.map_cons, List.map_nil]); first | done | rfl | (simp only [List.length_drop, List.length_take]; rfl)) ?_; (with_reducible refine (assessorref03_Small.calls k a0_0 a0_1 a0_2 a0_3 _ _ l0_4 100 true _ ?side1 ?side2 A2.out).mono ?_); (case side1 => repeat (first | exact (Kd.C_below HR0_4.out HB.out) | (with_reducible refine Kd.C_alloc ?_ _) | (with_reducible refine Kd.C_drewN ?_ _) | (with_reducible refine Kd.C_drew ?_))); (case side2 => exact HC0_4.out); rintro e w7 ⟨rfl, hb⟩; refine ⟨_, rfl, ?_⟩; have n0_ := Aside0.mk (blk_below (g := gb394) (o := .cells #[.int .i64 a0_0, .string a0_1, .int .i64 a0_2, .int .i64 a0_3, .slice A0_4 l0_4.length c0_4] 24 (0, 0)) (by (with_reducible repeat (first | refine blk_drewN ?_ _ | refine blk_drew ?_ | refine blk_alloc ?_ _)); exact BK394.out) hb); have n1_ := Aside0.mk (below_step (by repeat (first | (with_reducible first | exact HB.out | apply below_alloc | apply pw_below_drewN | apply below_drew1 | refine below_set ?_ GE394.out) | exact HB.out)) hb); clear BK394; clear HB; have BK394 := n0_; have HB := n1_; clear n0_ n1_; (try clear hb); (try clear hb2); (try clear hk); (try clear hi); have hcz8_0 : w7.cell? ⟨gb394, 0, none⟩ = some (.int .i64 a0_0) := (blk_cell BK394.out 0).trans rfl; have hcz8_1 : w7.cell? ⟨gb394, 1, none⟩ = some (.string a0_1) := (blk_cell BK394.out 1).trans rfl; have hcz8_2 : w7.cell? ⟨gb394, 2, none⟩ = some (.int .i64 a0_2) := (blk_cell BK394.out 2).trans rfl; have hcz8_3 : w7.cell? ⟨gb394, 3, none⟩ = some (.int .i64 a0_3) := (blk_cell BK394.out 3).trans rfl; have hcz8_4 : w7.cell? ⟨gb394, 4, none⟩ = some (.slice A0_4 l0_4.length c0_4) := (blk_cell BK394.out 4).trans rfl; have hfz8_0 := blk_frozen BK394.out 0; have hfz8_1 := blk_frozen BK394.out 1; have hfz8_2 := blk_frozen BK394.out 2; have hfz8_3 := blk_frozen BK394.out 3; have hfz8_4 := blk_frozen BK394.out 4) | ((with_reducible refine gate_callee (f := 22) rfl ?_); refine goesL_ (some 20) rfl rfl Try.func22 (by kernel_rfl) rfl #[.agg #[.int .i64 a0_0, .string a0_1, .int .i64 a0_2, .int .i64 a0_3, .slice A0_4 l0_4.length c0_4]] rfl (by (try simp only [List.map_toArray, List.map_cons, List.map_nil]); first | done | rfl | (simp only [List.length_drop, List.length_take]; rfl)) ?_; (with_reducible refine (tree_Count.calls a0_0 a0_1 a0_2 a0_3 _ _ l0_4 t397 _ ?side1 ?side2 A4.out).mono ?_); (case side1 => repeat (first | exact (Kd.C_below HR0_4.out HB.out) | (with_reducible refine Kd.C_alloc ?_ _) | (with_reducible refine Kd.C_drewN ?_ _) | (with_reducible refine Kd.C_drew ?_))); (case side2 => exact HC0_4.out); rintro e w9 ⟨rfl, hb⟩; refine ⟨_, rfl, ?_⟩; have n0_ := Aside0.mk (blk_below (g := gb394) (o := .cells #[.int .i64 a0_0, .string a0_1, .int .i64 a0_2, .int .i64 a0_3, .slice A0_4 l0_4.length c0_4] 24 (0, 0)) (by (with_reducible repeat (first | refine blk_drewN ?_ _ | refine blk_drew ?_ | refine blk_alloc ?_ _)); exact BK394.out) hb); have n1_ := Aside0.mk (below_step (by repeat (first | (with_reducible first | exact HB.out | apply below_alloc | apply pw_below_drewN | apply below_drew1 | refine below_set ?_ GE394.out) | exact HB.out)) hb); clear BK394; clear HB; have BK394 := n0_; have HB := n1_; clear n0_ n1_; (try clear hb); (try clear hb2); (try clear hk); (try clear hi)))
  go_loopg [3, 21] k (fun kq v3 v21 w' => ∃ (x3_1 : Int) (x21_1 : Int), v3 = .int .i64 x3_1 ∧ v21 = .int .i64 x21_1 ∧ Aside0 (assessorlaw03_TreePaths.l0 kq x3_1 t397 x21_1 a0_0 a0_1 a0_2 a0_3 l0_4 = some r) ∧ Aside0 (kq ≤ k) ∧ Aside0 (w'.heap[gb394]? = some (.cells #[.int .i64 a0_0, .string a0_1, .int .i64 a0_2, .int .i64 a0_3, (.slice A0_4 l0_4.length c0_4)] 24 (0, 0))) ∧ Aside0 (Below w.heap.size w w'))
  case atStart => exact ⟨(0), (0), (by first | rfl | (simp; done) | (simp [*]; done)), (by first | rfl | (simp; done) | (simp [*]; done)), H', ⟨Nat.le_refl _⟩, ⟨by (with_reducible repeat (first | refine blk_drewN ?_ _ | refine blk_drew ?_ | refine blk_alloc ?_ _)); exact BK394.out⟩, ⟨by repeat (first | (with_reducible first | exact HB.out | apply below_alloc | apply pw_below_drewN | apply below_drew1 | refine below_set ?_ GE394.out) | exact HB.out)⟩⟩
  case round =>
   clear H'
   try clear c1
   try clear c2
   try clear p2
   try clear c3
   try clear c6
   try clear hcz6_0
   try clear hcz6_1
   try clear hcz6_2
   try clear hcz6_3
   try clear hcz6_4
   try clear hcz8_0
   try clear hcz8_1
   try clear hcz8_2
   try clear hcz8_3
   try clear hcz8_4
   try clear hfz6_0
   try clear hfz6_1
   try clear hfz6_2
   try clear hfz6_3
   try clear hfz6_4
   try clear hfz8_0
   try clear hfz8_1
   try clear hfz8_2
   try clear hfz8_3
   try clear hfz8_4
   obtain ⟨x3_1, x21_1, rfl, rfl, HA, HK1, BK394, HB⟩ := hrel
   cases gk with
   | zero => exact absurd HA.out (by simp [assessorlaw03_TreePaths.l0])
   | succ k1 =>
    have H := HA.out
    clear HA
    simp only [assessorlaw03_TreePaths.l0] at H
    by_cases c10 : x21_1 < t397
    ·rw [if_pos c10] at H
     have c10b0 : decide (x21_1 < t397) = true := decide_eq_true c10
     clear c10
     replace H := Option.bind_eq_some_iff.mp H
     obtain ⟨⟨t398, t401⟩, A110, H⟩ := H
     replace H : ((tree_Number.f k1 a0_0 a0_1 a0_2 a0_3 l0_4 t398).bind fun bt402 => ((tree_Get.f k1 a0_0 a0_1 a0_2 a0_3 l0_4 t398).bind fun bt404 => (if t401 = true then (if bt402.2 = true then (if bt404.2.2.2.2.2 = true then (if bt402.1 = x21_1 then (assessorlaw03_TreePaths.l0 k1 (mx x3_1 (wrap64 ((t398.length : Int) + 1))) t397 (wrap64 (x21_1 + 1)) a0_0 a0_1 a0_2 a0_3 l0_4) else (some false)) else (none)) else (none)) else (none)))) = some r := H
     have A11 := Aside0.mk A110
     clear A110
     replace H := Option.bind_eq_some_iff.mp H
     obtain ⟨⟨t402, t403⟩, A120, H⟩ := H
     replace H : ((tree_Get.f k1 a0_0 a0_1 a0_2 a0_3 l0_4 t398).bind fun bt404 => (if t401 = true then (if t403 = true then (if bt404.2.2.2.2.2 = true then (if t402 = x21_1 then (assessorlaw03_TreePaths.l0 k1 (mx x3_1 (wrap64 ((t398.length : Int) + 1))) t397 (wrap64 (x21_1 + 1)) a0_0 a0_1 a0_2 a0_3 l0_4) else (some false)) else (none)) else (none)) else (none))) = some r := H
     have A12 := Aside0.mk A120
     clear A120
     replace H := Option.bind_eq_some_iff.mp H
     obtain ⟨⟨t404, t405, t406, t407, t408, t411⟩, A130, H⟩ := H
     replace H : (if t401 = true then (if t403 = true then (if t411 = true then (if t402 = x21_1 then (assessorlaw03_TreePaths.l0 k1 (mx x3_1 (wrap64 ((t398.length : Int) + 1))) t397 (wrap64 (x21_1 + 1)) a0_0 a0_1 a0_2 a0_3 l0_4) else (some false)) else (none)) else (none)) else (none)) = some r := H
     have A13 := Aside0.mk A130
     clear A130
     by_cases c14 : t401 = true
     ·subst c14
      have H1 : (if t403 = true then (if t411 = true then (if t402 = x21_1 then (assessorlaw03_TreePaths.l0 k1 (mx x3_1 (wrap64 ((t398.length : Int) + 1))) t397 (wrap64 (x21_1 + 1)) a0_0 a0_1 a0_2 a0_3 l0_4) else (some false)) else (none)) else (none)) = some r := by rw [if_pos rfl] at H; exact H
      clear H
      have H := H1
      clear H1
      by_cases c15 : t403 = true
      ·subst c15
       have H1 : (if t411 = true then (if t402 = x21_1 then (assessorlaw03_TreePaths.l0 k1 (mx x3_1 (wrap64 ((t398.length : Int) + 1))) t397 (wrap64 (x21_1 + 1)) a0_0 a0_1 a0_2 a0_3 l0_4) else (some false)) else (none)) = some r := by rw [if_pos rfl] at H; exact H
       clear H
       have H := H1
       clear H1
       by_cases c16 : t411 = true
       ·subst c16
        have H1 : (if t402 = x21_1 then (assessorlaw03_TreePaths.l0 k1 (mx x3_1 (wrap64 ((t398.length : Int) + 1))) t397 (wrap64 (x21_1 + 1)) a0_0 a0_1 a0_2 a0_3 l0_4) else (some false)) = some r := by rw [if_pos rfl] at H; exact H
        clear H
        have H := H1
        clear H1
        by_cases c17 : t402 = x21_1
        ·rw [if_pos c17] at H
         have c17b0 : (t402 == x21_1) = true := beq_iff_eq.mpr c17
         have c17b1 : (t402 != x21_1) = false := bne_eq_false_iff_eq.mpr c17
         clear c17
         obtain ⟨ji18, hji18⟩ : ∃ j_ : Int, (mx x3_1 (wrap64 ((t398.length : Int) + 1))) = j_ := ⟨_, rfl⟩
         replace H : (assessorlaw03_TreePaths.l0 k1 ji18 t397 (wrap64 (x21_1 + 1)) a0_0 a0_1 a0_2 a0_3 l0_4) = some r := by first | (rw [hji18] at H; exact H) | (simp only [hji18] at H ⊢; exact H)
         (try rw [hji18] at A11)
         (try rw [hji18] at A12)
         (try rw [hji18] at A13)
         have hji18_ : (if x3_1 < (wrap64 ((t398.length : Int) + 1)) then (wrap64 ((t398.length : Int) + 1)) else x3_1) = ji18 := hji18
         have H' := Aside0.mk H
         clear H
         have hcz19_0 : wr.cell? ⟨gb394, 0, none⟩ = some (.int .i64 a0_0) := (blk_cell BK394.out 0).trans rfl
         have hcz19_1 : wr.cell? ⟨gb394, 1, none⟩ = some (.string a0_1) := (blk_cell BK394.out 1).trans rfl
         have hcz19_2 : wr.cell? ⟨gb394, 2, none⟩ = some (.int .i64 a0_2) := (blk_cell BK394.out 2).trans rfl
         have hcz19_3 : wr.cell? ⟨gb394, 3, none⟩ = some (.int .i64 a0_3) := (blk_cell BK394.out 3).trans rfl
         have hcz19_4 : wr.cell? ⟨gb394, 4, none⟩ = some (.slice A0_4 l0_4.length c0_4) := (blk_cell BK394.out 4).trans rfl
         have hfz19_0 := blk_frozen BK394.out 0
         have hfz19_1 := blk_frozen BK394.out 1
         have hfz19_2 := blk_frozen BK394.out 2
         have hfz19_3 := blk_frozen BK394.out 3
         have hfz19_4 := blk_frozen BK394.out 4
         go_wp2_with (first | ((with_reducible refine gate_callee (f := 26) rfl ?_); refine goesL_ (some 27) rfl rfl Try.func26 (by kernel_rfl) rfl #[.agg #[.int .i64 a0_0, .string a0_1, .int .i64 a0_2, .int .i64 a0_3, .slice A0_4 l0_4.length c0_4], .int .i64 x21_1] rfl (by (try simp only [List.map_toArray, List.map_cons, List.map_nil]); first | done | rfl | (simp only [List.length_drop, List.length_take]; rfl)) ?_; (with_reducible refine (tree_Path.calls a0_0 a0_1 a0_2 a0_3 _ _ l0_4 x21_1 t398 true _ ?side1 ?side2 A11.out).mono ?_); (case side1 => repeat (first | exact (Kd.C_below HR0_4.out HB.out) | (with_reducible refine Kd.C_alloc ?_ _) | (with_reducible refine Kd.C_drewN ?_ _) | (with_reducible refine Kd.C_drew ?_))); (case side2 => exact HC0_4.out); rintro e w20 ⟨v399, rfl, ho0, hb⟩; refine ⟨_, rfl, ?_⟩; have n0_ := Aside0.mk (Kd.R_lower ho0 (below_size (by repeat (first | (with_reducible first | exact HB.out | apply below_alloc | apply pw_below_drewN | apply below_drew1 | refine below_set ?_ GE394.out) | exact HB.out)))); have n1_ := Aside0.mk (blk_below (g := gb394) (o := .cells #[.int .i64 a0_0, .string a0_1, .int .i64 a0_2, .int .i64 a0_3, .slice A0_4 l0_4.length c0_4] 24 (0, 0)) (by (with_reducible repeat (first | refine blk_drewN ?_ _ | refine blk_drew ?_ | refine blk_alloc ?_ _)); exact BK394.out) hb); have n2_ := Aside0.mk (below_step (by repeat (first | (with_reducible first | exact HB.out | apply below_alloc | apply pw_below_drewN | apply below_drew1 | refine below_set ?_ GE394.out) | exact HB.out)) hb); clear BK394; clear HB; have HO400 := n0_; have BK394 := n1_; have HB := n2_; clear n0_ n1_ n2_; (try clear hb); (try clear hb2); (try clear hk); (try clear hi); (try clear ho0); have hcz21_0 : w20.cell? ⟨gb394, 0, none⟩ = some (.int .i64 a0_0) := (blk_cell BK394.out 0).trans rfl; have hcz21_1 : w20.cell? ⟨gb394, 1, none⟩ = some (.string a0_1) := (blk_cell BK394.out 1).trans rfl; have hcz21_2 : w20.cell? ⟨gb394, 2, none⟩ = some (.int .i64 a0_2) := (blk_cell BK394.out 2).trans rfl; have hcz21_3 : w20.cell? ⟨gb394, 3, none⟩ = some (.int .i64 a0_3) := (blk_cell BK394.out 3).trans rfl; have hcz21_4 : w20.cell? ⟨gb394, 4, none⟩ = some (.slice A0_4 l0_4.length c0_4) := (blk_cell BK394.out 4).trans rfl; have hfz21_0 := blk_frozen BK394.out 0; have hfz21_1 := blk_frozen BK394.out 1; have hfz21_2 := blk_frozen BK394.out 2; have hfz21_3 := blk_frozen BK394.out 3; have hfz21_4 := blk_frozen BK394.out 4; obtain ⟨Ao22, co22, eo22⟩ := Kd.R_slice HO400.out; subst eo22) | ((with_reducible refine gate_callee (f := 28) rfl ?_); refine goesL_ (some 33) rfl rfl Try.func28 (by kernel_rfl) rfl #[.agg #[.int .i64 a0_0, .string a0_1, .int .i64 a0_2, .int .i64 a0_3, .slice A0_4 l0_4.length c0_4], .slice Ao22 t398.length co22] rfl (by (try simp only [List.map_toArray, List.map_cons, List.map_nil]); first | done | rfl | (simp only [List.length_drop, List.length_take]; rfl)) ?_; (with_reducible refine (tree_Number.calls k1 a0_0 a0_1 a0_2 a0_3 (fun k_ => k_ < w.heap.size) _ _ l0_4 _ _ t398 t402 true _ ?side1 ?side2 ?side3 A12.out).mono ?_); (case side1 => exact Kd.V_mk HC0_4.out (Kd.F_below (Kd.C_F k24_heap HR0_4.out) (by repeat (first | (with_reducible first | exact HB.out | apply below_alloc | apply pw_below_drewN | apply below_drew1 | refine below_set ?_ GE394.out) | exact HB.out)))); (case side2 => repeat (first | exact (Kd.R_reads' HO400.out).2.2 | (with_reducible refine Kd.C_alloc ?_ _) | (with_reducible refine Kd.C_drewN ?_ _) | (with_reducible refine Kd.C_drew ?_))); (case side3 => exact (Kd.R_reads' HO400.out).2.1); rintro e w23 ⟨rfl, hb⟩; refine ⟨_, rfl, ?_⟩; have n0_ := Aside0.mk (Kd.R_below (by (with_reducible repeat (first | apply Kd.R_alloc | apply Kd.R_drewN | apply Kd.R_drew)); exact HO400.out) hb); have n1_ := Aside0.mk (blk_below (g := gb394) (o := .cells #[.int .i64 a0_0, .string a0_1, .int .i64 a0_2, .int .i64 a0_3, .slice A0_4 l0_4.length c0_4] 24 (0, 0)) (by (with_reducible repeat (first | refine blk_drewN ?_ _ | refine blk_drew ?_ | refine blk_alloc ?_ _)); exact BK394.out) hb); have n2_ := Aside0.mk (below_step (by repeat (first | (with_reducible first | exact HB.out | apply below_alloc | apply pw_below_drewN | apply below_drew1 | refine below_set ?_ GE394.out) | exact HB.out)) hb); clear HO400; clear BK394; clear HB; have HO400 := n0_; have BK394 := n1_; have HB := n2_; clear n0_ n1_ n2_; (try clear hb); (try clear hb2); (try clear hk); (try clear hi); have hcz24_0 : w23.cell? ⟨gb394, 0, none⟩ = some (.int .i64 a0_0) := (blk_cell BK394.out 0).trans rfl; have hcz24_1 : w23.cell? ⟨gb394, 1, none⟩ = some (.string a0_1) := (blk_cell BK394.out 1).trans rfl; have hcz24_2 : w23.cell? ⟨gb394, 2, none⟩ = some (.int .i64 a0_2) := (blk_cell BK394.out 2).trans rfl; have hcz24_3 : w23.cell? ⟨gb394, 3, none⟩ = some (.int .i64 a0_3) := (blk_cell BK394.out 3).trans rfl; have hcz24_4 : w23.cell? ⟨gb394, 4, none⟩ = some (.slice A0_4 l0_4.length c0_4) := (blk_cell BK394.out 4).trans rfl; have hfz24_0 := blk_frozen BK394.out 0; have hfz24_1 := blk_frozen BK394.out 1; have hfz24_2 := blk_frozen BK394.out 2; have hfz24_3 := blk_frozen BK394.out 3; have hfz24_4 := blk_frozen BK394.out 4) | ((with_reducible refine gate_callee (f := 24) rfl ?_); refine goesL_ (some 39) rfl rfl Try.func24 (by kernel_rfl) rfl #[.agg #[.int .i64 a0_0, .string a0_1, .int .i64 a0_2, .int .i64 a0_3, .slice A0_4 l0_4.length c0_4], .slice Ao22 t398.length co22] rfl (by (try simp only [List.map_toArray, List.map_cons, List.map_nil]); first | done | rfl | (simp only [List.length_drop, List.length_take]; rfl)) ?_; (with_reducible refine (tree_Get.calls k1 a0_0 a0_1 a0_2 a0_3 (fun k_ => k_ < w.heap.size) _ _ l0_4 _ _ t398 t404 t405 t406 t407 t408 true _ ?side1 ?side2 ?side3 A13.out).mono ?_); (case side1 => exact Kd.V_mk HC0_4.out (Kd.F_below (Kd.C_F k24_heap HR0_4.out) (by repeat (first | (with_reducible first | exact HB.out | apply below_alloc | apply pw_below_drewN | apply below_drew1 | refine below_set ?_ GE394.out) | exact HB.out)))); (case side2 => repeat (first | exact (Kd.R_reads' HO400.out).2.2 | (with_reducible refine Kd.C_alloc ?_ _) | (with_reducible refine Kd.C_drewN ?_ _) | (with_reducible refine Kd.C_drew ?_))); (case side3 => exact (Kd.R_reads' HO400.out).2.1); rintro e w25 ⟨v409, rfl, ho0, hb⟩; refine ⟨_, rfl, ?_⟩; have n0_ := Aside0.mk (Kd.R_below (by (with_reducible repeat (first | apply Kd.R_alloc | apply Kd.R_drewN | apply Kd.R_drew)); exact HO400.out) hb); have n1_ := Aside0.mk (Kd.V_lower (Kd.V_mono (ok' := fun k_ => some k_ ≠ (.slice Ao22 t398.length co22 : Value).ownBlock ∧ k_ ≠ gb394) ho0 (fun k_ hk_ => ⟨Or.elim hk_ (fun hs_ => fun e_ => Nat.not_le.2 hs_ (Kd.R_base HO400.out k_ e_.symm)) (fun hn_ => (Kd.fresh' (Kd.R_lt (by (with_reducible repeat (first | apply Kd.R_alloc | apply Kd.R_drewN | apply Kd.R_drew)); exact HO400.out)) k_ hn_)), Or.elim hk_ (fun hs_ => fun e_ => Nat.not_le.2 hs_ (by rw [e_]; exact GW394.out)) (fun hn_ => (Kd.freshB (g := gb394) (o := .cells #[.int .i64 a0_0, .string a0_1, .int .i64 a0_2, .int .i64 a0_3, .slice A0_4 l0_4.length c0_4] 24 (0, 0)) (by (with_reducible repeat (first | refine blk_drewN ?_ _ | refine blk_drew ?_ | refine blk_alloc ?_ _)); exact BK394.out) k_ hn_))⟩)) (below_size (by repeat (first | (with_reducible first | exact HB.out | apply below_alloc | apply pw_below_drewN | apply below_drew1 | refine below_set ?_ GE394.out) | exact HB.out)))); have n2_ := Aside0.mk (blk_below (g := gb394) (o := .cells #[.int .i64 a0_0, .string a0_1, .int .i64 a0_2, .int .i64 a0_3, .slice A0_4 l0_4.length c0_4] 24 (0, 0)) (by (with_reducible repeat (first | refine blk_drewN ?_ _ | refine blk_drew ?_ | refine blk_alloc ?_ _)); exact BK394.out) hb); have n3_ := Aside0.mk (below_step (by repeat (first | (with_reducible first | exact HB.out | apply below_alloc | apply pw_below_drewN | apply below_drew1 | refine below_set ?_ GE394.out) | exact HB.out)) hb); clear HO400; clear BK394; clear HB; have HO400 := n0_; have HO410 := n1_; have BK394 := n2_; have HB := n3_; clear n0_ n1_ n2_ n3_; (try clear hb); (try clear hb2); (try clear hk); (try clear hi); (try clear ho0)) | ((with_reducible refine gate_dst (N := 9) rfl ?_); refine box_event ?hg (N := 9) ?hd (cs := #[.int .i64 0, .string (⟨#[]⟩ : ByteArray), .int .i64 0, .int .i64 0, .slice none 0 0]) (t := 24) ?hr ?_; (case hd => rfl); (case hg => rfl); (case hr => first | (go_simp; done) | (go_simp; rfl)); intro gb412 hg w26 hbox hb; have n0_ := Aside0.mk (Kd.R_below (by (with_reducible repeat (first | apply Kd.R_alloc | apply Kd.R_drewN | apply Kd.R_drew)); exact HO400.out) hb); have n1_ := Aside0.mk (Kd.V_below (Kd.V_elderB (by (with_reducible repeat (first | apply Kd.V_alloc | apply Kd.V_drewN | apply Kd.V_drew)); exact HO410.out) gb412 (Nat.le_of_eq hg.symm)) hb); have n2_ := Aside0.mk (blk_below (g := gb394) (o := .cells #[.int .i64 a0_0, .string a0_1, .int .i64 a0_2, .int .i64 a0_3, .slice A0_4 l0_4.length c0_4] 24 (0, 0)) (by (with_reducible repeat (first | refine blk_drewN ?_ _ | refine blk_drew ?_ | refine blk_alloc ?_ _)); exact BK394.out) hb); have n3_ := Aside0.mk (below_step (by repeat (first | (with_reducible first | exact HB.out | apply below_alloc | apply pw_below_drewN | apply below_drew1 | refine below_set ?_ GE394.out) | exact HB.out)) hb); have n4_ := Aside0.mk (hbox); have n5_ := Aside0.mk ((by rw [hg]; exact (below_size (by repeat (first | (with_reducible first | exact HB.out | apply below_alloc | apply pw_below_drewN | apply below_drew1 | refine below_set ?_ GE394.out) | exact HB.out))) : w.heap.size ≤ gb412)); have n6_ := Aside0.mk ((by rw [hg]; exact (below_size (by repeat (first | (with_reducible first | exact HB.out | apply below_alloc | apply pw_below_drewN | apply below_drew1 | refine below_set ?_ GE394.out) | exact HB.out))) : w.heap.size ≤ gb412)); have n7_ := Aside0.mk ((by rw [hg]; exact Nat.ne_of_lt (blk_lt (g := gb394) (o := .cells #[.int .i64 a0_0, .string a0_1, .int .i64 a0_2, .int .i64 a0_3, .slice A0_4 l0_4.length c0_4] 24 (0, 0)) (by (with_reducible repeat (first | refine blk_drewN ?_ _ | refine blk_drew ?_ | refine blk_alloc ?_ _)); exact BK394.out)) : gb394 ≠ gb412)); have n8_ := Aside0.mk ((by rw [hg]; exact Nat.ne_of_gt (blk_lt (g := gb394) (o := .cells #[.int .i64 a0_0, .string a0_1, .int .i64 a0_2, .int .i64 a0_3, .slice A0_4 l0_4.length c0_4] 24 (0, 0)) (by (with_reducible repeat (first | refine blk_drewN ?_ _ | refine blk_drew ?_ | refine blk_alloc ?_ _)); exact BK394.out)) : gb412 ≠ gb394)); clear HO400; clear HO410; clear BK394; clear HB; have HO400 := n0_; have HO410 := n1_; have BK394 := n2_; have HB := n3_; have BK412 := n4_; have GW412 := n5_; have GE412 := n6_; have NB394_412 := n7_; have NB412_394 := n8_; clear n0_ n1_ n2_ n3_ n4_ n5_ n6_ n7_ n8_; clear hb hbox hg; have hnb27 := NB412_394.out; have hnc27 := NB394_412.out; have hcz28_0 : w26.cell? ⟨gb412, 0, none⟩ = some (.int .i64 0) := (blk_cell BK412.out 0).trans rfl; have hcz28_1 : w26.cell? ⟨gb412, 1, none⟩ = some (.string (⟨#[]⟩ : ByteArray)) := (blk_cell BK412.out 1).trans rfl; have hcz28_2 : w26.cell? ⟨gb412, 2, none⟩ = some (.int .i64 0) := (blk_cell BK412.out 2).trans rfl; have hcz28_3 : w26.cell? ⟨gb412, 3, none⟩ = some (.int .i64 0) := (blk_cell BK412.out 3).trans rfl; have hcz28_4 : w26.cell? ⟨gb412, 4, none⟩ = some (.slice none 0 0) := (blk_cell BK412.out 4).trans rfl; have hfz28_0 := blk_frozen BK412.out 0; have hfz28_1 := blk_frozen BK412.out 1; have hfz28_2 := blk_frozen BK412.out 2; have hfz28_3 := blk_frozen BK412.out 3; have hfz28_4 := blk_frozen BK412.out 4; obtain ⟨Ao29, co29, eo29⟩ := Kd.V_slice HO410.out; subst eo29))
         go_roundg k1
         case measure => have := HK1.out; omega
         case rel => exact ⟨(ji18), (wrap64 (x21_1 + 1)), (by first | rfl | (simp; done) | (simp only [← hji18] <;> (first | rfl | simp)) | (simp [*]; done)), (by first | rfl | (simp; done) | (simp [*]; done)), H', ⟨by have := HK1.out; omega⟩, ⟨by (with_reducible repeat (first | refine blk_drewN ?_ _ | refine blk_drew ?_ | refine blk_alloc ?_ _)); refine blk_far ?_ NB394_412.out _; (with_reducible repeat (first | refine blk_drewN ?_ _ | refine blk_drew ?_ | refine blk_alloc ?_ _)); refine blk_far ?_ NB394_412.out _; (with_reducible repeat (first | refine blk_drewN ?_ _ | refine blk_drew ?_ | refine blk_alloc ?_ _)); refine blk_far ?_ NB394_412.out _; (with_reducible repeat (first | refine blk_drewN ?_ _ | refine blk_drew ?_ | refine blk_alloc ?_ _)); refine blk_far ?_ NB394_412.out _; (with_reducible repeat (first | refine blk_drewN ?_ _ | refine blk_drew ?_ | refine blk_alloc ?_ _)); refine blk_far ?_ NB394_412.out _; (with_reducible repeat (first | refine blk_drewN ?_ _ | refine blk_drew ?_ | refine blk_alloc ?_ _)); exact BK394.out⟩, ⟨by repeat (first | (with_reducible first | exact HB.out | apply below_alloc | apply pw_below_drewN | apply below_drew1 | refine below_set ?_ GE394.out | refine below_set ?_ GE412.out) | exact HB.out)⟩⟩
        ·rw [if_neg c17] at H
         have c17b0 : (t402 == x21_1) = false := beq_eq_false_iff_ne.mpr c17
         have c17b1 : (t402 != x21_1) = true := bne_iff_ne.mpr c17
         obtain rfl := Option.some.inj H
         have hcz30_0 : wr.cell? ⟨gb394, 0, none⟩ = some (.int .i64 a0_0) := (blk_cell BK394.out 0).trans rfl
         have hcz30_1 : wr.cell? ⟨gb394, 1, none⟩ = some (.string a0_1) := (blk_cell BK394.out 1).trans rfl
         have hcz30_2 : wr.cell? ⟨gb394, 2, none⟩ = some (.int .i64 a0_2) := (blk_cell BK394.out 2).trans rfl
         have hcz30_3 : wr.cell? ⟨gb394, 3, none⟩ = some (.int .i64 a0_3) := (blk_cell BK394.out 3).trans rfl
         have hcz30_4 : wr.cell? ⟨gb394, 4, none⟩ = some (.slice A0_4 l0_4.length c0_4) := (blk_cell BK394.out 4).trans rfl
         have hfz30_0 := blk_frozen BK394.out 0
         have hfz30_1 := blk_frozen BK394.out 1
         have hfz30_2 := blk_frozen BK394.out 2
         have hfz30_3 := blk_frozen BK394.out 3
         have hfz30_4 := blk_frozen BK394.out 4
         go_wp2_with (first | ((with_reducible refine gate_callee (f := 26) rfl ?_); refine goesL_ (some 27) rfl rfl Try.func26 (by kernel_rfl) rfl #[.agg #[.int .i64 a0_0, .string a0_1, .int .i64 a0_2, .int .i64 a0_3, .slice A0_4 l0_4.length c0_4], .int .i64 x21_1] rfl (by (try simp only [List.map_toArray, List.map_cons, List.map_nil]); first | done | rfl | (simp only [List.length_drop, List.length_take]; rfl)) ?_; (with_reducible refine (tree_Path.calls a0_0 a0_1 a0_2 a0_3 _ _ l0_4 x21_1 t398 true _ ?side1 ?side2 A11.out).mono ?_); (case side1 => repeat (first | exact (Kd.C_below HR0_4.out HB.out) | (with_reducible refine Kd.C_alloc ?_ _) | (with_reducible refine Kd.C_drewN ?_ _) | (with_reducible refine Kd.C_drew ?_))); (case side2 => exact HC0_4.out); rintro e w31 ⟨v399, rfl, ho0, hb⟩; refine ⟨_, rfl, ?_⟩; have n0_ := Aside0.mk (Kd.R_lower ho0 (below_size (by repeat (first | (with_reducible first | exact HB.out | apply below_alloc | apply pw_below_drewN | apply below_drew1 | refine below_set ?_ GE394.out) | exact HB.out)))); have n1_ := Aside0.mk (blk_below (g := gb394) (o := .cells #[.int .i64 a0_0, .string a0_1, .int .i64 a0_2, .int .i64 a0_3, .slice A0_4 l0_4.length c0_4] 24 (0, 0)) (by (with_reducible repeat (first | refine blk_drewN ?_ _ | refine blk_drew ?_ | refine blk_alloc ?_ _)); exact BK394.out) hb); have n2_ := Aside0.mk (below_step (by repeat (first | (with_reducible first | exact HB.out | apply below_alloc | apply pw_below_drewN | apply below_drew1 | refine below_set ?_ GE394.out) | exact HB.out)) hb); clear BK394; clear HB; have HO400 := n0_; have BK394 := n1_; have HB := n2_; clear n0_ n1_ n2_; (try clear hb); (try clear hb2); (try clear hk); (try clear hi); (try clear ho0); have hcz32_0 : w31.cell? ⟨gb394, 0, none⟩ = some (.int .i64 a0_0) := (blk_cell BK394.out 0).trans rfl; have hcz32_1 : w31.cell? ⟨gb394, 1, none⟩ = some (.string a0_1) := (blk_cell BK394.out 1).trans rfl; have hcz32_2 : w31.cell? ⟨gb394, 2, none⟩ = some (.int .i64 a0_2) := (blk_cell BK394.out 2).trans rfl; have hcz32_3 : w31.cell? ⟨gb394, 3, none⟩ = some (.int .i64 a0_3) := (blk_cell BK394.out 3).trans rfl; have hcz32_4 : w31.cell? ⟨gb394, 4, none⟩ = some (.slice A0_4 l0_4.length c0_4) := (blk_cell BK394.out 4).trans rfl; have hfz32_0 := blk_frozen BK394.out 0; have hfz32_1 := blk_frozen BK394.out 1; have hfz32_2 := blk_frozen BK394.out 2; have hfz32_3 := blk_frozen BK394.out 3; have hfz32_4 := blk_frozen BK394.out 4; obtain ⟨Ao33, co33, eo33⟩ := Kd.R_slice HO400.out; subst eo33) | ((with_reducible refine gate_callee (f := 28) rfl ?_); refine goesL_ (some 33) rfl rfl Try.func28 (by kernel_rfl) rfl #[.agg #[.int .i64 a0_0, .string a0_1, .int .i64 a0_2, .int .i64 a0_3, .slice A0_4 l0_4.length c0_4], .slice Ao33 t398.length co33] rfl (by (try simp only [List.map_toArray, List.map_cons, List.map_nil]); first | done | rfl | (simp only [List.length_drop, List.length_take]; rfl)) ?_; (with_reducible refine (tree_Number.calls k1 a0_0 a0_1 a0_2 a0_3 (fun k_ => k_ < w.heap.size) _ _ l0_4 _ _ t398 t402 true _ ?side1 ?side2 ?side3 A12.out).mono ?_); (case side1 => exact Kd.V_mk HC0_4.out (Kd.F_below (Kd.C_F k24_heap HR0_4.out) (by repeat (first | (with_reducible first | exact HB.out | apply below_alloc | apply pw_below_drewN | apply below_drew1 | refine below_set ?_ GE394.out) | exact HB.out)))); (case side2 => repeat (first | exact (Kd.R_reads' HO400.out).2.2 | (with_reducible refine Kd.C_alloc ?_ _) | (with_reducible refine Kd.C_drewN ?_ _) | (with_reducible refine Kd.C_drew ?_))); (case side3 => exact (Kd.R_reads' HO400.out).2.1); rintro e w34 ⟨rfl, hb⟩; refine ⟨_, rfl, ?_⟩; have n0_ := Aside0.mk (Kd.R_below (by (with_reducible repeat (first | apply Kd.R_alloc | apply Kd.R_drewN | apply Kd.R_drew)); exact HO400.out) hb); have n1_ := Aside0.mk (blk_below (g := gb394) (o := .cells #[.int .i64 a0_0, .string a0_1, .int .i64 a0_2, .int .i64 a0_3, .slice A0_4 l0_4.length c0_4] 24 (0, 0)) (by (with_reducible repeat (first | refine blk_drewN ?_ _ | refine blk_drew ?_ | refine blk_alloc ?_ _)); exact BK394.out) hb); have n2_ := Aside0.mk (below_step (by repeat (first | (with_reducible first | exact HB.out | apply below_alloc | apply pw_below_drewN | apply below_drew1 | refine below_set ?_ GE394.out) | exact HB.out)) hb); clear HO400; clear BK394; clear HB; have HO400 := n0_; have BK394 := n1_; have HB := n2_; clear n0_ n1_ n2_; (try clear hb); (try clear hb2); (try clear hk); (try clear hi); have hcz35_0 : w34.cell? ⟨gb394, 0, none⟩ = some (.int .i64 a0_0) := (blk_cell BK394.out 0).trans rfl; have hcz35_1 : w34.cell? ⟨gb394, 1, none⟩ = some (.string a0_1) := (blk_cell BK394.out 1).trans rfl; have hcz35_2 : w34.cell? ⟨gb394, 2, none⟩ = some (.int .i64 a0_2) := (blk_cell BK394.out 2).trans rfl; have hcz35_3 : w34.cell? ⟨gb394, 3, none⟩ = some (.int .i64 a0_3) := (blk_cell BK394.out 3).trans rfl; have hcz35_4 : w34.cell? ⟨gb394, 4, none⟩ = some (.slice A0_4 l0_4.length c0_4) := (blk_cell BK394.out 4).trans rfl; have hfz35_0 := blk_frozen BK394.out 0; have hfz35_1 := blk_frozen BK394.out 1; have hfz35_2 := blk_frozen BK394.out 2; have hfz35_3 := blk_frozen BK394.out 3; have hfz35_4 := blk_frozen BK394.out 4) | ((with_reducible refine gate_callee (f := 24) rfl ?_); refine goesL_ (some 39) rfl rfl Try.func24 (by kernel_rfl) rfl #[.agg #[.int .i64 a0_0, .string a0_1, .int .i64 a0_2, .int .i64 a0_3, .slice A0_4 l0_4.length c0_4], .slice Ao33 t398.length co33] rfl (by (try simp only [List.map_toArray, List.map_cons, List.map_nil]); first | done | rfl | (simp only [List.length_drop, List.length_take]; rfl)) ?_; (with_reducible refine (tree_Get.calls k1 a0_0 a0_1 a0_2 a0_3 (fun k_ => k_ < w.heap.size) _ _ l0_4 _ _ t398 t404 t405 t406 t407 t408 true _ ?side1 ?side2 ?side3 A13.out).mono ?_); (case side1 => exact Kd.V_mk HC0_4.out (Kd.F_below (Kd.C_F k24_heap HR0_4.out) (by repeat (first | (with_reducible first | exact HB.out | apply below_alloc | apply pw_below_drewN | apply below_drew1 | refine below_set ?_ GE394.out) | exact HB.out)))); (case side2 => repeat (first | exact (Kd.R_reads' HO400.out).2.2 | (with_reducible refine Kd.C_alloc ?_ _) | (with_reducible refine Kd.C_drewN ?_ _) | (with_reducible refine Kd.C_drew ?_))); (case side3 => exact (Kd.R_reads' HO400.out).2.1); rintro e w36 ⟨v409, rfl, ho0, hb⟩; refine ⟨_, rfl, ?_⟩; have n0_ := Aside0.mk (Kd.R_below (by (with_reducible repeat (first | apply Kd.R_alloc | apply Kd.R_drewN | apply Kd.R_drew)); exact HO400.out) hb); have n1_ := Aside0.mk (Kd.V_lower (Kd.V_mono (ok' := fun k_ => some k_ ≠ (.slice Ao33 t398.length co33 : Value).ownBlock ∧ k_ ≠ gb394) ho0 (fun k_ hk_ => ⟨Or.elim hk_ (fun hs_ => fun e_ => Nat.not_le.2 hs_ (Kd.R_base HO400.out k_ e_.symm)) (fun hn_ => (Kd.fresh' (Kd.R_lt (by (with_reducible repeat (first | apply Kd.R_alloc | apply Kd.R_drewN | apply Kd.R_drew)); exact HO400.out)) k_ hn_)), Or.elim hk_ (fun hs_ => fun e_ => Nat.not_le.2 hs_ (by rw [e_]; exact GW394.out)) (fun hn_ => (Kd.freshB (g := gb394) (o := .cells #[.int .i64 a0_0, .string a0_1, .int .i64 a0_2, .int .i64 a0_3, .slice A0_4 l0_4.length c0_4] 24 (0, 0)) (by (with_reducible repeat (first | refine blk_drewN ?_ _ | refine blk_drew ?_ | refine blk_alloc ?_ _)); exact BK394.out) k_ hn_))⟩)) (below_size (by repeat (first | (with_reducible first | exact HB.out | apply below_alloc | apply pw_below_drewN | apply below_drew1 | refine below_set ?_ GE394.out) | exact HB.out)))); have n2_ := Aside0.mk (blk_below (g := gb394) (o := .cells #[.int .i64 a0_0, .string a0_1, .int .i64 a0_2, .int .i64 a0_3, .slice A0_4 l0_4.length c0_4] 24 (0, 0)) (by (with_reducible repeat (first | refine blk_drewN ?_ _ | refine blk_drew ?_ | refine blk_alloc ?_ _)); exact BK394.out) hb); have n3_ := Aside0.mk (below_step (by repeat (first | (with_reducible first | exact HB.out | apply below_alloc | apply pw_below_drewN | apply below_drew1 | refine below_set ?_ GE394.out) | exact HB.out)) hb); clear HO400; clear BK394; clear HB; have HO400 := n0_; have HO410 := n1_; have BK394 := n2_; have HB := n3_; clear n0_ n1_ n2_ n3_; (try clear hb); (try clear hb2); (try clear hk); (try clear hi); (try clear ho0)) | ((with_reducible refine gate_dst (N := 9) rfl ?_); refine box_event ?hg (N := 9) ?hd (cs := #[.int .i64 0, .string (⟨#[]⟩ : ByteArray), .int .i64 0, .int .i64 0, .slice none 0 0]) (t := 24) ?hr ?_; (case hd => rfl); (case hg => rfl); (case hr => first | (go_simp; done) | (go_simp; rfl)); intro gb412 hg w37 hbox hb; have n0_ := Aside0.mk (Kd.R_below (by (with_reducible repeat (first | apply Kd.R_alloc | apply Kd.R_drewN | apply Kd.R_drew)); exact HO400.out) hb); have n1_ := Aside0.mk (Kd.V_below (Kd.V_elderB (by (with_reducible repeat (first | apply Kd.V_alloc | apply Kd.V_drewN | apply Kd.V_drew)); exact HO410.out) gb412 (Nat.le_of_eq hg.symm)) hb); have n2_ := Aside0.mk (blk_below (g := gb394) (o := .cells #[.int .i64 a0_0, .string a0_1, .int .i64 a0_2, .int .i64 a0_3, .slice A0_4 l0_4.length c0_4] 24 (0, 0)) (by (with_reducible repeat (first | refine blk_drewN ?_ _ | refine blk_drew ?_ | refine blk_alloc ?_ _)); exact BK394.out) hb); have n3_ := Aside0.mk (below_step (by repeat (first | (with_reducible first | exact HB.out | apply below_alloc | apply pw_below_drewN | apply below_drew1 | refine below_set ?_ GE394.out) | exact HB.out)) hb); have n4_ := Aside0.mk (hbox); have n5_ := Aside0.mk ((by rw [hg]; exact (below_size (by repeat (first | (with_reducible first | exact HB.out | apply below_alloc | apply pw_below_drewN | apply below_drew1 | refine below_set ?_ GE394.out) | exact HB.out))) : w.heap.size ≤ gb412)); have n6_ := Aside0.mk ((by rw [hg]; exact (below_size (by repeat (first | (with_reducible first | exact HB.out | apply below_alloc | apply pw_below_drewN | apply below_drew1 | refine below_set ?_ GE394.out) | exact HB.out))) : w.heap.size ≤ gb412)); have n7_ := Aside0.mk ((by rw [hg]; exact Nat.ne_of_lt (blk_lt (g := gb394) (o := .cells #[.int .i64 a0_0, .string a0_1, .int .i64 a0_2, .int .i64 a0_3, .slice A0_4 l0_4.length c0_4] 24 (0, 0)) (by (with_reducible repeat (first | refine blk_drewN ?_ _ | refine blk_drew ?_ | refine blk_alloc ?_ _)); exact BK394.out)) : gb394 ≠ gb412)); have n8_ := Aside0.mk ((by rw [hg]; exact Nat.ne_of_gt (blk_lt (g := gb394) (o := .cells #[.int .i64 a0_0, .string a0_1, .int .i64 a0_2, .int .i64 a0_3, .slice A0_4 l0_4.length c0_4] 24 (0, 0)) (by (with_reducible repeat (first | refine blk_drewN ?_ _ | refine blk_drew ?_ | refine blk_alloc ?_ _)); exact BK394.out)) : gb412 ≠ gb394)); clear HO400; clear HO410; clear BK394; clear HB; have HO400 := n0_; have HO410 := n1_; have BK394 := n2_; have HB := n3_; have BK412 := n4_; have GW412 := n5_; have GE412 := n6_; have NB394_412 := n7_; have NB412_394 := n8_; clear n0_ n1_ n2_ n3_ n4_ n5_ n6_ n7_ n8_; clear hb hbox hg; have hnb38 := NB412_394.out; have hnc38 := NB394_412.out; have hcz39_0 : w37.cell? ⟨gb412, 0, none⟩ = some (.int .i64 0) := (blk_cell BK412.out 0).trans rfl; have hcz39_1 : w37.cell? ⟨gb412, 1, none⟩ = some (.string (⟨#[]⟩ : ByteArray)) := (blk_cell BK412.out 1).trans rfl; have hcz39_2 : w37.cell? ⟨gb412, 2, none⟩ = some (.int .i64 0) := (blk_cell BK412.out 2).trans rfl; have hcz39_3 : w37.cell? ⟨gb412, 3, none⟩ = some (.int .i64 0) := (blk_cell BK412.out 3).trans rfl; have hcz39_4 : w37.cell? ⟨gb412, 4, none⟩ = some (.slice none 0 0) := (blk_cell BK412.out 4).trans rfl; have hfz39_0 := blk_frozen BK412.out 0; have hfz39_1 := blk_frozen BK412.out 1; have hfz39_2 := blk_frozen BK412.out 2; have hfz39_3 := blk_frozen BK412.out 3; have hfz39_4 := blk_frozen BK412.out 4; obtain ⟨Ao40, co40, eo40⟩ := Kd.V_slice HO410.out; subst eo40))
         go_ret
         exact ⟨by first | rfl | (simp [errW_none, errW_some] <;> rfl) | (simp [*, errW_none, errW_some] <;> rfl) | (simp [IntKind.wrap_i64, wrap64]; done), by repeat (first | (with_reducible first | exact HB.out | apply below_alloc | apply pw_below_drewN | apply below_drew1 | refine below_set ?_ GE394.out | refine below_set ?_ GE412.out) | exact HB.out)⟩
       ·replace c16 := Bool.eq_false_iff.mpr c16
        subst c16
        have H1 : (none) = some r := by rw [if_neg (show ¬ (false = true) by decide)] at H; exact H
        clear H
        have H := H1
        clear H1
        exact absurd H (by simp)
      ·replace c15 := Bool.eq_false_iff.mpr c15
       subst c15
       have H1 : (none) = some r := by rw [if_neg (show ¬ (false = true) by decide)] at H; exact H
       clear H
       have H := H1
       clear H1
       exact absurd H (by simp)
     ·replace c14 := Bool.eq_false_iff.mpr c14
      subst c14
      have H1 : (none) = some r := by rw [if_neg (show ¬ (false = true) by decide)] at H; exact H
      clear H
      have H := H1
      clear H1
      exact absurd H (by simp)
    ·rw [if_neg c10] at H
     have c10b0 : decide (x21_1 < t397) = false := decide_eq_false c10
     clear c10
     replace H := Option.bind_eq_some_iff.mp H
     obtain ⟨⟨t413, t416⟩, A410, H⟩ := H
     replace H : ((tree_Count.f a0_0 a0_1 a0_2 a0_3 l0_4).bind fun t417 => ((tree_Path.f a0_0 a0_1 a0_2 a0_3 l0_4 t417).bind fun bt418 => (if t416 = true then (none) else (if bt418.2 = true then (none) else ((tree_Levels.f k1 a0_0 a0_1 a0_2 a0_3 l0_4).bind fun t422 => (if x3_1 = t422 then ((assessorlaw03_awake.f k1).bind fun t423 => (some t423)) else (none))))))) = some r := H
     have A41 := Aside0.mk A410
     clear A410
     replace H := Option.bind_eq_some_iff.mp H
     obtain ⟨t417, A420, H⟩ := H
     replace H : ((tree_Path.f a0_0 a0_1 a0_2 a0_3 l0_4 t417).bind fun bt418 => (if t416 = true then (none) else (if bt418.2 = true then (none) else ((tree_Levels.f k1 a0_0 a0_1 a0_2 a0_3 l0_4).bind fun t422 => (if x3_1 = t422 then ((assessorlaw03_awake.f k1).bind fun t423 => (some t423)) else (none)))))) = some r := H
     have A42 := Aside0.mk A420
     clear A420
     replace H := Option.bind_eq_some_iff.mp H
     obtain ⟨⟨t418, t421⟩, A430, H⟩ := H
     replace H : (if t416 = true then (none) else (if t421 = true then (none) else ((tree_Levels.f k1 a0_0 a0_1 a0_2 a0_3 l0_4).bind fun t422 => (if x3_1 = t422 then ((assessorlaw03_awake.f k1).bind fun t423 => (some t423)) else (none))))) = some r := H
     have A43 := Aside0.mk A430
     clear A430
     by_cases c44 : t416 = true
     ·subst c44
      have H1 : (none) = some r := by rw [if_pos rfl] at H; exact H
      clear H
      have H := H1
      clear H1
      exact absurd H (by simp)
     ·replace c44 := Bool.eq_false_iff.mpr c44
      subst c44
      have H1 : (if t421 = true then (none) else ((tree_Levels.f k1 a0_0 a0_1 a0_2 a0_3 l0_4).bind fun t422 => (if x3_1 = t422 then ((assessorlaw03_awake.f k1).bind fun t423 => (some t423)) else (none)))) = some r := by rw [if_neg (show ¬ (false = true) by decide)] at H; exact H
      clear H
      have H := H1
      clear H1
      by_cases c45 : t421 = true
      ·subst c45
       have H1 : (none) = some r := by rw [if_pos rfl] at H; exact H
       clear H
       have H := H1
       clear H1
       exact absurd H (by simp)
      ·replace c45 := Bool.eq_false_iff.mpr c45
       subst c45
       have H1 : ((tree_Levels.f k1 a0_0 a0_1 a0_2 a0_3 l0_4).bind fun t422 => (if x3_1 = t422 then ((assessorlaw03_awake.f k1).bind fun t423 => (some t423)) else (none))) = some r := by rw [if_neg (show ¬ (false = true) by decide)] at H; exact H
       clear H
       have H := H1
       clear H1
       replace H := Option.bind_eq_some_iff.mp H
       obtain ⟨t422, A460, H⟩ := H
       replace H : (if x3_1 = t422 then ((assessorlaw03_awake.f k1).bind fun t423 => (some t423)) else (none)) = some r := H
       have A46 := Aside0.mk A460
       clear A460
       by_cases c47 : x3_1 = t422
       ·rw [if_pos c47] at H
        have c47b0 : (x3_1 == t422) = true := beq_iff_eq.mpr c47
        have c47b1 : (x3_1 != t422) = false := bne_eq_false_iff_eq.mpr c47
        clear c47
        replace H := Option.bind_eq_some_iff.mp H
        obtain ⟨t423, A480, H⟩ := H
        replace H : (some t423) = some r := H
        have A48 := Aside0.mk A480
        clear A480
        obtain rfl := Option.some.inj H
        have hcz49_0 : wr.cell? ⟨gb394, 0, none⟩ = some (.int .i64 a0_0) := (blk_cell BK394.out 0).trans rfl
        have hcz49_1 : wr.cell? ⟨gb394, 1, none⟩ = some (.string a0_1) := (blk_cell BK394.out 1).trans rfl
        have hcz49_2 : wr.cell? ⟨gb394, 2, none⟩ = some (.int .i64 a0_2) := (blk_cell BK394.out 2).trans rfl
        have hcz49_3 : wr.cell? ⟨gb394, 3, none⟩ = some (.int .i64 a0_3) := (blk_cell BK394.out 3).trans rfl
        have hcz49_4 : wr.cell? ⟨gb394, 4, none⟩ = some (.slice A0_4 l0_4.length c0_4) := (blk_cell BK394.out 4).trans rfl
        have hfz49_0 := blk_frozen BK394.out 0
        have hfz49_1 := blk_frozen BK394.out 1
        have hfz49_2 := blk_frozen BK394.out 2
        have hfz49_3 := blk_frozen BK394.out 3
        have hfz49_4 := blk_frozen BK394.out 4
        try go_wp2_with (first | ((with_reducible refine gate_callee (f := 26) rfl ?_); refine goesL_ (some 65) rfl rfl Try.func26 (by kernel_rfl) rfl #[.agg #[.int .i64 a0_0, .string a0_1, .int .i64 a0_2, .int .i64 a0_3, .slice A0_4 l0_4.length c0_4], .int .i64 (-1)] rfl (by (try simp only [List.map_toArray, List.map_cons, List.map_nil]); first | done | rfl | (simp only [List.length_drop, List.length_take]; rfl)) ?_; (with_reducible refine (tree_Path.calls a0_0 a0_1 a0_2 a0_3 _ _ l0_4 (-1) t413 false _ ?side1 ?side2 A41.out).mono ?_); (case side1 => repeat (first | exact (Kd.C_below HR0_4.out HB.out) | (with_reducible refine Kd.C_alloc ?_ _) | (with_reducible refine Kd.C_drewN ?_ _) | (with_reducible refine Kd.C_drew ?_))); (case side2 => exact HC0_4.out); rintro e w50 ⟨v414, rfl, ho0, hb⟩; refine ⟨_, rfl, ?_⟩; have n0_ := Aside0.mk (Kd.R_lower ho0 (below_size (by repeat (first | (with_reducible first | exact HB.out | apply below_alloc | apply pw_below_drewN | apply below_drew1 | refine below_set ?_ GE394.out) | exact HB.out)))); have n1_ := Aside0.mk (blk_below (g := gb394) (o := .cells #[.int .i64 a0_0, .string a0_1, .int .i64 a0_2, .int .i64 a0_3, .slice A0_4 l0_4.length c0_4] 24 (0, 0)) (by (with_reducible repeat (first | refine blk_drewN ?_ _ | refine blk_drew ?_ | refine blk_alloc ?_ _)); exact BK394.out) hb); have n2_ := Aside0.mk (below_step (by repeat (first | (with_reducible first | exact HB.out | apply below_alloc | apply pw_below_drewN | apply below_drew1 | refine below_set ?_ GE394.out) | exact HB.out)) hb); clear BK394; clear HB; have HO415 := n0_; have BK394 := n1_; have HB := n2_; clear n0_ n1_ n2_; (try clear hb); (try clear hb2); (try clear hk); (try clear hi); (try clear ho0)))
        have n0_ := Aside0.mk (Kd.R_drew HO415.out)
        have n1_ := Aside0.mk (blk_drew BK394.out)
        have n2_ := Aside0.mk (below_drew1 HB.out)
        clear HO415
        clear BK394
        clear HB
        have HO415 := n0_
        have BK394 := n1_
        have HB := n2_
        clear n0_ n1_ n2_
        refine start_ (n := 9) (S := fun w' => w'.cell? ⟨gb394, 0, none⟩ = some (.int .i64 a0_0) ∧ w'.cell? ⟨gb394, 1, none⟩ = some (.string a0_1) ∧ w'.cell? ⟨gb394, 2, none⟩ = some (.int .i64 a0_2) ∧ w'.cell? ⟨gb394, 3, none⟩ = some (.int .i64 a0_3) ∧ w'.cell? ⟨gb394, 4, none⟩ = some (.slice A0_4 l0_4.length c0_4)) (ds := []) #[false, false, false, false, false, false, false, false, false] (by kernel_rfl) rfl rfl ⟨(blk_cell BK394.out 0).trans rfl, (blk_cell BK394.out 1).trans rfl, (blk_cell BK394.out 2).trans rfl, (blk_cell BK394.out 3).trans rfl, (blk_cell BK394.out 4).trans rfl⟩ (fun hHeld => ?_); refine with_tabW assessorlaw03_TreePaths.tab15 assessorlaw03_TreePaths.bits15 (fun HT_ HW_ => ?_)
        generalize w50.drew = w51 at HO415 BK394 HB hHeld ⊢
        refine take_ (i := 0) (N := some 69) (v := ?_) (a' := ?_) #[true, false, false, false, false, false, false, false, false] rfl rfl (take_ofW HT_.out HW_.out (by kernel_rfl)) (fun _ _ _ h => h) (Or.inl ⟨by rfl, ?_⟩) hHeld ?_ ?_
        rotate_left
        ·rintro w' ⟨s0, s1, s2, s3, s4⟩
         go_simp
         with_reducible rfl
        rotate_left
        ·simp only [Act.put, List.setIfInBounds_toArray, List.set_cons_zero, List.set_cons_succ, i64_w, i32_w]
         rfl
        refine take_ (i := 1) (N := some 70) (v := ?_) (a' := ?_) #[true, true, false, false, false, false, false, false, false] rfl rfl (take_ofW HT_.out HW_.out (by kernel_rfl)) (fun _ _ _ h => h) (Or.inl ⟨by rfl, ?_⟩) hHeld ?_ ?_
        rotate_left
        ·rintro w' ⟨s0, s1, s2, s3, s4⟩
         go_simp
         with_reducible rfl
        rotate_left
        ·simp only [Act.put, List.setIfInBounds_toArray, List.set_cons_zero, List.set_cons_succ, i64_w, i32_w]
         rfl
        refine one_ (i := 2) (N := some 71) #[true, true, true, false, false, false, false, false, false] rfl rfl (one_of HT_.out (by kernel_rfl)) (by decide) (fun K hK => ?_)
        refine goes_ Try.func22 (by kernel_rfl) rfl #[.agg #[.int .i64 a0_0, .string a0_1, .int .i64 a0_2, .int .i64 a0_3, .slice A0_4 l0_4.length c0_4]] (by rfl) rfl rfl (by (try simp only [List.map_toArray, List.map_cons, List.map_nil]); first | done | rfl | (simp only [List.length_drop, List.length_take]; rfl)) ?_
        with_reducible refine (tree_Count.calls a0_0 a0_1 a0_2 a0_3 _ _ l0_4 t417 _ ?side1 ?side2 A42.out).mono ?_
        (case side1 => repeat (first | exact (Kd.C_below HR0_4.out HB.out) | (with_reducible refine Kd.C_alloc ?_ _) | (with_reducible refine Kd.C_drewN ?_ _) | (with_reducible refine Kd.C_drew ?_)))
        (case side2 => exact HC0_4.out)
        rintro e w52 ⟨rfl, hb⟩
        refine ⟨_, rfl, ?_⟩
        have n0_ := Aside0.mk (Kd.R_below (by (with_reducible repeat (first | apply Kd.R_alloc | apply Kd.R_drewN | apply Kd.R_drew)); exact HO415.out) hb)
        have n1_ := Aside0.mk (blk_below (g := gb394) (o := .cells #[.int .i64 a0_0, .string a0_1, .int .i64 a0_2, .int .i64 a0_3, .slice A0_4 l0_4.length c0_4] 24 (0, 0)) (by (with_reducible repeat (first | refine blk_drewN ?_ _ | refine blk_drew ?_ | refine blk_alloc ?_ _)); exact BK394.out) hb)
        have n2_ := Aside0.mk (below_step (by repeat (first | (with_reducible first | exact HB.out | apply below_alloc | apply pw_below_drewN | apply below_drew1 | refine below_set ?_ GE394.out) | exact HB.out)) hb)
        clear HO415
        clear BK394
        clear HB
        have HO415 := n0_
        have BK394 := n1_
        have HB := n2_
        clear n0_ n1_ n2_
        (try clear hb)
        (try clear hb2)
        (try clear hk)
        (try clear hi)
        refine hK.out _ _ ⟨(blk_cell BK394.out 0).trans rfl, (blk_cell BK394.out 1).trans rfl, (blk_cell BK394.out 2).trans rfl, (blk_cell BK394.out 3).trans rfl, (blk_cell BK394.out 4).trans rfl⟩ (fun hHeld => ?_)
        clear hK K
        refine norm_ (a' := ?_) ?_ ?_
        rotate_left
        ·show Act.put _ (some 71) _ = _
         simp only [Act.put, List.setIfInBounds_toArray, List.set_cons_zero, List.set_cons_succ, i64_w, i32_w]
         rfl
        refine one_ (i := 3) (N := some 72) #[true, true, true, true, false, false, false, false, false] rfl rfl (one_of HT_.out (by kernel_rfl)) (by decide) (fun K hK => ?_)
        refine goes_ Try.func26 (by kernel_rfl) rfl #[.agg #[.int .i64 a0_0, .string a0_1, .int .i64 a0_2, .int .i64 a0_3, .slice A0_4 l0_4.length c0_4], .int .i64 t417] (by rfl) rfl rfl (by (try simp only [List.map_toArray, List.map_cons, List.map_nil]); first | done | rfl | (simp only [List.length_drop, List.length_take]; rfl)) ?_
        with_reducible refine (tree_Path.calls a0_0 a0_1 a0_2 a0_3 _ _ l0_4 t417 t418 false _ ?side1 ?side2 A43.out).mono ?_
        (case side1 => repeat (first | exact (Kd.C_below HR0_4.out HB.out) | (with_reducible refine Kd.C_alloc ?_ _) | (with_reducible refine Kd.C_drewN ?_ _) | (with_reducible refine Kd.C_drew ?_)))
        (case side2 => exact HC0_4.out)
        rintro e w53 ⟨v419, rfl, ho0, hb⟩
        refine ⟨_, rfl, ?_⟩
        have n0_ := Aside0.mk (Kd.R_elder' (by (with_reducible repeat (first | apply Kd.R_alloc | apply Kd.R_drewN | apply Kd.R_drew)); exact HO415.out) (Kd.R_base ho0) hb)
        have n1_ := Aside0.mk (Kd.R_lower (Kd.R_new' ho0 (Kd.R_lt (by (with_reducible repeat (first | apply Kd.R_alloc | apply Kd.R_drewN | apply Kd.R_drew)); exact HO415.out))) (below_size (by repeat (first | (with_reducible first | exact HB.out | apply below_alloc | apply pw_below_drewN | apply below_drew1 | refine below_set ?_ GE394.out) | exact HB.out))))
        have n2_ := Aside0.mk (blk_below (g := gb394) (o := .cells #[.int .i64 a0_0, .string a0_1, .int .i64 a0_2, .int .i64 a0_3, .slice A0_4 l0_4.length c0_4] 24 (0, 0)) (by (with_reducible repeat (first | refine blk_drewN ?_ _ | refine blk_drew ?_ | refine blk_alloc ?_ _)); exact BK394.out) hb)
        have n3_ := Aside0.mk (below_step (by repeat (first | (with_reducible first | exact HB.out | apply below_alloc | apply pw_below_drewN | apply below_drew1 | refine below_set ?_ GE394.out) | exact HB.out)) hb)
        clear HO415
        clear BK394
        clear HB
        have HO415 := n0_
        have HO420 := n1_
        have BK394 := n2_
        have HB := n3_
        clear n0_ n1_ n2_ n3_
        (try clear hb)
        (try clear hb2)
        (try clear hk)
        (try clear hi)
        (try clear ho0)
        refine hK.out _ _ ⟨(blk_cell BK394.out 0).trans rfl, (blk_cell BK394.out 1).trans rfl, (blk_cell BK394.out 2).trans rfl, (blk_cell BK394.out 3).trans rfl, (blk_cell BK394.out 4).trans rfl⟩ (fun hHeld => ?_)
        clear hK K
        refine norm_ (a' := ?_) ?_ ?_
        rotate_left
        ·show Act.put _ (some 72) _ = _
         simp only [Act.put, List.setIfInBounds_toArray, List.set_cons_zero, List.set_cons_succ, i64_w, i32_w]
         rfl
        refine pure_ (i := 4) (N := some 68) (v := ?_) (a' := ?_) #[true, true, true, true, true, false, false, false, false] rfl rfl (any_of HT_.out (by kernel_rfl)) (fun _ _ _ h => h) (Or.inl ⟨by rfl, ?_⟩) ?_ ?_
        rotate_left
        ·intro w'
         go_simp
         with_reducible rfl
        rotate_left
        ·simp only [Act.put, List.setIfInBounds_toArray, List.set_cons_zero, List.set_cons_succ, i64_w, i32_w]
         rfl
        refine pure_ (i := 5) (N := some 73) (v := ?_) (a' := ?_) #[true, true, true, true, true, true, false, false, false] rfl rfl (any_of HT_.out (by kernel_rfl)) (fun _ _ _ h => h) (Or.inl ⟨by rfl, ?_⟩) ?_ ?_
        rotate_left
        ·intro w'
         go_simp
         with_reducible rfl
        rotate_left
        ·simp only [Act.put, List.setIfInBounds_toArray, List.set_cons_zero, List.set_cons_succ, i64_w, i32_w]
         rfl
        refine pure_ (i := 6) (N := some 74) (v := ?_) (a' := ?_) #[true, true, true, true, true, true, true, false, false] rfl rfl (any_of HT_.out (by kernel_rfl)) (fun _ _ _ h => h) (Or.inl ⟨by rfl, ?_⟩) ?_ ?_
        rotate_left
        ·intro w'
         go_simp
         with_reducible rfl
        rotate_left
        ·simp only [Act.put, List.setIfInBounds_toArray, List.set_cons_zero, List.set_cons_succ, i64_w, i32_w]
         rfl
        refine pure_ (i := 7) (N := some 13) (v := ?_) (a' := ?_) #[true, true, true, true, true, true, true, true, false] rfl rfl (any_of HT_.out (by kernel_rfl)) (fun _ _ _ h => h) (Or.inl ⟨by rfl, ?_⟩) ?_ ?_
        rotate_left
        ·intro w'
         go_simp
         with_reducible rfl
        rotate_left
        ·simp only [Act.put, List.setIfInBounds_toArray, List.set_cons_zero, List.set_cons_succ, i64_w, i32_w]
         rfl
        refine pure_ (i := 8) (N := some 14) (v := ?_) (a' := ?_) #[true, true, true, true, true, true, true, true, true] rfl rfl (any_of HT_.out (by kernel_rfl)) (fun _ _ _ h => h) (Or.inl ⟨by rfl, ?_⟩) ?_ ?_
        rotate_left
        ·intro w'
         go_simp
         with_reducible rfl
        rotate_left
        ·simp only [Act.put, List.setIfInBounds_toArray, List.set_cons_zero, List.set_cons_succ, i64_w, i32_w]
         rfl
        refine done_ (done_of HT_.out (by kernel_rfl)) ?_
        have hcz54_0 : w53.cell? ⟨gb394, 0, none⟩ = some (.int .i64 a0_0) := (blk_cell BK394.out 0).trans rfl
        have hcz54_1 : w53.cell? ⟨gb394, 1, none⟩ = some (.string a0_1) := (blk_cell BK394.out 1).trans rfl
        have hcz54_2 : w53.cell? ⟨gb394, 2, none⟩ = some (.int .i64 a0_2) := (blk_cell BK394.out 2).trans rfl
        have hcz54_3 : w53.cell? ⟨gb394, 3, none⟩ = some (.int .i64 a0_3) := (blk_cell BK394.out 3).trans rfl
        have hcz54_4 : w53.cell? ⟨gb394, 4, none⟩ = some (.slice A0_4 l0_4.length c0_4) := (blk_cell BK394.out 4).trans rfl
        have hfz54_0 := blk_frozen BK394.out 0
        have hfz54_1 := blk_frozen BK394.out 1
        have hfz54_2 := blk_frozen BK394.out 2
        have hfz54_3 := blk_frozen BK394.out 3
        have hfz54_4 := blk_frozen BK394.out 4
        try go_wp2_with (first | (go_at_call 33; (with_reducible refine (tree_Levels.calls k1 a0_0 a0_1 a0_2 a0_3 _ _ l0_4 t422 _ ?side1 ?side2 A46.out).mono ?_); (case side1 => repeat (first | exact (Kd.C_below HR0_4.out HB.out) | (with_reducible refine Kd.C_alloc ?_ _) | (with_reducible refine Kd.C_drewN ?_ _) | (with_reducible refine Kd.C_drew ?_))); (case side2 => exact HC0_4.out); rintro e w55 ⟨rfl, hb⟩; have n0_ := Aside0.mk (Kd.R_below (by (with_reducible repeat (first | apply Kd.R_alloc | apply Kd.R_drewN | apply Kd.R_drew)); exact HO415.out) hb); have n1_ := Aside0.mk (Kd.R_below (by (with_reducible repeat (first | apply Kd.R_alloc | apply Kd.R_drewN | apply Kd.R_drew)); exact HO420.out) hb); have n2_ := Aside0.mk (blk_below (g := gb394) (o := .cells #[.int .i64 a0_0, .string a0_1, .int .i64 a0_2, .int .i64 a0_3, .slice A0_4 l0_4.length c0_4] 24 (0, 0)) (by (with_reducible repeat (first | refine blk_drewN ?_ _ | refine blk_drew ?_ | refine blk_alloc ?_ _)); exact BK394.out) hb); have n3_ := Aside0.mk (below_step (by repeat (first | (with_reducible first | exact HB.out | apply below_alloc | apply pw_below_drewN | apply below_drew1 | refine below_set ?_ GE394.out) | exact HB.out)) hb); clear HO415; clear HO420; clear BK394; clear HB; have HO415 := n0_; have HO420 := n1_; have BK394 := n2_; have HB := n3_; clear n0_ n1_ n2_ n3_; (try clear hb); (try clear hb2); (try clear hk); (try clear hi)) | (go_at_call 11; (with_reducible refine (assessorlaw03_awake.calls k1  t423 _ A48.out).mono ?_); rintro e w56 ⟨rfl, hb⟩; have n0_ := Aside0.mk (Kd.R_below (by (with_reducible repeat (first | apply Kd.R_alloc | apply Kd.R_drewN | apply Kd.R_drew)); exact HO415.out) hb); have n1_ := Aside0.mk (Kd.R_below (by (with_reducible repeat (first | apply Kd.R_alloc | apply Kd.R_drewN | apply Kd.R_drew)); exact HO420.out) hb); have n2_ := Aside0.mk (blk_below (g := gb394) (o := .cells #[.int .i64 a0_0, .string a0_1, .int .i64 a0_2, .int .i64 a0_3, .slice A0_4 l0_4.length c0_4] 24 (0, 0)) (by (with_reducible repeat (first | refine blk_drewN ?_ _ | refine blk_drew ?_ | refine blk_alloc ?_ _)); exact BK394.out) hb); have n3_ := Aside0.mk (below_step (by repeat (first | (with_reducible first | exact HB.out | apply below_alloc | apply pw_below_drewN | apply below_drew1 | refine below_set ?_ GE394.out) | exact HB.out)) hb); clear HO415; clear HO420; clear BK394; clear HB; have HO415 := n0_; have HO420 := n1_; have BK394 := n2_; have HB := n3_; clear n0_ n1_ n2_ n3_; (try clear hb); (try clear hb2); (try clear hk); (try clear hi)))
        go_ret
        exact ⟨by first | rfl | (simp [errW_none, errW_some] <;> rfl) | (simp [*, errW_none, errW_some] <;> rfl) | (simp [IntKind.wrap_i64, wrap64]; done), by repeat (first | (with_reducible first | exact HB.out | apply below_alloc | apply pw_below_drewN | apply below_drew1 | refine below_set ?_ GE394.out) | exact HB.out)⟩
       ·rw [if_neg c47] at H
        exact absurd H (by simp)
 ·replace c3 := Bool.eq_false_iff.mpr c3
  subst c3
  have H1 : ((assessorlaw03_awake.f k).bind fun t396 => (some t396)) = some r := by rw [if_neg (show ¬ (false = true) by decide)] at H; exact H
  clear H
  have H := H1
  clear H1
  replace H := Option.bind_eq_some_iff.mp H
  obtain ⟨t396, A570, H⟩ := H
  replace H : (some t396) = some r := H
  have A57 := Aside0.mk A570
  clear A570
  obtain rfl := Option.some.inj H
  go_enter Try.func6, Try.ntmps6
  go_wp2_with (first | ((with_reducible refine gate_dst (N := 1) rfl ?_); refine box_event ?hg (N := 1) ?hd (cs := #[.int .i64 a0_0, .string a0_1, .int .i64 a0_2, .int .i64 a0_3, .slice A0_4 l0_4.length c0_4]) (t := 24) ?hr ?_; (case hd => rfl); (case hg => rfl); (case hr => first | (go_simp; done) | (go_simp; rfl)); intro gb394 hg w58 hbox hb; have n0_ := Aside0.mk (below_step (by repeat (first | (with_reducible first | exact HB.out | apply below_alloc | apply pw_below_drewN | apply below_drew1) | exact HB.out)) hb); have n1_ := Aside0.mk (hbox); have n2_ := Aside0.mk ((by rw [hg]; exact (below_size (by repeat (first | (with_reducible first | exact HB.out | apply below_alloc | apply pw_below_drewN | apply below_drew1) | exact HB.out))) : w.heap.size ≤ gb394)); have n3_ := Aside0.mk ((by rw [hg]; exact (below_size (by repeat (first | (with_reducible first | exact HB.out | apply below_alloc | apply pw_below_drewN | apply below_drew1) | exact HB.out))) : w.heap.size ≤ gb394)); clear HB; have HB := n0_; have BK394 := n1_; have GW394 := n2_; have GE394 := n3_; clear n0_ n1_ n2_ n3_; clear hb hbox hg; have hcz59_0 : w58.cell? ⟨gb394, 0, none⟩ = some (.int .i64 a0_0) := (blk_cell BK394.out 0).trans rfl; have hcz59_1 : w58.cell? ⟨gb394, 1, none⟩ = some (.string a0_1) := (blk_cell BK394.out 1).trans rfl; have hcz59_2 : w58.cell? ⟨gb394, 2, none⟩ = some (.int .i64 a0_2) := (blk_cell BK394.out 2).trans rfl; have hcz59_3 : w58.cell? ⟨gb394, 3, none⟩ = some (.int .i64 a0_3) := (blk_cell BK394.out 3).trans rfl; have hcz59_4 : w58.cell? ⟨gb394, 4, none⟩ = some (.slice A0_4 l0_4.length c0_4) := (blk_cell BK394.out 4).trans rfl; have hfz59_0 := blk_frozen BK394.out 0; have hfz59_1 := blk_frozen BK394.out 1; have hfz59_2 := blk_frozen BK394.out 2; have hfz59_3 := blk_frozen BK394.out 3; have hfz59_4 := blk_frozen BK394.out 4) | ((with_reducible refine gate_callee (f := 10) rfl ?_); refine goesL_ (some 16) rfl rfl Try.func10 (by kernel_rfl) rfl #[.agg #[.int .i64 a0_0, .string a0_1, .int .i64 a0_2, .int .i64 a0_3, .slice A0_4 l0_4.length c0_4], .int .i64 100] rfl (by (try simp only [List.map_toArray, List.map_cons, List.map_nil]); first | done | rfl | (simp only [List.length_drop, List.length_take]; rfl)) ?_; (with_reducible refine (assessorref03_Small.calls k a0_0 a0_1 a0_2 a0_3 _ _ l0_4 100 false _ ?side1 ?side2 A2.out).mono ?_); (case side1 => repeat (first | exact (Kd.C_below HR0_4.out HB.out) | (with_reducible refine Kd.C_alloc ?_ _) | (with_reducible refine Kd.C_drewN ?_ _) | (with_reducible refine Kd.C_drew ?_))); (case side2 => exact HC0_4.out); rintro e w60 ⟨rfl, hb⟩; refine ⟨_, rfl, ?_⟩; have n0_ := Aside0.mk (blk_below (g := gb394) (o := .cells #[.int .i64 a0_0, .string a0_1, .int .i64 a0_2, .int .i64 a0_3, .slice A0_4 l0_4.length c0_4] 24 (0, 0)) (by (with_reducible repeat (first | refine blk_drewN ?_ _ | refine blk_drew ?_ | refine blk_alloc ?_ _)); exact BK394.out) hb); have n1_ := Aside0.mk (below_step (by repeat (first | (with_reducible first | exact HB.out | apply below_alloc | apply pw_below_drewN | apply below_drew1 | refine below_set ?_ GE394.out) | exact HB.out)) hb); clear BK394; clear HB; have BK394 := n0_; have HB := n1_; clear n0_ n1_; (try clear hb); (try clear hb2); (try clear hk); (try clear hi)) | ((with_reducible refine gate_callee (f := 11) rfl ?_); refine goesL_ (some 18) rfl rfl Try.func11 (by kernel_rfl) rfl #[] rfl (by (try simp only [List.map_toArray, List.map_cons, List.map_nil]); first | done | rfl | (simp only [List.length_drop, List.length_take]; rfl)) ?_; (with_reducible refine (assessorlaw03_awake.calls k  t396 _ A57.out).mono ?_); rintro e w61 ⟨rfl, hb⟩; refine ⟨_, rfl, ?_⟩; have n0_ := Aside0.mk (blk_below (g := gb394) (o := .cells #[.int .i64 a0_0, .string a0_1, .int .i64 a0_2, .int .i64 a0_3, .slice A0_4 l0_4.length c0_4] 24 (0, 0)) (by (with_reducible repeat (first | refine blk_drewN ?_ _ | refine blk_drew ?_ | refine blk_alloc ?_ _)); exact BK394.out) hb); have n1_ := Aside0.mk (below_step (by repeat (first | (with_reducible first | exact HB.out | apply below_alloc | apply pw_below_drewN | apply below_drew1 | refine below_set ?_ GE394.out) | exact HB.out)) hb); clear BK394; clear HB; have BK394 := n0_; have HB := n1_; clear n0_ n1_; (try clear hb); (try clear hb2); (try clear hk); (try clear hi)))
  go_ret
  exact ⟨by first | rfl | (simp [errW_none, errW_some] <;> rfl) | (simp [*, errW_none, errW_some] <;> rfl) | (simp [IntKind.wrap_i64, wrap64]; done), by repeat (first | (with_reducible first | exact HB.out | apply below_alloc | apply pw_below_drewN | apply below_drew1 | refine below_set ?_ GE394.out) | exact HB.out)⟩

end Go.Proofs.Ytbheobngeocdfaa.PAll
