/- What the machine's calls come to, function by function: printed by a program of this session after the kit's print; Lean checks it. SLIM -/
import Derived.Test.YtbheobngeocdfaaPAllx0
namespace Go.Proofs.Ytbheobngeocdfaa.PAll
open Go.RowKit Go.Proofs.YtbheobngeocdfaaW.PrintWords Go.Proofs.YtbheobngeocdfaaW.PrintLast Go.Proofs.YtbheobngeocdfaaW.PrintMore
attribute [local go_sem] max2_int min2_int max_two min_two max_three min_three max_four min_four   -- for this text's walks alone
set_option linter.unusedVariables false
set_option linter.unusedSimpArgs false

/-! ### assessorref03_Equal: function 35 -/
mutual
def assessorref03_Equal.j0 : Nat → Bool → Int → ByteArray → Int → Int → List (S24) → Int → ByteArray → Int → Int → List (S24) → Option (Bool)
 | 0, _, _, _, _, _, _, _, _, _, _, _ => none
 | k + 1, x40, x346000, x346001, x346002, x346003, x346004, x347000, x347001, x347002, x347003, x347004 => if x40 = true then (some false) else (assessorref03_Equal.l0 k 0 x346000 x346001 x346002 x346003 x346004 x347000 x347001 x347002 x347003 x347004)
def assessorref03_Equal.l0 : Nat → Int → Int → ByteArray → Int → Int → List (S24) → Int → ByteArray → Int → Int → List (S24) → Option (Bool)
 | 0, _, _, _, _, _, _, _, _, _, _, _ => none
 | k + 1, x5, x346000, x346001, x346002, x346003, x346004, x347000, x347001, x347002, x347003, x347004 => if x5 < (x346004.length : Int) then (if 0 ≤ x5 then (if x5 < (x347004.length : Int) then ((assessorref03_Equal.f k ((rd_T24 x346004 x5).f0) ((rd_T24 x346004 x5).f1) ((rd_T24 x346004 x5).f2) ((rd_T24 x346004 x5).f3) ((rd_T24 x346004 x5).f4) ((rd_T24 x347004 x5).f0) ((rd_T24 x347004 x5).f1) ((rd_T24 x347004 x5).f2) ((rd_T24 x347004 x5).f3) ((rd_T24 x347004 x5).f4)).bind fun t349 => (if t349 = true then (assessorref03_Equal.l0 k (wrap64 (x5 + 1)) x346000 x346001 x346002 x346003 x346004 x347000 x347001 x347002 x347003 x347004) else (some false))) else (none)) else (none)) else (some true)
def assessorref03_Equal.f : Nat → Int → ByteArray → Int → Int → List (S24) → Int → ByteArray → Int → Int → List (S24) → Option (Bool)
 | 0, _, _, _, _, _, _, _, _, _, _ => none
 | k + 1, a0_0, a0_1, a0_2, a0_3, l0_4, a1_0, a1_1, a1_2, a1_3, l1_4 => if a0_0 = a1_0 then (if a0_1.toList = a1_1.toList then (if a0_2 = a1_2 then (if a0_3 = a1_3 then (assessorref03_Equal.j0 k ((l0_4.length : Int) != (l1_4.length : Int)) a0_0 a0_1 a0_2 a0_3 l0_4 a1_0 a1_1 a1_2 a1_3 l1_4) else (assessorref03_Equal.j0 k true a0_0 a0_1 a0_2 a0_3 l0_4 a1_0 a1_1 a1_2 a1_3 l1_4)) else (assessorref03_Equal.j0 k true a0_0 a0_1 a0_2 a0_3 l0_4 a1_0 a1_1 a1_2 a1_3 l1_4)) else (assessorref03_Equal.j0 k true a0_0 a0_1 a0_2 a0_3 l0_4 a1_0 a1_1 a1_2 a1_3 l1_4)) else (assessorref03_Equal.j0 k true a0_0 a0_1 a0_2 a0_3 l0_4 a1_0 a1_1 a1_2 a1_3 l1_4)
end
theorem assessorref03_Equal.mono_l : ∀ k, (∀ y0 y1 y2 y3 y4 y5 y6 y7 y8 y9, LeO (assessorref03_Equal.f k y0 y1 y2 y3 y4 y5 y6 y7 y8 y9) (assessorref03_Equal.f (k + 1) y0 y1 y2 y3 y4 y5 y6 y7 y8 y9)) ∧ (∀ y0 y1 y2 y3 y4 y5 y6 y7 y8 y9 y10, LeO (assessorref03_Equal.j0 k y0 y1 y2 y3 y4 y5 y6 y7 y8 y9 y10) (assessorref03_Equal.j0 (k + 1) y0 y1 y2 y3 y4 y5 y6 y7 y8 y9 y10)) ∧ (∀ y0 y1 y2 y3 y4 y5 y6 y7 y8 y9 y10, LeO (assessorref03_Equal.l0 k y0 y1 y2 y3 y4 y5 y6 y7 y8 y9 y10) (assessorref03_Equal.l0 (k + 1) y0 y1 y2 y3 y4 y5 y6 y7 y8 y9 y10))
 | 0 => ⟨fun _ _ _ _ _ _ _ _ _ _ r h => by simp [assessorref03_Equal.f] at h, fun _ _ _ _ _ _ _ _ _ _ _ r h => by simp [assessorref03_Equal.j0] at h, fun _ _ _ _ _ _ _ _ _ _ _ r h => by simp [assessorref03_Equal.l0] at h⟩
 | k + 1 => by
  obtain ⟨ih0, ih1, ih2⟩ := assessorref03_Equal.mono_l k
  refine ⟨?_, ?_, ?_⟩
  ·intro y0 y1 y2 y3 y4 y5 y6 y7 y8 y9
   unfold assessorref03_Equal.f
   repeat' first
   | (with_reducible exact ih0 _ _ _ _ _ _ _ _ _ _)
   | (with_reducible exact ih1 _ _ _ _ _ _ _ _ _ _ _)
   | (with_reducible exact ih2 _ _ _ _ _ _ _ _ _ _ _)
   | (with_reducible exact LeO.refl _)
   | (with_reducible exact LeO.none _)
   | (with_reducible refine LeO.ite ?_ ?_)
   | (with_reducible refine LeO.bind ?_ (fun _ => ?_))
   | exact ih0 _ _ _ _ _ _ _ _ _ _
   | exact ih1 _ _ _ _ _ _ _ _ _ _ _
   | exact ih2 _ _ _ _ _ _ _ _ _ _ _
   | exact LeO.none _
   | refine LeO.ite ?_ ?_
   | refine LeO.bind ?_ (fun _ => ?_)
  ·intro y0 y1 y2 y3 y4 y5 y6 y7 y8 y9 y10
   unfold assessorref03_Equal.j0
   repeat' first
   | (with_reducible exact ih0 _ _ _ _ _ _ _ _ _ _)
   | (with_reducible exact ih1 _ _ _ _ _ _ _ _ _ _ _)
   | (with_reducible exact ih2 _ _ _ _ _ _ _ _ _ _ _)
   | (with_reducible exact LeO.refl _)
   | (with_reducible exact LeO.none _)
   | (with_reducible refine LeO.ite ?_ ?_)
   | (with_reducible refine LeO.bind ?_ (fun _ => ?_))
   | exact ih0 _ _ _ _ _ _ _ _ _ _
   | exact ih1 _ _ _ _ _ _ _ _ _ _ _
   | exact ih2 _ _ _ _ _ _ _ _ _ _ _
   | exact LeO.none _
   | refine LeO.ite ?_ ?_
   | refine LeO.bind ?_ (fun _ => ?_)
  ·intro y0 y1 y2 y3 y4 y5 y6 y7 y8 y9 y10
   unfold assessorref03_Equal.l0
   repeat' first
   | (with_reducible exact ih0 _ _ _ _ _ _ _ _ _ _)
   | (with_reducible exact ih1 _ _ _ _ _ _ _ _ _ _ _)
   | (with_reducible exact ih2 _ _ _ _ _ _ _ _ _ _ _)
   | (with_reducible exact LeO.refl _)
   | (with_reducible exact LeO.none _)
   | (with_reducible refine LeO.ite ?_ ?_)
   | (with_reducible refine LeO.bind ?_ (fun _ => ?_))
   | exact ih0 _ _ _ _ _ _ _ _ _ _
   | exact ih1 _ _ _ _ _ _ _ _ _ _ _
   | exact ih2 _ _ _ _ _ _ _ _ _ _ _
   | exact LeO.none _
   | refine LeO.ite ?_ ?_
   | refine LeO.bind ?_ (fun _ => ?_)
theorem assessorref03_Equal.mono : ∀ a0 a1 a2 a3 a4 a5 a6 a7 a8 a9 k, LeO (assessorref03_Equal.f k a0 a1 a2 a3 a4 a5 a6 a7 a8 a9) (assessorref03_Equal.f (k + 1) a0 a1 a2 a3 a4 a5 a6 a7 a8 a9) := by
 intro a0 a1 a2 a3 a4 a5 a6 a7 a8 a9 k
 obtain ⟨ih0, ih1, ih2⟩ := assessorref03_Equal.mono_l k
 exact ih0 a0 a1 a2 a3 a4 a5 a6 a7 a8 a9
def assessorref03_Equal.T6 : Bool × List (List Nat × List Nat) := (true, [([], []), ([0], [0]), ([], []), ([1, 2], [1, 2]), ([3], [3]), ([], []), ([5], [5]), ([], []), ([6, 7], [6, 7]), ([8], [8]), ([4, 9], [4, 9]), ([10], [10])])
def assessorref03_Equal.B6 : List Nat := [0, 1, 0, 7, 15, 0, 32, 0, 224, 480, 1023, 2047]
theorem assessorref03_Equal.tab6 : rtab .any (opsOf Try.f35 6) = assessorref03_Equal.T6 := by kernel_rfl
theorem assessorref03_Equal.bits6 : waitsOk assessorref03_Equal.T6.2 assessorref03_Equal.B6 = true := by kernel_rfl
set_option maxHeartbeats 8000000 in
set_option maxRecDepth 100000 in
theorem assessorref03_Equal.calls (k : Nat) : ∀ (a0_0 : Int) (a0_1 : ByteArray) (a0_2 : Int) (a0_3 : Int) (A0_4 : Option Addr) (c0_4 : Nat) (l0_4 : List (S24)) (a1_0 : Int) (a1_1 : ByteArray) (a1_2 : Int) (a1_3 : Int) (A1_4 : Option Addr) (c1_4 : Nat) (l1_4 : List (S24)) (r : Bool) (w : World) (hr0_4 : Kd.C k24 w A0_4 l0_4.length l0_4) (hc0_4 : l0_4.length ≤ c0_4) (hr1_4 : Kd.C k24 w A1_4 l1_4.length l1_4) (hc1_4 : l1_4.length ≤ c1_4) (h : assessorref03_Equal.f k a0_0 a0_1 a0_2 a0_3 l0_4 a1_0 a1_1 a1_2 a1_3 l1_4 = some r),
  Calls Try.prog 35 #[.agg #[.int .i64 a0_0, .string a0_1, .int .i64 a0_2, .int .i64 a0_3, .slice A0_4 l0_4.length c0_4], .agg #[.int .i64 a1_0, .string a1_1, .int .i64 a1_2, .int .i64 a1_3, .slice A1_4 l1_4.length c1_4]] w fun e w' => e = .returned (.bool r) ∧ Below w.heap.size w w' := by
 induction k using Nat.strongRecOn with
 | _ k ih =>
 intro a0_0 a0_1 a0_2 a0_3 A0_4 c0_4 l0_4 a1_0 a1_1 a1_2 a1_3 A1_4 c1_4 l1_4 r w hr0_4 hc0_4 hr1_4 hc1_4 h
 cases k with
 | zero => exact absurd h (by simp [assessorref03_Equal.f])
 | succ k =>
 simp only [assessorref03_Equal.f] at h
 have hu24 := Try.underlying24
 have HR0_4 := Aside0.mk hr0_4
 have HC0_4 := Aside0.mk hc0_4
 clear hr0_4 hc0_4
 have HR1_4 := Aside0.mk hr1_4
 have HC1_4 := Aside0.mk hc1_4
 clear hr1_4 hc1_4
 have HB := Aside0.mk (Below.refl w.heap.size w)
 have H : (if a0_0 = a1_0 then (if a0_1.toList = a1_1.toList then (if a0_2 = a1_2 then (if a0_3 = a1_3 then (assessorref03_Equal.j0 k ((l0_4.length : Int) != (l1_4.length : Int)) a0_0 a0_1 a0_2 a0_3 l0_4 a1_0 a1_1 a1_2 a1_3 l1_4) else (assessorref03_Equal.j0 k true a0_0 a0_1 a0_2 a0_3 l0_4 a1_0 a1_1 a1_2 a1_3 l1_4)) else (assessorref03_Equal.j0 k true a0_0 a0_1 a0_2 a0_3 l0_4 a1_0 a1_1 a1_2 a1_3 l1_4)) else (assessorref03_Equal.j0 k true a0_0 a0_1 a0_2 a0_3 l0_4 a1_0 a1_1 a1_2 a1_3 l1_4)) else (assessorref03_Equal.j0 k true a0_0 a0_1 a0_2 a0_3 l0_4 a1_0 a1_1 a1_2 a1_3 l1_4)) = some r := h
 clear h
 have HC3 := Aside0.mk H
 clear H
 go_enter Try.func35, Try.ntmps35
 go_upto_region 1 with (first | ((with_reducible refine gate_dst (N := 2) rfl ?_); (try (refine gate_guard (by rfl) ?_; dsimp only)); refine box_event ?hg (N := 2) ?hd (cs := #[.int .i64 a0_0, .string a0_1, .int .i64 a0_2, .int .i64 a0_3, .slice A0_4 l0_4.length c0_4]) (t := 24) ?hr ?_; (case hd => rfl); (case hg => rfl); (case hr => first | (go_simp; done) | (go_simp; rfl)); intro gb345 hg w4 hbox hb; have n0_ := Aside0.mk (below_step (by repeat (first | (with_reducible first | exact HB.out | apply below_alloc | apply pw_below_drewN | apply below_drew1) | exact HB.out)) hb); have n1_ := Aside0.mk (hbox); have n2_ := Aside0.mk ((by rw [hg]; exact (below_size (by repeat (first | (with_reducible first | exact HB.out | apply below_alloc | apply pw_below_drewN | apply below_drew1) | exact HB.out))) : w.heap.size ≤ gb345)); have n3_ := Aside0.mk ((by rw [hg]; exact (below_size (by repeat (first | (with_reducible first | exact HB.out | apply below_alloc | apply pw_below_drewN | apply below_drew1) | exact HB.out))) : w.heap.size ≤ gb345)); clear HB; have HB := n0_; have BK345 := n1_; have GW345 := n2_; have GE345 := n3_; clear n0_ n1_ n2_ n3_; clear hb hbox hg) | ((with_reducible refine gate_dst (N := 3) rfl ?_); (try (refine gate_guard (by rfl) ?_; dsimp only)); refine box_event ?hg (N := 3) ?hd (cs := #[.int .i64 a1_0, .string a1_1, .int .i64 a1_2, .int .i64 a1_3, .slice A1_4 l1_4.length c1_4]) (t := 24) ?hr ?_; (case hd => rfl); (case hg => rfl); (case hr => first | (go_simp; done) | (go_simp; rfl)); intro gb346 hg w5 hbox hb; have n0_ := Aside0.mk (blk_below (g := gb345) (o := .cells #[.int .i64 a0_0, .string a0_1, .int .i64 a0_2, .int .i64 a0_3, .slice A0_4 l0_4.length c0_4] 24 (0, 0)) (by (with_reducible repeat (first | refine blk_drewN ?_ _ | refine blk_drew ?_ | refine blk_alloc ?_ _)); exact BK345.out) hb); have n1_ := Aside0.mk (below_step (by repeat (first | (with_reducible first | exact HB.out | apply below_alloc | apply pw_below_drewN | apply below_drew1 | refine below_set ?_ GE345.out) | exact HB.out)) hb); have n2_ := Aside0.mk (hbox); have n3_ := Aside0.mk ((by rw [hg]; exact (below_size (by repeat (first | (with_reducible first | exact HB.out | apply below_alloc | apply pw_below_drewN | apply below_drew1 | refine below_set ?_ GE345.out) | exact HB.out))) : w.heap.size ≤ gb346)); have n4_ := Aside0.mk ((by rw [hg]; exact (below_size (by repeat (first | (with_reducible first | exact HB.out | apply below_alloc | apply pw_below_drewN | apply below_drew1 | refine below_set ?_ GE345.out) | exact HB.out))) : w.heap.size ≤ gb346)); have n5_ := Aside0.mk ((by rw [hg]; exact Nat.ne_of_lt (blk_lt (g := gb345) (o := .cells #[.int .i64 a0_0, .string a0_1, .int .i64 a0_2, .int .i64 a0_3, .slice A0_4 l0_4.length c0_4] 24 (0, 0)) (by (with_reducible repeat (first | refine blk_drewN ?_ _ | refine blk_drew ?_ | refine blk_alloc ?_ _)); exact BK345.out)) : gb345 ≠ gb346)); have n6_ := Aside0.mk ((by rw [hg]; exact Nat.ne_of_gt (blk_lt (g := gb345) (o := .cells #[.int .i64 a0_0, .string a0_1, .int .i64 a0_2, .int .i64 a0_3, .slice A0_4 l0_4.length c0_4] 24 (0, 0)) (by (with_reducible repeat (first | refine blk_drewN ?_ _ | refine blk_drew ?_ | refine blk_alloc ?_ _)); exact BK345.out)) : gb346 ≠ gb345)); clear BK345; clear HB; have BK345 := n0_; have HB := n1_; have BK346 := n2_; have GW346 := n3_; have GE346 := n4_; have NB345_346 := n5_; have NB346_345 := n6_; clear n0_ n1_ n2_ n3_ n4_ n5_ n6_; clear hb hbox hg))
 (try simp only [Act.put, List.setIfInBounds_toArray, List.set_cons_zero, List.set_cons_succ])
 go_cut [40] (fun v40 wc => ∃ (kq : Nat) (x40_2 : Bool), v40 = .bool x40_2 ∧ Aside0 (assessorref03_Equal.j0 kq x40_2 a0_0 a0_1 a0_2 a0_3 l0_4 a1_0 a1_1 a1_2 a1_3 l1_4 = some r) ∧ Aside0 (kq ≤ k) ∧ Aside0 (wc.heap[gb345]? = some (.cells #[.int .i64 a0_0, .string a0_1, .int .i64 a0_2, .int .i64 a0_3, (.slice A0_4 l0_4.length c0_4)] 24 (0, 0))) ∧ Aside0 (wc.heap[gb346]? = some (.cells #[.int .i64 a1_0, .string a1_1, .int .i64 a1_2, .int .i64 a1_3, (.slice A1_4 l1_4.length c1_4)] 24 (0, 0))) ∧ Aside0 (Below w.heap.size w wc))
 case first =>
  have H := HC3.out
  clear HC3
  by_cases c6 : a0_0 = a1_0
  ·rw [if_pos c6] at H
   have c6b0 : (a0_0 == a1_0) = true := beq_iff_eq.mpr c6
   have c6b1 : (a0_0 != a1_0) = false := bne_eq_false_iff_eq.mpr c6
   clear c6
   (first | rw [c6b0] | (simp only [i64_w, i32_w]; rw [c6b0]) | skip)
   by_cases c7 : a0_1.toList = a1_1.toList
   ·rw [if_pos c7] at H
    have c7b0 : (a0_1.toList == a1_1.toList) = true := beq_iff_eq.mpr c7
    have c7b1 : (a0_1.toList != a1_1.toList) = false := bne_eq_false_iff_eq.mpr c7
    clear c7
    by_cases c8 : a0_2 = a1_2
    ·rw [if_pos c8] at H
     have c8b0 : (a0_2 == a1_2) = true := beq_iff_eq.mpr c8
     have c8b1 : (a0_2 != a1_2) = false := bne_eq_false_iff_eq.mpr c8
     clear c8
     by_cases c9 : a0_3 = a1_3
     ·rw [if_pos c9] at H
      have c9b0 : (a0_3 == a1_3) = true := beq_iff_eq.mpr c9
      have c9b1 : (a0_3 != a1_3) = false := bne_eq_false_iff_eq.mpr c9
      clear c9
      have H' := Aside0.mk H
      clear H
      have hnb10 := NB345_346.out
      have hnc10 := NB346_345.out
      have hcz11_0 : w5.cell? ⟨gb345, 0, none⟩ = some (.int .i64 a0_0) := (blk_cell BK345.out 0).trans rfl
      have hcz11_1 : w5.cell? ⟨gb345, 1, none⟩ = some (.string a0_1) := (blk_cell BK345.out 1).trans rfl
      have hcz11_2 : w5.cell? ⟨gb345, 2, none⟩ = some (.int .i64 a0_2) := (blk_cell BK345.out 2).trans rfl
      have hcz11_3 : w5.cell? ⟨gb345, 3, none⟩ = some (.int .i64 a0_3) := (blk_cell BK345.out 3).trans rfl
      have hcz11_4 : w5.cell? ⟨gb345, 4, none⟩ = some (.slice A0_4 l0_4.length c0_4) := (blk_cell BK345.out 4).trans rfl
      have hfz11_0 := blk_frozen BK345.out 0
      have hfz11_1 := blk_frozen BK345.out 1
      have hfz11_2 := blk_frozen BK345.out 2
      have hfz11_3 := blk_frozen BK345.out 3
      have hfz11_4 := blk_frozen BK345.out 4
      have hcz12_0 : w5.cell? ⟨gb346, 0, none⟩ = some (.int .i64 a1_0) := (blk_cell BK346.out 0).trans rfl
      have hcz12_1 : w5.cell? ⟨gb346, 1, none⟩ = some (.string a1_1) := (blk_cell BK346.out 1).trans rfl
      have hcz12_2 : w5.cell? ⟨gb346, 2, none⟩ = some (.int .i64 a1_2) := (blk_cell BK346.out 2).trans rfl
      have hcz12_3 : w5.cell? ⟨gb346, 3, none⟩ = some (.int .i64 a1_3) := (blk_cell BK346.out 3).trans rfl
      have hcz12_4 : w5.cell? ⟨gb346, 4, none⟩ = some (.slice A1_4 l1_4.length c1_4) := (blk_cell BK346.out 4).trans rfl
      have hfz12_0 := blk_frozen BK346.out 0
      have hfz12_1 := blk_frozen BK346.out 1
      have hfz12_2 := blk_frozen BK346.out 2
      have hfz12_3 := blk_frozen BK346.out 3
      have hfz12_4 := blk_frozen BK346.out 4
      go_wp2
      go_meet
      case rel => exact ⟨_, (((l0_4.length : Int) != (l1_4.length : Int))), (by first | rfl | (simp; done) | (simp [*]; done)), H', ⟨by first | omega | exact Nat.le_refl _⟩, ⟨by (with_reducible repeat (first | refine blk_drewN ?_ _ | refine blk_drew ?_ | refine blk_alloc ?_ _)); exact BK345.out⟩, ⟨by (with_reducible repeat (first | refine blk_drewN ?_ _ | refine blk_drew ?_ | refine blk_alloc ?_ _)); exact BK346.out⟩, ⟨by repeat (first | (with_reducible first | exact HB.out | apply below_alloc | apply pw_below_drewN | apply below_drew1 | refine below_set ?_ GE345.out | refine below_set ?_ GE346.out) | exact HB.out)⟩⟩
     ·rw [if_neg c9] at H
      have c9b0 : (a0_3 == a1_3) = false := beq_eq_false_iff_ne.mpr c9
      have c9b1 : (a0_3 != a1_3) = true := bne_iff_ne.mpr c9
      have H' := Aside0.mk H
      clear H
      have hnb13 := NB345_346.out
      have hnc13 := NB346_345.out
      have hcz14_0 : w5.cell? ⟨gb345, 0, none⟩ = some (.int .i64 a0_0) := (blk_cell BK345.out 0).trans rfl
      have hcz14_1 : w5.cell? ⟨gb345, 1, none⟩ = some (.string a0_1) := (blk_cell BK345.out 1).trans rfl
      have hcz14_2 : w5.cell? ⟨gb345, 2, none⟩ = some (.int .i64 a0_2) := (blk_cell BK345.out 2).trans rfl
      have hcz14_3 : w5.cell? ⟨gb345, 3, none⟩ = some (.int .i64 a0_3) := (blk_cell BK345.out 3).trans rfl
      have hcz14_4 : w5.cell? ⟨gb345, 4, none⟩ = some (.slice A0_4 l0_4.length c0_4) := (blk_cell BK345.out 4).trans rfl
      have hfz14_0 := blk_frozen BK345.out 0
      have hfz14_1 := blk_frozen BK345.out 1
      have hfz14_2 := blk_frozen BK345.out 2
      have hfz14_3 := blk_frozen BK345.out 3
      have hfz14_4 := blk_frozen BK345.out 4
      have hcz15_0 : w5.cell? ⟨gb346, 0, none⟩ = some (.int .i64 a1_0) := (blk_cell BK346.out 0).trans rfl
      have hcz15_1 : w5.cell? ⟨gb346, 1, none⟩ = some (.string a1_1) := (blk_cell BK346.out 1).trans rfl
      have hcz15_2 : w5.cell? ⟨gb346, 2, none⟩ = some (.int .i64 a1_2) := (blk_cell BK346.out 2).trans rfl
      have hcz15_3 : w5.cell? ⟨gb346, 3, none⟩ = some (.int .i64 a1_3) := (blk_cell BK346.out 3).trans rfl
      have hcz15_4 : w5.cell? ⟨gb346, 4, none⟩ = some (.slice A1_4 l1_4.length c1_4) := (blk_cell BK346.out 4).trans rfl
      have hfz15_0 := blk_frozen BK346.out 0
      have hfz15_1 := blk_frozen BK346.out 1
      have hfz15_2 := blk_frozen BK346.out 2
      have hfz15_3 := blk_frozen BK346.out 3
      have hfz15_4 := blk_frozen BK346.out 4
      go_wp2
      go_meet
      case rel => exact ⟨_, (true), (by first | rfl | (simp; done) | (simp [*]; done)), H', ⟨by first | omega | exact Nat.le_refl _⟩, ⟨by (with_reducible repeat (first | refine blk_drewN ?_ _ | refine blk_drew ?_ | refine blk_alloc ?_ _)); exact BK345.out⟩, ⟨by (with_reducible repeat (first | refine blk_drewN ?_ _ | refine blk_drew ?_ | refine blk_alloc ?_ _)); exact BK346.out⟩, ⟨by repeat (first | (with_reducible first | exact HB.out | apply below_alloc | apply pw_below_drewN | apply below_drew1 | refine below_set ?_ GE345.out | refine below_set ?_ GE346.out) | exact HB.out)⟩⟩
    ·rw [if_neg c8] at H
     have c8b0 : (a0_2 == a1_2) = false := beq_eq_false_iff_ne.mpr c8
     have c8b1 : (a0_2 != a1_2) = true := bne_iff_ne.mpr c8
     have H' := Aside0.mk H
     clear H
     have hnb16 := NB345_346.out
     have hnc16 := NB346_345.out
     have hcz17_0 : w5.cell? ⟨gb345, 0, none⟩ = some (.int .i64 a0_0) := (blk_cell BK345.out 0).trans rfl
     have hcz17_1 : w5.cell? ⟨gb345, 1, none⟩ = some (.string a0_1) := (blk_cell BK345.out 1).trans rfl
     have hcz17_2 : w5.cell? ⟨gb345, 2, none⟩ = some (.int .i64 a0_2) := (blk_cell BK345.out 2).trans rfl
     have hcz17_3 : w5.cell? ⟨gb345, 3, none⟩ = some (.int .i64 a0_3) := (blk_cell BK345.out 3).trans rfl
     have hcz17_4 : w5.cell? ⟨gb345, 4, none⟩ = some (.slice A0_4 l0_4.length c0_4) := (blk_cell BK345.out 4).trans rfl
     have hfz17_0 := blk_frozen BK345.out 0
     have hfz17_1 := blk_frozen BK345.out 1
     have hfz17_2 := blk_frozen BK345.out 2
     have hfz17_3 := blk_frozen BK345.out 3
     have hfz17_4 := blk_frozen BK345.out 4
     have hcz18_0 : w5.cell? ⟨gb346, 0, none⟩ = some (.int .i64 a1_0) := (blk_cell BK346.out 0).trans rfl
     have hcz18_1 : w5.cell? ⟨gb346, 1, none⟩ = some (.string a1_1) := (blk_cell BK346.out 1).trans rfl
     have hcz18_2 : w5.cell? ⟨gb346, 2, none⟩ = some (.int .i64 a1_2) := (blk_cell BK346.out 2).trans rfl
     have hcz18_3 : w5.cell? ⟨gb346, 3, none⟩ = some (.int .i64 a1_3) := (blk_cell BK346.out 3).trans rfl
     have hcz18_4 : w5.cell? ⟨gb346, 4, none⟩ = some (.slice A1_4 l1_4.length c1_4) := (blk_cell BK346.out 4).trans rfl
     have hfz18_0 := blk_frozen BK346.out 0
     have hfz18_1 := blk_frozen BK346.out 1
     have hfz18_2 := blk_frozen BK346.out 2
     have hfz18_3 := blk_frozen BK346.out 3
     have hfz18_4 := blk_frozen BK346.out 4
     go_wp2
     go_meet
     case rel => exact ⟨_, (true), (by first | rfl | (simp; done) | (simp [*]; done)), H', ⟨by first | omega | exact Nat.le_refl _⟩, ⟨by (with_reducible repeat (first | refine blk_drewN ?_ _ | refine blk_drew ?_ | refine blk_alloc ?_ _)); exact BK345.out⟩, ⟨by (with_reducible repeat (first | refine blk_drewN ?_ _ | refine blk_drew ?_ | refine blk_alloc ?_ _)); exact BK346.out⟩, ⟨by repeat (first | (with_reducible first | exact HB.out | apply below_alloc | apply pw_below_drewN | apply below_drew1 | refine below_set ?_ GE345.out | refine below_set ?_ GE346.out) | exact HB.out)⟩⟩
   ·rw [if_neg c7] at H
    have c7b0 : (a0_1.toList == a1_1.toList) = false := beq_eq_false_iff_ne.mpr c7
    have c7b1 : (a0_1.toList != a1_1.toList) = true := bne_iff_ne.mpr c7
    have H' := Aside0.mk H
    clear H
    have hnb19 := NB345_346.out
    have hnc19 := NB346_345.out
    have hcz20_0 : w5.cell? ⟨gb345, 0, none⟩ = some (.int .i64 a0_0) := (blk_cell BK345.out 0).trans rfl
    have hcz20_1 : w5.cell? ⟨gb345, 1, none⟩ = some (.string a0_1) := (blk_cell BK345.out 1).trans rfl
    have hcz20_2 : w5.cell? ⟨gb345, 2, none⟩ = some (.int .i64 a0_2) := (blk_cell BK345.out 2).trans rfl
    have hcz20_3 : w5.cell? ⟨gb345, 3, none⟩ = some (.int .i64 a0_3) := (blk_cell BK345.out 3).trans rfl
    have hcz20_4 : w5.cell? ⟨gb345, 4, none⟩ = some (.slice A0_4 l0_4.length c0_4) := (blk_cell BK345.out 4).trans rfl
    have hfz20_0 := blk_frozen BK345.out 0
    have hfz20_1 := blk_frozen BK345.out 1
    have hfz20_2 := blk_frozen BK345.out 2
    have hfz20_3 := blk_frozen BK345.out 3
    have hfz20_4 := blk_frozen BK345.out 4
    have hcz21_0 : w5.cell? ⟨gb346, 0, none⟩ = some (.int .i64 a1_0) := (blk_cell BK346.out 0).trans rfl
    have hcz21_1 : w5.cell? ⟨gb346, 1, none⟩ = some (.string a1_1) := (blk_cell BK346.out 1).trans rfl
    have hcz21_2 : w5.cell? ⟨gb346, 2, none⟩ = some (.int .i64 a1_2) := (blk_cell BK346.out 2).trans rfl
    have hcz21_3 : w5.cell? ⟨gb346, 3, none⟩ = some (.int .i64 a1_3) := (blk_cell BK346.out 3).trans rfl
    have hcz21_4 : w5.cell? ⟨gb346, 4, none⟩ = some (.slice A1_4 l1_4.length c1_4) := (blk_cell BK346.out 4).trans rfl
    have hfz21_0 := blk_frozen BK346.out 0
    have hfz21_1 := blk_frozen BK346.out 1
    have hfz21_2 := blk_frozen BK346.out 2
    have hfz21_3 := blk_frozen BK346.out 3
    have hfz21_4 := blk_frozen BK346.out 4
    go_wp2
    go_meet
    case rel => exact ⟨_, (true), (by first | rfl | (simp; done) | (simp [*]; done)), H', ⟨by first | omega | exact Nat.le_refl _⟩, ⟨by (with_reducible repeat (first | refine blk_drewN ?_ _ | refine blk_drew ?_ | refine blk_alloc ?_ _)); exact BK345.out⟩, ⟨by (with_reducible repeat (first | refine blk_drewN ?_ _ | refine blk_drew ?_ | refine blk_alloc ?_ _)); exact BK346.out⟩, ⟨by repeat (first | (with_reducible first | exact HB.out | apply below_alloc | apply pw_below_drewN | apply below_drew1 | refine below_set ?_ GE345.out | refine below_set ?_ GE346.out) | exact HB.out)⟩⟩
  ·rw [if_neg c6] at H
   have c6b0 : (a0_0 == a1_0) = false := beq_eq_false_iff_ne.mpr c6
   have c6b1 : (a0_0 != a1_0) = true := bne_iff_ne.mpr c6
   (first | rw [c6b0] | (simp only [i64_w, i32_w]; rw [c6b0]) | skip)
   have H' := Aside0.mk H
   clear H
   have hnb22 := NB345_346.out
   have hnc22 := NB346_345.out
   have hcz23_0 : w5.cell? ⟨gb345, 0, none⟩ = some (.int .i64 a0_0) := (blk_cell BK345.out 0).trans rfl
   have hcz23_1 : w5.cell? ⟨gb345, 1, none⟩ = some (.string a0_1) := (blk_cell BK345.out 1).trans rfl
   have hcz23_2 : w5.cell? ⟨gb345, 2, none⟩ = some (.int .i64 a0_2) := (blk_cell BK345.out 2).trans rfl
   have hcz23_3 : w5.cell? ⟨gb345, 3, none⟩ = some (.int .i64 a0_3) := (blk_cell BK345.out 3).trans rfl
   have hcz23_4 : w5.cell? ⟨gb345, 4, none⟩ = some (.slice A0_4 l0_4.length c0_4) := (blk_cell BK345.out 4).trans rfl
   have hfz23_0 := blk_frozen BK345.out 0
   have hfz23_1 := blk_frozen BK345.out 1
   have hfz23_2 := blk_frozen BK345.out 2
   have hfz23_3 := blk_frozen BK345.out 3
   have hfz23_4 := blk_frozen BK345.out 4
   have hcz24_0 : w5.cell? ⟨gb346, 0, none⟩ = some (.int .i64 a1_0) := (blk_cell BK346.out 0).trans rfl
   have hcz24_1 : w5.cell? ⟨gb346, 1, none⟩ = some (.string a1_1) := (blk_cell BK346.out 1).trans rfl
   have hcz24_2 : w5.cell? ⟨gb346, 2, none⟩ = some (.int .i64 a1_2) := (blk_cell BK346.out 2).trans rfl
   have hcz24_3 : w5.cell? ⟨gb346, 3, none⟩ = some (.int .i64 a1_3) := (blk_cell BK346.out 3).trans rfl
   have hcz24_4 : w5.cell? ⟨gb346, 4, none⟩ = some (.slice A1_4 l1_4.length c1_4) := (blk_cell BK346.out 4).trans rfl
   have hfz24_0 := blk_frozen BK346.out 0
   have hfz24_1 := blk_frozen BK346.out 1
   have hfz24_2 := blk_frozen BK346.out 2
   have hfz24_3 := blk_frozen BK346.out 3
   have hfz24_4 := blk_frozen BK346.out 4
   go_wp2
   go_meet
   case rel => exact ⟨_, (true), (by first | rfl | (simp; done) | (simp [*]; done)), H', ⟨by first | omega | exact Nat.le_refl _⟩, ⟨by (with_reducible repeat (first | refine blk_drewN ?_ _ | refine blk_drew ?_ | refine blk_alloc ?_ _)); exact BK345.out⟩, ⟨by (with_reducible repeat (first | refine blk_drewN ?_ _ | refine blk_drew ?_ | refine blk_alloc ?_ _)); exact BK346.out⟩, ⟨by repeat (first | (with_reducible first | exact HB.out | apply below_alloc | apply pw_below_drewN | apply below_drew1 | refine below_set ?_ GE345.out | refine below_set ?_ GE346.out) | exact HB.out)⟩⟩
 case rest =>
  clear HC3
  try clear c1
  try clear c2
  try clear p2
  try clear c3
  try clear c6
  try clear c6b0
  try clear c6b1
  try clear c7
  try clear c7b0
  try clear c7b1
  try clear c8
  try clear c8b0
  try clear c8b1
  try clear c9
  try clear c9b0
  try clear c9b1
  try clear c10
  try clear c13
  try clear c16
  try clear c19
  try clear c22
  try clear hcz11_0
  try clear hcz11_1
  try clear hcz11_2
  try clear hcz11_3
  try clear hcz11_4
  try clear hcz12_0
  try clear hcz12_1
  try clear hcz12_2
  try clear hcz12_3
  try clear hcz12_4
  try clear hcz14_0
  try clear hcz14_1
  try clear hcz14_2
  try clear hcz14_3
  try clear hcz14_4
  try clear hcz15_0
  try clear hcz15_1
  try clear hcz15_2
  try clear hcz15_3
  try clear hcz15_4
  try clear hcz17_0
  try clear hcz17_1
  try clear hcz17_2
  try clear hcz17_3
  try clear hcz17_4
  try clear hcz18_0
  try clear hcz18_1
  try clear hcz18_2
  try clear hcz18_3
  try clear hcz18_4
  try clear hcz20_0
  try clear hcz20_1
  try clear hcz20_2
  try clear hcz20_3
  try clear hcz20_4
  try clear hcz21_0
  try clear hcz21_1
  try clear hcz21_2
  try clear hcz21_3
  try clear hcz21_4
  try clear hcz23_0
  try clear hcz23_1
  try clear hcz23_2
  try clear hcz23_3
  try clear hcz23_4
  try clear hcz24_0
  try clear hcz24_1
  try clear hcz24_2
  try clear hcz24_3
  try clear hcz24_4
  try clear hfz11_0
  try clear hfz11_1
  try clear hfz11_2
  try clear hfz11_3
  try clear hfz11_4
  try clear hfz12_0
  try clear hfz12_1
  try clear hfz12_2
  try clear hfz12_3
  try clear hfz12_4
  try clear hfz14_0
  try clear hfz14_1
  try clear hfz14_2
  try clear hfz14_3
  try clear hfz14_4
  try clear hfz15_0
  try clear hfz15_1
  try clear hfz15_2
  try clear hfz15_3
  try clear hfz15_4
  try clear hfz17_0
  try clear hfz17_1
  try clear hfz17_2
  try clear hfz17_3
  try clear hfz17_4
  try clear hfz18_0
  try clear hfz18_1
  try clear hfz18_2
  try clear hfz18_3
  try clear hfz18_4
  try clear hfz20_0
  try clear hfz20_1
  try clear hfz20_2
  try clear hfz20_3
  try clear hfz20_4
  try clear hfz21_0
  try clear hfz21_1
  try clear hfz21_2
  try clear hfz21_3
  try clear hfz21_4
  try clear hfz23_0
  try clear hfz23_1
  try clear hfz23_2
  try clear hfz23_3
  try clear hfz23_4
  try clear hfz24_0
  try clear hfz24_1
  try clear hfz24_2
  try clear hfz24_3
  try clear hfz24_4
  obtain ⟨kq, x40_2, rfl, HA, HJ2, BK345, BK346, HB⟩ := hcut
  cases kq with
  | zero => exact absurd HA.out (by simp [assessorref03_Equal.j0])
  | succ kj2 =>
   have H := HA.out
   clear HA
   simp only [assessorref03_Equal.j0] at H
   by_cases c25 : x40_2 = true
   ·subst c25
    have H1 : (some false) = some r := by rw [if_pos rfl] at H; exact H
    clear H
    have H := H1
    clear H1
    obtain rfl := Option.some.inj H
    go_wp2
    go_ret
    exact ⟨by first | rfl | (simp [errW_none, errW_some] <;> rfl) | (simp [*, errW_none, errW_some] <;> rfl) | (simp [IntKind.wrap_i64, wrap64]; done), by repeat (first | (with_reducible first | exact HB.out | apply below_alloc | apply pw_below_drewN | apply below_drew1 | refine below_set ?_ GE345.out | refine below_set ?_ GE346.out) | exact HB.out)⟩
   ·replace c25 := Bool.eq_false_iff.mpr c25
    subst c25
    have H1 : (assessorref03_Equal.l0 kj2 0 a0_0 a0_1 a0_2 a0_3 l0_4 a1_0 a1_1 a1_2 a1_3 l1_4) = some r := by rw [if_neg (show ¬ (false = true) by decide)] at H; exact H
    clear H
    have H := H1
    clear H1
    have H' := Aside0.mk H
    clear H
    go_wp2
    go_loopg [5] kj2 (fun kq v5 w' => ∃ (x5_2 : Int), v5 = .int .i64 x5_2 ∧ Aside0 (assessorref03_Equal.l0 kq x5_2 a0_0 a0_1 a0_2 a0_3 l0_4 a1_0 a1_1 a1_2 a1_3 l1_4 = some r) ∧ Aside0 (kq ≤ kj2) ∧ Aside0 (w'.heap[gb345]? = some (.cells #[.int .i64 a0_0, .string a0_1, .int .i64 a0_2, .int .i64 a0_3, (.slice A0_4 l0_4.length c0_4)] 24 (0, 0))) ∧ Aside0 (w'.heap[gb346]? = some (.cells #[.int .i64 a1_0, .string a1_1, .int .i64 a1_2, .int .i64 a1_3, (.slice A1_4 l1_4.length c1_4)] 24 (0, 0))) ∧ Aside0 (Below w.heap.size w w'))
    case atStart => exact ⟨(0), (by first | rfl | (simp; done) | (simp [*]; done)), H', ⟨Nat.le_refl _⟩, ⟨by (with_reducible repeat (first | refine blk_drewN ?_ _ | refine blk_drew ?_ | refine blk_alloc ?_ _)); exact BK345.out⟩, ⟨by (with_reducible repeat (first | refine blk_drewN ?_ _ | refine blk_drew ?_ | refine blk_alloc ?_ _)); exact BK346.out⟩, ⟨by repeat (first | (with_reducible first | exact HB.out | apply below_alloc | apply pw_below_drewN | apply below_drew1 | refine below_set ?_ GE345.out | refine below_set ?_ GE346.out) | exact HB.out)⟩⟩
    case round =>
     clear H'
     try clear c1
     try clear c2
     try clear p2
     try clear c3
     try clear c6
     try clear c6b0
     try clear c6b1
     try clear c7
     try clear c7b0
     try clear c7b1
     try clear c8
     try clear c8b0
     try clear c8b1
     try clear c9
     try clear c9b0
     try clear c9b1
     try clear c10
     try clear c13
     try clear c16
     try clear c19
     try clear c22
     try clear c25
     try clear hcz11_0
     try clear hcz11_1
     try clear hcz11_2
     try clear hcz11_3
     try clear hcz11_4
     try clear hcz12_0
     try clear hcz12_1
     try clear hcz12_2
     try clear hcz12_3
     try clear hcz12_4
     try clear hcz14_0
     try clear hcz14_1
     try clear hcz14_2
     try clear hcz14_3
     try clear hcz14_4
     try clear hcz15_0
     try clear hcz15_1
     try clear hcz15_2
     try clear hcz15_3
     try clear hcz15_4
     try clear hcz17_0
     try clear hcz17_1
     try clear hcz17_2
     try clear hcz17_3
     try clear hcz17_4
     try clear hcz18_0
     try clear hcz18_1
     try clear hcz18_2
     try clear hcz18_3
     try clear hcz18_4
     try clear hcz20_0
     try clear hcz20_1
     try clear hcz20_2
     try clear hcz20_3
     try clear hcz20_4
     try clear hcz21_0
     try clear hcz21_1
     try clear hcz21_2
     try clear hcz21_3
     try clear hcz21_4
     try clear hcz23_0
     try clear hcz23_1
     try clear hcz23_2
     try clear hcz23_3
     try clear hcz23_4
     try clear hcz24_0
     try clear hcz24_1
     try clear hcz24_2
     try clear hcz24_3
     try clear hcz24_4
     try clear hfz11_0
     try clear hfz11_1
     try clear hfz11_2
     try clear hfz11_3
     try clear hfz11_4
     try clear hfz12_0
     try clear hfz12_1
     try clear hfz12_2
     try clear hfz12_3
     try clear hfz12_4
     try clear hfz14_0
     try clear hfz14_1
     try clear hfz14_2
     try clear hfz14_3
     try clear hfz14_4
     try clear hfz15_0
     try clear hfz15_1
     try clear hfz15_2
     try clear hfz15_3
     try clear hfz15_4
     try clear hfz17_0
     try clear hfz17_1
     try clear hfz17_2
     try clear hfz17_3
     try clear hfz17_4
     try clear hfz18_0
     try clear hfz18_1
     try clear hfz18_2
     try clear hfz18_3
     try clear hfz18_4
     try clear hfz20_0
     try clear hfz20_1
     try clear hfz20_2
     try clear hfz20_3
     try clear hfz20_4
     try clear hfz21_0
     try clear hfz21_1
     try clear hfz21_2
     try clear hfz21_3
     try clear hfz21_4
     try clear hfz23_0
     try clear hfz23_1
     try clear hfz23_2
     try clear hfz23_3
     try clear hfz23_4
     try clear hfz24_0
     try clear hfz24_1
     try clear hfz24_2
     try clear hfz24_3
     try clear hfz24_4
     try clear p2
     obtain ⟨x5_2, rfl, HA, HK2, BK345, BK346, HB⟩ := hrel
     cases gk with
     | zero => exact absurd HA.out (by simp [assessorref03_Equal.l0])
     | succ k2 =>
      have H := HA.out
      clear HA
      simp only [assessorref03_Equal.l0] at H
      by_cases c26 : x5_2 < (l0_4.length : Int)
      ·rw [if_pos c26] at H
       have c26b0 : decide (x5_2 < (l0_4.length : Int)) = true := decide_eq_true c26
       clear c26
       by_cases c27 : 0 ≤ x5_2
       ·rw [if_pos c27] at H
        have c27b0 : decide (0 ≤ x5_2) = true := decide_eq_true c27
        clear c27
        by_cases c28 : x5_2 < (l1_4.length : Int)
        ·rw [if_pos c28] at H
         have c28b0 : decide (x5_2 < (l1_4.length : Int)) = true := decide_eq_true c28
         clear c28
         replace H := Option.bind_eq_some_iff.mp H
         obtain ⟨t349, A290, H⟩ := H
         replace H : (if t349 = true then (assessorref03_Equal.l0 k2 (wrap64 (x5_2 + 1)) a0_0 a0_1 a0_2 a0_3 l0_4 a1_0 a1_1 a1_2 a1_3 l1_4) else (some false)) = some r := H
         have A29 := Aside0.mk A290
         clear A290
         by_cases c30 : t349 = true
         ·subst c30
          have H1 : (assessorref03_Equal.l0 k2 (wrap64 (x5_2 + 1)) a0_0 a0_1 a0_2 a0_3 l0_4 a1_0 a1_1 a1_2 a1_3 l1_4) = some r := by rw [if_pos rfl] at H; exact H
          clear H
          have H := H1
          clear H1
          have H' := Aside0.mk H
          clear H
          have hnb31 := NB345_346.out
          have hnc31 := NB346_345.out
          have hcz32_0 : wr.cell? ⟨gb345, 0, none⟩ = some (.int .i64 a0_0) := (blk_cell BK345.out 0).trans rfl
          have hcz32_1 : wr.cell? ⟨gb345, 1, none⟩ = some (.string a0_1) := (blk_cell BK345.out 1).trans rfl
          have hcz32_2 : wr.cell? ⟨gb345, 2, none⟩ = some (.int .i64 a0_2) := (blk_cell BK345.out 2).trans rfl
          have hcz32_3 : wr.cell? ⟨gb345, 3, none⟩ = some (.int .i64 a0_3) := (blk_cell BK345.out 3).trans rfl
          have hcz32_4 : wr.cell? ⟨gb345, 4, none⟩ = some (.slice A0_4 l0_4.length c0_4) := (blk_cell BK345.out 4).trans rfl
          have hfz32_0 := blk_frozen BK345.out 0
          have hfz32_1 := blk_frozen BK345.out 1
          have hfz32_2 := blk_frozen BK345.out 2
          have hfz32_3 := blk_frozen BK345.out 3
          have hfz32_4 := blk_frozen BK345.out 4
          try go_wp2
          have n0_ := Aside0.mk (blk_drew BK345.out)
          have n1_ := Aside0.mk (blk_drew BK346.out)
          have n2_ := Aside0.mk (below_drew1 HB.out)
          clear BK345
          clear BK346
          clear HB
          have BK345 := n0_
          have BK346 := n1_
          have HB := n2_
          clear n0_ n1_ n2_
          have p347 : 0 ≤ (x5_2 : Int) := of_decide_eq_true (by first | (with_reducible assumption) | assumption)
          have q347 : x5_2 < (l0_4.length : Int) := of_decide_eq_true (by first | (with_reducible assumption) | assumption)
          obtain ⟨ad347, A347_4, c347_4, e347, hx347_0, hx347_1, hx347_2, hx347_3, hx347_4, hl347_4, hi347_4⟩ := at_T24 HR0_4.out x5_2 p347 q347
          have hw347_4 := hx347_4
          have hw347_3 := hx347_3
          have hw347_2 := hx347_2
          have hw347_1 := hx347_1
          have hw347_0 := hx347_0
          cases e347
          replace hx347_0 := (HB.out.cell (World.block_lt_of_cell? w _ hx347_0)).trans hx347_0
          replace hx347_1 := (HB.out.cell (World.block_lt_of_cell? w _ hx347_1)).trans hx347_1
          replace hx347_2 := (HB.out.cell (World.block_lt_of_cell? w _ hx347_2)).trans hx347_2
          replace hx347_3 := (HB.out.cell (World.block_lt_of_cell? w _ hx347_3)).trans hx347_3
          replace hx347_4 := (HB.out.cell (World.block_lt_of_cell? w _ hx347_4)).trans hx347_4
          have HR347_4 := Aside0.mk hi347_4
          have HC347_4 := Aside0.mk hl347_4
          clear hi347_4 hl347_4
          replace p347 := eq_true p347
          replace q347 := eq_true q347
          have p348 : 0 ≤ (x5_2 : Int) := of_decide_eq_true (by first | (with_reducible assumption) | assumption)
          have q348 : x5_2 < (l1_4.length : Int) := of_decide_eq_true (by first | (with_reducible assumption) | assumption)
          obtain ⟨ad348, A348_4, c348_4, e348, hx348_0, hx348_1, hx348_2, hx348_3, hx348_4, hl348_4, hi348_4⟩ := at_T24 HR1_4.out x5_2 p348 q348
          have hw348_4 := hx348_4
          have hw348_3 := hx348_3
          have hw348_2 := hx348_2
          have hw348_1 := hx348_1
          have hw348_0 := hx348_0
          cases e348
          replace hx348_0 := (HB.out.cell (World.block_lt_of_cell? w _ hx348_0)).trans hx348_0
          replace hx348_1 := (HB.out.cell (World.block_lt_of_cell? w _ hx348_1)).trans hx348_1
          replace hx348_2 := (HB.out.cell (World.block_lt_of_cell? w _ hx348_2)).trans hx348_2
          replace hx348_3 := (HB.out.cell (World.block_lt_of_cell? w _ hx348_3)).trans hx348_3
          replace hx348_4 := (HB.out.cell (World.block_lt_of_cell? w _ hx348_4)).trans hx348_4
          have HR348_4 := Aside0.mk hi348_4
          have HC348_4 := Aside0.mk hl348_4
          clear hi348_4 hl348_4
          replace p348 := eq_true p348
          replace q348 := eq_true q348
          refine start_ (n := 12) (S := fun w' => w'.cell? ⟨gb345, 0, none⟩ = some (.int .i64 a0_0) ∧ w'.cell? ⟨gb345, 1, none⟩ = some (.string a0_1) ∧ w'.cell? ⟨gb345, 2, none⟩ = some (.int .i64 a0_2) ∧ w'.cell? ⟨gb345, 3, none⟩ = some (.int .i64 a0_3) ∧ w'.cell? ⟨gb345, 4, none⟩ = some (.slice (some ad347) l0_4.length c0_4) ∧ w'.cell? ⟨gb346, 0, none⟩ = some (.int .i64 a1_0) ∧ w'.cell? ⟨gb346, 1, none⟩ = some (.string a1_1) ∧ w'.cell? ⟨gb346, 2, none⟩ = some (.int .i64 a1_2) ∧ w'.cell? ⟨gb346, 3, none⟩ = some (.int .i64 a1_3) ∧ w'.cell? ⟨gb346, 4, none⟩ = some (.slice (some ad348) l1_4.length c1_4) ∧ w'.cell? (ad347.add ((x5_2).toNat * 5)) = some (.int .i64 ((rd_T24 l0_4 x5_2).f0)) ∧ w'.cell? ⟨(ad347.add ((x5_2).toNat * 5)).block, (ad347.add ((x5_2).toNat * 5)).off + 1, none⟩ = some (.string ((rd_T24 l0_4 x5_2).f1)) ∧ w'.cell? ⟨(ad347.add ((x5_2).toNat * 5)).block, (ad347.add ((x5_2).toNat * 5)).off + 2, none⟩ = some (.int .i64 ((rd_T24 l0_4 x5_2).f2)) ∧ w'.cell? ⟨(ad347.add ((x5_2).toNat * 5)).block, (ad347.add ((x5_2).toNat * 5)).off + 3, none⟩ = some (.int .i64 ((rd_T24 l0_4 x5_2).f3)) ∧ w'.cell? ⟨(ad347.add ((x5_2).toNat * 5)).block, (ad347.add ((x5_2).toNat * 5)).off + 4, none⟩ = some (.slice A347_4 ((rd_T24 l0_4 x5_2).f4).length c347_4) ∧ w'.cell? (ad348.add ((x5_2).toNat * 5)) = some (.int .i64 ((rd_T24 l1_4 x5_2).f0)) ∧ w'.cell? ⟨(ad348.add ((x5_2).toNat * 5)).block, (ad348.add ((x5_2).toNat * 5)).off + 1, none⟩ = some (.string ((rd_T24 l1_4 x5_2).f1)) ∧ w'.cell? ⟨(ad348.add ((x5_2).toNat * 5)).block, (ad348.add ((x5_2).toNat * 5)).off + 2, none⟩ = some (.int .i64 ((rd_T24 l1_4 x5_2).f2)) ∧ w'.cell? ⟨(ad348.add ((x5_2).toNat * 5)).block, (ad348.add ((x5_2).toNat * 5)).off + 3, none⟩ = some (.int .i64 ((rd_T24 l1_4 x5_2).f3)) ∧ w'.cell? ⟨(ad348.add ((x5_2).toNat * 5)).block, (ad348.add ((x5_2).toNat * 5)).off + 4, none⟩ = some (.slice A348_4 ((rd_T24 l1_4 x5_2).f4).length c348_4)) (ds := []) #[false, false, false, false, false, false, false, false, false, false, false, false] (by kernel_rfl) rfl rfl ⟨(blk_cell BK345.out 0).trans rfl, (blk_cell BK345.out 1).trans rfl, (blk_cell BK345.out 2).trans rfl, (blk_cell BK345.out 3).trans rfl, (blk_cell BK345.out 4).trans rfl, (blk_cell BK346.out 0).trans rfl, (blk_cell BK346.out 1).trans rfl, (blk_cell BK346.out 2).trans rfl, (blk_cell BK346.out 3).trans rfl, (blk_cell BK346.out 4).trans rfl, ((HB.out.cell (World.block_lt_of_cell? w _ hw347_0)).trans hw347_0), ((HB.out.cell (World.block_lt_of_cell? w _ hw347_1)).trans hw347_1), ((HB.out.cell (World.block_lt_of_cell? w _ hw347_2)).trans hw347_2), ((HB.out.cell (World.block_lt_of_cell? w _ hw347_3)).trans hw347_3), ((HB.out.cell (World.block_lt_of_cell? w _ hw347_4)).trans hw347_4), ((HB.out.cell (World.block_lt_of_cell? w _ hw348_0)).trans hw348_0), ((HB.out.cell (World.block_lt_of_cell? w _ hw348_1)).trans hw348_1), ((HB.out.cell (World.block_lt_of_cell? w _ hw348_2)).trans hw348_2), ((HB.out.cell (World.block_lt_of_cell? w _ hw348_3)).trans hw348_3), ((HB.out.cell (World.block_lt_of_cell? w _ hw348_4)).trans hw348_4)⟩ (fun hHeld => ?_); refine with_tabW assessorref03_Equal.tab6 assessorref03_Equal.bits6 (fun HT_ HW_ => ?_)
          generalize wr.drew = w33 at BK345 BK346 HB HR347_4 HR348_4 hx347_0 hx347_1 hx347_2 hx347_3 hx347_4 hx348_0 hx348_1 hx348_2 hx348_3 hx348_4 hHeld ⊢
          refine pure_ (i := 0) (N := some 48) (v := ?_) (a' := ?_) #[true, false, false, false, false, false, false, false, false, false, false, false] rfl rfl (any_of HT_.out (by kernel_rfl)) (fun _ _ _ h => h) (Or.inl ⟨by rfl, ?_⟩) ?_ ?_
          rotate_left
          ·intro w'
           go_simp
           with_reducible rfl
          rotate_left
          ·simp only [Act.put, List.setIfInBounds_toArray, List.set_cons_zero, List.set_cons_succ, i64_w, i32_w]
           rfl
          refine pure_ (i := 2) (N := some 50) (v := ?_) (a' := ?_) #[true, false, true, false, false, false, false, false, false, false, false, false] rfl rfl (any_of HT_.out (by kernel_rfl)) (fun _ _ _ h => h) (Or.inl ⟨by rfl, ?_⟩) ?_ ?_
          rotate_left
          ·intro w'
           go_simp
           with_reducible rfl
          rotate_left
          ·simp only [Act.put, List.setIfInBounds_toArray, List.set_cons_zero, List.set_cons_succ, i64_w, i32_w]
           rfl
          refine pure_ (i := 5) (N := some 53) (v := ?_) (a' := ?_) #[true, false, true, false, false, true, false, false, false, false, false, false] rfl rfl (any_of HT_.out (by kernel_rfl)) (fun _ _ _ h => h) (Or.inl ⟨by rfl, ?_⟩) ?_ ?_
          rotate_left
          ·intro w'
           go_simp
           with_reducible rfl
          rotate_left
          ·simp only [Act.put, List.setIfInBounds_toArray, List.set_cons_zero, List.set_cons_succ, i64_w, i32_w]
           rfl
          refine pure_ (i := 7) (N := some 55) (v := ?_) (a' := ?_) #[true, false, true, false, false, true, false, true, false, false, false, false] rfl rfl (any_of HT_.out (by kernel_rfl)) (fun _ _ _ h => h) (Or.inl ⟨by rfl, ?_⟩) ?_ ?_
          rotate_left
          ·intro w'
           go_simp
           with_reducible rfl
          rotate_left
          ·simp only [Act.put, List.setIfInBounds_toArray, List.set_cons_zero, List.set_cons_succ, i64_w, i32_w]
           rfl
          refine take_ (i := 1) (N := some 49) (v := ?_) (a' := ?_) #[true, true, true, false, false, true, false, true, false, false, false, false] rfl rfl (take_ofW HT_.out HW_.out (by kernel_rfl)) (fun _ _ _ h => h) (Or.inl ⟨by rfl, ?_⟩) hHeld ?_ ?_
          rotate_left
          ·rintro w' ⟨s0, s1, s2, s3, s4, s5, s6, s7, s8, s9, s10, s11, s12, s13, s14, s15, s16, s17, s18, s19⟩
           go_simp
           with_reducible rfl
          rotate_left
          ·simp only [Act.put, List.setIfInBounds_toArray, List.set_cons_zero, List.set_cons_succ, i64_w, i32_w]
           rfl
          refine pure_ (i := 3) (N := some 51) (v := ?_) (a' := ?_) #[true, true, true, true, false, true, false, true, false, false, false, false] rfl rfl (any_of HT_.out (by kernel_rfl)) (fun _ _ _ h => h) (Or.inl ⟨by rfl, ?_⟩) ?_ ?_
          rotate_left
          ·intro w'
           go_simp
           with_reducible rfl
          rotate_left
          ·simp only [Act.put, List.setIfInBounds_toArray, List.set_cons_zero, List.set_cons_succ, i64_w, i32_w]
           rfl
          refine take_ (i := 4) (N := some 52) (v := ?_) (a' := ?_) #[true, true, true, true, true, true, false, true, false, false, false, false] rfl rfl (take_ofW HT_.out HW_.out (by kernel_rfl)) (fun _ _ _ h => h) (Or.inl ⟨by rfl, ?_⟩) hHeld ?_ ?_
          rotate_left
          ·rintro w' ⟨s0, s1, s2, s3, s4, s5, s6, s7, s8, s9, s10, s11, s12, s13, s14, s15, s16, s17, s18, s19⟩
           go_simp
           with_reducible rfl
          rotate_left
          ·simp only [Act.put, List.setIfInBounds_toArray, List.set_cons_zero, List.set_cons_succ, i64_w, i32_w]
           rfl
          refine take_ (i := 6) (N := some 54) (v := ?_) (a' := ?_) #[true, true, true, true, true, true, true, true, false, false, false, false] rfl rfl (take_ofW HT_.out HW_.out (by kernel_rfl)) (fun _ _ _ h => h) (Or.inl ⟨by rfl, ?_⟩) hHeld ?_ ?_
          rotate_left
          ·rintro w' ⟨s0, s1, s2, s3, s4, s5, s6, s7, s8, s9, s10, s11, s12, s13, s14, s15, s16, s17, s18, s19⟩
           go_simp
           with_reducible rfl
          rotate_left
          ·simp only [Act.put, List.setIfInBounds_toArray, List.set_cons_zero, List.set_cons_succ, i64_w, i32_w]
           rfl
          refine pure_ (i := 8) (N := some 56) (v := ?_) (a' := ?_) #[true, true, true, true, true, true, true, true, true, false, false, false] rfl rfl (any_of HT_.out (by kernel_rfl)) (fun _ _ _ h => h) (Or.inl ⟨by rfl, ?_⟩) ?_ ?_
          rotate_left
          ·intro w'
           go_simp
           with_reducible rfl
          rotate_left
          ·simp only [Act.put, List.setIfInBounds_toArray, List.set_cons_zero, List.set_cons_succ, i64_w, i32_w]
           rfl
          refine take_ (i := 9) (N := some 57) (v := ?_) (a' := ?_) #[true, true, true, true, true, true, true, true, true, true, false, false] rfl rfl (take_ofW HT_.out HW_.out (by kernel_rfl)) (fun _ _ _ h => h) (Or.inl ⟨by rfl, ?_⟩) hHeld ?_ ?_
          rotate_left
          ·rintro w' ⟨s0, s1, s2, s3, s4, s5, s6, s7, s8, s9, s10, s11, s12, s13, s14, s15, s16, s17, s18, s19⟩
           go_simp
           with_reducible rfl
          rotate_left
          ·simp only [Act.put, List.setIfInBounds_toArray, List.set_cons_zero, List.set_cons_succ, i64_w, i32_w]
           rfl
          refine one_ (i := 10) (N := some 58) #[true, true, true, true, true, true, true, true, true, true, true, false] rfl rfl (one_of HT_.out (by kernel_rfl)) (by decide) (fun K hK => ?_)
          refine goes_ Try.func35 (by kernel_rfl) rfl #[.agg #[.int .i64 ((rd_T24 l0_4 x5_2).f0), .string ((rd_T24 l0_4 x5_2).f1), .int .i64 ((rd_T24 l0_4 x5_2).f2), .int .i64 ((rd_T24 l0_4 x5_2).f3), .slice A347_4 ((rd_T24 l0_4 x5_2).f4).length c347_4], .agg #[.int .i64 ((rd_T24 l1_4 x5_2).f0), .string ((rd_T24 l1_4 x5_2).f1), .int .i64 ((rd_T24 l1_4 x5_2).f2), .int .i64 ((rd_T24 l1_4 x5_2).f3), .slice A348_4 ((rd_T24 l1_4 x5_2).f4).length c348_4]] (by rfl) rfl rfl (by (try simp only [List.map_toArray, List.map_cons, List.map_nil]); first | done | rfl | (simp only [List.length_drop, List.length_take]; rfl)) ?_
          with_reducible refine (ih k2 (by have := HJ2.out; have := HK2.out; omega) ((rd_T24 l0_4 x5_2).f0) ((rd_T24 l0_4 x5_2).f1) ((rd_T24 l0_4 x5_2).f2) ((rd_T24 l0_4 x5_2).f3) _ _ ((rd_T24 l0_4 x5_2).f4) ((rd_T24 l1_4 x5_2).f0) ((rd_T24 l1_4 x5_2).f1) ((rd_T24 l1_4 x5_2).f2) ((rd_T24 l1_4 x5_2).f3) _ _ ((rd_T24 l1_4 x5_2).f4) true _ ?side1 ?side2 ?side3 ?side4 A29.out).mono ?_
          (case side1 => repeat (first | exact (Kd.C_below HR347_4.out HB.out) | (with_reducible refine Kd.C_alloc ?_ _) | (with_reducible refine Kd.C_drewN ?_ _) | (with_reducible refine Kd.C_drew ?_)))
          (case side2 => exact HC347_4.out)
          (case side3 => repeat (first | exact (Kd.C_below HR348_4.out HB.out) | (with_reducible refine Kd.C_alloc ?_ _) | (with_reducible refine Kd.C_drewN ?_ _) | (with_reducible refine Kd.C_drew ?_)))
          (case side4 => exact HC348_4.out)
          rintro e w34 ⟨rfl, hb⟩
          refine ⟨_, rfl, ?_⟩
          have n0_ := Aside0.mk (blk_below (g := gb345) (o := .cells #[.int .i64 a0_0, .string a0_1, .int .i64 a0_2, .int .i64 a0_3, .slice (some ad347) l0_4.length c0_4] 24 (0, 0)) (by (with_reducible repeat (first | refine blk_drewN ?_ _ | refine blk_drew ?_ | refine blk_alloc ?_ _)); exact BK345.out) hb)
          have n1_ := Aside0.mk (blk_below (g := gb346) (o := .cells #[.int .i64 a1_0, .string a1_1, .int .i64 a1_2, .int .i64 a1_3, .slice (some ad348) l1_4.length c1_4] 24 (0, 0)) (by (with_reducible repeat (first | refine blk_drewN ?_ _ | refine blk_drew ?_ | refine blk_alloc ?_ _)); exact BK346.out) hb)
          have n2_ := Aside0.mk (below_step (by repeat (first | (with_reducible first | exact HB.out | apply below_alloc | apply pw_below_drewN | apply below_drew1 | refine below_set ?_ GE345.out | refine below_set ?_ GE346.out) | exact HB.out)) hb)
          clear BK345
          clear BK346
          clear HB
          have BK345 := n0_
          have BK346 := n1_
          have HB := n2_
          clear n0_ n1_ n2_
          (try clear hb)
          (try clear hb2)
          (try clear hk)
          (try clear hi)
          refine hK.out _ _ ⟨(blk_cell BK345.out 0).trans rfl, (blk_cell BK345.out 1).trans rfl, (blk_cell BK345.out 2).trans rfl, (blk_cell BK345.out 3).trans rfl, (blk_cell BK345.out 4).trans rfl, (blk_cell BK346.out 0).trans rfl, (blk_cell BK346.out 1).trans rfl, (blk_cell BK346.out 2).trans rfl, (blk_cell BK346.out 3).trans rfl, (blk_cell BK346.out 4).trans rfl, ((HB.out.cell (World.block_lt_of_cell? w _ hw347_0)).trans hw347_0), ((HB.out.cell (World.block_lt_of_cell? w _ hw347_1)).trans hw347_1), ((HB.out.cell (World.block_lt_of_cell? w _ hw347_2)).trans hw347_2), ((HB.out.cell (World.block_lt_of_cell? w _ hw347_3)).trans hw347_3), ((HB.out.cell (World.block_lt_of_cell? w _ hw347_4)).trans hw347_4), ((HB.out.cell (World.block_lt_of_cell? w _ hw348_0)).trans hw348_0), ((HB.out.cell (World.block_lt_of_cell? w _ hw348_1)).trans hw348_1), ((HB.out.cell (World.block_lt_of_cell? w _ hw348_2)).trans hw348_2), ((HB.out.cell (World.block_lt_of_cell? w _ hw348_3)).trans hw348_3), ((HB.out.cell (World.block_lt_of_cell? w _ hw348_4)).trans hw348_4)⟩ (fun hHeld => ?_)
          clear hK K
          refine norm_ (a' := ?_) ?_ ?_
          rotate_left
          ·show Act.put _ (some 58) _ = _
           simp only [Act.put, List.setIfInBounds_toArray, List.set_cons_zero, List.set_cons_succ, i64_w, i32_w]
           rfl
          refine pure_ (i := 11) (N := some 59) (v := ?_) (a' := ?_) #[true, true, true, true, true, true, true, true, true, true, true, true] rfl rfl (any_of HT_.out (by kernel_rfl)) (fun _ _ _ h => h) (Or.inl ⟨by rfl, ?_⟩) ?_ ?_
          rotate_left
          ·intro w'
           go_simp
           with_reducible rfl
          rotate_left
          ·simp only [Act.put, List.setIfInBounds_toArray, List.set_cons_zero, List.set_cons_succ, i64_w, i32_w]
           rfl
          refine done_ (done_of HT_.out (by kernel_rfl)) ?_
          try go_wp2
          go_roundg k2
          case measure => have := HJ2.out; have := HK2.out; omega
          case rel => exact ⟨(wrap64 (x5_2 + 1)), (by first | rfl | (simp; done) | (simp [*]; done)), H', ⟨by have := HJ2.out; have := HK2.out; omega⟩, ⟨by (with_reducible repeat (first | refine blk_drewN ?_ _ | refine blk_drew ?_ | refine blk_alloc ?_ _)); exact BK345.out⟩, ⟨by (with_reducible repeat (first | refine blk_drewN ?_ _ | refine blk_drew ?_ | refine blk_alloc ?_ _)); exact BK346.out⟩, ⟨by repeat (first | (with_reducible first | exact HB.out | apply below_alloc | apply pw_below_drewN | apply below_drew1 | refine below_set ?_ GE345.out | refine below_set ?_ GE346.out) | exact HB.out)⟩⟩
         ·replace c30 := Bool.eq_false_iff.mpr c30
          subst c30
          have H1 : (some false) = some r := by rw [if_neg (show ¬ (false = true) by decide)] at H; exact H
          clear H
          have H := H1
          clear H1
          obtain rfl := Option.some.inj H
          have hnb35 := NB345_346.out
          have hnc35 := NB346_345.out
          have hcz36_0 : wr.cell? ⟨gb345, 0, none⟩ = some (.int .i64 a0_0) := (blk_cell BK345.out 0).trans rfl
          have hcz36_1 : wr.cell? ⟨gb345, 1, none⟩ = some (.string a0_1) := (blk_cell BK345.out 1).trans rfl
          have hcz36_2 : wr.cell? ⟨gb345, 2, none⟩ = some (.int .i64 a0_2) := (blk_cell BK345.out 2).trans rfl
          have hcz36_3 : wr.cell? ⟨gb345, 3, none⟩ = some (.int .i64 a0_3) := (blk_cell BK345.out 3).trans rfl
          have hcz36_4 : wr.cell? ⟨gb345, 4, none⟩ = some (.slice A0_4 l0_4.length c0_4) := (blk_cell BK345.out 4).trans rfl
          have hfz36_0 := blk_frozen BK345.out 0
          have hfz36_1 := blk_frozen BK345.out 1
          have hfz36_2 := blk_frozen BK345.out 2
          have hfz36_3 := blk_frozen BK345.out 3
          have hfz36_4 := blk_frozen BK345.out 4
          try go_wp2
          have n0_ := Aside0.mk (blk_drew BK345.out)
          have n1_ := Aside0.mk (blk_drew BK346.out)
          have n2_ := Aside0.mk (below_drew1 HB.out)
          clear BK345
          clear BK346
          clear HB
          have BK345 := n0_
          have BK346 := n1_
          have HB := n2_
          clear n0_ n1_ n2_
          have p347 : 0 ≤ (x5_2 : Int) := of_decide_eq_true (by first | (with_reducible assumption) | assumption)
          have q347 : x5_2 < (l0_4.length : Int) := of_decide_eq_true (by first | (with_reducible assumption) | assumption)
          obtain ⟨ad347, A347_4, c347_4, e347, hx347_0, hx347_1, hx347_2, hx347_3, hx347_4, hl347_4, hi347_4⟩ := at_T24 HR0_4.out x5_2 p347 q347
          have hw347_4 := hx347_4
          have hw347_3 := hx347_3
          have hw347_2 := hx347_2
          have hw347_1 := hx347_1
          have hw347_0 := hx347_0
          cases e347
          replace hx347_0 := (HB.out.cell (World.block_lt_of_cell? w _ hx347_0)).trans hx347_0
          replace hx347_1 := (HB.out.cell (World.block_lt_of_cell? w _ hx347_1)).trans hx347_1
          replace hx347_2 := (HB.out.cell (World.block_lt_of_cell? w _ hx347_2)).trans hx347_2
          replace hx347_3 := (HB.out.cell (World.block_lt_of_cell? w _ hx347_3)).trans hx347_3
          replace hx347_4 := (HB.out.cell (World.block_lt_of_cell? w _ hx347_4)).trans hx347_4
          have HR347_4 := Aside0.mk hi347_4
          have HC347_4 := Aside0.mk hl347_4
          clear hi347_4 hl347_4
          replace p347 := eq_true p347
          replace q347 := eq_true q347
          have p348 : 0 ≤ (x5_2 : Int) := of_decide_eq_true (by first | (with_reducible assumption) | assumption)
          have q348 : x5_2 < (l1_4.length : Int) := of_decide_eq_true (by first | (with_reducible assumption) | assumption)
          obtain ⟨ad348, A348_4, c348_4, e348, hx348_0, hx348_1, hx348_2, hx348_3, hx348_4, hl348_4, hi348_4⟩ := at_T24 HR1_4.out x5_2 p348 q348
          have hw348_4 := hx348_4
          have hw348_3 := hx348_3
          have hw348_2 := hx348_2
          have hw348_1 := hx348_1
          have hw348_0 := hx348_0
          cases e348
          replace hx348_0 := (HB.out.cell (World.block_lt_of_cell? w _ hx348_0)).trans hx348_0
          replace hx348_1 := (HB.out.cell (World.block_lt_of_cell? w _ hx348_1)).trans hx348_1
          replace hx348_2 := (HB.out.cell (World.block_lt_of_cell? w _ hx348_2)).trans hx348_2
          replace hx348_3 := (HB.out.cell (World.block_lt_of_cell? w _ hx348_3)).trans hx348_3
          replace hx348_4 := (HB.out.cell (World.block_lt_of_cell? w _ hx348_4)).trans hx348_4
          have HR348_4 := Aside0.mk hi348_4
          have HC348_4 := Aside0.mk hl348_4
          clear hi348_4 hl348_4
          replace p348 := eq_true p348
          replace q348 := eq_true q348
          refine start_ (n := 12) (S := fun w' => w'.cell? ⟨gb345, 0, none⟩ = some (.int .i64 a0_0) ∧ w'.cell? ⟨gb345, 1, none⟩ = some (.string a0_1) ∧ w'.cell? ⟨gb345, 2, none⟩ = some (.int .i64 a0_2) ∧ w'.cell? ⟨gb345, 3, none⟩ = some (.int .i64 a0_3) ∧ w'.cell? ⟨gb345, 4, none⟩ = some (.slice (some ad347) l0_4.length c0_4) ∧ w'.cell? ⟨gb346, 0, none⟩ = some (.int .i64 a1_0) ∧ w'.cell? ⟨gb346, 1, none⟩ = some (.string a1_1) ∧ w'.cell? ⟨gb346, 2, none⟩ = some (.int .i64 a1_2) ∧ w'.cell? ⟨gb346, 3, none⟩ = some (.int .i64 a1_3) ∧ w'.cell? ⟨gb346, 4, none⟩ = some (.slice (some ad348) l1_4.length c1_4) ∧ w'.cell? (ad347.add ((x5_2).toNat * 5)) = some (.int .i64 ((rd_T24 l0_4 x5_2).f0)) ∧ w'.cell? ⟨(ad347.add ((x5_2).toNat * 5)).block, (ad347.add ((x5_2).toNat * 5)).off + 1, none⟩ = some (.string ((rd_T24 l0_4 x5_2).f1)) ∧ w'.cell? ⟨(ad347.add ((x5_2).toNat * 5)).block, (ad347.add ((x5_2).toNat * 5)).off + 2, none⟩ = some (.int .i64 ((rd_T24 l0_4 x5_2).f2)) ∧ w'.cell? ⟨(ad347.add ((x5_2).toNat * 5)).block, (ad347.add ((x5_2).toNat * 5)).off + 3, none⟩ = some (.int .i64 ((rd_T24 l0_4 x5_2).f3)) ∧ w'.cell? ⟨(ad347.add ((x5_2).toNat * 5)).block, (ad347.add ((x5_2).toNat * 5)).off + 4, none⟩ = some (.slice A347_4 ((rd_T24 l0_4 x5_2).f4).length c347_4) ∧ w'.cell? (ad348.add ((x5_2).toNat * 5)) = some (.int .i64 ((rd_T24 l1_4 x5_2).f0)) ∧ w'.cell? ⟨(ad348.add ((x5_2).toNat * 5)).block, (ad348.add ((x5_2).toNat * 5)).off + 1, none⟩ = some (.string ((rd_T24 l1_4 x5_2).f1)) ∧ w'.cell? ⟨(ad348.add ((x5_2).toNat * 5)).block, (ad348.add ((x5_2).toNat * 5)).off + 2, none⟩ = some (.int .i64 ((rd_T24 l1_4 x5_2).f2)) ∧ w'.cell? ⟨(ad348.add ((x5_2).toNat * 5)).block, (ad348.add ((x5_2).toNat * 5)).off + 3, none⟩ = some (.int .i64 ((rd_T24 l1_4 x5_2).f3)) ∧ w'.cell? ⟨(ad348.add ((x5_2).toNat * 5)).block, (ad348.add ((x5_2).toNat * 5)).off + 4, none⟩ = some (.slice A348_4 ((rd_T24 l1_4 x5_2).f4).length c348_4)) (ds := []) #[false, false, false, false, false, false, false, false, false, false, false, false] (by kernel_rfl) rfl rfl ⟨(blk_cell BK345.out 0).trans rfl, (blk_cell BK345.out 1).trans rfl, (blk_cell BK345.out 2).trans rfl, (blk_cell BK345.out 3).trans rfl, (blk_cell BK345.out 4).trans rfl, (blk_cell BK346.out 0).trans rfl, (blk_cell BK346.out 1).trans rfl, (blk_cell BK346.out 2).trans rfl, (blk_cell BK346.out 3).trans rfl, (blk_cell BK346.out 4).trans rfl, ((HB.out.cell (World.block_lt_of_cell? w _ hw347_0)).trans hw347_0), ((HB.out.cell (World.block_lt_of_cell? w _ hw347_1)).trans hw347_1), ((HB.out.cell (World.block_lt_of_cell? w _ hw347_2)).trans hw347_2), ((HB.out.cell (World.block_lt_of_cell? w _ hw347_3)).trans hw347_3), ((HB.out.cell (World.block_lt_of_cell? w _ hw347_4)).trans hw347_4), ((HB.out.cell (World.block_lt_of_cell? w _ hw348_0)).trans hw348_0), ((HB.out.cell (World.block_lt_of_cell? w _ hw348_1)).trans hw348_1), ((HB.out.cell (World.block_lt_of_cell? w _ hw348_2)).trans hw348_2), ((HB.out.cell (World.block_lt_of_cell? w _ hw348_3)).trans hw348_3), ((HB.out.cell (World.block_lt_of_cell? w _ hw348_4)).trans hw348_4)⟩ (fun hHeld => ?_); refine with_tabW assessorref03_Equal.tab6 assessorref03_Equal.bits6 (fun HT_ HW_ => ?_)
          generalize wr.drew = w37 at BK345 BK346 HB HR347_4 HR348_4 hx347_0 hx347_1 hx347_2 hx347_3 hx347_4 hx348_0 hx348_1 hx348_2 hx348_3 hx348_4 hHeld ⊢
          refine pure_ (i := 0) (N := some 48) (v := ?_) (a' := ?_) #[true, false, false, false, false, false, false, false, false, false, false, false] rfl rfl (any_of HT_.out (by kernel_rfl)) (fun _ _ _ h => h) (Or.inl ⟨by rfl, ?_⟩) ?_ ?_
          rotate_left
          ·intro w'
           go_simp
           with_reducible rfl
          rotate_left
          ·simp only [Act.put, List.setIfInBounds_toArray, List.set_cons_zero, List.set_cons_succ, i64_w, i32_w]
           rfl
          refine pure_ (i := 2) (N := some 50) (v := ?_) (a' := ?_) #[true, false, true, false, false, false, false, false, false, false, false, false] rfl rfl (any_of HT_.out (by kernel_rfl)) (fun _ _ _ h => h) (Or.inl ⟨by rfl, ?_⟩) ?_ ?_
          rotate_left
          ·intro w'
           go_simp
           with_reducible rfl
          rotate_left
          ·simp only [Act.put, List.setIfInBounds_toArray, List.set_cons_zero, List.set_cons_succ, i64_w, i32_w]
           rfl
          refine pure_ (i := 5) (N := some 53) (v := ?_) (a' := ?_) #[true, false, true, false, false, true, false, false, false, false, false, false] rfl rfl (any_of HT_.out (by kernel_rfl)) (fun _ _ _ h => h) (Or.inl ⟨by rfl, ?_⟩) ?_ ?_
          rotate_left
          ·intro w'
           go_simp
           with_reducible rfl
          rotate_left
          ·simp only [Act.put, List.setIfInBounds_toArray, List.set_cons_zero, List.set_cons_succ, i64_w, i32_w]
           rfl
          refine pure_ (i := 7) (N := some 55) (v := ?_) (a' := ?_) #[true, false, true, false, false, true, false, true, false, false, false, false] rfl rfl (any_of HT_.out (by kernel_rfl)) (fun _ _ _ h => h) (Or.inl ⟨by rfl, ?_⟩) ?_ ?_
          rotate_left
          ·intro w'
           go_simp
           with_reducible rfl
          rotate_left
          ·simp only [Act.put, List.setIfInBounds_toArray, List.set_cons_zero, List.set_cons_succ, i64_w, i32_w]
           rfl
          refine take_ (i := 1) (N := some 49) (v := ?_) (a' := ?_) #[true, true, true, false, false, true, false, true, false, false, false, false] rfl rfl (take_ofW HT_.out HW_.out (by kernel_rfl)) (fun _ _ _ h => h) (Or.inl ⟨by rfl, ?_⟩) hHeld ?_ ?_
          rotate_left
          ·rintro w' ⟨s0, s1, s2, s3, s4, s5, s6, s7, s8, s9, s10, s11, s12, s13, s14, s15, s16, s17, s18, s19⟩
           go_simp
           with_reducible rfl
          rotate_left
          ·simp only [Act.put, List.setIfInBounds_toArray, List.set_cons_zero, List.set_cons_succ, i64_w, i32_w]
           rfl
          refine pure_ (i := 3) (N := some 51) (v := ?_) (a' := ?_) #[true, true, true, true, false, true, false, true, false, false, false, false] rfl rfl (any_of HT_.out (by kernel_rfl)) (fun _ _ _ h => h) (Or.inl ⟨by rfl, ?_⟩) ?_ ?_
          rotate_left
          ·intro w'
           go_simp
           with_reducible rfl
          rotate_left
          ·simp only [Act.put, List.setIfInBounds_toArray, List.set_cons_zero, List.set_cons_succ, i64_w, i32_w]
           rfl
          refine take_ (i := 4) (N := some 52) (v := ?_) (a' := ?_) #[true, true, true, true, true, true, false, true, false, false, false, false] rfl rfl (take_ofW HT_.out HW_.out (by kernel_rfl)) (fun _ _ _ h => h) (Or.inl ⟨by rfl, ?_⟩) hHeld ?_ ?_
          rotate_left
          ·rintro w' ⟨s0, s1, s2, s3, s4, s5, s6, s7, s8, s9, s10, s11, s12, s13, s14, s15, s16, s17, s18, s19⟩
           go_simp
           with_reducible rfl
          rotate_left
          ·simp only [Act.put, List.setIfInBounds_toArray, List.set_cons_zero, List.set_cons_succ, i64_w, i32_w]
           rfl
          refine take_ (i := 6) (N := some 54) (v := ?_) (a' := ?_) #[true, true, true, true, true, true, true, true, false, false, false, false] rfl rfl (take_ofW HT_.out HW_.out (by kernel_rfl)) (fun _ _ _ h => h) (Or.inl ⟨by rfl, ?_⟩) hHeld ?_ ?_
          rotate_left
          ·rintro w' ⟨s0, s1, s2, s3, s4, s5, s6, s7, s8, s9, s10, s11, s12, s13, s14, s15, s16, s17, s18, s19⟩
           go_simp
           with_reducible rfl
          rotate_left
          ·simp only [Act.put, List.setIfInBounds_toArray, List.set_cons_zero, List.set_cons_succ, i64_w, i32_w]
           rfl
          refine pure_ (i := 8) (N := some 56) (v := ?_) (a' := ?_) #[true, true, true, true, true, true, true, true, true, false, false, false] rfl rfl (any_of HT_.out (by kernel_rfl)) (fun _ _ _ h => h) (Or.inl ⟨by rfl, ?_⟩) ?_ ?_
          rotate_left
          ·intro w'
           go_simp
           with_reducible rfl
          rotate_left
          ·simp only [Act.put, List.setIfInBounds_toArray, List.set_cons_zero, List.set_cons_succ, i64_w, i32_w]
           rfl
          refine take_ (i := 9) (N := some 57) (v := ?_) (a' := ?_) #[true, true, true, true, true, true, true, true, true, true, false, false] rfl rfl (take_ofW HT_.out HW_.out (by kernel_rfl)) (fun _ _ _ h => h) (Or.inl ⟨by rfl, ?_⟩) hHeld ?_ ?_
          rotate_left
          ·rintro w' ⟨s0, s1, s2, s3, s4, s5, s6, s7, s8, s9, s10, s11, s12, s13, s14, s15, s16, s17, s18, s19⟩
           go_simp
           with_reducible rfl
          rotate_left
          ·simp only [Act.put, List.setIfInBounds_toArray, List.set_cons_zero, List.set_cons_succ, i64_w, i32_w]
           rfl
          refine one_ (i := 10) (N := some 58) #[true, true, true, true, true, true, true, true, true, true, true, false] rfl rfl (one_of HT_.out (by kernel_rfl)) (by decide) (fun K hK => ?_)
          refine goes_ Try.func35 (by kernel_rfl) rfl #[.agg #[.int .i64 ((rd_T24 l0_4 x5_2).f0), .string ((rd_T24 l0_4 x5_2).f1), .int .i64 ((rd_T24 l0_4 x5_2).f2), .int .i64 ((rd_T24 l0_4 x5_2).f3), .slice A347_4 ((rd_T24 l0_4 x5_2).f4).length c347_4], .agg #[.int .i64 ((rd_T24 l1_4 x5_2).f0), .string ((rd_T24 l1_4 x5_2).f1), .int .i64 ((rd_T24 l1_4 x5_2).f2), .int .i64 ((rd_T24 l1_4 x5_2).f3), .slice A348_4 ((rd_T24 l1_4 x5_2).f4).length c348_4]] (by rfl) rfl rfl (by (try simp only [List.map_toArray, List.map_cons, List.map_nil]); first | done | rfl | (simp only [List.length_drop, List.length_take]; rfl)) ?_
          with_reducible refine (ih k2 (by have := HJ2.out; have := HK2.out; omega) ((rd_T24 l0_4 x5_2).f0) ((rd_T24 l0_4 x5_2).f1) ((rd_T24 l0_4 x5_2).f2) ((rd_T24 l0_4 x5_2).f3) _ _ ((rd_T24 l0_4 x5_2).f4) ((rd_T24 l1_4 x5_2).f0) ((rd_T24 l1_4 x5_2).f1) ((rd_T24 l1_4 x5_2).f2) ((rd_T24 l1_4 x5_2).f3) _ _ ((rd_T24 l1_4 x5_2).f4) false _ ?side1 ?side2 ?side3 ?side4 A29.out).mono ?_
          (case side1 => repeat (first | exact (Kd.C_below HR347_4.out HB.out) | (with_reducible refine Kd.C_alloc ?_ _) | (with_reducible refine Kd.C_drewN ?_ _) | (with_reducible refine Kd.C_drew ?_)))
          (case side2 => exact HC347_4.out)
          (case side3 => repeat (first | exact (Kd.C_below HR348_4.out HB.out) | (with_reducible refine Kd.C_alloc ?_ _) | (with_reducible refine Kd.C_drewN ?_ _) | (with_reducible refine Kd.C_drew ?_)))
          (case side4 => exact HC348_4.out)
          rintro e w38 ⟨rfl, hb⟩
          refine ⟨_, rfl, ?_⟩
          have n0_ := Aside0.mk (blk_below (g := gb345) (o := .cells #[.int .i64 a0_0, .string a0_1, .int .i64 a0_2, .int .i64 a0_3, .slice (some ad347) l0_4.length c0_4] 24 (0, 0)) (by (with_reducible repeat (first | refine blk_drewN ?_ _ | refine blk_drew ?_ | refine blk_alloc ?_ _)); exact BK345.out) hb)
          have n1_ := Aside0.mk (blk_below (g := gb346) (o := .cells #[.int .i64 a1_0, .string a1_1, .int .i64 a1_2, .int .i64 a1_3, .slice (some ad348) l1_4.length c1_4] 24 (0, 0)) (by (with_reducible repeat (first | refine blk_drewN ?_ _ | refine blk_drew ?_ | refine blk_alloc ?_ _)); exact BK346.out) hb)
          have n2_ := Aside0.mk (below_step (by repeat (first | (with_reducible first | exact HB.out | apply below_alloc | apply pw_below_drewN | apply below_drew1 | refine below_set ?_ GE345.out | refine below_set ?_ GE346.out) | exact HB.out)) hb)
          clear BK345
          clear BK346
          clear HB
          have BK345 := n0_
          have BK346 := n1_
          have HB := n2_
          clear n0_ n1_ n2_
          (try clear hb)
          (try clear hb2)
          (try clear hk)
          (try clear hi)
          refine hK.out _ _ ⟨(blk_cell BK345.out 0).trans rfl, (blk_cell BK345.out 1).trans rfl, (blk_cell BK345.out 2).trans rfl, (blk_cell BK345.out 3).trans rfl, (blk_cell BK345.out 4).trans rfl, (blk_cell BK346.out 0).trans rfl, (blk_cell BK346.out 1).trans rfl, (blk_cell BK346.out 2).trans rfl, (blk_cell BK346.out 3).trans rfl, (blk_cell BK346.out 4).trans rfl, ((HB.out.cell (World.block_lt_of_cell? w _ hw347_0)).trans hw347_0), ((HB.out.cell (World.block_lt_of_cell? w _ hw347_1)).trans hw347_1), ((HB.out.cell (World.block_lt_of_cell? w _ hw347_2)).trans hw347_2), ((HB.out.cell (World.block_lt_of_cell? w _ hw347_3)).trans hw347_3), ((HB.out.cell (World.block_lt_of_cell? w _ hw347_4)).trans hw347_4), ((HB.out.cell (World.block_lt_of_cell? w _ hw348_0)).trans hw348_0), ((HB.out.cell (World.block_lt_of_cell? w _ hw348_1)).trans hw348_1), ((HB.out.cell (World.block_lt_of_cell? w _ hw348_2)).trans hw348_2), ((HB.out.cell (World.block_lt_of_cell? w _ hw348_3)).trans hw348_3), ((HB.out.cell (World.block_lt_of_cell? w _ hw348_4)).trans hw348_4)⟩ (fun hHeld => ?_)
          clear hK K
          refine norm_ (a' := ?_) ?_ ?_
          rotate_left
          ·show Act.put _ (some 58) _ = _
           simp only [Act.put, List.setIfInBounds_toArray, List.set_cons_zero, List.set_cons_succ, i64_w, i32_w]
           rfl
          refine pure_ (i := 11) (N := some 59) (v := ?_) (a' := ?_) #[true, true, true, true, true, true, true, true, true, true, true, true] rfl rfl (any_of HT_.out (by kernel_rfl)) (fun _ _ _ h => h) (Or.inl ⟨by rfl, ?_⟩) ?_ ?_
          rotate_left
          ·intro w'
           go_simp
           with_reducible rfl
          rotate_left
          ·simp only [Act.put, List.setIfInBounds_toArray, List.set_cons_zero, List.set_cons_succ, i64_w, i32_w]
           rfl
          refine done_ (done_of HT_.out (by kernel_rfl)) ?_
          try go_wp2
          go_ret
          exact ⟨by first | rfl | (simp [errW_none, errW_some] <;> rfl) | (simp [*, errW_none, errW_some] <;> rfl) | (simp [IntKind.wrap_i64, wrap64]; done), by repeat (first | (with_reducible first | exact HB.out | apply below_alloc | apply pw_below_drewN | apply below_drew1 | refine below_set ?_ GE345.out | refine below_set ?_ GE346.out) | exact HB.out)⟩
        ·rw [if_neg c28] at H
         exact absurd H (by simp)
       ·rw [if_neg c27] at H
        exact absurd H (by simp)
      ·rw [if_neg c26] at H
       have c26b0 : decide (x5_2 < (l0_4.length : Int)) = false := decide_eq_false c26
       clear c26
       obtain rfl := Option.some.inj H
       have hnb39 := NB345_346.out
       have hnc39 := NB346_345.out
       have hcz40_0 : wr.cell? ⟨gb345, 0, none⟩ = some (.int .i64 a0_0) := (blk_cell BK345.out 0).trans rfl
       have hcz40_1 : wr.cell? ⟨gb345, 1, none⟩ = some (.string a0_1) := (blk_cell BK345.out 1).trans rfl
       have hcz40_2 : wr.cell? ⟨gb345, 2, none⟩ = some (.int .i64 a0_2) := (blk_cell BK345.out 2).trans rfl
       have hcz40_3 : wr.cell? ⟨gb345, 3, none⟩ = some (.int .i64 a0_3) := (blk_cell BK345.out 3).trans rfl
       have hcz40_4 : wr.cell? ⟨gb345, 4, none⟩ = some (.slice A0_4 l0_4.length c0_4) := (blk_cell BK345.out 4).trans rfl
       have hfz40_0 := blk_frozen BK345.out 0
       have hfz40_1 := blk_frozen BK345.out 1
       have hfz40_2 := blk_frozen BK345.out 2
       have hfz40_3 := blk_frozen BK345.out 3
       have hfz40_4 := blk_frozen BK345.out 4
       go_wp2
       go_ret
       exact ⟨by first | rfl | (simp [errW_none, errW_some] <;> rfl) | (simp [*, errW_none, errW_some] <;> rfl) | (simp [IntKind.wrap_i64, wrap64]; done), by repeat (first | (with_reducible first | exact HB.out | apply below_alloc | apply pw_below_drewN | apply below_drew1 | refine below_set ?_ GE345.out | refine below_set ?_ GE346.out) | exact HB.out)⟩

end Go.Proofs.Ytbheobngeocdfaa.PAll
