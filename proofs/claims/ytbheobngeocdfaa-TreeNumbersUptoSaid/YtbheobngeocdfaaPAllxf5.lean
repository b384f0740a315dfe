/- What the machine's calls come to, function by function: printed by a program of this session after the kit's print; Lean checks it. SLIM -/
import Derived.Test.YtbheobngeocdfaaPAllx0
import Derived.Test.YtbheobngeocdfaaPAllxf23
import Derived.Test.YtbheobngeocdfaaPAllxf28
import Derived.Test.YtbheobngeocdfaaPAllxf33
import Derived.Test.YtbheobngeocdfaaPAllxf11
import Derived.Test.YtbheobngeocdfaaPAllxf24
import Derived.Test.YtbheobngeocdfaaPAllxf25
import Derived.Test.YtbheobngeocdfaaPAllxf29
import Derived.Test.YtbheobngeocdfaaPAllxf34
import Derived.Test.YtbheobngeocdfaaPAllxf35
import Derived.Test.YtbheobngeocdfaaG1
import Derived.Test.YtbheobngeocdfaaH20
import Derived.Test.YtbheobngeocdfaaH22
namespace Go.Proofs.Ytbheobngeocdfaa.PAll
open Go.RowKit Go.Proofs.YtbheobngeocdfaaW.PrintWords Go.Proofs.YtbheobngeocdfaaW.PrintLast Go.Proofs.YtbheobngeocdfaaW.PrintMore
attribute [local go_sem] max2_int min2_int max_two min_two max_three min_three max_four min_four   -- for this text's walks alone
set_option linter.unusedVariables false
set_option linter.unusedSimpArgs false

/-! ### assessorlaw03_TreeNumbers: function 5 -/
def assessorlaw03_TreeNumbers.j0 : Nat → List Int → Int → Int → Bool → Int → ByteArray → Int → Int → List (S24) → Option (Bool)
 | 0, _, _, _, _, _, _, _, _, _ => none
 | k + 1, x1, x2, x3, x32, x351000, x351001, x351002, x351003, x351004 => if x32 = true then ((assessorlaw03_awake.f k).bind fun t352 => (some t352)) else ((tree_Get.f k x351000 x351001 x351002 x351003 x351004 x1).bind fun bt353 => ((assessorref03_Get.f k x351000 x351001 x351002 x351003 x351004 x1).bind fun bt362 => ((tree_Path.f x351000 x351001 x351002 x351003 x351004 x2).bind fun bt371 => ((assessorref03_Path.f x351000 x351001 x351002 x351003 x351004 x2).bind fun bt375 => ((tree_Number.f k x351000 x351001 x351002 x351003 x351004 x1).bind fun bt379 => ((assessorref03_Number.f k x351000 x351001 x351002 x351003 x351004 x1).bind fun bt381 => ((tree_Find.f x351000 x351001 x351002 x351003 x351004 x3).bind fun bt383 => ((assessorref03_Find.f k x351000 x351001 x351002 x351003 x351004 x3).bind fun bt385 => ((tree_Count.f x351000 x351001 x351002 x351003 x351004).bind fun t387 => ((assessorref03_Count.f k x351000 x351001 x351002 x351003 x351004).bind fun t388 => (if t387 = t388 then ((tree_Levels.f k x351000 x351001 x351002 x351003 x351004).bind fun t389 => ((assessorref03_Levels.f k x351000 x351001 x351002 x351003 x351004).bind fun t390 => (if t389 = t390 then (if (bt353.2.2.2.2.2 == bt362.2.2.2.2.2) = true then ((assessorref03_Equal.f k bt353.1 bt353.2.1 bt353.2.2.1 bt353.2.2.2.1 bt353.2.2.2.2.1 bt362.1 bt362.2.1 bt362.2.2.1 bt362.2.2.2.1 bt362.2.2.2.2.1).bind fun t391 => (if t391 = true then (if (bt371.2 == bt375.2) = true then ((assessorref01_Ints.f k bt371.1 bt375.1).bind fun t392 => (if t392 = true then (if bt379.1 = bt381.1 then (if (bt379.2 == bt381.2) = true then (if bt383.1 = bt385.1 then (if (bt383.2 == bt385.2) = true then ((assessorlaw03_awake.f k).bind fun t393 => (some t393)) else (none)) else (none)) else (none)) else (none)) else (none))) else (none)) else (none))) else (none)) else (none)))) else (none))))))))))))
def assessorlaw03_TreeNumbers.f (k : Nat) (a0_0 : Int) (a0_1 : ByteArray) (a0_2 : Int) (a0_3 : Int) (l0_4 : List (S24)) (l1 : List Int) (a2 : Int) (a3 : Int) : Option (Bool) := (assessorref03_Small.f k a0_0 a0_1 a0_2 a0_3 l0_4 150).bind fun t351 => (if t351 = true then (assessorlaw03_TreeNumbers.j0 k l1 a2 a3 (decide ((l1.length : Int) > 20)) a0_0 a0_1 a0_2 a0_3 l0_4) else (assessorlaw03_TreeNumbers.j0 k l1 a2 a3 true a0_0 a0_1 a0_2 a0_3 l0_4))
theorem assessorlaw03_TreeNumbers.mono_l : ∀ k, (∀ y0 y1 y2 y3 y4 y5 y6 y7 y8, LeO (assessorlaw03_TreeNumbers.j0 k y0 y1 y2 y3 y4 y5 y6 y7 y8) (assessorlaw03_TreeNumbers.j0 (k + 1) y0 y1 y2 y3 y4 y5 y6 y7 y8))
 | 0 => fun _ _ _ _ _ _ _ _ _ r h => by simp [assessorlaw03_TreeNumbers.j0] at h
 | k + 1 => by
  have ih0 := assessorlaw03_TreeNumbers.mono_l k
  ·intro y0 y1 y2 y3 y4 y5 y6 y7 y8
   unfold assessorlaw03_TreeNumbers.j0
   repeat' first
   | (with_reducible exact ih0 _ _ _ _ _ _ _ _ _)
   | (with_reducible exact assessorlaw03_awake.mono _)
   | (with_reducible exact assessorref01_Ints.mono _ _ _)
   | (with_reducible exact assessorref03_Count.mono _ _ _ _ _ _)
   | (with_reducible exact assessorref03_Equal.mono _ _ _ _ _ _ _ _ _ _ _)
   | (with_reducible exact assessorref03_Find.mono _ _ _ _ _ _ _)
   | (with_reducible exact assessorref03_Get.mono _ _ _ _ _ _ _)
   | (with_reducible exact assessorref03_Levels.mono _ _ _ _ _ _)
   | (with_reducible exact assessorref03_Number.mono _ _ _ _ _ _ _)
   | (with_reducible exact assessorref03_Small.mono _ _ _ _ _ _ _)
   | (with_reducible exact tree_Get.mono _ _ _ _ _ _ _)
   | (with_reducible exact tree_Levels.mono _ _ _ _ _ _)
   | (with_reducible exact tree_Number.mono _ _ _ _ _ _ _)
   | (with_reducible exact LeO.refl _)
   | (with_reducible exact LeO.none _)
   | (with_reducible refine LeO.ite ?_ ?_)
   | (with_reducible refine LeO.bind ?_ (fun _ => ?_))
   | exact ih0 _ _ _ _ _ _ _ _ _
   | exact assessorlaw03_awake.mono _
   | exact assessorref01_Ints.mono _ _ _
   | exact assessorref03_Count.mono _ _ _ _ _ _
   | exact assessorref03_Equal.mono _ _ _ _ _ _ _ _ _ _ _
   | exact assessorref03_Find.mono _ _ _ _ _ _ _
   | exact assessorref03_Get.mono _ _ _ _ _ _ _
   | exact assessorref03_Levels.mono _ _ _ _ _ _
   | exact assessorref03_Number.mono _ _ _ _ _ _ _
   | exact assessorref03_Small.mono _ _ _ _ _ _ _
   | exact tree_Get.mono _ _ _ _ _ _ _
   | exact tree_Levels.mono _ _ _ _ _ _
   | exact tree_Number.mono _ _ _ _ _ _ _
   | exact LeO.none _
   | refine LeO.ite ?_ ?_
   | refine LeO.bind ?_ (fun _ => ?_)
theorem assessorlaw03_TreeNumbers.mono : ∀ a0 a1 a2 a3 a4 a5 a6 a7 k, LeO (assessorlaw03_TreeNumbers.f k a0 a1 a2 a3 a4 a5 a6 a7) (assessorlaw03_TreeNumbers.f (k + 1) a0 a1 a2 a3 a4 a5 a6 a7) := by
 intro a0 a1 a2 a3 a4 a5 a6 a7 k
 have ih0 := assessorlaw03_TreeNumbers.mono_l k
 unfold assessorlaw03_TreeNumbers.f
 repeat' first
   | (with_reducible exact ih0 _ _ _ _ _ _ _ _ _)
   | (with_reducible exact assessorlaw03_awake.mono _)
   | (with_reducible exact assessorref01_Ints.mono _ _ _)
   | (with_reducible exact assessorref03_Count.mono _ _ _ _ _ _)
   | (with_reducible exact assessorref03_Equal.mono _ _ _ _ _ _ _ _ _ _ _)
   | (with_reducible exact assessorref03_Find.mono _ _ _ _ _ _ _)
   | (with_reducible exact assessorref03_Get.mono _ _ _ _ _ _ _)
   | (with_reducible exact assessorref03_Levels.mono _ _ _ _ _ _)
   | (with_reducible exact assessorref03_Number.mono _ _ _ _ _ _ _)
   | (with_reducible exact assessorref03_Small.mono _ _ _ _ _ _ _)
   | (with_reducible exact tree_Get.mono _ _ _ _ _ _ _)
   | (with_reducible exact tree_Levels.mono _ _ _ _ _ _)
   | (with_reducible exact tree_Number.mono _ _ _ _ _ _ _)
   | (with_reducible exact LeO.refl _)
   | (with_reducible exact LeO.none _)
   | (with_reducible refine LeO.ite ?_ ?_)
   | (with_reducible refine LeO.bind ?_ (fun _ => ?_))
   | exact ih0 _ _ _ _ _ _ _ _ _
   | exact assessorlaw03_awake.mono _
   | exact assessorref01_Ints.mono _ _ _
   | exact assessorref03_Count.mono _ _ _ _ _ _
   | exact assessorref03_Equal.mono _ _ _ _ _ _ _ _ _ _ _
   | exact assessorref03_Find.mono _ _ _ _ _ _ _
   | exact assessorref03_Get.mono _ _ _ _ _ _ _
   | exact assessorref03_Levels.mono _ _ _ _ _ _
   | exact assessorref03_Number.mono _ _ _ _ _ _ _
   | exact assessorref03_Small.mono _ _ _ _ _ _ _
   | exact tree_Get.mono _ _ _ _ _ _ _
   | exact tree_Levels.mono _ _ _ _ _ _
   | exact tree_Number.mono _ _ _ _ _ _ _
   | exact LeO.none _
   | refine LeO.ite ?_ ?_
   | refine LeO.bind ?_ (fun _ => ?_)
def assessorlaw03_TreeNumbers.T11 : Bool × List (List Nat × List Nat) := (true, [([], []), ([0], [0]), ([], []), ([2, 1], [2]), ([1, 3], [1, 3]), ([4, 3], [4]), ([5], [5]), ([6, 5, 5], [5, 6]), ([5], [5]), ([8, 7, 5], [5, 8]), ([7, 9, 5], [5, 7, 9]), ([5, 10], [5, 10]), ([11, 9], [11]), ([12], [12]), ([12], [12]), ([13, 14, 12], [12, 13, 14]), ([12, 15], [12, 15]), ([16, 12], [16]), ([17], [17]), ([17], [17]), ([18, 19, 17, 17], [17, 18, 19]), ([17, 20], [17, 20]), ([21, 20], [21]), ([22], [22]), ([22], [22]), ([23, 24, 22], [22, 23, 24]), ([22, 25], [22, 25]), ([26, 22], [26]), ([27], [27]), ([27], [27]), ([28, 29, 27, 27], [27, 28, 29]), ([27, 30], [27, 30]), ([31, 30], [31]), ([32], [32]), ([32], [32]), ([33, 34, 32], [32, 33, 34]), ([32, 35], [32, 35]), ([36, 32], [36]), ([37], [37]), ([37], [37]), ([38, 39, 37], [37, 38, 39]), ([37, 40], [37, 40]), ([41, 37], [41]), ([42], [42]), ([42], [42]), ([43, 44, 42], [42, 43, 44]), ([42, 45], [42, 45]), ([46, 42], [46]), ([47], [47]), ([47], [47]), ([48, 49, 47], [47, 48, 49]), ([47, 50], [47, 50]), ([51, 47], [51]), ([52, 52], [52]), ([52, 53], [52, 53]), ([54, 53, 0, 1, 2, 3, 4, 5, 6, 7, 8, 9, 10, 11, 12, 13, 14, 15, 16, 17, 18, 19, 20, 21, 22, 23, 24, 25, 26, 27, 28, 29, 30, 31, 32, 33, 34, 35, 36, 37, 38, 39, 40, 41, 42, 43, 44, 45, 46, 47, 48, 49, 50, 51, 52, 53, 54], [54])])
def assessorlaw03_TreeNumbers.B11 : List Nat := [0, 1, 0, 7, 15, 31, 63, 127, 63, 511, 1023, 2047, 4095, 8191, 8191, 32767, 65535, 131071, 262143, 262143, 1048575, 2097151, 4194303, 8388607, 8388607, 33554431, 67108863, 134217727, 268435455, 268435455, 1073741823, 2147483647, 4294967295, 8589934591, 8589934591, 34359738367, 68719476735, 137438953471, 274877906943, 274877906943, 1099511627775, 2199023255551, 4398046511103, 8796093022207, 8796093022207, 35184372088831, 70368744177663, 140737488355327, 281474976710655, 281474976710655, 1125899906842623, 2251799813685247, 4503599627370495, 9007199254740991, 18014398509481983, 36028797018963967]
theorem assessorlaw03_TreeNumbers.tab11 : rtab .any (opsOf Try.f5 11) = assessorlaw03_TreeNumbers.T11 := by kernel_rfl
theorem assessorlaw03_TreeNumbers.bits11 : waitsOk assessorlaw03_TreeNumbers.T11.2 assessorlaw03_TreeNumbers.B11 = true := by kernel_rfl
set_option maxHeartbeats 8000000 in
set_option maxRecDepth 100000 in
theorem assessorlaw03_TreeNumbers.calls (k : Nat) (a0_0 : Int) (a0_1 : ByteArray) (a0_2 : Int) (a0_3 : Int) (A0_4 : Option Addr) (c0_4 : Nat) (l0_4 : List (S24)) (A1 : Option Addr) (c1 : Nat) (l1 : List Int) (a2 : Int) (a3 : Int) (r : Bool) (w : World) (hr0_4 : Kd.C k24 w A0_4 l0_4.length l0_4) (hc0_4 : l0_4.length ≤ c0_4) (hr1 : Kd.C (Kd.int .i64) w A1 l1.length l1) (hc1 : l1.length ≤ c1) (h : assessorlaw03_TreeNumbers.f k a0_0 a0_1 a0_2 a0_3 l0_4 l1 a2 a3 = some r) :
  Calls Try.prog 5 #[.agg #[.int .i64 a0_0, .string a0_1, .int .i64 a0_2, .int .i64 a0_3, .slice A0_4 l0_4.length c0_4], .slice A1 l1.length c1, .int .i64 a2, .int .i64 a3] w fun e w' => e = .returned (.bool r) ∧ Below w.heap.size w w' := by
 have hu24 := Try.underlying24
 have HR0_4 := Aside0.mk hr0_4
 have HC0_4 := Aside0.mk hc0_4
 clear hr0_4 hc0_4
 have HR1 := Aside0.mk hr1
 have HC1 := Aside0.mk hc1
 clear hr1 hc1
 have HB := Aside0.mk (Below.refl w.heap.size w)
 have H : ((assessorref03_Small.f k a0_0 a0_1 a0_2 a0_3 l0_4 150).bind fun t351 => (if t351 = true then (assessorlaw03_TreeNumbers.j0 k l1 a2 a3 (decide ((l1.length : Int) > 20)) a0_0 a0_1 a0_2 a0_3 l0_4) else (assessorlaw03_TreeNumbers.j0 k l1 a2 a3 true a0_0 a0_1 a0_2 a0_3 l0_4))) = some r := h
 clear h
 have HC5 := Aside0.mk H
 clear H
 go_enter Try.func5, Try.ntmps5
 go_upto_region 1 with (first | ((with_reducible refine gate_dst (N := 4) rfl ?_); (try (refine gate_guard (by rfl) ?_; dsimp only)); refine box_event ?hg (N := 4) ?hd (cs := #[.int .i64 a0_0, .string a0_1, .int .i64 a0_2, .int .i64 a0_3, .slice A0_4 l0_4.length c0_4]) (t := 24) ?hr ?_; (case hd => rfl); (case hg => rfl); (case hr => first | (go_simp; done) | (go_simp; rfl)); intro gb350 hg w6 hbox hb; have n0_ := Aside0.mk (below_step (by repeat (first | (with_reducible first | exact HB.out | apply below_alloc | apply pw_below_drewN | apply below_drew1) | exact HB.out)) hb); have n1_ := Aside0.mk (hbox); have n2_ := Aside0.mk ((by rw [hg]; exact (below_size (by repeat (first | (with_reducible first | exact HB.out | apply below_alloc | apply pw_below_drewN | apply below_drew1) | exact HB.out))) : w.heap.size ≤ gb350)); have n3_ := Aside0.mk ((by rw [hg]; exact (below_size (by repeat (first | (with_reducible first | exact HB.out | apply below_alloc | apply pw_below_drewN | apply below_drew1) | exact HB.out))) : w.heap.size ≤ gb350)); clear HB; have HB := n0_; have BK350 := n1_; have GW350 := n2_; have GE350 := n3_; clear n0_ n1_ n2_ n3_; clear hb hbox hg))
 (try simp only [Act.put, List.setIfInBounds_toArray, List.set_cons_zero, List.set_cons_succ])
 go_cut [32] (fun v32 wc => ∃ (kq : Nat) (x32_4 : Bool), v32 = .bool x32_4 ∧ Aside0 (assessorlaw03_TreeNumbers.j0 kq l1 a2 a3 x32_4 a0_0 a0_1 a0_2 a0_3 l0_4 = some r) ∧ Aside0 (kq ≤ k) ∧ Aside0 (wc.heap[gb350]? = some (.cells #[.int .i64 a0_0, .string a0_1, .int .i64 a0_2, .int .i64 a0_3, (.slice A0_4 l0_4.length c0_4)] 24 (0, 0))) ∧ Aside0 (Below w.heap.size w wc))
 case first =>
  have H := HC5.out
  clear HC5
  replace H := Option.bind_eq_some_iff.mp H
  obtain ⟨t351, A70, H⟩ := H
  replace H : (if t351 = true then (assessorlaw03_TreeNumbers.j0 k l1 a2 a3 (decide ((l1.length : Int) > 20)) a0_0 a0_1 a0_2 a0_3 l0_4) else (assessorlaw03_TreeNumbers.j0 k l1 a2 a3 true a0_0 a0_1 a0_2 a0_3 l0_4)) = some r := H
  have A7 := Aside0.mk A70
  clear A70
  by_cases c8 : t351 = true
  ·subst c8
   have H1 : (assessorlaw03_TreeNumbers.j0 k l1 a2 a3 (decide ((l1.length : Int) > 20)) a0_0 a0_1 a0_2 a0_3 l0_4) = some r := by rw [if_pos rfl] at H; exact H
   clear H
   have H := H1
   clear H1
   have H' := Aside0.mk H
   clear H
   have hcz9_0 : w6.cell? ⟨gb350, 0, none⟩ = some (.int .i64 a0_0) := (blk_cell BK350.out 0).trans rfl
   have hcz9_1 : w6.cell? ⟨gb350, 1, none⟩ = some (.string a0_1) := (blk_cell BK350.out 1).trans rfl
   have hcz9_2 : w6.cell? ⟨gb350, 2, none⟩ = some (.int .i64 a0_2) := (blk_cell BK350.out 2).trans rfl
   have hcz9_3 : w6.cell? ⟨gb350, 3, none⟩ = some (.int .i64 a0_3) := (blk_cell BK350.out 3).trans rfl
   have hcz9_4 : w6.cell? ⟨gb350, 4, none⟩ = some (.slice A0_4 l0_4.length c0_4) := (blk_cell BK350.out 4).trans rfl
   have hfz9_0 := blk_frozen BK350.out 0
   have hfz9_1 := blk_frozen BK350.out 1
   have hfz9_2 := blk_frozen BK350.out 2
   have hfz9_3 := blk_frozen BK350.out 3
   have hfz9_4 := blk_frozen BK350.out 4
   go_wp2_with (first | ((with_reducible refine gate_callee (f := 10) rfl ?_); refine goesL_ (some 26) rfl rfl Try.func10 (by kernel_rfl) rfl #[.agg #[.int .i64 a0_0, .string a0_1, .int .i64 a0_2, .int .i64 a0_3, .slice A0_4 l0_4.length c0_4], .int .i64 150] rfl (by (try simp only [List.map_toArray, List.map_cons, List.map_nil]); first | done | rfl | (simp only [List.length_drop, List.length_take]; rfl)) ?_; (with_reducible refine (assessorref03_Small.calls k a0_0 a0_1 a0_2 a0_3 _ _ l0_4 150 true _ ?side1 ?side2 A7.out).mono ?_); (case side1 => repeat (first | exact (Kd.C_below HR0_4.out HB.out) | (with_reducible refine Kd.C_alloc ?_ _) | (with_reducible refine Kd.C_drewN ?_ _) | (with_reducible refine Kd.C_drew ?_))); (case side2 => exact HC0_4.out); rintro e w10 ⟨rfl, hb⟩; refine ⟨_, rfl, ?_⟩; have n0_ := Aside0.mk (blk_below (g := gb350) (o := .cells #[.int .i64 a0_0, .string a0_1, .int .i64 a0_2, .int .i64 a0_3, .slice A0_4 l0_4.length c0_4] 24 (0, 0)) (by (with_reducible repeat (first | refine blk_drewN ?_ _ | refine blk_drew ?_ | refine blk_alloc ?_ _)); exact BK350.out) hb); have n1_ := Aside0.mk (below_step (by repeat (first | (with_reducible first | exact HB.out | apply below_alloc | apply pw_below_drewN | apply below_drew1 | refine below_set ?_ GE350.out) | exact HB.out)) hb); clear BK350; clear HB; have BK350 := n0_; have HB := n1_; clear n0_ n1_; (try clear hb); (try clear hb2); (try clear hk); (try clear hi)))
   go_meet
   case rel => exact ⟨_, (decide ((l1.length : Int) > 20)), (by first | rfl | (simp; done) | (simp [*]; done)), H', ⟨by first | omega | exact Nat.le_refl _⟩, ⟨by (with_reducible repeat (first | refine blk_drewN ?_ _ | refine blk_drew ?_ | refine blk_alloc ?_ _)); exact BK350.out⟩, ⟨by repeat (first | (with_reducible first | exact HB.out | apply below_alloc | apply pw_below_drewN | apply below_drew1 | refine below_set ?_ GE350.out) | exact HB.out)⟩⟩
  ·replace c8 := Bool.eq_false_iff.mpr c8
   subst c8
   have H1 : (assessorlaw03_TreeNumbers.j0 k l1 a2 a3 true a0_0 a0_1 a0_2 a0_3 l0_4) = some r := by rw [if_neg (show ¬ (false = true) by decide)] at H; exact H
   clear H
   have H := H1
   clear H1
   have H' := Aside0.mk H
   clear H
   have hcz11_0 : w6.cell? ⟨gb350, 0, none⟩ = some (.int .i64 a0_0) := (blk_cell BK350.out 0).trans rfl
   have hcz11_1 : w6.cell? ⟨gb350, 1, none⟩ = some (.string a0_1) := (blk_cell BK350.out 1).trans rfl
   have hcz11_2 : w6.cell? ⟨gb350, 2, none⟩ = some (.int .i64 a0_2) := (blk_cell BK350.out 2).trans rfl
   have hcz11_3 : w6.cell? ⟨gb350, 3, none⟩ = some (.int .i64 a0_3) := (blk_cell BK350.out 3).trans rfl
   have hcz11_4 : w6.cell? ⟨gb350, 4, none⟩ = some (.slice A0_4 l0_4.length c0_4) := (blk_cell BK350.out 4).trans rfl
   have hfz11_0 := blk_frozen BK350.out 0
   have hfz11_1 := blk_frozen BK350.out 1
   have hfz11_2 := blk_frozen BK350.out 2
   have hfz11_3 := blk_frozen BK350.out 3
   have hfz11_4 := blk_frozen BK350.out 4
   go_wp2_with (first | ((with_reducible refine gate_callee (f := 10) rfl ?_); refine goesL_ (some 26) rfl rfl Try.func10 (by kernel_rfl) rfl #[.agg #[.int .i64 a0_0, .string a0_1, .int .i64 a0_2, .int .i64 a0_3, .slice A0_4 l0_4.length c0_4], .int .i64 150] rfl (by (try simp only [List.map_toArray, List.map_cons, List.map_nil]); first | done | rfl | (simp only [List.length_drop, List.length_take]; rfl)) ?_; (with_reducible refine (assessorref03_Small.calls k a0_0 a0_1 a0_2 a0_3 _ _ l0_4 150 false _ ?side1 ?side2 A7.out).mono ?_); (case side1 => repeat (first | exact (Kd.C_below HR0_4.out HB.out) | (with_reducible refine Kd.C_alloc ?_ _) | (with_reducible refine Kd.C_drewN ?_ _) | (with_reducible refine Kd.C_drew ?_))); (case side2 => exact HC0_4.out); rintro e w12 ⟨rfl, hb⟩; refine ⟨_, rfl, ?_⟩; have n0_ := Aside0.mk (blk_below (g := gb350) (o := .cells #[.int .i64 a0_0, .string a0_1, .int .i64 a0_2, .int .i64 a0_3, .slice A0_4 l0_4.length c0_4] 24 (0, 0)) (by (with_reducible repeat (first | refine blk_drewN ?_ _ | refine blk_drew ?_ | refine blk_alloc ?_ _)); exact BK350.out) hb); have n1_ := Aside0.mk (below_step (by repeat (first | (with_reducible first | exact HB.out | apply below_alloc | apply pw_below_drewN | apply below_drew1 | refine below_set ?_ GE350.out) | exact HB.out)) hb); clear BK350; clear HB; have BK350 := n0_; have HB := n1_; clear n0_ n1_; (try clear hb); (try clear hb2); (try clear hk); (try clear hi)))
   go_meet
   case rel => exact ⟨_, (true), (by first | rfl | (simp; done) | (simp [*]; done)), H', ⟨by first | omega | exact Nat.le_refl _⟩, ⟨by (with_reducible repeat (first | refine blk_drewN ?_ _ | refine blk_drew ?_ | refine blk_alloc ?_ _)); exact BK350.out⟩, ⟨by repeat (first | (with_reducible first | exact HB.out | apply below_alloc | apply pw_below_drewN | apply below_drew1 | refine below_set ?_ GE350.out) | exact HB.out)⟩⟩
 case rest =>
  clear HC5
  try clear c1
  try clear p2
  try clear c5
  try clear c8
  try clear c10
  try clear hcz11_0
  try clear hcz11_1
  try clear hcz11_2
  try clear hcz11_3
  try clear hcz11_4
  try clear hcz9_0
  try clear hcz9_1
  try clear hcz9_2
  try clear hcz9_3
  try clear hcz9_4
  try clear hfz11_0
  try clear hfz11_1
  try clear hfz11_2
  try clear hfz11_3
  try clear hfz11_4
  try clear hfz9_0
  try clear hfz9_1
  try clear hfz9_2
  try clear hfz9_3
  try clear hfz9_4
  obtain ⟨kq, x32_4, rfl, HA, HJ4, BK350, HB⟩ := hcut
  cases kq with
  | zero => exact absurd HA.out (by simp [assessorlaw03_TreeNumbers.j0])
  | succ kj4 =>
   have H := HA.out
   clear HA
   simp only [assessorlaw03_TreeNumbers.j0] at H
   by_cases c13 : x32_4 = true
   ·subst c13
    have H1 : ((assessorlaw03_awake.f kj4).bind fun t352 => (some t352)) = some r := by rw [if_pos rfl] at H; exact H
    clear H
    have H := H1
    clear H1
    replace H := Option.bind_eq_some_iff.mp H
    obtain ⟨t352, A140, H⟩ := H
    replace H : (some t352) = some r := H
    have A14 := Aside0.mk A140
    clear A140
    obtain rfl := Option.some.inj H
    go_wp2_with (first | ((with_reducible refine gate_callee (f := 11) rfl ?_); refine goesL_ (some 33) rfl rfl Try.func11 (by kernel_rfl) rfl #[] rfl (by (try simp only [List.map_toArray, List.map_cons, List.map_nil]); first | done | rfl | (simp only [List.length_drop, List.length_take]; rfl)) ?_; (with_reducible refine (assessorlaw03_awake.calls kj4  t352 _ A14.out).mono ?_); rintro e w15 ⟨rfl, hb⟩; refine ⟨_, rfl, ?_⟩; have n0_ := Aside0.mk (blk_below (g := gb350) (o := .cells #[.int .i64 a0_0, .string a0_1, .int .i64 a0_2, .int .i64 a0_3, .slice A0_4 l0_4.length c0_4] 24 (0, 0)) (by (with_reducible repeat (first | refine blk_drewN ?_ _ | refine blk_drew ?_ | refine blk_alloc ?_ _)); exact BK350.out) hb); have n1_ := Aside0.mk (below_step (by repeat (first | (with_reducible first | exact HB.out | apply below_alloc | apply pw_below_drewN | apply below_drew1 | refine below_set ?_ GE350.out) | exact HB.out)) hb); clear BK350; clear HB; have BK350 := n0_; have HB := n1_; clear n0_ n1_; (try clear hb); (try clear hb2); (try clear hk); (try clear hi)))
    go_ret
    exact ⟨by first | rfl | (simp [errW_none, errW_some] <;> rfl) | (simp [*, errW_none, errW_some] <;> rfl) | (simp [IntKind.wrap_i64, wrap64]; done), by repeat (first | (with_reducible first | exact HB.out | apply below_alloc | apply pw_below_drewN | apply below_drew1 | refine below_set ?_ GE350.out) | exact HB.out)⟩
   ·replace c13 := Bool.eq_false_iff.mpr c13
    subst c13
    have H1 : ((tree_Get.f kj4 a0_0 a0_1 a0_2 a0_3 l0_4 l1).bind fun bt353 => ((assessorref03_Get.f kj4 a0_0 a0_1 a0_2 a0_3 l0_4 l1).bind fun bt362 => ((tree_Path.f a0_0 a0_1 a0_2 a0_3 l0_4 a2).bind fun bt371 => ((assessorref03_Path.f a0_0 a0_1 a0_2 a0_3 l0_4 a2).bind fun bt375 => ((tree_Number.f kj4 a0_0 a0_1 a0_2 a0_3 l0_4 l1).bind fun bt379 => ((assessorref03_Number.f kj4 a0_0 a0_1 a0_2 a0_3 l0_4 l1).bind fun bt381 => ((tree_Find.f a0_0 a0_1 a0_2 a0_3 l0_4 a3).bind fun bt383 => ((assessorref03_Find.f kj4 a0_0 a0_1 a0_2 a0_3 l0_4 a3).bind fun bt385 => ((tree_Count.f a0_0 a0_1 a0_2 a0_3 l0_4).bind fun t387 => ((assessorref03_Count.f kj4 a0_0 a0_1 a0_2 a0_3 l0_4).bind fun t388 => (if t387 = t388 then ((tree_Levels.f kj4 a0_0 a0_1 a0_2 a0_3 l0_4).bind fun t389 => ((assessorref03_Levels.f kj4 a0_0 a0_1 a0_2 a0_3 l0_4).bind fun t390 => (if t389 = t390 then (if (bt353.2.2.2.2.2 == bt362.2.2.2.2.2) = true then ((assessorref03_Equal.f kj4 bt353.1 bt353.2.1 bt353.2.2.1 bt353.2.2.2.1 bt353.2.2.2.2.1 bt362.1 bt362.2.1 bt362.2.2.1 bt362.2.2.2.1 bt362.2.2.2.2.1).bind fun t391 => (if t391 = true then (if (bt371.2 == bt375.2) = true then ((assessorref01_Ints.f kj4 bt371.1 bt375.1).bind fun t392 => (if t392 = true then (if bt379.1 = bt381.1 then (if (bt379.2 == bt381.2) = true then (if bt383.1 = bt385.1 then (if (bt383.2 == bt385.2) = true then ((assessorlaw03_awake.f kj4).bind fun t393 => (some t393)) else (none)) else (none)) else (none)) else (none)) else (none))) else (none)) else (none))) else (none)) else (none)))) else (none)))))))))))) = some r := by rw [if_neg (show ¬ (false = true) by decide)] at H; exact H
    clear H
    have H := H1
    clear H1
    replace H := Option.bind_eq_some_iff.mp H
    obtain ⟨⟨t353, t354, t355, t356, t357, t360⟩, A160, H⟩ := H
    replace H : ((assessorref03_Get.f kj4 a0_0 a0_1 a0_2 a0_3 l0_4 l1).bind fun bt362 => ((tree_Path.f a0_0 a0_1 a0_2 a0_3 l0_4 a2).bind fun bt371 => ((assessorref03_Path.f a0_0 a0_1 a0_2 a0_3 l0_4 a2).bind fun bt375 => ((tree_Number.f kj4 a0_0 a0_1 a0_2 a0_3 l0_4 l1).bind fun bt379 => ((assessorref03_Number.f kj4 a0_0 a0_1 a0_2 a0_3 l0_4 l1).bind fun bt381 => ((tree_Find.f a0_0 a0_1 a0_2 a0_3 l0_4 a3).bind fun bt383 => ((assessorref03_Find.f kj4 a0_0 a0_1 a0_2 a0_3 l0_4 a3).bind fun bt385 => ((tree_Count.f a0_0 a0_1 a0_2 a0_3 l0_4).bind fun t387 => ((assessorref03_Count.f kj4 a0_0 a0_1 a0_2 a0_3 l0_4).bind fun t388 => (if t387 = t388 then ((tree_Levels.f kj4 a0_0 a0_1 a0_2 a0_3 l0_4).bind fun t389 => ((assessorref03_Levels.f kj4 a0_0 a0_1 a0_2 a0_3 l0_4).bind fun t390 => (if t389 = t390 then (if (t360 == bt362.2.2.2.2.2) = true then ((assessorref03_Equal.f kj4 t353 t354 t355 t356 t357 bt362.1 bt362.2.1 bt362.2.2.1 bt362.2.2.2.1 bt362.2.2.2.2.1).bind fun t391 => (if t391 = true then (if (bt371.2 == bt375.2) = true then ((assessorref01_Ints.f kj4 bt371.1 bt375.1).bind fun t392 => (if t392 = true then (if bt379.1 = bt381.1 then (if (bt379.2 == bt381.2) = true then (if bt383.1 = bt385.1 then (if (bt383.2 == bt385.2) = true then ((assessorlaw03_awake.f kj4).bind fun t393 => (some t393)) else (none)) else (none)) else (none)) else (none)) else (none))) else (none)) else (none))) else (none)) else (none)))) else (none))))))))))) = some r := H
    have A16 := Aside0.mk A160
    clear A160
    replace H := Option.bind_eq_some_iff.mp H
    obtain ⟨⟨t362, t363, t364, t365, t366, t369⟩, A170, H⟩ := H
    replace H : ((tree_Path.f a0_0 a0_1 a0_2 a0_3 l0_4 a2).bind fun bt371 => ((assessorref03_Path.f a0_0 a0_1 a0_2 a0_3 l0_4 a2).bind fun bt375 => ((tree_Number.f kj4 a0_0 a0_1 a0_2 a0_3 l0_4 l1).bind fun bt379 => ((assessorref03_Number.f kj4 a0_0 a0_1 a0_2 a0_3 l0_4 l1).bind fun bt381 => ((tree_Find.f a0_0 a0_1 a0_2 a0_3 l0_4 a3).bind fun bt383 => ((assessorref03_Find.f kj4 a0_0 a0_1 a0_2 a0_3 l0_4 a3).bind fun bt385 => ((tree_Count.f a0_0 a0_1 a0_2 a0_3 l0_4).bind fun t387 => ((assessorref03_Count.f kj4 a0_0 a0_1 a0_2 a0_3 l0_4).bind fun t388 => (if t387 = t388 then ((tree_Levels.f kj4 a0_0 a0_1 a0_2 a0_3 l0_4).bind fun t389 => ((assessorref03_Levels.f kj4 a0_0 a0_1 a0_2 a0_3 l0_4).bind fun t390 => (if t389 = t390 then (if (t360 == t369) = true then ((assessorref03_Equal.f kj4 t353 t354 t355 t356 t357 t362 t363 t364 t365 t366).bind fun t391 => (if t391 = true then (if (bt371.2 == bt375.2) = true then ((assessorref01_Ints.f kj4 bt371.1 bt375.1).bind fun t392 => (if t392 = true then (if bt379.1 = bt381.1 then (if (bt379.2 == bt381.2) = true then (if bt383.1 = bt385.1 then (if (bt383.2 == bt385.2) = true then ((assessorlaw03_awake.f kj4).bind fun t393 => (some t393)) else (none)) else (none)) else (none)) else (none)) else (none))) else (none)) else (none))) else (none)) else (none)))) else (none)))))))))) = some r := H
    have A17 := Aside0.mk A170
    clear A170
    replace H := Option.bind_eq_some_iff.mp H
    obtain ⟨⟨t371, t374⟩, A180, H⟩ := H
    replace H : ((assessorref03_Path.f a0_0 a0_1 a0_2 a0_3 l0_4 a2).bind fun bt375 => ((tree_Number.f kj4 a0_0 a0_1 a0_2 a0_3 l0_4 l1).bind fun bt379 => ((assessorref03_Number.f kj4 a0_0 a0_1 a0_2 a0_3 l0_4 l1).bind fun bt381 => ((tree_Find.f a0_0 a0_1 a0_2 a0_3 l0_4 a3).bind fun bt383 => ((assessorref03_Find.f kj4 a0_0 a0_1 a0_2 a0_3 l0_4 a3).bind fun bt385 => ((tree_Count.f a0_0 a0_1 a0_2 a0_3 l0_4).bind fun t387 => ((assessorref03_Count.f kj4 a0_0 a0_1 a0_2 a0_3 l0_4).bind fun t388 => (if t387 = t388 then ((tree_Levels.f kj4 a0_0 a0_1 a0_2 a0_3 l0_4).bind fun t389 => ((assessorref03_Levels.f kj4 a0_0 a0_1 a0_2 a0_3 l0_4).bind fun t390 => (if t389 = t390 then (if (t360 == t369) = true then ((assessorref03_Equal.f kj4 t353 t354 t355 t356 t357 t362 t363 t364 t365 t366).bind fun t391 => (if t391 = true then (if (t374 == bt375.2) = true then ((assessorref01_Ints.f kj4 t371 bt375.1).bind fun t392 => (if t392 = true then (if bt379.1 = bt381.1 then (if (bt379.2 == bt381.2) = true then (if bt383.1 = bt385.1 then (if (bt383.2 == bt385.2) = true then ((assessorlaw03_awake.f kj4).bind fun t393 => (some t393)) else (none)) else (none)) else (none)) else (none)) else (none))) else (none)) else (none))) else (none)) else (none)))) else (none))))))))) = some r := H
    have A18 := Aside0.mk A180
    clear A180
    replace H := Option.bind_eq_some_iff.mp H
    obtain ⟨⟨t375, t378⟩, A190, H⟩ := H
    replace H : ((tree_Number.f kj4 a0_0 a0_1 a0_2 a0_3 l0_4 l1).bind fun bt379 => ((assessorref03_Number.f kj4 a0_0 a0_1 a0_2 a0_3 l0_4 l1).bind fun bt381 => ((tree_Find.f a0_0 a0_1 a0_2 a0_3 l0_4 a3).bind fun bt383 => ((assessorref03_Find.f kj4 a0_0 a0_1 a0_2 a0_3 l0_4 a3).bind fun bt385 => ((tree_Count.f a0_0 a0_1 a0_2 a0_3 l0_4).bind fun t387 => ((assessorref03_Count.f kj4 a0_0 a0_1 a0_2 a0_3 l0_4).bind fun t388 => (if t387 = t388 then ((tree_Levels.f kj4 a0_0 a0_1 a0_2 a0_3 l0_4).bind fun t389 => ((assessorref03_Levels.f kj4 a0_0 a0_1 a0_2 a0_3 l0_4).bind fun t390 => (if t389 = t390 then (if (t360 == t369) = true then ((assessorref03_Equal.f kj4 t353 t354 t355 t356 t357 t362 t363 t364 t365 t366).bind fun t391 => (if t391 = true then (if (t374 == t378) = true then ((assessorref01_Ints.f kj4 t371 t375).bind fun t392 => (if t392 = true then (if bt379.1 = bt381.1 then (if (bt379.2 == bt381.2) = true then (if bt383.1 = bt385.1 then (if (bt383.2 == bt385.2) = true then ((assessorlaw03_awake.f kj4).bind fun t393 => (some t393)) else (none)) else (none)) else (none)) else (none)) else (none))) else (none)) else (none))) else (none)) else (none)))) else (none)))))))) = some r := H
    have A19 := Aside0.mk A190
    clear A190
    replace H := Option.bind_eq_some_iff.mp H
    obtain ⟨⟨t379, t380⟩, A200, H⟩ := H
    replace H : ((assessorref03_Number.f kj4 a0_0 a0_1 a0_2 a0_3 l0_4 l1).bind fun bt381 => ((tree_Find.f a0_0 a0_1 a0_2 a0_3 l0_4 a3).bind fun bt383 => ((assessorref03_Find.f kj4 a0_0 a0_1 a0_2 a0_3 l0_4 a3).bind fun bt385 => ((tree_Count.f a0_0 a0_1 a0_2 a0_3 l0_4).bind fun t387 => ((assessorref03_Count.f kj4 a0_0 a0_1 a0_2 a0_3 l0_4).bind fun t388 => (if t387 = t388 then ((tree_Levels.f kj4 a0_0 a0_1 a0_2 a0_3 l0_4).bind fun t389 => ((assessorref03_Levels.f kj4 a0_0 a0_1 a0_2 a0_3 l0_4).bind fun t390 => (if t389 = t390 then (if (t360 == t369) = true then ((assessorref03_Equal.f kj4 t353 t354 t355 t356 t357 t362 t363 t364 t365 t366).bind fun t391 => (if t391 = true then (if (t374 == t378) = true then ((assessorref01_Ints.f kj4 t371 t375).bind fun t392 => (if t392 = true then (if t379 = bt381.1 then (if (t380 == bt381.2) = true then (if bt383.1 = bt385.1 then (if (bt383.2 == bt385.2) = true then ((assessorlaw03_awake.f kj4).bind fun t393 => (some t393)) else (none)) else (none)) else (none)) else (none)) else (none))) else (none)) else (none))) else (none)) else (none)))) else (none))))))) = some r := H
    have A20 := Aside0.mk A200
    clear A200
    replace H := Option.bind_eq_some_iff.mp H
    obtain ⟨⟨t381, t382⟩, A210, H⟩ := H
    replace H : ((tree_Find.f a0_0 a0_1 a0_2 a0_3 l0_4 a3).bind fun bt383 => ((assessorref03_Find.f kj4 a0_0 a0_1 a0_2 a0_3 l0_4 a3).bind fun bt385 => ((tree_Count.f a0_0 a0_1 a0_2 a0_3 l0_4).bind fun t387 => ((assessorref03_Count.f kj4 a0_0 a0_1 a0_2 a0_3 l0_4).bind fun t388 => (if t387 = t388 then ((tree_Levels.f kj4 a0_0 a0_1 a0_2 a0_3 l0_4).bind fun t389 => ((assessorref03_Levels.f kj4 a0_0 a0_1 a0_2 a0_3 l0_4).bind fun t390 => (if t389 = t390 then (if (t360 == t369) = true then ((assessorref03_Equal.f kj4 t353 t354 t355 t356 t357 t362 t363 t364 t365 t366).bind fun t391 => (if t391 = true then (if (t374 == t378) = true then ((assessorref01_Ints.f kj4 t371 t375).bind fun t392 => (if t392 = true then (if t379 = t381 then (if (t380 == t382) = true then (if bt383.1 = bt385.1 then (if (bt383.2 == bt385.2) = true then ((assessorlaw03_awake.f kj4).bind fun t393 => (some t393)) else (none)) else (none)) else (none)) else (none)) else (none))) else (none)) else (none))) else (none)) else (none)))) else (none)))))) = some r := H
    have A21 := Aside0.mk A210
    clear A210
    replace H := Option.bind_eq_some_iff.mp H
    obtain ⟨⟨t383, t384⟩, A220, H⟩ := H
    replace H : ((assessorref03_Find.f kj4 a0_0 a0_1 a0_2 a0_3 l0_4 a3).bind fun bt385 => ((tree_Count.f a0_0 a0_1 a0_2 a0_3 l0_4).bind fun t387 => ((assessorref03_Count.f kj4 a0_0 a0_1 a0_2 a0_3 l0_4).bind fun t388 => (if t387 = t388 then ((tree_Levels.f kj4 a0_0 a0_1 a0_2 a0_3 l0_4).bind fun t389 => ((assessorref03_Levels.f kj4 a0_0 a0_1 a0_2 a0_3 l0_4).bind fun t390 => (if t389 = t390 then (if (t360 == t369) = true then ((assessorref03_Equal.f kj4 t353 t354 t355 t356 t357 t362 t363 t364 t365 t366).bind fun t391 => (if t391 = true then (if (t374 == t378) = true then ((assessorref01_Ints.f kj4 t371 t375).bind fun t392 => (if t392 = true then (if t379 = t381 then (if (t380 == t382) = true then (if t383 = bt385.1 then (if (t384 == bt385.2) = true then ((assessorlaw03_awake.f kj4).bind fun t393 => (some t393)) else (none)) else (none)) else (none)) else (none)) else (none))) else (none)) else (none))) else (none)) else (none)))) else (none))))) = some r := H
    have A22 := Aside0.mk A220
    clear A220
    replace H := Option.bind_eq_some_iff.mp H
    obtain ⟨⟨t385, t386⟩, A230, H⟩ := H
    replace H : ((tree_Count.f a0_0 a0_1 a0_2 a0_3 l0_4).bind fun t387 => ((assessorref03_Count.f kj4 a0_0 a0_1 a0_2 a0_3 l0_4).bind fun t388 => (if t387 = t388 then ((tree_Levels.f kj4 a0_0 a0_1 a0_2 a0_3 l0_4).bind fun t389 => ((assessorref03_Levels.f kj4 a0_0 a0_1 a0_2 a0_3 l0_4).bind fun t390 => (if t389 = t390 then (if (t360 == t369) = true then ((assessorref03_Equal.f kj4 t353 t354 t355 t356 t357 t362 t363 t364 t365 t366).bind fun t391 => (if t391 = true then (if (t374 == t378) = true then ((assessorref01_Ints.f kj4 t371 t375).bind fun t392 => (if t392 = true then (if t379 = t381 then (if (t380 == t382) = true then (if t383 = t385 then (if (t384 == t386) = true then ((assessorlaw03_awake.f kj4).bind fun t393 => (some t393)) else (none)) else (none)) else (none)) else (none)) else (none))) else (none)) else (none))) else (none)) else (none)))) else (none)))) = some r := H
    have A23 := Aside0.mk A230
    clear A230
    replace H := Option.bind_eq_some_iff.mp H
    obtain ⟨t387, A240, H⟩ := H
    replace H : ((assessorref03_Count.f kj4 a0_0 a0_1 a0_2 a0_3 l0_4).bind fun t388 => (if t387 = t388 then ((tree_Levels.f kj4 a0_0 a0_1 a0_2 a0_3 l0_4).bind fun t389 => ((assessorref03_Levels.f kj4 a0_0 a0_1 a0_2 a0_3 l0_4).bind fun t390 => (if t389 = t390 then (if (t360 == t369) = true then ((assessorref03_Equal.f kj4 t353 t354 t355 t356 t357 t362 t363 t364 t365 t366).bind fun t391 => (if t391 = true then (if (t374 == t378) = true then ((assessorref01_Ints.f kj4 t371 t375).bind fun t392 => (if t392 = true then (if t379 = t381 then (if (t380 == t382) = true then (if t383 = t385 then (if (t384 == t386) = true then ((assessorlaw03_awake.f kj4).bind fun t393 => (some t393)) else (none)) else (none)) else (none)) else (none)) else (none))) else (none)) else (none))) else (none)) else (none)))) else (none))) = some r := H
    have A24 := Aside0.mk A240
    clear A240
    replace H := Option.bind_eq_some_iff.mp H
    obtain ⟨t388, A250, H⟩ := H
    replace H : (if t387 = t388 then ((tree_Levels.f kj4 a0_0 a0_1 a0_2 a0_3 l0_4).bind fun t389 => ((assessorref03_Levels.f kj4 a0_0 a0_1 a0_2 a0_3 l0_4).bind fun t390 => (if t389 = t390 then (if (t360 == t369) = true then ((assessorref03_Equal.f kj4 t353 t354 t355 t356 t357 t362 t363 t364 t365 t366).bind fun t391 => (if t391 = true then (if (t374 == t378) = true then ((assessorref01_Ints.f kj4 t371 t375).bind fun t392 => (if t392 = true then (if t379 = t381 then (if (t380 == t382) = true then (if t383 = t385 then (if (t384 == t386) = true then ((assessorlaw03_awake.f kj4).bind fun t393 => (some t393)) else (none)) else (none)) else (none)) else (none)) else (none))) else (none)) else (none))) else (none)) else (none)))) else (none)) = some r := H
    have A25 := Aside0.mk A250
    clear A250
    by_cases c26 : t387 = t388
    ·rw [if_pos c26] at H
     have c26b0 : (t387 == t388) = true := beq_iff_eq.mpr c26
     have c26b1 : (t387 != t388) = false := bne_eq_false_iff_eq.mpr c26
     clear c26
     replace H := Option.bind_eq_some_iff.mp H
     obtain ⟨t389, A270, H⟩ := H
     replace H : ((assessorref03_Levels.f kj4 a0_0 a0_1 a0_2 a0_3 l0_4).bind fun t390 => (if t389 = t390 then (if (t360 == t369) = true then ((assessorref03_Equal.f kj4 t353 t354 t355 t356 t357 t362 t363 t364 t365 t366).bind fun t391 => (if t391 = true then (if (t374 == t378) = true then ((assessorref01_Ints.f kj4 t371 t375).bind fun t392 => (if t392 = true then (if t379 = t381 then (if (t380 == t382) = true then (if t383 = t385 then (if (t384 == t386) = true then ((assessorlaw03_awake.f kj4).bind fun t393 => (some t393)) else (none)) else (none)) else (none)) else (none)) else (none))) else (none)) else (none))) else (none)) else (none))) = some r := H
     have A27 := Aside0.mk A270
     clear A270
     replace H := Option.bind_eq_some_iff.mp H
     obtain ⟨t390, A280, H⟩ := H
     replace H : (if t389 = t390 then (if (t360 == t369) = true then ((assessorref03_Equal.f kj4 t353 t354 t355 t356 t357 t362 t363 t364 t365 t366).bind fun t391 => (if t391 = true then (if (t374 == t378) = true then ((assessorref01_Ints.f kj4 t371 t375).bind fun t392 => (if t392 = true then (if t379 = t381 then (if (t380 == t382) = true then (if t383 = t385 then (if (t384 == t386) = true then ((assessorlaw03_awake.f kj4).bind fun t393 => (some t393)) else (none)) else (none)) else (none)) else (none)) else (none))) else (none)) else (none))) else (none)) else (none)) = some r := H
     have A28 := Aside0.mk A280
     clear A280
     by_cases c29 : t389 = t390
     ·rw [if_pos c29] at H
      have c29b0 : (t389 == t390) = true := beq_iff_eq.mpr c29
      have c29b1 : (t389 != t390) = false := bne_eq_false_iff_eq.mpr c29
      clear c29
      by_cases c30 : (t360 == t369) = true
      ·rw [if_pos c30] at H
       have c30b0 : (t360 == t369) = true := c30
       (try (have c30b1 : decide (t360 = t369) = true := by simpa using c30))
       (try (have c30b2 : (t360 == t369) = true := by simpa using c30))
       clear c30
       replace H := Option.bind_eq_some_iff.mp H
       obtain ⟨t391, A310, H⟩ := H
       replace H : (if t391 = true then (if (t374 == t378) = true then ((assessorref01_Ints.f kj4 t371 t375).bind fun t392 => (if t392 = true then (if t379 = t381 then (if (t380 == t382) = true then (if t383 = t385 then (if (t384 == t386) = true then ((assessorlaw03_awake.f kj4).bind fun t393 => (some t393)) else (none)) else (none)) else (none)) else (none)) else (none))) else (none)) else (none)) = some r := H
       have A31 := Aside0.mk A310
       clear A310
       by_cases c32 : t391 = true
       ·subst c32
        have H1 : (if (t374 == t378) = true then ((assessorref01_Ints.f kj4 t371 t375).bind fun t392 => (if t392 = true then (if t379 = t381 then (if (t380 == t382) = true then (if t383 = t385 then (if (t384 == t386) = true then ((assessorlaw03_awake.f kj4).bind fun t393 => (some t393)) else (none)) else (none)) else (none)) else (none)) else (none))) else (none)) = some r := by rw [if_pos rfl] at H; exact H
        clear H
        have H := H1
        clear H1
        by_cases c33 : (t374 == t378) = true
        ·rw [if_pos c33] at H
         have c33b0 : (t374 == t378) = true := c33
         (try (have c33b1 : decide (t374 = t378) = true := by simpa using c33))
         (try (have c33b2 : (t374 == t378) = true := by simpa using c33))
         clear c33
         replace H := Option.bind_eq_some_iff.mp H
         obtain ⟨t392, A340, H⟩ := H
         replace H : (if t392 = true then (if t379 = t381 then (if (t380 == t382) = true then (if t383 = t385 then (if (t384 == t386) = true then ((assessorlaw03_awake.f kj4).bind fun t393 => (some t393)) else (none)) else (none)) else (none)) else (none)) else (none)) = some r := H
         have A34 := Aside0.mk A340
         clear A340
         by_cases c35 : t392 = true
         ·subst c35
          have H1 : (if t379 = t381 then (if (t380 == t382) = true then (if t383 = t385 then (if (t384 == t386) = true then ((assessorlaw03_awake.f kj4).bind fun t393 => (some t393)) else (none)) else (none)) else (none)) else (none)) = some r := by rw [if_pos rfl] at H; exact H
          clear H
          have H := H1
          clear H1
          by_cases c36 : t379 = t381
          ·rw [if_pos c36] at H
           have c36b0 : (t379 == t381) = true := beq_iff_eq.mpr c36
           have c36b1 : (t379 != t381) = false := bne_eq_false_iff_eq.mpr c36
           clear c36
           by_cases c37 : (t380 == t382) = true
           ·rw [if_pos c37] at H
            have c37b0 : (t380 == t382) = true := c37
            (try (have c37b1 : decide (t380 = t382) = true := by simpa using c37))
            (try (have c37b2 : (t380 == t382) = true := by simpa using c37))
            clear c37
            by_cases c38 : t383 = t385
            ·rw [if_pos c38] at H
             have c38b0 : (t383 == t385) = true := beq_iff_eq.mpr c38
             have c38b1 : (t383 != t385) = false := bne_eq_false_iff_eq.mpr c38
             clear c38
             by_cases c39 : (t384 == t386) = true
             ·rw [if_pos c39] at H
              have c39b0 : (t384 == t386) = true := c39
              (try (have c39b1 : decide (t384 = t386) = true := by simpa using c39))
              (try (have c39b2 : (t384 == t386) = true := by simpa using c39))
              clear c39
              replace H := Option.bind_eq_some_iff.mp H
              obtain ⟨t393, A400, H⟩ := H
              replace H : (some t393) = some r := H
              have A40 := Aside0.mk A400
              clear A400
              obtain rfl := Option.some.inj H
              have hcz41_0 : wc.cell? ⟨gb350, 0, none⟩ = some (.int .i64 a0_0) := (blk_cell BK350.out 0).trans rfl
              have hcz41_1 : wc.cell? ⟨gb350, 1, none⟩ = some (.string a0_1) := (blk_cell BK350.out 1).trans rfl
              have hcz41_2 : wc.cell? ⟨gb350, 2, none⟩ = some (.int .i64 a0_2) := (blk_cell BK350.out 2).trans rfl
              have hcz41_3 : wc.cell? ⟨gb350, 3, none⟩ = some (.int .i64 a0_3) := (blk_cell BK350.out 3).trans rfl
              have hcz41_4 : wc.cell? ⟨gb350, 4, none⟩ = some (.slice A0_4 l0_4.length c0_4) := (blk_cell BK350.out 4).trans rfl
              have hfz41_0 := blk_frozen BK350.out 0
              have hfz41_1 := blk_frozen BK350.out 1
              have hfz41_2 := blk_frozen BK350.out 2
              have hfz41_3 := blk_frozen BK350.out 3
              have hfz41_4 := blk_frozen BK350.out 4
              try go_wp2_with (first | ((with_reducible refine gate_callee (f := 24) rfl ?_); refine goesL_ (some 37) rfl rfl Try.func24 (by kernel_rfl) rfl #[.agg #[.int .i64 a0_0, .string a0_1, .int .i64 a0_2, .int .i64 a0_3, .slice A0_4 l0_4.length c0_4], .slice A1 l1.length c1] rfl (by (try simp only [List.map_toArray, List.map_cons, List.map_nil]); first | done | rfl | (simp only [List.length_drop, List.length_take]; rfl)) ?_; (with_reducible refine (tree_Get.calls kj4 a0_0 a0_1 a0_2 a0_3 (fun k_ => k_ < w.heap.size) _ _ l0_4 _ _ l1 t353 t354 t355 t356 t357 t360 _ ?side1 ?side2 ?side3 A16.out).mono ?_); (case side1 => exact Kd.V_mk HC0_4.out (Kd.F_below (Kd.C_F k24_heap HR0_4.out) (by repeat (first | (with_reducible first | exact HB.out | apply below_alloc | apply pw_below_drewN | apply below_drew1 | refine below_set ?_ GE350.out) | exact HB.out)))); (case side2 => repeat (first | exact (Kd.C_below HR1.out HB.out) | (with_reducible refine Kd.C_alloc ?_ _) | (with_reducible refine Kd.C_drewN ?_ _) | (with_reducible refine Kd.C_drew ?_))); (case side3 => exact HC1.out); rintro e w42 ⟨v358, rfl, ho0, hb⟩; refine ⟨_, rfl, ?_⟩; have n0_ := Aside0.mk (Kd.V_lower (Kd.V_mono (ok' := fun k_ => k_ ≠ gb350) ho0 (fun k_ hk_ => Or.elim hk_ (fun hs_ => fun e_ => Nat.not_le.2 hs_ (by rw [e_]; exact GW350.out)) (fun hn_ => (Kd.freshB (g := gb350) (o := .cells #[.int .i64 a0_0, .string a0_1, .int .i64 a0_2, .int .i64 a0_3, .slice A0_4 l0_4.length c0_4] 24 (0, 0)) (by (with_reducible repeat (first | refine blk_drewN ?_ _ | refine blk_drew ?_ | refine blk_alloc ?_ _)); exact BK350.out) k_ hn_)))) (below_size (by repeat (first | (with_reducible first | exact HB.out | apply below_alloc | apply pw_below_drewN | apply below_drew1 | refine below_set ?_ GE350.out) | exact HB.out)))); have n1_ := Aside0.mk (blk_below (g := gb350) (o := .cells #[.int .i64 a0_0, .string a0_1, .int .i64 a0_2, .int .i64 a0_3, .slice A0_4 l0_4.length c0_4] 24 (0, 0)) (by (with_reducible repeat (first | refine blk_drewN ?_ _ | refine blk_drew ?_ | refine blk_alloc ?_ _)); exact BK350.out) hb); have n2_ := Aside0.mk (below_step (by repeat (first | (with_reducible first | exact HB.out | apply below_alloc | apply pw_below_drewN | apply below_drew1 | refine below_set ?_ GE350.out) | exact HB.out)) hb); clear BK350; clear HB; have HO359 := n0_; have BK350 := n1_; have HB := n2_; clear n0_ n1_ n2_; (try clear hb); (try clear hb2); (try clear hk); (try clear hi); (try clear ho0)) | ((with_reducible refine gate_dst (N := 9) rfl ?_); (try (refine gate_guard (by rfl) ?_; dsimp only)); refine box_event ?hg (N := 9) ?hd (cs := #[.int .i64 0, .string (⟨#[]⟩ : ByteArray), .int .i64 0, .int .i64 0, .slice none 0 0]) (t := 24) ?hr ?_; (case hd => rfl); (case hg => rfl); (case hr => first | (go_simp; done) | (go_simp; rfl)); intro gb361 hg w43 hbox hb; have n0_ := Aside0.mk (Kd.V_below (Kd.V_elderB (by (with_reducible repeat (first | apply Kd.V_alloc | apply Kd.V_drewN | apply Kd.V_drew)); exact HO359.out) gb361 (Nat.le_of_eq hg.symm)) hb); have n1_ := Aside0.mk (blk_below (g := gb350) (o := .cells #[.int .i64 a0_0, .string a0_1, .int .i64 a0_2, .int .i64 a0_3, .slice A0_4 l0_4.length c0_4] 24 (0, 0)) (by (with_reducible repeat (first | refine blk_drewN ?_ _ | refine blk_drew ?_ | refine blk_alloc ?_ _)); exact BK350.out) hb); have n2_ := Aside0.mk (below_step (by repeat (first | (with_reducible first | exact HB.out | apply below_alloc | apply pw_below_drewN | apply below_drew1 | refine below_set ?_ GE350.out) | exact HB.out)) hb); have n3_ := Aside0.mk (hbox); have n4_ := Aside0.mk ((by rw [hg]; exact (below_size (by repeat (first | (with_reducible first | exact HB.out | apply below_alloc | apply pw_below_drewN | apply below_drew1 | refine below_set ?_ GE350.out) | exact HB.out))) : w.heap.size ≤ gb361)); have n5_ := Aside0.mk ((by rw [hg]; exact (below_size (by repeat (first | (with_reducible first | exact HB.out | apply below_alloc | apply pw_below_drewN | apply below_drew1 | refine below_set ?_ GE350.out) | exact HB.out))) : w.heap.size ≤ gb361)); have n6_ := Aside0.mk ((by rw [hg]; exact Nat.ne_of_lt (blk_lt (g := gb350) (o := .cells #[.int .i64 a0_0, .string a0_1, .int .i64 a0_2, .int .i64 a0_3, .slice A0_4 l0_4.length c0_4] 24 (0, 0)) (by (with_reducible repeat (first | refine blk_drewN ?_ _ | refine blk_drew ?_ | refine blk_alloc ?_ _)); exact BK350.out)) : gb350 ≠ gb361)); have n7_ := Aside0.mk ((by rw [hg]; exact Nat.ne_of_gt (blk_lt (g := gb350) (o := .cells #[.int .i64 a0_0, .string a0_1, .int .i64 a0_2, .int .i64 a0_3, .slice A0_4 l0_4.length c0_4] 24 (0, 0)) (by (with_reducible repeat (first | refine blk_drewN ?_ _ | refine blk_drew ?_ | refine blk_alloc ?_ _)); exact BK350.out)) : gb361 ≠ gb350)); clear HO359; clear BK350; clear HB; have HO359 := n0_; have BK350 := n1_; have HB := n2_; have BK361 := n3_; have GW361 := n4_; have GE361 := n5_; have NB350_361 := n6_; have NB361_350 := n7_; clear n0_ n1_ n2_ n3_ n4_ n5_ n6_ n7_; clear hb hbox hg; have hnb44 := NB361_350.out; have hnc44 := NB350_361.out; have hcz45_0 : w43.cell? ⟨gb361, 0, none⟩ = some (.int .i64 0) := (blk_cell BK361.out 0).trans rfl; have hcz45_1 : w43.cell? ⟨gb361, 1, none⟩ = some (.string (⟨#[]⟩ : ByteArray)) := (blk_cell BK361.out 1).trans rfl; have hcz45_2 : w43.cell? ⟨gb361, 2, none⟩ = some (.int .i64 0) := (blk_cell BK361.out 2).trans rfl; have hcz45_3 : w43.cell? ⟨gb361, 3, none⟩ = some (.int .i64 0) := (blk_cell BK361.out 3).trans rfl; have hcz45_4 : w43.cell? ⟨gb361, 4, none⟩ = some (.slice none 0 0) := (blk_cell BK361.out 4).trans rfl; have hfz45_0 := blk_frozen BK361.out 0; have hfz45_1 := blk_frozen BK361.out 1; have hfz45_2 := blk_frozen BK361.out 2; have hfz45_3 := blk_frozen BK361.out 3; have hfz45_4 := blk_frozen BK361.out 4; obtain ⟨Ao46, co46, eo46⟩ := Kd.V_slice HO359.out; subst eo46) | ((with_reducible refine gate_store (t := 24) (p := 9) rfl ?_); refine store_event (t := 24) (p := 9) (v := ?vo_w47) (w1 := (((((w43.setCell ⟨gb361, 0, none⟩ (.int .i64 t353)).setCell ⟨gb361, 1, none⟩ (.string t354)).setCell ⟨gb361, 2, none⟩ (.int .i64 t355)).setCell ⟨gb361, 3, none⟩ (.int .i64 t356)).setCell ⟨gb361, 4, none⟩ (.slice Ao46 t357.length co46))) ?hg ?ho ?hn ?hr ?_; (case ho => rfl); (case hg => rfl); (case hn => rfl); (case hr => first | (go_simp; done) | (go_simp; rfl)); intro w47 hw; have n0_ : Aside0 (Kd.V k24 24 w47 w.heap.size (fun k_ => k_ ≠ gb350 ∧ k_ ≠ gb361) (.slice Ao46 t357.length co46) t357) := ⟨(by rw [hw]; exact (by (with_reducible repeat (first | apply Kd.V_alloc | apply Kd.V_drewN | apply Kd.V_drew)); exact Kd.V_mono (Kd.V_far (p := ⟨gb361, 4, none⟩) (Kd.V_far (p := ⟨gb361, 3, none⟩) (Kd.V_far (p := ⟨gb361, 2, none⟩) (Kd.V_far (p := ⟨gb361, 1, none⟩) (Kd.V_far (p := ⟨gb361, 0, none⟩) (Kd.V_mono HO359.out (fun k_ hk => (⟨hk, hk.2⟩ : _ ∧ k_ ≠ gb361))) (fun _ hk => hk.2) (.int .i64 t353)) (fun _ hk => hk.2) (.string t354)) (fun _ hk => hk.2) (.int .i64 t355)) (fun _ hk => hk.2) (.int .i64 t356)) (fun _ hk => hk.2) (.slice Ao46 t357.length co46)) (fun _ hk => ⟨hk.1.1, hk.1.2⟩)))⟩; have n1_ : Aside0 (w47.heap[gb350]? = some (.cells #[.int .i64 a0_0, .string a0_1, .int .i64 a0_2, .int .i64 a0_3, .slice A0_4 l0_4.length c0_4] 24 (0, 0))) := ⟨(by rw [hw]; exact (by (with_reducible repeat (first | refine blk_drewN ?_ _ | refine blk_drew ?_ | refine blk_alloc ?_ _)); refine blk_far ?_ NB350_361.out _; (with_reducible repeat (first | refine blk_drewN ?_ _ | refine blk_drew ?_ | refine blk_alloc ?_ _)); refine blk_far ?_ NB350_361.out _; (with_reducible repeat (first | refine blk_drewN ?_ _ | refine blk_drew ?_ | refine blk_alloc ?_ _)); refine blk_far ?_ NB350_361.out _; (with_reducible repeat (first | refine blk_drewN ?_ _ | refine blk_drew ?_ | refine blk_alloc ?_ _)); refine blk_far ?_ NB350_361.out _; (with_reducible repeat (first | refine blk_drewN ?_ _ | refine blk_drew ?_ | refine blk_alloc ?_ _)); refine blk_far ?_ NB350_361.out _; (with_reducible repeat (first | refine blk_drewN ?_ _ | refine blk_drew ?_ | refine blk_alloc ?_ _)); exact BK350.out))⟩; have n2_ : Aside0 (w47.heap[gb361]? = some (.cells #[.int .i64 t353, .string t354, .int .i64 t355, .int .i64 t356, .slice Ao46 t357.length co46] 24 (0, 0))) := ⟨(by rw [hw]; exact (by (with_reducible repeat (first | refine blk_drewN ?_ _ | refine blk_drew ?_ | refine blk_alloc ?_ _)); refine blk_put (cs := #[.int .i64 t353, .string t354, .int .i64 t355, .int .i64 t356, .slice none 0 0]) ?_ 4 _ rfl; (with_reducible repeat (first | refine blk_drewN ?_ _ | refine blk_drew ?_ | refine blk_alloc ?_ _)); refine blk_put (cs := #[.int .i64 t353, .string t354, .int .i64 t355, .int .i64 0, .slice none 0 0]) ?_ 3 _ rfl; (with_reducible repeat (first | refine blk_drewN ?_ _ | refine blk_drew ?_ | refine blk_alloc ?_ _)); refine blk_put (cs := #[.int .i64 t353, .string t354, .int .i64 0, .int .i64 0, .slice none 0 0]) ?_ 2 _ rfl; (with_reducible repeat (first | refine blk_drewN ?_ _ | refine blk_drew ?_ | refine blk_alloc ?_ _)); refine blk_put (cs := #[.int .i64 t353, .string (⟨#[]⟩ : ByteArray), .int .i64 0, .int .i64 0, .slice none 0 0]) ?_ 1 _ rfl; (with_reducible repeat (first | refine blk_drewN ?_ _ | refine blk_drew ?_ | refine blk_alloc ?_ _)); refine blk_put (cs := #[.int .i64 0, .string (⟨#[]⟩ : ByteArray), .int .i64 0, .int .i64 0, .slice none 0 0]) ?_ 0 _ rfl; (with_reducible repeat (first | refine blk_drewN ?_ _ | refine blk_drew ?_ | refine blk_alloc ?_ _)); exact BK361.out))⟩; have n3_ : Aside0 (Below w.heap.size w w47) := ⟨(by rw [hw]; exact (by repeat (first | (with_reducible first | exact HB.out | apply below_alloc | apply pw_below_drewN | apply below_drew1 | refine below_set ?_ GE350.out | refine below_set ?_ GE361.out) | exact HB.out)))⟩; clear hw; clear HO359; clear BK350; clear BK361; clear HB; have HO359 := n0_; have BK350 := n1_; have BK361 := n2_; have HB := n3_; clear n0_ n1_ n2_ n3_; have hcz48_0 : w47.cell? ⟨gb350, 0, none⟩ = some (.int .i64 a0_0) := (blk_cell BK350.out 0).trans rfl; have hcz48_1 : w47.cell? ⟨gb350, 1, none⟩ = some (.string a0_1) := (blk_cell BK350.out 1).trans rfl; have hcz48_2 : w47.cell? ⟨gb350, 2, none⟩ = some (.int .i64 a0_2) := (blk_cell BK350.out 2).trans rfl; have hcz48_3 : w47.cell? ⟨gb350, 3, none⟩ = some (.int .i64 a0_3) := (blk_cell BK350.out 3).trans rfl; have hcz48_4 : w47.cell? ⟨gb350, 4, none⟩ = some (.slice A0_4 l0_4.length c0_4) := (blk_cell BK350.out 4).trans rfl; have hfz48_0 := blk_frozen BK350.out 0; have hfz48_1 := blk_frozen BK350.out 1; have hfz48_2 := blk_frozen BK350.out 2; have hfz48_3 := blk_frozen BK350.out 3; have hfz48_4 := blk_frozen BK350.out 4) | ((with_reducible refine gate_callee (f := 25) rfl ?_); refine goesL_ (some 43) rfl rfl Try.func25 (by kernel_rfl) rfl #[.agg #[.int .i64 a0_0, .string a0_1, .int .i64 a0_2, .int .i64 a0_3, .slice A0_4 l0_4.length c0_4], .slice A1 l1.length c1] rfl (by (try simp only [List.map_toArray, List.map_cons, List.map_nil]); first | done | rfl | (simp only [List.length_drop, List.length_take]; rfl)) ?_; (with_reducible refine (assessorref03_Get.calls kj4 a0_0 a0_1 a0_2 a0_3 (fun k_ => k_ < w.heap.size) _ _ l0_4 _ _ l1 t362 t363 t364 t365 t366 t369 _ ?side1 ?side2 ?side3 A17.out).mono ?_); (case side1 => exact Kd.V_mk HC0_4.out (Kd.F_below (Kd.C_F k24_heap HR0_4.out) (by repeat (first | (with_reducible first | exact HB.out | apply below_alloc | apply pw_below_drewN | apply below_drew1 | refine below_set ?_ GE350.out | refine below_set ?_ GE361.out) | exact HB.out)))); (case side2 => repeat (first | exact (Kd.C_below HR1.out HB.out) | (with_reducible refine Kd.C_alloc ?_ _) | (with_reducible refine Kd.C_drewN ?_ _) | (with_reducible refine Kd.C_drew ?_))); (case side3 => exact HC1.out); rintro e w49 ⟨v367, rfl, ho0, hb⟩; refine ⟨_, rfl, ?_⟩; have n0_ := Aside0.mk (Kd.V_below (by (with_reducible repeat (first | apply Kd.V_alloc | apply Kd.V_drewN | apply Kd.V_drew)); exact HO359.out) hb); have n1_ := Aside0.mk (Kd.V_lower (Kd.V_mono (ok' := fun k_ => k_ ≠ gb350 ∧ k_ ≠ gb361) ho0 (fun k_ hk_ => ⟨Or.elim hk_ (fun hs_ => fun e_ => Nat.not_le.2 hs_ (by rw [e_]; exact GW350.out)) (fun hn_ => (Kd.freshB (g := gb350) (o := .cells #[.int .i64 a0_0, .string a0_1, .int .i64 a0_2, .int .i64 a0_3, .slice A0_4 l0_4.length c0_4] 24 (0, 0)) (by (with_reducible repeat (first | refine blk_drewN ?_ _ | refine blk_drew ?_ | refine blk_alloc ?_ _)); exact BK350.out) k_ hn_)), Or.elim hk_ (fun hs_ => fun e_ => Nat.not_le.2 hs_ (by rw [e_]; exact GW361.out)) (fun hn_ => (Kd.freshB (g := gb361) (o := .cells #[.int .i64 t353, .string t354, .int .i64 t355, .int .i64 t356, .slice Ao46 t357.length co46] 24 (0, 0)) (by (with_reducible repeat (first | refine blk_drewN ?_ _ | refine blk_drew ?_ | refine blk_alloc ?_ _)); exact BK361.out) k_ hn_))⟩)) (below_size (by repeat (first | (with_reducible first | exact HB.out | apply below_alloc | apply pw_below_drewN | apply below_drew1 | refine below_set ?_ GE350.out | refine below_set ?_ GE361.out) | exact HB.out)))); have n2_ := Aside0.mk (blk_below (g := gb350) (o := .cells #[.int .i64 a0_0, .string a0_1, .int .i64 a0_2, .int .i64 a0_3, .slice A0_4 l0_4.length c0_4] 24 (0, 0)) (by (with_reducible repeat (first | refine blk_drewN ?_ _ | refine blk_drew ?_ | refine blk_alloc ?_ _)); exact BK350.out) hb); have n3_ := Aside0.mk (blk_below (g := gb361) (o := .cells #[.int .i64 t353, .string t354, .int .i64 t355, .int .i64 t356, .slice Ao46 t357.length co46] 24 (0, 0)) (by (with_reducible repeat (first | refine blk_drewN ?_ _ | refine blk_drew ?_ | refine blk_alloc ?_ _)); exact BK361.out) hb); have n4_ := Aside0.mk (below_step (by repeat (first | (with_reducible first | exact HB.out | apply below_alloc | apply pw_below_drewN | apply below_drew1 | refine below_set ?_ GE350.out | refine below_set ?_ GE361.out) | exact HB.out)) hb); clear HO359; clear BK350; clear BK361; clear HB; have HO359 := n0_; have HO368 := n1_; have BK350 := n2_; have BK361 := n3_; have HB := n4_; clear n0_ n1_ n2_ n3_ n4_; (try clear hb); (try clear hb2); (try clear hk); (try clear hi); (try clear ho0)) | ((with_reducible refine gate_dst (N := 11) rfl ?_); (try (refine gate_guard (by rfl) ?_; dsimp only)); refine box_event ?hg (N := 11) ?hd (cs := #[.int .i64 0, .string (⟨#[]⟩ : ByteArray), .int .i64 0, .int .i64 0, .slice none 0 0]) (t := 24) ?hr ?_; (case hd => rfl); (case hg => rfl); (case hr => first | (go_simp; done) | (go_simp; rfl)); intro gb370 hg w50 hbox hb; have n0_ := Aside0.mk (Kd.V_below (Kd.V_elderB (by (with_reducible repeat (first | apply Kd.V_alloc | apply Kd.V_drewN | apply Kd.V_drew)); exact HO359.out) gb370 (Nat.le_of_eq hg.symm)) hb); have n1_ := Aside0.mk (Kd.V_below (Kd.V_elderB (by (with_reducible repeat (first | apply Kd.V_alloc | apply Kd.V_drewN | apply Kd.V_drew)); exact HO368.out) gb370 (Nat.le_of_eq hg.symm)) hb); have n2_ := Aside0.mk (blk_below (g := gb350) (o := .cells #[.int .i64 a0_0, .string a0_1, .int .i64 a0_2, .int .i64 a0_3, .slice A0_4 l0_4.length c0_4] 24 (0, 0)) (by (with_reducible repeat (first | refine blk_drewN ?_ _ | refine blk_drew ?_ | refine blk_alloc ?_ _)); exact BK350.out) hb); have n3_ := Aside0.mk (blk_below (g := gb361) (o := .cells #[.int .i64 t353, .string t354, .int .i64 t355, .int .i64 t356, .slice Ao46 t357.length co46] 24 (0, 0)) (by (with_reducible repeat (first | refine blk_drewN ?_ _ | refine blk_drew ?_ | refine blk_alloc ?_ _)); exact BK361.out) hb); have n4_ := Aside0.mk (below_step (by repeat (first | (with_reducible first | exact HB.out | apply below_alloc | apply pw_below_drewN | apply below_drew1 | refine below_set ?_ GE350.out | refine below_set ?_ GE361.out) | exact HB.out)) hb); have n5_ := Aside0.mk (hbox); have n6_ := Aside0.mk ((by rw [hg]; exact (below_size (by repeat (first | (with_reducible first | exact HB.out | apply below_alloc | apply pw_below_drewN | apply below_drew1 | refine below_set ?_ GE350.out | refine below_set ?_ GE361.out) | exact HB.out))) : w.heap.size ≤ gb370)); have n7_ := Aside0.mk ((by rw [hg]; exact (below_size (by repeat (first | (with_reducible first | exact HB.out | apply below_alloc | apply pw_below_drewN | apply below_drew1 | refine below_set ?_ GE350.out | refine below_set ?_ GE361.out) | exact HB.out))) : w.heap.size ≤ gb370)); have n8_ := Aside0.mk ((by rw [hg]; exact Nat.ne_of_lt (blk_lt (g := gb350) (o := .cells #[.int .i64 a0_0, .string a0_1, .int .i64 a0_2, .int .i64 a0_3, .slice A0_4 l0_4.length c0_4] 24 (0, 0)) (by (with_reducible repeat (first | refine blk_drewN ?_ _ | refine blk_drew ?_ | refine blk_alloc ?_ _)); exact BK350.out)) : gb350 ≠ gb370)); have n9_ := Aside0.mk ((by rw [hg]; exact Nat.ne_of_gt (blk_lt (g := gb350) (o := .cells #[.int .i64 a0_0, .string a0_1, .int .i64 a0_2, .int .i64 a0_3, .slice A0_4 l0_4.length c0_4] 24 (0, 0)) (by (with_reducible repeat (first | refine blk_drewN ?_ _ | refine blk_drew ?_ | refine blk_alloc ?_ _)); exact BK350.out)) : gb370 ≠ gb350)); have n10_ := Aside0.mk ((by rw [hg]; exact Nat.ne_of_lt (blk_lt (g := gb361) (o := .cells #[.int .i64 t353, .string t354, .int .i64 t355, .int .i64 t356, .slice Ao46 t357.length co46] 24 (0, 0)) (by (with_reducible repeat (first | refine blk_drewN ?_ _ | refine blk_drew ?_ | refine blk_alloc ?_ _)); exact BK361.out)) : gb361 ≠ gb370)); have n11_ := Aside0.mk ((by rw [hg]; exact Nat.ne_of_gt (blk_lt (g := gb361) (o := .cells #[.int .i64 t353, .string t354, .int .i64 t355, .int .i64 t356, .slice Ao46 t357.length co46] 24 (0, 0)) (by (with_reducible repeat (first | refine blk_drewN ?_ _ | refine blk_drew ?_ | refine blk_alloc ?_ _)); exact BK361.out)) : gb370 ≠ gb361)); clear HO359; clear HO368; clear BK350; clear BK361; clear HB; have HO359 := n0_; have HO368 := n1_; have BK350 := n2_; have BK361 := n3_; have HB := n4_; have BK370 := n5_; have GW370 := n6_; have GE370 := n7_; have NB350_370 := n8_; have NB370_350 := n9_; have NB361_370 := n10_; have NB370_361 := n11_; clear n0_ n1_ n2_ n3_ n4_ n5_ n6_ n7_ n8_ n9_ n10_ n11_; clear hb hbox hg; have hnb51 := NB370_350.out; have hnc51 := NB350_370.out; have hnb52 := NB370_361.out; have hnc52 := NB361_370.out; have hcz53_0 : w50.cell? ⟨gb370, 0, none⟩ = some (.int .i64 0) := (blk_cell BK370.out 0).trans rfl; have hcz53_1 : w50.cell? ⟨gb370, 1, none⟩ = some (.string (⟨#[]⟩ : ByteArray)) := (blk_cell BK370.out 1).trans rfl; have hcz53_2 : w50.cell? ⟨gb370, 2, none⟩ = some (.int .i64 0) := (blk_cell BK370.out 2).trans rfl; have hcz53_3 : w50.cell? ⟨gb370, 3, none⟩ = some (.int .i64 0) := (blk_cell BK370.out 3).trans rfl; have hcz53_4 : w50.cell? ⟨gb370, 4, none⟩ = some (.slice none 0 0) := (blk_cell BK370.out 4).trans rfl; have hfz53_0 := blk_frozen BK370.out 0; have hfz53_1 := blk_frozen BK370.out 1; have hfz53_2 := blk_frozen BK370.out 2; have hfz53_3 := blk_frozen BK370.out 3; have hfz53_4 := blk_frozen BK370.out 4; obtain ⟨Ao54, co54, eo54⟩ := Kd.V_slice HO368.out; subst eo54; have hcz55_0 : w50.cell? ⟨gb350, 0, none⟩ = some (.int .i64 a0_0) := (blk_cell BK350.out 0).trans rfl; have hcz55_1 : w50.cell? ⟨gb350, 1, none⟩ = some (.string a0_1) := (blk_cell BK350.out 1).trans rfl; have hcz55_2 : w50.cell? ⟨gb350, 2, none⟩ = some (.int .i64 a0_2) := (blk_cell BK350.out 2).trans rfl; have hcz55_3 : w50.cell? ⟨gb350, 3, none⟩ = some (.int .i64 a0_3) := (blk_cell BK350.out 3).trans rfl; have hcz55_4 : w50.cell? ⟨gb350, 4, none⟩ = some (.slice A0_4 l0_4.length c0_4) := (blk_cell BK350.out 4).trans rfl; have hfz55_0 := blk_frozen BK350.out 0; have hfz55_1 := blk_frozen BK350.out 1; have hfz55_2 := blk_frozen BK350.out 2; have hfz55_3 := blk_frozen BK350.out 3; have hfz55_4 := blk_frozen BK350.out 4) | ((with_reducible refine gate_callee (f := 26) rfl ?_); refine goesL_ (some 49) rfl rfl Try.func26 (by kernel_rfl) rfl #[.agg #[.int .i64 a0_0, .string a0_1, .int .i64 a0_2, .int .i64 a0_3, .slice A0_4 l0_4.length c0_4], .int .i64 a2] rfl (by (try simp only [List.map_toArray, List.map_cons, List.map_nil]); first | done | rfl | (simp only [List.length_drop, List.length_take]; rfl)) ?_; (with_reducible refine (tree_Path.calls a0_0 a0_1 a0_2 a0_3 _ _ l0_4 a2 t371 t374 _ ?side1 ?side2 A18.out).mono ?_); (case side1 => exact Kd.C_below HR0_4.out (by repeat (first | (with_reducible first | exact HB.out | apply below_alloc | apply pw_below_drewN | apply below_drew1 | refine below_set ?_ GE350.out | refine below_set ?_ GE361.out | refine below_set ?_ GE370.out) | exact HB.out))); (case side2 => exact HC0_4.out); rintro e w56 ⟨v372, rfl, ho0, hb⟩; refine ⟨_, rfl, ?_⟩; have n0_ := Aside0.mk (Kd.V_elder' (by (with_reducible repeat (first | apply Kd.V_alloc | apply Kd.V_drewN | apply Kd.V_drew)); exact (Kd.V_mono (Kd.V_far (p := ⟨gb370, 4, none⟩) (Kd.V_far (p := ⟨gb370, 3, none⟩) (Kd.V_far (p := ⟨gb370, 2, none⟩) (Kd.V_far (p := ⟨gb370, 1, none⟩) (Kd.V_far (p := ⟨gb370, 0, none⟩) (Kd.V_mono HO359.out (fun k_ hk => (⟨hk, hk.2⟩ : _ ∧ k_ ≠ gb370))) (fun _ hk => hk.2) (.int .i64 t362)) (fun _ hk => hk.2) (.string t363)) (fun _ hk => hk.2) (.int .i64 t364)) (fun _ hk => hk.2) (.int .i64 t365)) (fun _ hk => hk.2) (.slice Ao54 t366.length co54)) (fun _ h_ => h_.1))) (Kd.R_base ho0) hb); have n1_ := Aside0.mk (Kd.V_elder' (by (with_reducible repeat (first | apply Kd.V_alloc | apply Kd.V_drewN | apply Kd.V_drew)); exact (Kd.V_mono (Kd.V_far (p := ⟨gb370, 4, none⟩) (Kd.V_far (p := ⟨gb370, 3, none⟩) (Kd.V_far (p := ⟨gb370, 2, none⟩) (Kd.V_far (p := ⟨gb370, 1, none⟩) (Kd.V_far (p := ⟨gb370, 0, none⟩) (Kd.V_mono HO368.out (fun k_ hk => (⟨hk, hk.2⟩ : _ ∧ k_ ≠ gb370))) (fun _ hk => hk.2) (.int .i64 t362)) (fun _ hk => hk.2) (.string t363)) (fun _ hk => hk.2) (.int .i64 t364)) (fun _ hk => hk.2) (.int .i64 t365)) (fun _ hk => hk.2) (.slice Ao54 t366.length co54)) (fun _ h_ => h_.1))) (Kd.R_base ho0) hb); have n2_ := Aside0.mk (Kd.R_lower ho0 (below_size (by repeat (first | (with_reducible first | exact HB.out | apply below_alloc | apply pw_below_drewN | apply below_drew1 | refine below_set ?_ GE350.out | refine below_set ?_ GE361.out | refine below_set ?_ GE370.out) | exact HB.out)))); have n3_ := Aside0.mk (blk_below (g := gb350) (o := .cells #[.int .i64 a0_0, .string a0_1, .int .i64 a0_2, .int .i64 a0_3, .slice A0_4 l0_4.length c0_4] 24 (0, 0)) (by (with_reducible repeat (first | refine blk_drewN ?_ _ | refine blk_drew ?_ | refine blk_alloc ?_ _)); refine blk_far ?_ NB350_370.out _; (with_reducible repeat (first | refine blk_drewN ?_ _ | refine blk_drew ?_ | refine blk_alloc ?_ _)); refine blk_far ?_ NB350_370.out _; (with_reducible repeat (first | refine blk_drewN ?_ _ | refine blk_drew ?_ | refine blk_alloc ?_ _)); refine blk_far ?_ NB350_370.out _; (with_reducible repeat (first | refine blk_drewN ?_ _ | refine blk_drew ?_ | refine blk_alloc ?_ _)); refine blk_far ?_ NB350_370.out _; (with_reducible repeat (first | refine blk_drewN ?_ _ | refine blk_drew ?_ | refine blk_alloc ?_ _)); refine blk_far ?_ NB350_370.out _; (with_reducible repeat (first | refine blk_drewN ?_ _ | refine blk_drew ?_ | refine blk_alloc ?_ _)); exact BK350.out) hb); have n4_ := Aside0.mk (blk_below (g := gb361) (o := .cells #[.int .i64 t353, .string t354, .int .i64 t355, .int .i64 t356, .slice Ao46 t357.length co46] 24 (0, 0)) (by (with_reducible repeat (first | refine blk_drewN ?_ _ | refine blk_drew ?_ | refine blk_alloc ?_ _)); refine blk_far ?_ NB361_370.out _; (with_reducible repeat (first | refine blk_drewN ?_ _ | refine blk_drew ?_ | refine blk_alloc ?_ _)); refine blk_far ?_ NB361_370.out _; (with_reducible repeat (first | refine blk_drewN ?_ _ | refine blk_drew ?_ | refine blk_alloc ?_ _)); refine blk_far ?_ NB361_370.out _; (with_reducible repeat (first | refine blk_drewN ?_ _ | refine blk_drew ?_ | refine blk_alloc ?_ _)); refine blk_far ?_ NB361_370.out _; (with_reducible repeat (first | refine blk_drewN ?_ _ | refine blk_drew ?_ | refine blk_alloc ?_ _)); refine blk_far ?_ NB361_370.out _; (with_reducible repeat (first | refine blk_drewN ?_ _ | refine blk_drew ?_ | refine blk_alloc ?_ _)); exact BK361.out) hb); have n5_ := Aside0.mk (blk_below (g := gb370) (o := .cells #[.int .i64 t362, .string t363, .int .i64 t364, .int .i64 t365, .slice Ao54 t366.length co54] 24 (0, 0)) (by (with_reducible repeat (first | refine blk_drewN ?_ _ | refine blk_drew ?_ | refine blk_alloc ?_ _)); refine blk_put (cs := #[.int .i64 t362, .string t363, .int .i64 t364, .int .i64 t365, .slice none 0 0]) ?_ 4 _ rfl; (with_reducible repeat (first | refine blk_drewN ?_ _ | refine blk_drew ?_ | refine blk_alloc ?_ _)); refine blk_put (cs := #[.int .i64 t362, .string t363, .int .i64 t364, .int .i64 0, .slice none 0 0]) ?_ 3 _ rfl; (with_reducible repeat (first | refine blk_drewN ?_ _ | refine blk_drew ?_ | refine blk_alloc ?_ _)); refine blk_put (cs := #[.int .i64 t362, .string t363, .int .i64 0, .int .i64 0, .slice none 0 0]) ?_ 2 _ rfl; (with_reducible repeat (first | refine blk_drewN ?_ _ | refine blk_drew ?_ | refine blk_alloc ?_ _)); refine blk_put (cs := #[.int .i64 t362, .string (⟨#[]⟩ : ByteArray), .int .i64 0, .int .i64 0, .slice none 0 0]) ?_ 1 _ rfl; (with_reducible repeat (first | refine blk_drewN ?_ _ | refine blk_drew ?_ | refine blk_alloc ?_ _)); refine blk_put (cs := #[.int .i64 0, .string (⟨#[]⟩ : ByteArray), .int .i64 0, .int .i64 0, .slice none 0 0]) ?_ 0 _ rfl; (with_reducible repeat (first | refine blk_drewN ?_ _ | refine blk_drew ?_ | refine blk_alloc ?_ _)); exact BK370.out) hb); have n6_ := Aside0.mk (below_step (by repeat (first | (with_reducible first | exact HB.out | apply below_alloc | apply pw_below_drewN | apply below_drew1 | refine below_set ?_ GE350.out | refine below_set ?_ GE361.out | refine below_set ?_ GE370.out) | exact HB.out)) hb); clear HO359; clear HO368; clear BK350; clear BK361; clear BK370; clear HB; have HO359 := n0_; have HO368 := n1_; have HO373 := n2_; have BK350 := n3_; have BK361 := n4_; have BK370 := n5_; have HB := n6_; clear n0_ n1_ n2_ n3_ n4_ n5_ n6_; (try clear hb); (try clear hb2); (try clear hk); (try clear hi); (try clear ho0); have hcz57_0 : w56.cell? ⟨gb350, 0, none⟩ = some (.int .i64 a0_0) := (blk_cell BK350.out 0).trans rfl; have hcz57_1 : w56.cell? ⟨gb350, 1, none⟩ = some (.string a0_1) := (blk_cell BK350.out 1).trans rfl; have hcz57_2 : w56.cell? ⟨gb350, 2, none⟩ = some (.int .i64 a0_2) := (blk_cell BK350.out 2).trans rfl; have hcz57_3 : w56.cell? ⟨gb350, 3, none⟩ = some (.int .i64 a0_3) := (blk_cell BK350.out 3).trans rfl; have hcz57_4 : w56.cell? ⟨gb350, 4, none⟩ = some (.slice A0_4 l0_4.length c0_4) := (blk_cell BK350.out 4).trans rfl; have hfz57_0 := blk_frozen BK350.out 0; have hfz57_1 := blk_frozen BK350.out 1; have hfz57_2 := blk_frozen BK350.out 2; have hfz57_3 := blk_frozen BK350.out 3; have hfz57_4 := blk_frozen BK350.out 4) | ((with_reducible refine gate_callee (f := 27) rfl ?_); refine goesL_ (some 55) rfl rfl Try.func27 (by kernel_rfl) rfl #[.agg #[.int .i64 a0_0, .string a0_1, .int .i64 a0_2, .int .i64 a0_3, .slice A0_4 l0_4.length c0_4], .int .i64 a2] rfl (by (try simp only [List.map_toArray, List.map_cons, List.map_nil]); first | done | rfl | (simp only [List.length_drop, List.length_take]; rfl)) ?_; (with_reducible refine (assessorref03_Path.calls a0_0 a0_1 a0_2 a0_3 _ _ l0_4 a2 t375 t378 _ ?side1 ?side2 A19.out).mono ?_); (case side1 => repeat (first | exact (Kd.C_below HR0_4.out HB.out) | (with_reducible refine Kd.C_alloc ?_ _) | (with_reducible refine Kd.C_drewN ?_ _) | (with_reducible refine Kd.C_drew ?_))); (case side2 => exact HC0_4.out); rintro e w58 ⟨v376, rfl, ho0, hb⟩; refine ⟨_, rfl, ?_⟩; have n0_ := Aside0.mk (Kd.V_elder' (by (with_reducible repeat (first | apply Kd.V_alloc | apply Kd.V_drewN | apply Kd.V_drew)); exact HO359.out) (Kd.R_base ho0) hb); have n1_ := Aside0.mk (Kd.V_elder' (by (with_reducible repeat (first | apply Kd.V_alloc | apply Kd.V_drewN | apply Kd.V_drew)); exact HO368.out) (Kd.R_base ho0) hb); have n2_ := Aside0.mk (Kd.R_elder' (by (with_reducible repeat (first | apply Kd.R_alloc | apply Kd.R_drewN | apply Kd.R_drew)); exact HO373.out) (Kd.R_base ho0) hb); have n3_ := Aside0.mk (Kd.R_lower (Kd.R_new' ho0 (Kd.R_lt (by (with_reducible repeat (first | apply Kd.R_alloc | apply Kd.R_drewN | apply Kd.R_drew)); exact HO373.out))) (below_size (by repeat (first | (with_reducible first | exact HB.out | apply below_alloc | apply pw_below_drewN | apply below_drew1 | refine below_set ?_ GE350.out | refine below_set ?_ GE361.out | refine below_set ?_ GE370.out) | exact HB.out)))); have n4_ := Aside0.mk (blk_below (g := gb350) (o := .cells #[.int .i64 a0_0, .string a0_1, .int .i64 a0_2, .int .i64 a0_3, .slice A0_4 l0_4.length c0_4] 24 (0, 0)) (by (with_reducible repeat (first | refine blk_drewN ?_ _ | refine blk_drew ?_ | refine blk_alloc ?_ _)); exact BK350.out) hb); have n5_ := Aside0.mk (blk_below (g := gb361) (o := .cells #[.int .i64 t353, .string t354, .int .i64 t355, .int .i64 t356, .slice Ao46 t357.length co46] 24 (0, 0)) (by (with_reducible repeat (first | refine blk_drewN ?_ _ | refine blk_drew ?_ | refine blk_alloc ?_ _)); exact BK361.out) hb); have n6_ := Aside0.mk (blk_below (g := gb370) (o := .cells #[.int .i64 t362, .string t363, .int .i64 t364, .int .i64 t365, .slice Ao54 t366.length co54] 24 (0, 0)) (by (with_reducible repeat (first | refine blk_drewN ?_ _ | refine blk_drew ?_ | refine blk_alloc ?_ _)); exact BK370.out) hb); have n7_ := Aside0.mk (below_step (by repeat (first | (with_reducible first | exact HB.out | apply below_alloc | apply pw_below_drewN | apply below_drew1 | refine below_set ?_ GE350.out | refine below_set ?_ GE361.out | refine below_set ?_ GE370.out) | exact HB.out)) hb); clear HO359; clear HO368; clear HO373; clear BK350; clear BK361; clear BK370; clear HB; have HO359 := n0_; have HO368 := n1_; have HO373 := n2_; have HO377 := n3_; have BK350 := n4_; have BK361 := n5_; have BK370 := n6_; have HB := n7_; clear n0_ n1_ n2_ n3_ n4_ n5_ n6_ n7_; (try clear hb); (try clear hb2); (try clear hk); (try clear hi); (try clear ho0); have hcz59_0 : w58.cell? ⟨gb350, 0, none⟩ = some (.int .i64 a0_0) := (blk_cell BK350.out 0).trans rfl; have hcz59_1 : w58.cell? ⟨gb350, 1, none⟩ = some (.string a0_1) := (blk_cell BK350.out 1).trans rfl; have hcz59_2 : w58.cell? ⟨gb350, 2, none⟩ = some (.int .i64 a0_2) := (blk_cell BK350.out 2).trans rfl; have hcz59_3 : w58.cell? ⟨gb350, 3, none⟩ = some (.int .i64 a0_3) := (blk_cell BK350.out 3).trans rfl; have hcz59_4 : w58.cell? ⟨gb350, 4, none⟩ = some (.slice A0_4 l0_4.length c0_4) := (blk_cell BK350.out 4).trans rfl; have hfz59_0 := blk_frozen BK350.out 0; have hfz59_1 := blk_frozen BK350.out 1; have hfz59_2 := blk_frozen BK350.out 2; have hfz59_3 := blk_frozen BK350.out 3; have hfz59_4 := blk_frozen BK350.out 4) | ((with_reducible refine gate_callee (f := 28) rfl ?_); refine goesL_ (some 61) rfl rfl Try.func28 (by kernel_rfl) rfl #[.agg #[.int .i64 a0_0, .string a0_1, .int .i64 a0_2, .int .i64 a0_3, .slice A0_4 l0_4.length c0_4], .slice A1 l1.length c1] rfl (by (try simp only [List.map_toArray, List.map_cons, List.map_nil]); first | done | rfl | (simp only [List.length_drop, List.length_take]; rfl)) ?_; (with_reducible refine (tree_Number.calls kj4 a0_0 a0_1 a0_2 a0_3 (fun k_ => k_ < w.heap.size) _ _ l0_4 _ _ l1 t379 t380 _ ?side1 ?side2 ?side3 A20.out).mono ?_); (case side1 => exact Kd.V_mk HC0_4.out (Kd.F_below (Kd.C_F k24_heap HR0_4.out) (by repeat (first | (with_reducible first | exact HB.out | apply below_alloc | apply pw_below_drewN | apply below_drew1 | refine below_set ?_ GE350.out | refine below_set ?_ GE361.out | refine below_set ?_ GE370.out) | exact HB.out)))); (case side2 => repeat (first | exact (Kd.C_below HR1.out HB.out) | (with_reducible refine Kd.C_alloc ?_ _) | (with_reducible refine Kd.C_drewN ?_ _) | (with_reducible refine Kd.C_drew ?_))); (case side3 => exact HC1.out); rintro e w60 ⟨rfl, hb⟩; refine ⟨_, rfl, ?_⟩; have n0_ := Aside0.mk (Kd.V_below (by (with_reducible repeat (first | apply Kd.V_alloc | apply Kd.V_drewN | apply Kd.V_drew)); exact HO359.out) hb); have n1_ := Aside0.mk (Kd.V_below (by (with_reducible repeat (first | apply Kd.V_alloc | apply Kd.V_drewN | apply Kd.V_drew)); exact HO368.out) hb); have n2_ := Aside0.mk (Kd.R_below (by (with_reducible repeat (first | apply Kd.R_alloc | apply Kd.R_drewN | apply Kd.R_drew)); exact HO373.out) hb); have n3_ := Aside0.mk (Kd.R_below (by (with_reducible repeat (first | apply Kd.R_alloc | apply Kd.R_drewN | apply Kd.R_drew)); exact HO377.out) hb); have n4_ := Aside0.mk (blk_below (g := gb350) (o := .cells #[.int .i64 a0_0, .string a0_1, .int .i64 a0_2, .int .i64 a0_3, .slice A0_4 l0_4.length c0_4] 24 (0, 0)) (by (with_reducible repeat (first | refine blk_drewN ?_ _ | refine blk_drew ?_ | refine blk_alloc ?_ _)); exact BK350.out) hb); have n5_ := Aside0.mk (blk_below (g := gb361) (o := .cells #[.int .i64 t353, .string t354, .int .i64 t355, .int .i64 t356, .slice Ao46 t357.length co46] 24 (0, 0)) (by (with_reducible repeat (first | refine blk_drewN ?_ _ | refine blk_drew ?_ | refine blk_alloc ?_ _)); exact BK361.out) hb); have n6_ := Aside0.mk (blk_below (g := gb370) (o := .cells #[.int .i64 t362, .string t363, .int .i64 t364, .int .i64 t365, .slice Ao54 t366.length co54] 24 (0, 0)) (by (with_reducible repeat (first | refine blk_drewN ?_ _ | refine blk_drew ?_ | refine blk_alloc ?_ _)); exact BK370.out) hb); have n7_ := Aside0.mk (below_step (by repeat (first | (with_reducible first | exact HB.out | apply below_alloc | apply pw_below_drewN | apply below_drew1 | refine below_set ?_ GE350.out | refine below_set ?_ GE361.out | refine below_set ?_ GE370.out) | exact HB.out)) hb); clear HO359; clear HO368; clear HO373; clear HO377; clear BK350; clear BK361; clear BK370; clear HB; have HO359 := n0_; have HO368 := n1_; have HO373 := n2_; have HO377 := n3_; have BK350 := n4_; have BK361 := n5_; have BK370 := n6_; have HB := n7_; clear n0_ n1_ n2_ n3_ n4_ n5_ n6_ n7_; (try clear hb); (try clear hb2); (try clear hk); (try clear hi); have hcz61_0 : w60.cell? ⟨gb350, 0, none⟩ = some (.int .i64 a0_0) := (blk_cell BK350.out 0).trans rfl; have hcz61_1 : w60.cell? ⟨gb350, 1, none⟩ = some (.string a0_1) := (blk_cell BK350.out 1).trans rfl; have hcz61_2 : w60.cell? ⟨gb350, 2, none⟩ = some (.int .i64 a0_2) := (blk_cell BK350.out 2).trans rfl; have hcz61_3 : w60.cell? ⟨gb350, 3, none⟩ = some (.int .i64 a0_3) := (blk_cell BK350.out 3).trans rfl; have hcz61_4 : w60.cell? ⟨gb350, 4, none⟩ = some (.slice A0_4 l0_4.length c0_4) := (blk_cell BK350.out 4).trans rfl; have hfz61_0 := blk_frozen BK350.out 0; have hfz61_1 := blk_frozen BK350.out 1; have hfz61_2 := blk_frozen BK350.out 2; have hfz61_3 := blk_frozen BK350.out 3; have hfz61_4 := blk_frozen BK350.out 4) | ((with_reducible refine gate_callee (f := 29) rfl ?_); refine goesL_ (some 67) rfl rfl Try.func29 (by kernel_rfl) rfl #[.agg #[.int .i64 a0_0, .string a0_1, .int .i64 a0_2, .int .i64 a0_3, .slice A0_4 l0_4.length c0_4], .slice A1 l1.length c1] rfl (by (try simp only [List.map_toArray, List.map_cons, List.map_nil]); first | done | rfl | (simp only [List.length_drop, List.length_take]; rfl)) ?_; (with_reducible refine (assessorref03_Number.calls kj4 a0_0 a0_1 a0_2 a0_3 (fun k_ => k_ < w.heap.size) _ _ l0_4 _ _ l1 t381 t382 _ ?side1 ?side2 ?side3 A21.out).mono ?_); (case side1 => exact Kd.V_mk HC0_4.out (Kd.F_below (Kd.C_F k24_heap HR0_4.out) (by repeat (first | (with_reducible first | exact HB.out | apply below_alloc | apply pw_below_drewN | apply below_drew1 | refine below_set ?_ GE350.out | refine below_set ?_ GE361.out | refine below_set ?_ GE370.out) | exact HB.out)))); (case side2 => repeat (first | exact (Kd.C_below HR1.out HB.out) | (with_reducible refine Kd.C_alloc ?_ _) | (with_reducible refine Kd.C_drewN ?_ _) | (with_reducible refine Kd.C_drew ?_))); (case side3 => exact HC1.out); rintro e w62 ⟨rfl, hb⟩; refine ⟨_, rfl, ?_⟩; have n0_ := Aside0.mk (Kd.V_below (by (with_reducible repeat (first | apply Kd.V_alloc | apply Kd.V_drewN | apply Kd.V_drew)); exact HO359.out) hb); have n1_ := Aside0.mk (Kd.V_below (by (with_reducible repeat (first | apply Kd.V_alloc | apply Kd.V_drewN | apply Kd.V_drew)); exact HO368.out) hb); have n2_ := Aside0.mk (Kd.R_below (by (with_reducible repeat (first | apply Kd.R_alloc | apply Kd.R_drewN | apply Kd.R_drew)); exact HO373.out) hb); have n3_ := Aside0.mk (Kd.R_below (by (with_reducible repeat (first | apply Kd.R_alloc | apply Kd.R_drewN | apply Kd.R_drew)); exact HO377.out) hb); have n4_ := Aside0.mk (blk_below (g := gb350) (o := .cells #[.int .i64 a0_0, .string a0_1, .int .i64 a0_2, .int .i64 a0_3, .slice A0_4 l0_4.length c0_4] 24 (0, 0)) (by (with_reducible repeat (first | refine blk_drewN ?_ _ | refine blk_drew ?_ | refine blk_alloc ?_ _)); exact BK350.out) hb); have n5_ := Aside0.mk (blk_below (g := gb361) (o := .cells #[.int .i64 t353, .string t354, .int .i64 t355, .int .i64 t356, .slice Ao46 t357.length co46] 24 (0, 0)) (by (with_reducible repeat (first | refine blk_drewN ?_ _ | refine blk_drew ?_ | refine blk_alloc ?_ _)); exact BK361.out) hb); have n6_ := Aside0.mk (blk_below (g := gb370) (o := .cells #[.int .i64 t362, .string t363, .int .i64 t364, .int .i64 t365, .slice Ao54 t366.length co54] 24 (0, 0)) (by (with_reducible repeat (first | refine blk_drewN ?_ _ | refine blk_drew ?_ | refine blk_alloc ?_ _)); exact BK370.out) hb); have n7_ := Aside0.mk (below_step (by repeat (first | (with_reducible first | exact HB.out | apply below_alloc | apply pw_below_drewN | apply below_drew1 | refine below_set ?_ GE350.out | refine below_set ?_ GE361.out | refine below_set ?_ GE370.out) | exact HB.out)) hb); clear HO359; clear HO368; clear HO373; clear HO377; clear BK350; clear BK361; clear BK370; clear HB; have HO359 := n0_; have HO368 := n1_; have HO373 := n2_; have HO377 := n3_; have BK350 := n4_; have BK361 := n5_; have BK370 := n6_; have HB := n7_; clear n0_ n1_ n2_ n3_ n4_ n5_ n6_ n7_; (try clear hb); (try clear hb2); (try clear hk); (try clear hi); have hcz63_0 : w62.cell? ⟨gb350, 0, none⟩ = some (.int .i64 a0_0) := (blk_cell BK350.out 0).trans rfl; have hcz63_1 : w62.cell? ⟨gb350, 1, none⟩ = some (.string a0_1) := (blk_cell BK350.out 1).trans rfl; have hcz63_2 : w62.cell? ⟨gb350, 2, none⟩ = some (.int .i64 a0_2) := (blk_cell BK350.out 2).trans rfl; have hcz63_3 : w62.cell? ⟨gb350, 3, none⟩ = some (.int .i64 a0_3) := (blk_cell BK350.out 3).trans rfl; have hcz63_4 : w62.cell? ⟨gb350, 4, none⟩ = some (.slice A0_4 l0_4.length c0_4) := (blk_cell BK350.out 4).trans rfl; have hfz63_0 := blk_frozen BK350.out 0; have hfz63_1 := blk_frozen BK350.out 1; have hfz63_2 := blk_frozen BK350.out 2; have hfz63_3 := blk_frozen BK350.out 3; have hfz63_4 := blk_frozen BK350.out 4) | ((with_reducible refine gate_callee (f := 30) rfl ?_); refine goesL_ (some 73) rfl rfl Try.func30 (by kernel_rfl) rfl #[.agg #[.int .i64 a0_0, .string a0_1, .int .i64 a0_2, .int .i64 a0_3, .slice A0_4 l0_4.length c0_4], .int .i64 a3] rfl (by (try simp only [List.map_toArray, List.map_cons, List.map_nil]); first | done | rfl | (simp only [List.length_drop, List.length_take]; rfl)) ?_; (with_reducible refine (tree_Find.calls a0_0 a0_1 a0_2 a0_3 _ _ l0_4 a3 t383 t384 _ ?side1 ?side2 A22.out).mono ?_); (case side1 => repeat (first | exact (Kd.C_below HR0_4.out HB.out) | (with_reducible refine Kd.C_alloc ?_ _) | (with_reducible refine Kd.C_drewN ?_ _) | (with_reducible refine Kd.C_drew ?_))); (case side2 => exact HC0_4.out); rintro e w64 ⟨rfl, hb⟩; refine ⟨_, rfl, ?_⟩; have n0_ := Aside0.mk (Kd.V_below (by (with_reducible repeat (first | apply Kd.V_alloc | apply Kd.V_drewN | apply Kd.V_drew)); exact HO359.out) hb); have n1_ := Aside0.mk (Kd.V_below (by (with_reducible repeat (first | apply Kd.V_alloc | apply Kd.V_drewN | apply Kd.V_drew)); exact HO368.out) hb); have n2_ := Aside0.mk (Kd.R_below (by (with_reducible repeat (first | apply Kd.R_alloc | apply Kd.R_drewN | apply Kd.R_drew)); exact HO373.out) hb); have n3_ := Aside0.mk (Kd.R_below (by (with_reducible repeat (first | apply Kd.R_alloc | apply Kd.R_drewN | apply Kd.R_drew)); exact HO377.out) hb); have n4_ := Aside0.mk (blk_below (g := gb350) (o := .cells #[.int .i64 a0_0, .string a0_1, .int .i64 a0_2, .int .i64 a0_3, .slice A0_4 l0_4.length c0_4] 24 (0, 0)) (by (with_reducible repeat (first | refine blk_drewN ?_ _ | refine blk_drew ?_ | refine blk_alloc ?_ _)); exact BK350.out) hb); have n5_ := Aside0.mk (blk_below (g := gb361) (o := .cells #[.int .i64 t353, .string t354, .int .i64 t355, .int .i64 t356, .slice Ao46 t357.length co46] 24 (0, 0)) (by (with_reducible repeat (first | refine blk_drewN ?_ _ | refine blk_drew ?_ | refine blk_alloc ?_ _)); exact BK361.out) hb); have n6_ := Aside0.mk (blk_below (g := gb370) (o := .cells #[.int .i64 t362, .string t363, .int .i64 t364, .int .i64 t365, .slice Ao54 t366.length co54] 24 (0, 0)) (by (with_reducible repeat (first | refine blk_drewN ?_ _ | refine blk_drew ?_ | refine blk_alloc ?_ _)); exact BK370.out) hb); have n7_ := Aside0.mk (below_step (by repeat (first | (with_reducible first | exact HB.out | apply below_alloc | apply pw_below_drewN | apply below_drew1 | refine below_set ?_ GE350.out | refine below_set ?_ GE361.out | refine below_set ?_ GE370.out) | exact HB.out)) hb); clear HO359; clear HO368; clear HO373; clear HO377; clear BK350; clear BK361; clear BK370; clear HB; have HO359 := n0_; have HO368 := n1_; have HO373 := n2_; have HO377 := n3_; have BK350 := n4_; have BK361 := n5_; have BK370 := n6_; have HB := n7_; clear n0_ n1_ n2_ n3_ n4_ n5_ n6_ n7_; (try clear hb); (try clear hb2); (try clear hk); (try clear hi); have hcz65_0 : w64.cell? ⟨gb350, 0, none⟩ = some (.int .i64 a0_0) := (blk_cell BK350.out 0).trans rfl; have hcz65_1 : w64.cell? ⟨gb350, 1, none⟩ = some (.string a0_1) := (blk_cell BK350.out 1).trans rfl; have hcz65_2 : w64.cell? ⟨gb350, 2, none⟩ = some (.int .i64 a0_2) := (blk_cell BK350.out 2).trans rfl; have hcz65_3 : w64.cell? ⟨gb350, 3, none⟩ = some (.int .i64 a0_3) := (blk_cell BK350.out 3).trans rfl; have hcz65_4 : w64.cell? ⟨gb350, 4, none⟩ = some (.slice A0_4 l0_4.length c0_4) := (blk_cell BK350.out 4).trans rfl; have hfz65_0 := blk_frozen BK350.out 0; have hfz65_1 := blk_frozen BK350.out 1; have hfz65_2 := blk_frozen BK350.out 2; have hfz65_3 := blk_frozen BK350.out 3; have hfz65_4 := blk_frozen BK350.out 4) | ((with_reducible refine gate_callee (f := 31) rfl ?_); refine goesL_ (some 79) rfl rfl Try.func31 (by kernel_rfl) rfl #[.agg #[.int .i64 a0_0, .string a0_1, .int .i64 a0_2, .int .i64 a0_3, .slice A0_4 l0_4.length c0_4], .int .i64 a3] rfl (by (try simp only [List.map_toArray, List.map_cons, List.map_nil]); first | done | rfl | (simp only [List.length_drop, List.length_take]; rfl)) ?_; (with_reducible refine (assessorref03_Find.calls kj4 a0_0 a0_1 a0_2 a0_3 _ _ l0_4 a3 t385 t386 _ ?side1 ?side2 A23.out).mono ?_); (case side1 => repeat (first | exact (Kd.C_below HR0_4.out HB.out) | (with_reducible refine Kd.C_alloc ?_ _) | (with_reducible refine Kd.C_drewN ?_ _) | (with_reducible refine Kd.C_drew ?_))); (case side2 => exact HC0_4.out); rintro e w66 ⟨rfl, hb⟩; refine ⟨_, rfl, ?_⟩; have n0_ := Aside0.mk (Kd.V_below (by (with_reducible repeat (first | apply Kd.V_alloc | apply Kd.V_drewN | apply Kd.V_drew)); exact HO359.out) hb); have n1_ := Aside0.mk (Kd.V_below (by (with_reducible repeat (first | apply Kd.V_alloc | apply Kd.V_drewN | apply Kd.V_drew)); exact HO368.out) hb); have n2_ := Aside0.mk (Kd.R_below (by (with_reducible repeat (first | apply Kd.R_alloc | apply Kd.R_drewN | apply Kd.R_drew)); exact HO373.out) hb); have n3_ := Aside0.mk (Kd.R_below (by (with_reducible repeat (first | apply Kd.R_alloc | apply Kd.R_drewN | apply Kd.R_drew)); exact HO377.out) hb); have n4_ := Aside0.mk (blk_below (g := gb350) (o := .cells #[.int .i64 a0_0, .string a0_1, .int .i64 a0_2, .int .i64 a0_3, .slice A0_4 l0_4.length c0_4] 24 (0, 0)) (by (with_reducible repeat (first | refine blk_drewN ?_ _ | refine blk_drew ?_ | refine blk_alloc ?_ _)); exact BK350.out) hb); have n5_ := Aside0.mk (blk_below (g := gb361) (o := .cells #[.int .i64 t353, .string t354, .int .i64 t355, .int .i64 t356, .slice Ao46 t357.length co46] 24 (0, 0)) (by (with_reducible repeat (first | refine blk_drewN ?_ _ | refine blk_drew ?_ | refine blk_alloc ?_ _)); exact BK361.out) hb); have n6_ := Aside0.mk (blk_below (g := gb370) (o := .cells #[.int .i64 t362, .string t363, .int .i64 t364, .int .i64 t365, .slice Ao54 t366.length co54] 24 (0, 0)) (by (with_reducible repeat (first | refine blk_drewN ?_ _ | refine blk_drew ?_ | refine blk_alloc ?_ _)); exact BK370.out) hb); have n7_ := Aside0.mk (below_step (by repeat (first | (with_reducible first | exact HB.out | apply below_alloc | apply pw_below_drewN | apply below_drew1 | refine below_set ?_ GE350.out | refine below_set ?_ GE361.out | refine below_set ?_ GE370.out) | exact HB.out)) hb); clear HO359; clear HO368; clear HO373; clear HO377; clear BK350; clear BK361; clear BK370; clear HB; have HO359 := n0_; have HO368 := n1_; have HO373 := n2_; have HO377 := n3_; have BK350 := n4_; have BK361 := n5_; have BK370 := n6_; have HB := n7_; clear n0_ n1_ n2_ n3_ n4_ n5_ n6_ n7_; (try clear hb); (try clear hb2); (try clear hk); (try clear hi)))
              have n0_ := Aside0.mk (Kd.V_drew HO359.out)
              have n1_ := Aside0.mk (Kd.V_drew HO368.out)
              have n2_ := Aside0.mk (Kd.R_drew HO373.out)
              have n3_ := Aside0.mk (Kd.R_drew HO377.out)
              have n4_ := Aside0.mk (blk_drew BK350.out)
              have n5_ := Aside0.mk (blk_drew BK361.out)
              have n6_ := Aside0.mk (blk_drew BK370.out)
              have n7_ := Aside0.mk (below_drew1 HB.out)
              clear HO359
              clear HO368
              clear HO373
              clear HO377
              clear BK350
              clear BK361
              clear BK370
              clear HB
              have HO359 := n0_
              have HO368 := n1_
              have HO373 := n2_
              have HO377 := n3_
              have BK350 := n4_
              have BK361 := n5_
              have BK370 := n6_
              have HB := n7_
              clear n0_ n1_ n2_ n3_ n4_ n5_ n6_ n7_
              refine start_ (n := 56) (S := fun w' => w'.cell? ⟨gb350, 0, none⟩ = some (.int .i64 a0_0) ∧ w'.cell? ⟨gb350, 1, none⟩ = some (.string a0_1) ∧ w'.cell? ⟨gb350, 2, none⟩ = some (.int .i64 a0_2) ∧ w'.cell? ⟨gb350, 3, none⟩ = some (.int .i64 a0_3) ∧ w'.cell? ⟨gb350, 4, none⟩ = some (.slice A0_4 l0_4.length c0_4) ∧ w'.cell? ⟨gb361, 0, none⟩ = some (.int .i64 t353) ∧ w'.cell? ⟨gb361, 1, none⟩ = some (.string t354) ∧ w'.cell? ⟨gb361, 2, none⟩ = some (.int .i64 t355) ∧ w'.cell? ⟨gb361, 3, none⟩ = some (.int .i64 t356) ∧ w'.cell? ⟨gb361, 4, none⟩ = some (.slice Ao46 t357.length co46) ∧ w'.cell? ⟨gb370, 0, none⟩ = some (.int .i64 t362) ∧ w'.cell? ⟨gb370, 1, none⟩ = some (.string t363) ∧ w'.cell? ⟨gb370, 2, none⟩ = some (.int .i64 t364) ∧ w'.cell? ⟨gb370, 3, none⟩ = some (.int .i64 t365) ∧ w'.cell? ⟨gb370, 4, none⟩ = some (.slice Ao54 t366.length co54)) (ds := []) #[false, false, false, false, false, false, false, false, false, false, false, false, false, false, false, false, false, false, false, false, false, false, false, false, false, false, false, false, false, false, false, false, false, false, false, false, false, false, false, false, false, false, false, false, false, false, false, false, false, false, false, false, false, false, false, false] (by kernel_rfl) rfl rfl ⟨(blk_cell BK350.out 0).trans rfl, (blk_cell BK350.out 1).trans rfl, (blk_cell BK350.out 2).trans rfl, (blk_cell BK350.out 3).trans rfl, (blk_cell BK350.out 4).trans rfl, (blk_cell BK361.out 0).trans rfl, (blk_cell BK361.out 1).trans rfl, (blk_cell BK361.out 2).trans rfl, (blk_cell BK361.out 3).trans rfl, (blk_cell BK361.out 4).trans rfl, (blk_cell BK370.out 0).trans rfl, (blk_cell BK370.out 1).trans rfl, (blk_cell BK370.out 2).trans rfl, (blk_cell BK370.out 3).trans rfl, (blk_cell BK370.out 4).trans rfl⟩ (fun hHeld => ?_); refine with_tabW assessorlaw03_TreeNumbers.tab11 assessorlaw03_TreeNumbers.bits11 (fun HT_ HW_ => ?_)
              generalize w66.drew = w67 at HO359 HO368 HO373 HO377 BK350 BK361 BK370 HB hHeld ⊢
              refine take_ (i := 0) (N := some 82) (v := ?_) (a' := ?_) #[true, false, false, false, false, false, false, false, false, false, false, false, false, false, false, false, false, false, false, false, false, false, false, false, false, false, false, false, false, false, false, false, false, false, false, false, false, false, false, false, false, false, false, false, false, false, false, false, false, false, false, false, false, false, false, false] rfl rfl (take_ofW HT_.out HW_.out (by kernel_rfl)) (fun _ _ _ h => h) (Or.inl ⟨by rfl, ?_⟩) hHeld ?_ ?_
              rotate_left
              ·rintro w' ⟨s0, s1, s2, s3, s4, s5, s6, s7, s8, s9, s10, s11, s12, s13, s14⟩
               go_simp
               with_reducible rfl
              rotate_left
              ·simp only [Act.put, List.setIfInBounds_toArray, List.set_cons_zero, List.set_cons_succ, i64_w, i32_w]
               rfl
              refine take_ (i := 2) (N := some 84) (v := ?_) (a' := ?_) #[true, false, true, false, false, false, false, false, false, false, false, false, false, false, false, false, false, false, false, false, false, false, false, false, false, false, false, false, false, false, false, false, false, false, false, false, false, false, false, false, false, false, false, false, false, false, false, false, false, false, false, false, false, false, false, false] rfl rfl (take_ofW HT_.out HW_.out (by kernel_rfl)) (fun _ _ _ h => h) (Or.inl ⟨by rfl, ?_⟩) hHeld ?_ ?_
              rotate_left
              ·rintro w' ⟨s0, s1, s2, s3, s4, s5, s6, s7, s8, s9, s10, s11, s12, s13, s14⟩
               go_simp
               with_reducible rfl
              rotate_left
              ·simp only [Act.put, List.setIfInBounds_toArray, List.set_cons_zero, List.set_cons_succ, i64_w, i32_w]
               rfl
              refine one_ (i := 1) (N := some 83) #[true, true, true, false, false, false, false, false, false, false, false, false, false, false, false, false, false, false, false, false, false, false, false, false, false, false, false, false, false, false, false, false, false, false, false, false, false, false, false, false, false, false, false, false, false, false, false, false, false, false, false, false, false, false, false, false] rfl rfl (one_of HT_.out (by kernel_rfl)) (by decide) (fun K hK => ?_)
              refine goes_ Try.func22 (by kernel_rfl) rfl #[.agg #[.int .i64 a0_0, .string a0_1, .int .i64 a0_2, .int .i64 a0_3, .slice A0_4 l0_4.length c0_4]] (by rfl) rfl rfl (by (try simp only [List.map_toArray, List.map_cons, List.map_nil]); first | done | rfl | (simp only [List.length_drop, List.length_take]; rfl)) ?_
              with_reducible refine (tree_Count.calls a0_0 a0_1 a0_2 a0_3 _ _ l0_4 t387 _ ?side1 ?side2 A24.out).mono ?_
              (case side1 => repeat (first | exact (Kd.C_below HR0_4.out HB.out) | (with_reducible refine Kd.C_alloc ?_ _) | (with_reducible refine Kd.C_drewN ?_ _) | (with_reducible refine Kd.C_drew ?_)))
              (case side2 => exact HC0_4.out)
              rintro e w68 ⟨rfl, hb⟩
              refine ⟨_, rfl, ?_⟩
              have n0_ := Aside0.mk (Kd.V_below (by (with_reducible repeat (first | apply Kd.V_alloc | apply Kd.V_drewN | apply Kd.V_drew)); exact HO359.out) hb)
              have n1_ := Aside0.mk (Kd.V_below (by (with_reducible repeat (first | apply Kd.V_alloc | apply Kd.V_drewN | apply Kd.V_drew)); exact HO368.out) hb)
              have n2_ := Aside0.mk (Kd.R_below (by (with_reducible repeat (first | apply Kd.R_alloc | apply Kd.R_drewN | apply Kd.R_drew)); exact HO373.out) hb)
              have n3_ := Aside0.mk (Kd.R_below (by (with_reducible repeat (first | apply Kd.R_alloc | apply Kd.R_drewN | apply Kd.R_drew)); exact HO377.out) hb)
              have n4_ := Aside0.mk (blk_below (g := gb350) (o := .cells #[.int .i64 a0_0, .string a0_1, .int .i64 a0_2, .int .i64 a0_3, .slice A0_4 l0_4.length c0_4] 24 (0, 0)) (by (with_reducible repeat (first | refine blk_drewN ?_ _ | refine blk_drew ?_ | refine blk_alloc ?_ _)); exact BK350.out) hb)
              have n5_ := Aside0.mk (blk_below (g := gb361) (o := .cells #[.int .i64 t353, .string t354, .int .i64 t355, .int .i64 t356, .slice Ao46 t357.length co46] 24 (0, 0)) (by (with_reducible repeat (first | refine blk_drewN ?_ _ | refine blk_drew ?_ | refine blk_alloc ?_ _)); exact BK361.out) hb)
              have n6_ := Aside0.mk (blk_below (g := gb370) (o := .cells #[.int .i64 t362, .string t363, .int .i64 t364, .int .i64 t365, .slice Ao54 t366.length co54] 24 (0, 0)) (by (with_reducible repeat (first | refine blk_drewN ?_ _ | refine blk_drew ?_ | refine blk_alloc ?_ _)); exact BK370.out) hb)
              have n7_ := Aside0.mk (below_step (by repeat (first | (with_reducible first | exact HB.out | apply below_alloc | apply pw_below_drewN | apply below_drew1 | refine below_set ?_ GE350.out | refine below_set ?_ GE361.out | refine below_set ?_ GE370.out) | exact HB.out)) hb)
              clear HO359
              clear HO368
              clear HO373
              clear HO377
              clear BK350
              clear BK361
              clear BK370
              clear HB
              have HO359 := n0_
              have HO368 := n1_
              have HO373 := n2_
              have HO377 := n3_
              have BK350 := n4_
              have BK361 := n5_
              have BK370 := n6_
              have HB := n7_
              clear n0_ n1_ n2_ n3_ n4_ n5_ n6_ n7_
              (try clear hb)
              (try clear hb2)
              (try clear hk)
              (try clear hi)
              refine hK.out _ _ ⟨(blk_cell BK350.out 0).trans rfl, (blk_cell BK350.out 1).trans rfl, (blk_cell BK350.out 2).trans rfl, (blk_cell BK350.out 3).trans rfl, (blk_cell BK350.out 4).trans rfl, (blk_cell BK361.out 0).trans rfl, (blk_cell BK361.out 1).trans rfl, (blk_cell BK361.out 2).trans rfl, (blk_cell BK361.out 3).trans rfl, (blk_cell BK361.out 4).trans rfl, (blk_cell BK370.out 0).trans rfl, (blk_cell BK370.out 1).trans rfl, (blk_cell BK370.out 2).trans rfl, (blk_cell BK370.out 3).trans rfl, (blk_cell BK370.out 4).trans rfl⟩ (fun hHeld => ?_)
              clear hK K
              refine norm_ (a' := ?_) ?_ ?_
              rotate_left
              ·show Act.put _ (some 83) _ = _
               simp only [Act.put, List.setIfInBounds_toArray, List.set_cons_zero, List.set_cons_succ, i64_w, i32_w]
               rfl
              refine one_ (i := 3) (N := some 85) #[true, true, true, true, false, false, false, false, false, false, false, false, false, false, false, false, false, false, false, false, false, false, false, false, false, false, false, false, false, false, false, false, false, false, false, false, false, false, false, false, false, false, false, false, false, false, false, false, false, false, false, false, false, false, false, false] rfl rfl (one_of HT_.out (by kernel_rfl)) (by decide) (fun K hK => ?_)
              refine goes_ Try.func32 (by kernel_rfl) rfl #[.agg #[.int .i64 a0_0, .string a0_1, .int .i64 a0_2, .int .i64 a0_3, .slice A0_4 l0_4.length c0_4]] (by rfl) rfl rfl (by (try simp only [List.map_toArray, List.map_cons, List.map_nil]); first | done | rfl | (simp only [List.length_drop, List.length_take]; rfl)) ?_
              with_reducible refine (assessorref03_Count.calls kj4 a0_0 a0_1 a0_2 a0_3 _ _ l0_4 t388 _ ?side1 ?side2 A25.out).mono ?_
              (case side1 => repeat (first | exact (Kd.C_below HR0_4.out HB.out) | (with_reducible refine Kd.C_alloc ?_ _) | (with_reducible refine Kd.C_drewN ?_ _) | (with_reducible refine Kd.C_drew ?_)))
              (case side2 => exact HC0_4.out)
              rintro e w69 ⟨rfl, hb⟩
              refine ⟨_, rfl, ?_⟩
              have n0_ := Aside0.mk (Kd.V_below (by (with_reducible repeat (first | apply Kd.V_alloc | apply Kd.V_drewN | apply Kd.V_drew)); exact HO359.out) hb)
              have n1_ := Aside0.mk (Kd.V_below (by (with_reducible repeat (first | apply Kd.V_alloc | apply Kd.V_drewN | apply Kd.V_drew)); exact HO368.out) hb)
              have n2_ := Aside0.mk (Kd.R_below (by (with_reducible repeat (first | apply Kd.R_alloc | apply Kd.R_drewN | apply Kd.R_drew)); exact HO373.out) hb)
              have n3_ := Aside0.mk (Kd.R_below (by (with_reducible repeat (first | apply Kd.R_alloc | apply Kd.R_drewN | apply Kd.R_drew)); exact HO377.out) hb)
              have n4_ := Aside0.mk (blk_below (g := gb350) (o := .cells #[.int .i64 a0_0, .string a0_1, .int .i64 a0_2, .int .i64 a0_3, .slice A0_4 l0_4.length c0_4] 24 (0, 0)) (by (with_reducible repeat (first | refine blk_drewN ?_ _ | refine blk_drew ?_ | refine blk_alloc ?_ _)); exact BK350.out) hb)
              have n5_ := Aside0.mk (blk_below (g := gb361) (o := .cells #[.int .i64 t353, .string t354, .int .i64 t355, .int .i64 t356, .slice Ao46 t357.length co46] 24 (0, 0)) (by (with_reducible repeat (first | refine blk_drewN ?_ _ | refine blk_drew ?_ | refine blk_alloc ?_ _)); exact BK361.out) hb)
              have n6_ := Aside0.mk (blk_below (g := gb370) (o := .cells #[.int .i64 t362, .string t363, .int .i64 t364, .int .i64 t365, .slice Ao54 t366.length co54] 24 (0, 0)) (by (with_reducible repeat (first | refine blk_drewN ?_ _ | refine blk_drew ?_ | refine blk_alloc ?_ _)); exact BK370.out) hb)
              have n7_ := Aside0.mk (below_step (by repeat (first | (with_reducible first | exact HB.out | apply below_alloc | apply pw_below_drewN | apply below_drew1 | refine below_set ?_ GE350.out | refine below_set ?_ GE361.out | refine below_set ?_ GE370.out) | exact HB.out)) hb)
              clear HO359
              clear HO368
              clear HO373
              clear HO377
              clear BK350
              clear BK361
              clear BK370
              clear HB
              have HO359 := n0_
              have HO368 := n1_
              have HO373 := n2_
              have HO377 := n3_
              have BK350 := n4_
              have BK361 := n5_
              have BK370 := n6_
              have HB := n7_
              clear n0_ n1_ n2_ n3_ n4_ n5_ n6_ n7_
              (try clear hb)
              (try clear hb2)
              (try clear hk)
              (try clear hi)
              refine hK.out _ _ ⟨(blk_cell BK350.out 0).trans rfl, (blk_cell BK350.out 1).trans rfl, (blk_cell BK350.out 2).trans rfl, (blk_cell BK350.out 3).trans rfl, (blk_cell BK350.out 4).trans rfl, (blk_cell BK361.out 0).trans rfl, (blk_cell BK361.out 1).trans rfl, (blk_cell BK361.out 2).trans rfl, (blk_cell BK361.out 3).trans rfl, (blk_cell BK361.out 4).trans rfl, (blk_cell BK370.out 0).trans rfl, (blk_cell BK370.out 1).trans rfl, (blk_cell BK370.out 2).trans rfl, (blk_cell BK370.out 3).trans rfl, (blk_cell BK370.out 4).trans rfl⟩ (fun hHeld => ?_)
              clear hK K
              refine norm_ (a' := ?_) ?_ ?_
              rotate_left
              ·show Act.put _ (some 85) _ = _
               simp only [Act.put, List.setIfInBounds_toArray, List.set_cons_zero, List.set_cons_succ, i64_w, i32_w]
               rfl
              refine pure_ (i := 4) (N := some 86) (v := ?_) (a' := ?_) #[true, true, true, true, true, false, false, false, false, false, false, false, false, false, false, false, false, false, false, false, false, false, false, false, false, false, false, false, false, false, false, false, false, false, false, false, false, false, false, false, false, false, false, false, false, false, false, false, false, false, false, false, false, false, false, false] rfl rfl (any_of HT_.out (by kernel_rfl)) (fun _ _ _ h => h) (Or.inl ⟨by rfl, ?_⟩) ?_ ?_
              rotate_left
              ·intro w'
               go_simp
               with_reducible rfl
              rotate_left
              ·simp only [Act.put, List.setIfInBounds_toArray, List.set_cons_zero, List.set_cons_succ, i64_w, i32_w]
               rfl
              refine pure_ (i := 5) (N := some 87) (v := ?_) (a' := ?_) #[true, true, true, true, true, true, false, false, false, false, false, false, false, false, false, false, false, false, false, false, false, false, false, false, false, false, false, false, false, false, false, false, false, false, false, false, false, false, false, false, false, false, false, false, false, false, false, false, false, false, false, false, false, false, false, false] rfl rfl (any_of HT_.out (by kernel_rfl)) (fun _ _ _ h => h) (Or.inl ⟨by rfl, ?_⟩) ?_ ?_
              rotate_left
              ·intro w'
               go_simp
               with_reducible rfl
              rotate_left
              ·simp only [Act.put, List.setIfInBounds_toArray, List.set_cons_zero, List.set_cons_succ, i64_w, i32_w]
               rfl
              refine take_ (i := 6) (N := some 88) (v := ?_) (a' := ?_) #[true, true, true, true, true, true, true, false, false, false, false, false, false, false, false, false, false, false, false, false, false, false, false, false, false, false, false, false, false, false, false, false, false, false, false, false, false, false, false, false, false, false, false, false, false, false, false, false, false, false, false, false, false, false, false, false] rfl rfl (take_ofW HT_.out HW_.out (by kernel_rfl)) (fun _ _ _ h => h) (Or.inl ⟨by rfl, ?_⟩) hHeld ?_ ?_
              rotate_left
              ·rintro w' ⟨s0, s1, s2, s3, s4, s5, s6, s7, s8, s9, s10, s11, s12, s13, s14⟩
               go_simp
               with_reducible rfl
              rotate_left
              ·simp only [Act.put, List.setIfInBounds_toArray, List.set_cons_zero, List.set_cons_succ, i64_w, i32_w]
               rfl
              refine take_ (i := 8) (N := some 90) (v := ?_) (a' := ?_) #[true, true, true, true, true, true, true, false, true, false, false, false, false, false, false, false, false, false, false, false, false, false, false, false, false, false, false, false, false, false, false, false, false, false, false, false, false, false, false, false, false, false, false, false, false, false, false, false, false, false, false, false, false, false, false, false] rfl rfl (take_ofW HT_.out HW_.out (by kernel_rfl)) (fun _ _ _ h => h) (Or.inl ⟨by rfl, ?_⟩) hHeld ?_ ?_
              rotate_left
              ·rintro w' ⟨s0, s1, s2, s3, s4, s5, s6, s7, s8, s9, s10, s11, s12, s13, s14⟩
               go_simp
               with_reducible rfl
              rotate_left
              ·simp only [Act.put, List.setIfInBounds_toArray, List.set_cons_zero, List.set_cons_succ, i64_w, i32_w]
               rfl
              refine one_ (i := 7) (N := some 89) #[true, true, true, true, true, true, true, true, true, false, false, false, false, false, false, false, false, false, false, false, false, false, false, false, false, false, false, false, false, false, false, false, false, false, false, false, false, false, false, false, false, false, false, false, false, false, false, false, false, false, false, false, false, false, false, false] rfl rfl (one_of HT_.out (by kernel_rfl)) (by decide) (fun K hK => ?_)
              refine goes_ Try.func33 (by kernel_rfl) rfl #[.agg #[.int .i64 a0_0, .string a0_1, .int .i64 a0_2, .int .i64 a0_3, .slice A0_4 l0_4.length c0_4]] (by rfl) rfl rfl (by (try simp only [List.map_toArray, List.map_cons, List.map_nil]); first | done | rfl | (simp only [List.length_drop, List.length_take]; rfl)) ?_
              with_reducible refine (tree_Levels.calls kj4 a0_0 a0_1 a0_2 a0_3 _ _ l0_4 t389 _ ?side1 ?side2 A27.out).mono ?_
              (case side1 => repeat (first | exact (Kd.C_below HR0_4.out HB.out) | (with_reducible refine Kd.C_alloc ?_ _) | (with_reducible refine Kd.C_drewN ?_ _) | (with_reducible refine Kd.C_drew ?_)))
              (case side2 => exact HC0_4.out)
              rintro e w70 ⟨rfl, hb⟩
              refine ⟨_, rfl, ?_⟩
              have n0_ := Aside0.mk (Kd.V_below (by (with_reducible repeat (first | apply Kd.V_alloc | apply Kd.V_drewN | apply Kd.V_drew)); exact HO359.out) hb)
              have n1_ := Aside0.mk (Kd.V_below (by (with_reducible repeat (first | apply Kd.V_alloc | apply Kd.V_drewN | apply Kd.V_drew)); exact HO368.out) hb)
              have n2_ := Aside0.mk (Kd.R_below (by (with_reducible repeat (first | apply Kd.R_alloc | apply Kd.R_drewN | apply Kd.R_drew)); exact HO373.out) hb)
              have n3_ := Aside0.mk (Kd.R_below (by (with_reducible repeat (first | apply Kd.R_alloc | apply Kd.R_drewN | apply Kd.R_drew)); exact HO377.out) hb)
              have n4_ := Aside0.mk (blk_below (g := gb350) (o := .cells #[.int .i64 a0_0, .string a0_1, .int .i64 a0_2, .int .i64 a0_3, .slice A0_4 l0_4.length c0_4] 24 (0, 0)) (by (with_reducible repeat (first | refine blk_drewN ?_ _ | refine blk_drew ?_ | refine blk_alloc ?_ _)); exact BK350.out) hb)
              have n5_ := Aside0.mk (blk_below (g := gb361) (o := .cells #[.int .i64 t353, .string t354, .int .i64 t355, .int .i64 t356, .slice Ao46 t357.length co46] 24 (0, 0)) (by (with_reducible repeat (first | refine blk_drewN ?_ _ | refine blk_drew ?_ | refine blk_alloc ?_ _)); exact BK361.out) hb)
              have n6_ := Aside0.mk (blk_below (g := gb370) (o := .cells #[.int .i64 t362, .string t363, .int .i64 t364, .int .i64 t365, .slice Ao54 t366.length co54] 24 (0, 0)) (by (with_reducible repeat (first | refine blk_drewN ?_ _ | refine blk_drew ?_ | refine blk_alloc ?_ _)); exact BK370.out) hb)
              have n7_ := Aside0.mk (below_step (by repeat (first | (with_reducible first | exact HB.out | apply below_alloc | apply pw_below_drewN | apply below_drew1 | refine below_set ?_ GE350.out | refine below_set ?_ GE361.out | refine below_set ?_ GE370.out) | exact HB.out)) hb)
              clear HO359
              clear HO368
              clear HO373
              clear HO377
              clear BK350
              clear BK361
              clear BK370
              clear HB
              have HO359 := n0_
              have HO368 := n1_
              have HO373 := n2_
              have HO377 := n3_
              have BK350 := n4_
              have BK361 := n5_
              have BK370 := n6_
              have HB := n7_
              clear n0_ n1_ n2_ n3_ n4_ n5_ n6_ n7_
              (try clear hb)
              (try clear hb2)
              (try clear hk)
              (try clear hi)
              refine hK.out _ _ ⟨(blk_cell BK350.out 0).trans rfl, (blk_cell BK350.out 1).trans rfl, (blk_cell BK350.out 2).trans rfl, (blk_cell BK350.out 3).trans rfl, (blk_cell BK350.out 4).trans rfl, (blk_cell BK361.out 0).trans rfl, (blk_cell BK361.out 1).trans rfl, (blk_cell BK361.out 2).trans rfl, (blk_cell BK361.out 3).trans rfl, (blk_cell BK361.out 4).trans rfl, (blk_cell BK370.out 0).trans rfl, (blk_cell BK370.out 1).trans rfl, (blk_cell BK370.out 2).trans rfl, (blk_cell BK370.out 3).trans rfl, (blk_cell BK370.out 4).trans rfl⟩ (fun hHeld => ?_)
              clear hK K
              refine norm_ (a' := ?_) ?_ ?_
              rotate_left
              ·show Act.put _ (some 89) _ = _
               simp only [Act.put, List.setIfInBounds_toArray, List.set_cons_zero, List.set_cons_succ, i64_w, i32_w]
               rfl
              refine one_ (i := 9) (N := some 91) #[true, true, true, true, true, true, true, true, true, true, false, false, false, false, false, false, false, false, false, false, false, false, false, false, false, false, false, false, false, false, false, false, false, false, false, false, false, false, false, false, false, false, false, false, false, false, false, false, false, false, false, false, false, false, false, false] rfl rfl (one_of HT_.out (by kernel_rfl)) (by decide) (fun K hK => ?_)
              refine goes_ Try.func34 (by kernel_rfl) rfl #[.agg #[.int .i64 a0_0, .string a0_1, .int .i64 a0_2, .int .i64 a0_3, .slice A0_4 l0_4.length c0_4]] (by rfl) rfl rfl (by (try simp only [List.map_toArray, List.map_cons, List.map_nil]); first | done | rfl | (simp only [List.length_drop, List.length_take]; rfl)) ?_
              with_reducible refine (assessorref03_Levels.calls kj4 a0_0 a0_1 a0_2 a0_3 _ _ l0_4 t390 _ ?side1 ?side2 A28.out).mono ?_
              (case side1 => repeat (first | exact (Kd.C_below HR0_4.out HB.out) | (with_reducible refine Kd.C_alloc ?_ _) | (with_reducible refine Kd.C_drewN ?_ _) | (with_reducible refine Kd.C_drew ?_)))
              (case side2 => exact HC0_4.out)
              rintro e w71 ⟨rfl, hb⟩
              refine ⟨_, rfl, ?_⟩
              have n0_ := Aside0.mk (Kd.V_below (by (with_reducible repeat (first | apply Kd.V_alloc | apply Kd.V_drewN | apply Kd.V_drew)); exact HO359.out) hb)
              have n1_ := Aside0.mk (Kd.V_below (by (with_reducible repeat (first | apply Kd.V_alloc | apply Kd.V_drewN | apply Kd.V_drew)); exact HO368.out) hb)
              have n2_ := Aside0.mk (Kd.R_below (by (with_reducible repeat (first | apply Kd.R_alloc | apply Kd.R_drewN | apply Kd.R_drew)); exact HO373.out) hb)
              have n3_ := Aside0.mk (Kd.R_below (by (with_reducible repeat (first | apply Kd.R_alloc | apply Kd.R_drewN | apply Kd.R_drew)); exact HO377.out) hb)
              have n4_ := Aside0.mk (blk_below (g := gb350) (o := .cells #[.int .i64 a0_0, .string a0_1, .int .i64 a0_2, .int .i64 a0_3, .slice A0_4 l0_4.length c0_4] 24 (0, 0)) (by (with_reducible repeat (first | refine blk_drewN ?_ _ | refine blk_drew ?_ | refine blk_alloc ?_ _)); exact BK350.out) hb)
              have n5_ := Aside0.mk (blk_below (g := gb361) (o := .cells #[.int .i64 t353, .string t354, .int .i64 t355, .int .i64 t356, .slice Ao46 t357.length co46] 24 (0, 0)) (by (with_reducible repeat (first | refine blk_drewN ?_ _ | refine blk_drew ?_ | refine blk_alloc ?_ _)); exact BK361.out) hb)
              have n6_ := Aside0.mk (blk_below (g := gb370) (o := .cells #[.int .i64 t362, .string t363, .int .i64 t364, .int .i64 t365, .slice Ao54 t366.length co54] 24 (0, 0)) (by (with_reducible repeat (first | refine blk_drewN ?_ _ | refine blk_drew ?_ | refine blk_alloc ?_ _)); exact BK370.out) hb)
              have n7_ := Aside0.mk (below_step (by repeat (first | (with_reducible first | exact HB.out | apply below_alloc | apply pw_below_drewN | apply below_drew1 | refine below_set ?_ GE350.out | refine below_set ?_ GE361.out | refine below_set ?_ GE370.out) | exact HB.out)) hb)
              clear HO359
              clear HO368
              clear HO373
              clear HO377
              clear BK350
              clear BK361
              clear BK370
              clear HB
              have HO359 := n0_
              have HO368 := n1_
              have HO373 := n2_
              have HO377 := n3_
              have BK350 := n4_
              have BK361 := n5_
              have BK370 := n6_
              have HB := n7_
              clear n0_ n1_ n2_ n3_ n4_ n5_ n6_ n7_
              (try clear hb)
              (try clear hb2)
              (try clear hk)
              (try clear hi)
              refine hK.out _ _ ⟨(blk_cell BK350.out 0).trans rfl, (blk_cell BK350.out 1).trans rfl, (blk_cell BK350.out 2).trans rfl, (blk_cell BK350.out 3).trans rfl, (blk_cell BK350.out 4).trans rfl, (blk_cell BK361.out 0).trans rfl, (blk_cell BK361.out 1).trans rfl, (blk_cell BK361.out 2).trans rfl, (blk_cell BK361.out 3).trans rfl, (blk_cell BK361.out 4).trans rfl, (blk_cell BK370.out 0).trans rfl, (blk_cell BK370.out 1).trans rfl, (blk_cell BK370.out 2).trans rfl, (blk_cell BK370.out 3).trans rfl, (blk_cell BK370.out 4).trans rfl⟩ (fun hHeld => ?_)
              clear hK K
              refine norm_ (a' := ?_) ?_ ?_
              rotate_left
              ·show Act.put _ (some 91) _ = _
               simp only [Act.put, List.setIfInBounds_toArray, List.set_cons_zero, List.set_cons_succ, i64_w, i32_w]
               rfl
              refine pure_ (i := 10) (N := some 92) (v := ?_) (a' := ?_) #[true, true, true, true, true, true, true, true, true, true, true, false, false, false, false, false, false, false, false, false, false, false, false, false, false, false, false, false, false, false, false, false, false, false, false, false, false, false, false, false, false, false, false, false, false, false, false, false, false, false, false, false, false, false, false, false] rfl rfl (any_of HT_.out (by kernel_rfl)) (fun _ _ _ h => h) (Or.inl ⟨by rfl, ?_⟩) ?_ ?_
              rotate_left
              ·intro w'
               go_simp
               with_reducible rfl
              rotate_left
              ·simp only [Act.put, List.setIfInBounds_toArray, List.set_cons_zero, List.set_cons_succ, i64_w, i32_w]
               rfl
              refine pure_ (i := 11) (N := some 93) (v := ?_) (a' := ?_) #[true, true, true, true, true, true, true, true, true, true, true, true, false, false, false, false, false, false, false, false, false, false, false, false, false, false, false, false, false, false, false, false, false, false, false, false, false, false, false, false, false, false, false, false, false, false, false, false, false, false, false, false, false, false, false, false] rfl rfl (any_of HT_.out (by kernel_rfl)) (fun _ _ _ h => h) (Or.inl ⟨by rfl, ?_⟩) ?_ ?_
              rotate_left
              ·intro w'
               go_simp
               with_reducible rfl
              rotate_left
              ·simp only [Act.put, List.setIfInBounds_toArray, List.set_cons_zero, List.set_cons_succ, i64_w, i32_w]
               rfl
              refine pure_ (i := 12) (N := some 94) (v := ?_) (a' := ?_) #[true, true, true, true, true, true, true, true, true, true, true, true, true, false, false, false, false, false, false, false, false, false, false, false, false, false, false, false, false, false, false, false, false, false, false, false, false, false, false, false, false, false, false, false, false, false, false, false, false, false, false, false, false, false, false, false] rfl rfl (any_of HT_.out (by kernel_rfl)) (fun _ _ _ h => h) (Or.inl ⟨by rfl, ?_⟩) ?_ ?_
              rotate_left
              ·intro w'
               go_simp
               with_reducible rfl
              rotate_left
              ·simp only [Act.put, List.setIfInBounds_toArray, List.set_cons_zero, List.set_cons_succ, i64_w, i32_w]
               rfl
              refine pure_ (i := 13) (N := some 95) (v := ?_) (a' := ?_) #[true, true, true, true, true, true, true, true, true, true, true, true, true, true, false, false, false, false, false, false, false, false, false, false, false, false, false, false, false, false, false, false, false, false, false, false, false, false, false, false, false, false, false, false, false, false, false, false, false, false, false, false, false, false, false, false] rfl rfl (any_of HT_.out (by kernel_rfl)) (fun _ _ _ h => h) (Or.inl ⟨by rfl, ?_⟩) ?_ ?_
              rotate_left
              ·intro w'
               go_simp
               with_reducible rfl
              rotate_left
              ·simp only [Act.put, List.setIfInBounds_toArray, List.set_cons_zero, List.set_cons_succ, i64_w, i32_w]
               rfl
              refine pure_ (i := 14) (N := some 96) (v := ?_) (a' := ?_) #[true, true, true, true, true, true, true, true, true, true, true, true, true, true, true, false, false, false, false, false, false, false, false, false, false, false, false, false, false, false, false, false, false, false, false, false, false, false, false, false, false, false, false, false, false, false, false, false, false, false, false, false, false, false, false, false] rfl rfl (any_of HT_.out (by kernel_rfl)) (fun _ _ _ h => h) (Or.inl ⟨by rfl, ?_⟩) ?_ ?_
              rotate_left
              ·intro w'
               go_simp
               with_reducible rfl
              rotate_left
              ·simp only [Act.put, List.setIfInBounds_toArray, List.set_cons_zero, List.set_cons_succ, i64_w, i32_w]
               rfl
              refine pure_ (i := 15) (N := some 97) (v := ?_) (a' := ?_) #[true, true, true, true, true, true, true, true, true, true, true, true, true, true, true, true, false, false, false, false, false, false, false, false, false, false, false, false, false, false, false, false, false, false, false, false, false, false, false, false, false, false, false, false, false, false, false, false, false, false, false, false, false, false, false, false] rfl rfl (any_of HT_.out (by kernel_rfl)) (fun _ _ _ h => h) (Or.inl ⟨by rfl, ?_⟩) ?_ ?_
              rotate_left
              ·intro w'
               go_simp
               with_reducible rfl
              rotate_left
              ·simp only [Act.put, List.setIfInBounds_toArray, List.set_cons_zero, List.set_cons_succ, i64_w, i32_w]
               rfl
              refine pure_ (i := 16) (N := some 98) (v := ?_) (a' := ?_) #[true, true, true, true, true, true, true, true, true, true, true, true, true, true, true, true, true, false, false, false, false, false, false, false, false, false, false, false, false, false, false, false, false, false, false, false, false, false, false, false, false, false, false, false, false, false, false, false, false, false, false, false, false, false, false, false] rfl rfl (any_of HT_.out (by kernel_rfl)) (fun _ _ _ h => h) (Or.inl ⟨by rfl, ?_⟩) ?_ ?_
              rotate_left
              ·intro w'
               go_simp
               with_reducible rfl
              rotate_left
              ·simp only [Act.put, List.setIfInBounds_toArray, List.set_cons_zero, List.set_cons_succ, i64_w, i32_w]
               rfl
              refine pure_ (i := 17) (N := some 99) (v := ?_) (a' := ?_) #[true, true, true, true, true, true, true, true, true, true, true, true, true, true, true, true, true, true, false, false, false, false, false, false, false, false, false, false, false, false, false, false, false, false, false, false, false, false, false, false, false, false, false, false, false, false, false, false, false, false, false, false, false, false, false, false] rfl rfl (any_of HT_.out (by kernel_rfl)) (fun _ _ _ h => h) (Or.inl ⟨by rfl, ?_⟩) ?_ ?_
              rotate_left
              ·intro w'
               go_simp
               with_reducible rfl
              rotate_left
              ·simp only [Act.put, List.setIfInBounds_toArray, List.set_cons_zero, List.set_cons_succ, i64_w, i32_w]
               rfl
              refine take_ (i := 18) (N := some 100) (v := ?_) (a' := ?_) #[true, true, true, true, true, true, true, true, true, true, true, true, true, true, true, true, true, true, true, false, false, false, false, false, false, false, false, false, false, false, false, false, false, false, false, false, false, false, false, false, false, false, false, false, false, false, false, false, false, false, false, false, false, false, false, false] rfl rfl (take_ofW HT_.out HW_.out (by kernel_rfl)) (fun _ _ _ h => h) (Or.inl ⟨by rfl, ?_⟩) hHeld ?_ ?_
              rotate_left
              ·rintro w' ⟨s0, s1, s2, s3, s4, s5, s6, s7, s8, s9, s10, s11, s12, s13, s14⟩
               go_simp
               with_reducible rfl
              rotate_left
              ·simp only [Act.put, List.setIfInBounds_toArray, List.set_cons_zero, List.set_cons_succ, i64_w, i32_w]
               rfl
              refine take_ (i := 19) (N := some 101) (v := ?_) (a' := ?_) #[true, true, true, true, true, true, true, true, true, true, true, true, true, true, true, true, true, true, true, true, false, false, false, false, false, false, false, false, false, false, false, false, false, false, false, false, false, false, false, false, false, false, false, false, false, false, false, false, false, false, false, false, false, false, false, false] rfl rfl (take_ofW HT_.out HW_.out (by kernel_rfl)) (fun _ _ _ h => h) (Or.inl ⟨by rfl, ?_⟩) hHeld ?_ ?_
              rotate_left
              ·rintro w' ⟨s0, s1, s2, s3, s4, s5, s6, s7, s8, s9, s10, s11, s12, s13, s14⟩
               go_simp
               with_reducible rfl
              rotate_left
              ·simp only [Act.put, List.setIfInBounds_toArray, List.set_cons_zero, List.set_cons_succ, i64_w, i32_w]
               rfl
              refine one_ (i := 20) (N := some 102) #[true, true, true, true, true, true, true, true, true, true, true, true, true, true, true, true, true, true, true, true, true, false, false, false, false, false, false, false, false, false, false, false, false, false, false, false, false, false, false, false, false, false, false, false, false, false, false, false, false, false, false, false, false, false, false, false] rfl rfl (one_of HT_.out (by kernel_rfl)) (by decide) (fun K hK => ?_)
              refine goes_ Try.func35 (by kernel_rfl) rfl #[.agg #[.int .i64 t353, .string t354, .int .i64 t355, .int .i64 t356, .slice Ao46 t357.length co46], .agg #[.int .i64 t362, .string t363, .int .i64 t364, .int .i64 t365, .slice Ao54 t366.length co54]] (by rfl) rfl rfl (by (try simp only [List.map_toArray, List.map_cons, List.map_nil]); first | done | rfl | (simp only [List.length_drop, List.length_take]; rfl)) ?_
              with_reducible refine (assessorref03_Equal.calls kj4 t353 t354 t355 t356 _ _ t357 t362 t363 t364 t365 _ _ t366 true _ ?side1 ?side2 ?side3 ?side4 A31.out).mono ?_
              (case side1 => repeat (first | exact (Kd.V_reads' HO359.out).2.2 | (with_reducible refine Kd.C_alloc ?_ _) | (with_reducible refine Kd.C_drewN ?_ _) | (with_reducible refine Kd.C_drew ?_)))
              (case side2 => exact (Kd.V_reads' HO359.out).2.1)
              (case side3 => repeat (first | exact (Kd.V_reads' HO368.out).2.2 | (with_reducible refine Kd.C_alloc ?_ _) | (with_reducible refine Kd.C_drewN ?_ _) | (with_reducible refine Kd.C_drew ?_)))
              (case side4 => exact (Kd.V_reads' HO368.out).2.1)
              rintro e w72 ⟨rfl, hb⟩
              refine ⟨_, rfl, ?_⟩
              have n0_ := Aside0.mk (Kd.V_below (by (with_reducible repeat (first | apply Kd.V_alloc | apply Kd.V_drewN | apply Kd.V_drew)); exact HO359.out) hb)
              have n1_ := Aside0.mk (Kd.V_below (by (with_reducible repeat (first | apply Kd.V_alloc | apply Kd.V_drewN | apply Kd.V_drew)); exact HO368.out) hb)
              have n2_ := Aside0.mk (Kd.R_below (by (with_reducible repeat (first | apply Kd.R_alloc | apply Kd.R_drewN | apply Kd.R_drew)); exact HO373.out) hb)
              have n3_ := Aside0.mk (Kd.R_below (by (with_reducible repeat (first | apply Kd.R_alloc | apply Kd.R_drewN | apply Kd.R_drew)); exact HO377.out) hb)
              have n4_ := Aside0.mk (blk_below (g := gb350) (o := .cells #[.int .i64 a0_0, .string a0_1, .int .i64 a0_2, .int .i64 a0_3, .slice A0_4 l0_4.length c0_4] 24 (0, 0)) (by (with_reducible repeat (first | refine blk_drewN ?_ _ | refine blk_drew ?_ | refine blk_alloc ?_ _)); exact BK350.out) hb)
              have n5_ := Aside0.mk (blk_below (g := gb361) (o := .cells #[.int .i64 t353, .string t354, .int .i64 t355, .int .i64 t356, .slice Ao46 t357.length co46] 24 (0, 0)) (by (with_reducible repeat (first | refine blk_drewN ?_ _ | refine blk_drew ?_ | refine blk_alloc ?_ _)); exact BK361.out) hb)
              have n6_ := Aside0.mk (blk_below (g := gb370) (o := .cells #[.int .i64 t362, .string t363, .int .i64 t364, .int .i64 t365, .slice Ao54 t366.length co54] 24 (0, 0)) (by (with_reducible repeat (first | refine blk_drewN ?_ _ | refine blk_drew ?_ | refine blk_alloc ?_ _)); exact BK370.out) hb)
              have n7_ := Aside0.mk (below_step (by repeat (first | (with_reducible first | exact HB.out | apply below_alloc | apply pw_below_drewN | apply below_drew1 | refine below_set ?_ GE350.out | refine below_set ?_ GE361.out | refine below_set ?_ GE370.out) | exact HB.out)) hb)
              clear HO359
              clear HO368
              clear HO373
              clear HO377
              clear BK350
              clear BK361
              clear BK370
              clear HB
              have HO359 := n0_
              have HO368 := n1_
              have HO373 := n2_
              have HO377 := n3_
              have BK350 := n4_
              have BK361 := n5_
              have BK370 := n6_
              have HB := n7_
              clear n0_ n1_ n2_ n3_ n4_ n5_ n6_ n7_
              (try clear hb)
              (try clear hb2)
              (try clear hk)
              (try clear hi)
              obtain ⟨Ao73, co73, eo73⟩ := Kd.R_slice HO373.out
              (first | subst eo73 | (injection eo73 with f1_ f2_ f3_; have f4_ := f1_.symm; have f5_ := f3_.symm; clear f1_ f2_ f3_; subst f4_; subst f5_))
              obtain ⟨Ao74, co74, eo74⟩ := Kd.R_slice HO377.out
              (first | subst eo74 | (injection eo74 with f1_ f2_ f3_; have f4_ := f1_.symm; have f5_ := f3_.symm; clear f1_ f2_ f3_; subst f4_; subst f5_))
              refine hK.out _ _ ⟨(blk_cell BK350.out 0).trans rfl, (blk_cell BK350.out 1).trans rfl, (blk_cell BK350.out 2).trans rfl, (blk_cell BK350.out 3).trans rfl, (blk_cell BK350.out 4).trans rfl, (blk_cell BK361.out 0).trans rfl, (blk_cell BK361.out 1).trans rfl, (blk_cell BK361.out 2).trans rfl, (blk_cell BK361.out 3).trans rfl, (blk_cell BK361.out 4).trans rfl, (blk_cell BK370.out 0).trans rfl, (blk_cell BK370.out 1).trans rfl, (blk_cell BK370.out 2).trans rfl, (blk_cell BK370.out 3).trans rfl, (blk_cell BK370.out 4).trans rfl⟩ (fun hHeld => ?_)
              clear hK K
              refine norm_ (a' := ?_) ?_ ?_
              rotate_left
              ·show Act.put _ (some 102) _ = _
               simp only [Act.put, List.setIfInBounds_toArray, List.set_cons_zero, List.set_cons_succ, i64_w, i32_w]
               rfl
              refine pure_ (i := 21) (N := some 103) (v := ?_) (a' := ?_) #[true, true, true, true, true, true, true, true, true, true, true, true, true, true, true, true, true, true, true, true, true, true, false, false, false, false, false, false, false, false, false, false, false, false, false, false, false, false, false, false, false, false, false, false, false, false, false, false, false, false, false, false, false, false, false, false] rfl rfl (any_of HT_.out (by kernel_rfl)) (fun _ _ _ h => h) (Or.inl ⟨by rfl, ?_⟩) ?_ ?_
              rotate_left
              ·intro w'
               go_simp
               with_reducible rfl
              rotate_left
              ·simp only [Act.put, List.setIfInBounds_toArray, List.set_cons_zero, List.set_cons_succ, i64_w, i32_w]
               rfl
              refine pure_ (i := 22) (N := some 104) (v := ?_) (a' := ?_) #[true, true, true, true, true, true, true, true, true, true, true, true, true, true, true, true, true, true, true, true, true, true, true, false, false, false, false, false, false, false, false, false, false, false, false, false, false, false, false, false, false, false, false, false, false, false, false, false, false, false, false, false, false, false, false, false] rfl rfl (any_of HT_.out (by kernel_rfl)) (fun _ _ _ h => h) (Or.inl ⟨by rfl, ?_⟩) ?_ ?_
              rotate_left
              ·intro w'
               go_simp
               with_reducible rfl
              rotate_left
              ·simp only [Act.put, List.setIfInBounds_toArray, List.set_cons_zero, List.set_cons_succ, i64_w, i32_w]
               rfl
              refine pure_ (i := 23) (N := some 105) (v := ?_) (a' := ?_) #[true, true, true, true, true, true, true, true, true, true, true, true, true, true, true, true, true, true, true, true, true, true, true, true, false, false, false, false, false, false, false, false, false, false, false, false, false, false, false, false, false, false, false, false, false, false, false, false, false, false, false, false, false, false, false, false] rfl rfl (any_of HT_.out (by kernel_rfl)) (fun _ _ _ h => h) (Or.inl ⟨by rfl, ?_⟩) ?_ ?_
              rotate_left
              ·intro w'
               go_simp
               with_reducible rfl
              rotate_left
              ·simp only [Act.put, List.setIfInBounds_toArray, List.set_cons_zero, List.set_cons_succ, i64_w, i32_w]
               rfl
              refine pure_ (i := 24) (N := some 106) (v := ?_) (a' := ?_) #[true, true, true, true, true, true, true, true, true, true, true, true, true, true, true, true, true, true, true, true, true, true, true, true, true, false, false, false, false, false, false, false, false, false, false, false, false, false, false, false, false, false, false, false, false, false, false, false, false, false, false, false, false, false, false, false] rfl rfl (any_of HT_.out (by kernel_rfl)) (fun _ _ _ h => h) (Or.inl ⟨by rfl, ?_⟩) ?_ ?_
              rotate_left
              ·intro w'
               go_simp
               with_reducible rfl
              rotate_left
              ·simp only [Act.put, List.setIfInBounds_toArray, List.set_cons_zero, List.set_cons_succ, i64_w, i32_w]
               rfl
              refine pure_ (i := 25) (N := some 107) (v := ?_) (a' := ?_) #[true, true, true, true, true, true, true, true, true, true, true, true, true, true, true, true, true, true, true, true, true, true, true, true, true, true, false, false, false, false, false, false, false, false, false, false, false, false, false, false, false, false, false, false, false, false, false, false, false, false, false, false, false, false, false, false] rfl rfl (any_of HT_.out (by kernel_rfl)) (fun _ _ _ h => h) (Or.inl ⟨by rfl, ?_⟩) ?_ ?_
              rotate_left
              ·intro w'
               go_simp
               with_reducible rfl
              rotate_left
              ·simp only [Act.put, List.setIfInBounds_toArray, List.set_cons_zero, List.set_cons_succ, i64_w, i32_w]
               rfl
              refine pure_ (i := 26) (N := some 108) (v := ?_) (a' := ?_) #[true, true, true, true, true, true, true, true, true, true, true, true, true, true, true, true, true, true, true, true, true, true, true, true, true, true, true, false, false, false, false, false, false, false, false, false, false, false, false, false, false, false, false, false, false, false, false, false, false, false, false, false, false, false, false, false] rfl rfl (any_of HT_.out (by kernel_rfl)) (fun _ _ _ h => h) (Or.inl ⟨by rfl, ?_⟩) ?_ ?_
              rotate_left
              ·intro w'
               go_simp
               with_reducible rfl
              rotate_left
              ·simp only [Act.put, List.setIfInBounds_toArray, List.set_cons_zero, List.set_cons_succ, i64_w, i32_w]
               rfl
              refine pure_ (i := 27) (N := some 109) (v := ?_) (a' := ?_) #[true, true, true, true, true, true, true, true, true, true, true, true, true, true, true, true, true, true, true, true, true, true, true, true, true, true, true, true, false, false, false, false, false, false, false, false, false, false, false, false, false, false, false, false, false, false, false, false, false, false, false, false, false, false, false, false] rfl rfl (any_of HT_.out (by kernel_rfl)) (fun _ _ _ h => h) (Or.inl ⟨by rfl, ?_⟩) ?_ ?_
              rotate_left
              ·intro w'
               go_simp
               with_reducible rfl
              rotate_left
              ·simp only [Act.put, List.setIfInBounds_toArray, List.set_cons_zero, List.set_cons_succ, i64_w, i32_w]
               rfl
              refine pure_ (i := 28) (N := some 110) (v := ?_) (a' := ?_) #[true, true, true, true, true, true, true, true, true, true, true, true, true, true, true, true, true, true, true, true, true, true, true, true, true, true, true, true, true, false, false, false, false, false, false, false, false, false, false, false, false, false, false, false, false, false, false, false, false, false, false, false, false, false, false, false] rfl rfl (any_of HT_.out (by kernel_rfl)) (fun _ _ _ h => h) (Or.inl ⟨by rfl, ?_⟩) ?_ ?_
              rotate_left
              ·intro w'
               go_simp
               with_reducible rfl
              rotate_left
              ·simp only [Act.put, List.setIfInBounds_toArray, List.set_cons_zero, List.set_cons_succ, i64_w, i32_w]
               rfl
              refine pure_ (i := 29) (N := some 111) (v := ?_) (a' := ?_) #[true, true, true, true, true, true, true, true, true, true, true, true, true, true, true, true, true, true, true, true, true, true, true, true, true, true, true, true, true, true, false, false, false, false, false, false, false, false, false, false, false, false, false, false, false, false, false, false, false, false, false, false, false, false, false, false] rfl rfl (any_of HT_.out (by kernel_rfl)) (fun _ _ _ h => h) (Or.inl ⟨by rfl, ?_⟩) ?_ ?_
              rotate_left
              ·intro w'
               go_simp
               with_reducible rfl
              rotate_left
              ·simp only [Act.put, List.setIfInBounds_toArray, List.set_cons_zero, List.set_cons_succ, i64_w, i32_w]
               rfl
              refine one_ (i := 30) (N := some 112) #[true, true, true, true, true, true, true, true, true, true, true, true, true, true, true, true, true, true, true, true, true, true, true, true, true, true, true, true, true, true, true, false, false, false, false, false, false, false, false, false, false, false, false, false, false, false, false, false, false, false, false, false, false, false, false, false] rfl rfl (one_of HT_.out (by kernel_rfl)) (by decide) (fun K hK => ?_)
              refine goes_ Try.func36 (by kernel_rfl) rfl #[.slice Ao73 t371.length co73, .slice Ao74 t375.length co74] (by rfl) rfl rfl (by (try simp only [List.map_toArray, List.map_cons, List.map_nil]); first | done | rfl | (simp only [List.length_drop, List.length_take]; rfl)) ?_
              with_reducible refine (assessorref01_Ints.calls kj4 _ _ t371 _ _ t375 true _ ?side1 ?side2 ?side3 ?side4 A34.out).mono ?_
              (case side1 => repeat (first | exact (Kd.R_reads' HO373.out).2.2 | (with_reducible refine Kd.C_alloc ?_ _) | (with_reducible refine Kd.C_drewN ?_ _) | (with_reducible refine Kd.C_drew ?_)))
              (case side2 => exact (Kd.R_reads' HO373.out).2.1)
              (case side3 => repeat (first | exact (Kd.R_reads' HO377.out).2.2 | (with_reducible refine Kd.C_alloc ?_ _) | (with_reducible refine Kd.C_drewN ?_ _) | (with_reducible refine Kd.C_drew ?_)))
              (case side4 => exact (Kd.R_reads' HO377.out).2.1)
              rintro e w' ⟨rfl, ⟨nd, rfl⟩⟩
              refine ⟨_, rfl, ?_⟩
              refine hK.out _ _ ⟨(blk_cell BK350.out 0).trans rfl, (blk_cell BK350.out 1).trans rfl, (blk_cell BK350.out 2).trans rfl, (blk_cell BK350.out 3).trans rfl, (blk_cell BK350.out 4).trans rfl, (blk_cell BK361.out 0).trans rfl, (blk_cell BK361.out 1).trans rfl, (blk_cell BK361.out 2).trans rfl, (blk_cell BK361.out 3).trans rfl, (blk_cell BK361.out 4).trans rfl, (blk_cell BK370.out 0).trans rfl, (blk_cell BK370.out 1).trans rfl, (blk_cell BK370.out 2).trans rfl, (blk_cell BK370.out 3).trans rfl, (blk_cell BK370.out 4).trans rfl⟩ (fun hHeld => ?_)
              clear hK K
              refine norm_ (a' := ?_) ?_ ?_
              rotate_left
              ·show Act.put _ (some 112) _ = _
               simp only [Act.put, List.setIfInBounds_toArray, List.set_cons_zero, List.set_cons_succ, i64_w, i32_w]
               rfl
              refine pure_ (i := 31) (N := some 113) (v := ?_) (a' := ?_) #[true, true, true, true, true, true, true, true, true, true, true, true, true, true, true, true, true, true, true, true, true, true, true, true, true, true, true, true, true, true, true, true, false, false, false, false, false, false, false, false, false, false, false, false, false, false, false, false, false, false, false, false, false, false, false, false] rfl rfl (any_of HT_.out (by kernel_rfl)) (fun _ _ _ h => h) (Or.inl ⟨by rfl, ?_⟩) ?_ ?_
              rotate_left
              ·intro w'
               go_simp
               with_reducible rfl
              rotate_left
              ·simp only [Act.put, List.setIfInBounds_toArray, List.set_cons_zero, List.set_cons_succ, i64_w, i32_w]
               rfl
              refine pure_ (i := 32) (N := some 114) (v := ?_) (a' := ?_) #[true, true, true, true, true, true, true, true, true, true, true, true, true, true, true, true, true, true, true, true, true, true, true, true, true, true, true, true, true, true, true, true, true, false, false, false, false, false, false, false, false, false, false, false, false, false, false, false, false, false, false, false, false, false, false, false] rfl rfl (any_of HT_.out (by kernel_rfl)) (fun _ _ _ h => h) (Or.inl ⟨by rfl, ?_⟩) ?_ ?_
              rotate_left
              ·intro w'
               go_simp
               with_reducible rfl
              rotate_left
              ·simp only [Act.put, List.setIfInBounds_toArray, List.set_cons_zero, List.set_cons_succ, i64_w, i32_w]
               rfl
              refine pure_ (i := 33) (N := some 115) (v := ?_) (a' := ?_) #[true, true, true, true, true, true, true, true, true, true, true, true, true, true, true, true, true, true, true, true, true, true, true, true, true, true, true, true, true, true, true, true, true, true, false, false, false, false, false, false, false, false, false, false, false, false, false, false, false, false, false, false, false, false, false, false] rfl rfl (any_of HT_.out (by kernel_rfl)) (fun _ _ _ h => h) (Or.inl ⟨by rfl, ?_⟩) ?_ ?_
              rotate_left
              ·intro w'
               go_simp
               with_reducible rfl
              rotate_left
              ·simp only [Act.put, List.setIfInBounds_toArray, List.set_cons_zero, List.set_cons_succ, i64_w, i32_w]
               rfl
              refine pure_ (i := 34) (N := some 116) (v := ?_) (a' := ?_) #[true, true, true, true, true, true, true, true, true, true, true, true, true, true, true, true, true, true, true, true, true, true, true, true, true, true, true, true, true, true, true, true, true, true, true, false, false, false, false, false, false, false, false, false, false, false, false, false, false, false, false, false, false, false, false, false] rfl rfl (any_of HT_.out (by kernel_rfl)) (fun _ _ _ h => h) (Or.inl ⟨by rfl, ?_⟩) ?_ ?_
              rotate_left
              ·intro w'
               go_simp
               with_reducible rfl
              rotate_left
              ·simp only [Act.put, List.setIfInBounds_toArray, List.set_cons_zero, List.set_cons_succ, i64_w, i32_w]
               rfl
              refine pure_ (i := 35) (N := some 117) (v := ?_) (a' := ?_) #[true, true, true, true, true, true, true, true, true, true, true, true, true, true, true, true, true, true, true, true, true, true, true, true, true, true, true, true, true, true, true, true, true, true, true, true, false, false, false, false, false, false, false, false, false, false, false, false, false, false, false, false, false, false, false, false] rfl rfl (any_of HT_.out (by kernel_rfl)) (fun _ _ _ h => h) (Or.inl ⟨by rfl, ?_⟩) ?_ ?_
              rotate_left
              ·intro w'
               go_simp
               with_reducible rfl
              rotate_left
              ·simp only [Act.put, List.setIfInBounds_toArray, List.set_cons_zero, List.set_cons_succ, i64_w, i32_w]
               rfl
              refine pure_ (i := 36) (N := some 118) (v := ?_) (a' := ?_) #[true, true, true, true, true, true, true, true, true, true, true, true, true, true, true, true, true, true, true, true, true, true, true, true, true, true, true, true, true, true, true, true, true, true, true, true, true, false, false, false, false, false, false, false, false, false, false, false, false, false, false, false, false, false, false, false] rfl rfl (any_of HT_.out (by kernel_rfl)) (fun _ _ _ h => h) (Or.inl ⟨by rfl, ?_⟩) ?_ ?_
              rotate_left
              ·intro w'
               go_simp
               with_reducible rfl
              rotate_left
              ·simp only [Act.put, List.setIfInBounds_toArray, List.set_cons_zero, List.set_cons_succ, i64_w, i32_w]
               rfl
              refine pure_ (i := 37) (N := some 119) (v := ?_) (a' := ?_) #[true, true, true, true, true, true, true, true, true, true, true, true, true, true, true, true, true, true, true, true, true, true, true, true, true, true, true, true, true, true, true, true, true, true, true, true, true, true, false, false, false, false, false, false, false, false, false, false, false, false, false, false, false, false, false, false] rfl rfl (any_of HT_.out (by kernel_rfl)) (fun _ _ _ h => h) (Or.inl ⟨by rfl, ?_⟩) ?_ ?_
              rotate_left
              ·intro w'
               go_simp
               with_reducible rfl
              rotate_left
              ·simp only [Act.put, List.setIfInBounds_toArray, List.set_cons_zero, List.set_cons_succ, i64_w, i32_w]
               rfl
              refine pure_ (i := 38) (N := some 120) (v := ?_) (a' := ?_) #[true, true, true, true, true, true, true, true, true, true, true, true, true, true, true, true, true, true, true, true, true, true, true, true, true, true, true, true, true, true, true, true, true, true, true, true, true, true, true, false, false, false, false, false, false, false, false, false, false, false, false, false, false, false, false, false] rfl rfl (any_of HT_.out (by kernel_rfl)) (fun _ _ _ h => h) (Or.inl ⟨by rfl, ?_⟩) ?_ ?_
              rotate_left
              ·intro w'
               go_simp
               with_reducible rfl
              rotate_left
              ·simp only [Act.put, List.setIfInBounds_toArray, List.set_cons_zero, List.set_cons_succ, i64_w, i32_w]
               rfl
              refine pure_ (i := 39) (N := some 121) (v := ?_) (a' := ?_) #[true, true, true, true, true, true, true, true, true, true, true, true, true, true, true, true, true, true, true, true, true, true, true, true, true, true, true, true, true, true, true, true, true, true, true, true, true, true, true, true, false, false, false, false, false, false, false, false, false, false, false, false, false, false, false, false] rfl rfl (any_of HT_.out (by kernel_rfl)) (fun _ _ _ h => h) (Or.inl ⟨by rfl, ?_⟩) ?_ ?_
              rotate_left
              ·intro w'
               go_simp
               with_reducible rfl
              rotate_left
              ·simp only [Act.put, List.setIfInBounds_toArray, List.set_cons_zero, List.set_cons_succ, i64_w, i32_w]
               rfl
              refine pure_ (i := 40) (N := some 122) (v := ?_) (a' := ?_) #[true, true, true, true, true, true, true, true, true, true, true, true, true, true, true, true, true, true, true, true, true, true, true, true, true, true, true, true, true, true, true, true, true, true, true, true, true, true, true, true, true, false, false, false, false, false, false, false, false, false, false, false, false, false, false, false] rfl rfl (any_of HT_.out (by kernel_rfl)) (fun _ _ _ h => h) (Or.inl ⟨by rfl, ?_⟩) ?_ ?_
              rotate_left
              ·intro w'
               go_simp
               with_reducible rfl
              rotate_left
              ·simp only [Act.put, List.setIfInBounds_toArray, List.set_cons_zero, List.set_cons_succ, i64_w, i32_w]
               rfl
              refine pure_ (i := 41) (N := some 123) (v := ?_) (a' := ?_) #[true, true, true, true, true, true, true, true, true, true, true, true, true, true, true, true, true, true, true, true, true, true, true, true, true, true, true, true, true, true, true, true, true, true, true, true, true, true, true, true, true, true, false, false, false, false, false, false, false, false, false, false, false, false, false, false] rfl rfl (any_of HT_.out (by kernel_rfl)) (fun _ _ _ h => h) (Or.inl ⟨by rfl, ?_⟩) ?_ ?_
              rotate_left
              ·intro w'
               go_simp
               with_reducible rfl
              rotate_left
              ·simp only [Act.put, List.setIfInBounds_toArray, List.set_cons_zero, List.set_cons_succ, i64_w, i32_w]
               rfl
              refine pure_ (i := 42) (N := some 124) (v := ?_) (a' := ?_) #[true, true, true, true, true, true, true, true, true, true, true, true, true, true, true, true, true, true, true, true, true, true, true, true, true, true, true, true, true, true, true, true, true, true, true, true, true, true, true, true, true, true, true, false, false, false, false, false, false, false, false, false, false, false, false, false] rfl rfl (any_of HT_.out (by kernel_rfl)) (fun _ _ _ h => h) (Or.inl ⟨by rfl, ?_⟩) ?_ ?_
              rotate_left
              ·intro w'
               go_simp
               with_reducible rfl
              rotate_left
              ·simp only [Act.put, List.setIfInBounds_toArray, List.set_cons_zero, List.set_cons_succ, i64_w, i32_w]
               rfl
              refine pure_ (i := 43) (N := some 125) (v := ?_) (a' := ?_) #[true, true, true, true, true, true, true, true, true, true, true, true, true, true, true, true, true, true, true, true, true, true, true, true, true, true, true, true, true, true, true, true, true, true, true, true, true, true, true, true, true, true, true, true, false, false, false, false, false, false, false, false, false, false, false, false] rfl rfl (any_of HT_.out (by kernel_rfl)) (fun _ _ _ h => h) (Or.inl ⟨by rfl, ?_⟩) ?_ ?_
              rotate_left
              ·intro w'
               go_simp
               with_reducible rfl
              rotate_left
              ·simp only [Act.put, List.setIfInBounds_toArray, List.set_cons_zero, List.set_cons_succ, i64_w, i32_w]
               rfl
              refine pure_ (i := 44) (N := some 126) (v := ?_) (a' := ?_) #[true, true, true, true, true, true, true, true, true, true, true, true, true, true, true, true, true, true, true, true, true, true, true, true, true, true, true, true, true, true, true, true, true, true, true, true, true, true, true, true, true, true, true, true, true, false, false, false, false, false, false, false, false, false, false, false] rfl rfl (any_of HT_.out (by kernel_rfl)) (fun _ _ _ h => h) (Or.inl ⟨by rfl, ?_⟩) ?_ ?_
              rotate_left
              ·intro w'
               go_simp
               with_reducible rfl
              rotate_left
              ·simp only [Act.put, List.setIfInBounds_toArray, List.set_cons_zero, List.set_cons_succ, i64_w, i32_w]
               rfl
              refine pure_ (i := 45) (N := some 127) (v := ?_) (a' := ?_) #[true, true, true, true, true, true, true, true, true, true, true, true, true, true, true, true, true, true, true, true, true, true, true, true, true, true, true, true, true, true, true, true, true, true, true, true, true, true, true, true, true, true, true, true, true, true, false, false, false, false, false, false, false, false, false, false] rfl rfl (any_of HT_.out (by kernel_rfl)) (fun _ _ _ h => h) (Or.inl ⟨by rfl, ?_⟩) ?_ ?_
              rotate_left
              ·intro w'
               go_simp
               with_reducible rfl
              rotate_left
              ·simp only [Act.put, List.setIfInBounds_toArray, List.set_cons_zero, List.set_cons_succ, i64_w, i32_w]
               rfl
              refine pure_ (i := 46) (N := some 128) (v := ?_) (a' := ?_) #[true, true, true, true, true, true, true, true, true, true, true, true, true, true, true, true, true, true, true, true, true, true, true, true, true, true, true, true, true, true, true, true, true, true, true, true, true, true, true, true, true, true, true, true, true, true, true, false, false, false, false, false, false, false, false, false] rfl rfl (any_of HT_.out (by kernel_rfl)) (fun _ _ _ h => h) (Or.inl ⟨by rfl, ?_⟩) ?_ ?_
              rotate_left
              ·intro w'
               go_simp
               with_reducible rfl
              rotate_left
              ·simp only [Act.put, List.setIfInBounds_toArray, List.set_cons_zero, List.set_cons_succ, i64_w, i32_w]
               rfl
              refine pure_ (i := 47) (N := some 129) (v := ?_) (a' := ?_) #[true, true, true, true, true, true, true, true, true, true, true, true, true, true, true, true, true, true, true, true, true, true, true, true, true, true, true, true, true, true, true, true, true, true, true, true, true, true, true, true, true, true, true, true, true, true, true, true, false, false, false, false, false, false, false, false] rfl rfl (any_of HT_.out (by kernel_rfl)) (fun _ _ _ h => h) (Or.inl ⟨by rfl, ?_⟩) ?_ ?_
              rotate_left
              ·intro w'
               go_simp
               with_reducible rfl
              rotate_left
              ·simp only [Act.put, List.setIfInBounds_toArray, List.set_cons_zero, List.set_cons_succ, i64_w, i32_w]
               rfl
              refine pure_ (i := 48) (N := some 130) (v := ?_) (a' := ?_) #[true, true, true, true, true, true, true, true, true, true, true, true, true, true, true, true, true, true, true, true, true, true, true, true, true, true, true, true, true, true, true, true, true, true, true, true, true, true, true, true, true, true, true, true, true, true, true, true, true, false, false, false, false, false, false, false] rfl rfl (any_of HT_.out (by kernel_rfl)) (fun _ _ _ h => h) (Or.inl ⟨by rfl, ?_⟩) ?_ ?_
              rotate_left
              ·intro w'
               go_simp
               with_reducible rfl
              rotate_left
              ·simp only [Act.put, List.setIfInBounds_toArray, List.set_cons_zero, List.set_cons_succ, i64_w, i32_w]
               rfl
              refine pure_ (i := 49) (N := some 131) (v := ?_) (a' := ?_) #[true, true, true, true, true, true, true, true, true, true, true, true, true, true, true, true, true, true, true, true, true, true, true, true, true, true, true, true, true, true, true, true, true, true, true, true, true, true, true, true, true, true, true, true, true, true, true, true, true, true, false, false, false, false, false, false] rfl rfl (any_of HT_.out (by kernel_rfl)) (fun _ _ _ h => h) (Or.inl ⟨by rfl, ?_⟩) ?_ ?_
              rotate_left
              ·intro w'
               go_simp
               with_reducible rfl
              rotate_left
              ·simp only [Act.put, List.setIfInBounds_toArray, List.set_cons_zero, List.set_cons_succ, i64_w, i32_w]
               rfl
              refine pure_ (i := 50) (N := some 132) (v := ?_) (a' := ?_) #[true, true, true, true, true, true, true, true, true, true, true, true, true, true, true, true, true, true, true, true, true, true, true, true, true, true, true, true, true, true, true, true, true, true, true, true, true, true, true, true, true, true, true, true, true, true, true, true, true, true, true, false, false, false, false, false] rfl rfl (any_of HT_.out (by kernel_rfl)) (fun _ _ _ h => h) (Or.inl ⟨by rfl, ?_⟩) ?_ ?_
              rotate_left
              ·intro w'
               go_simp
               with_reducible rfl
              rotate_left
              ·simp only [Act.put, List.setIfInBounds_toArray, List.set_cons_zero, List.set_cons_succ, i64_w, i32_w]
               rfl
              refine pure_ (i := 51) (N := some 133) (v := ?_) (a' := ?_) #[true, true, true, true, true, true, true, true, true, true, true, true, true, true, true, true, true, true, true, true, true, true, true, true, true, true, true, true, true, true, true, true, true, true, true, true, true, true, true, true, true, true, true, true, true, true, true, true, true, true, true, true, false, false, false, false] rfl rfl (any_of HT_.out (by kernel_rfl)) (fun _ _ _ h => h) (Or.inl ⟨by rfl, ?_⟩) ?_ ?_
              rotate_left
              ·intro w'
               go_simp
               with_reducible rfl
              rotate_left
              ·simp only [Act.put, List.setIfInBounds_toArray, List.set_cons_zero, List.set_cons_succ, i64_w, i32_w]
               rfl
              refine pure_ (i := 52) (N := some 134) (v := ?_) (a' := ?_) #[true, true, true, true, true, true, true, true, true, true, true, true, true, true, true, true, true, true, true, true, true, true, true, true, true, true, true, true, true, true, true, true, true, true, true, true, true, true, true, true, true, true, true, true, true, true, true, true, true, true, true, true, true, false, false, false] rfl rfl (any_of HT_.out (by kernel_rfl)) (fun _ _ _ h => h) (Or.inl ⟨by rfl, ?_⟩) ?_ ?_
              rotate_left
              ·intro w'
               go_simp
               with_reducible rfl
              rotate_left
              ·simp only [Act.put, List.setIfInBounds_toArray, List.set_cons_zero, List.set_cons_succ, i64_w, i32_w]
               rfl
              refine one_ (i := 53) (N := some 135) #[true, true, true, true, true, true, true, true, true, true, true, true, true, true, true, true, true, true, true, true, true, true, true, true, true, true, true, true, true, true, true, true, true, true, true, true, true, true, true, true, true, true, true, true, true, true, true, true, true, true, true, true, true, true, false, false] rfl rfl (one_of HT_.out (by kernel_rfl)) (by decide) (fun K hK => ?_)
              refine goes_ Try.func11 (by kernel_rfl) rfl #[] (by rfl) rfl rfl (by (try simp only [List.map_toArray, List.map_cons, List.map_nil]); first | done | rfl | (simp only [List.length_drop, List.length_take]; rfl)) ?_
              with_reducible refine (assessorlaw03_awake.calls kj4  t393 _ A40.out).mono ?_
              rintro e w75 ⟨rfl, hb⟩
              refine ⟨_, rfl, ?_⟩
              have n0_ := Aside0.mk (Kd.V_below (by (with_reducible repeat (first | apply Kd.V_alloc | apply Kd.V_drewN | apply Kd.V_drew)); exact HO359.out) hb)
              have n1_ := Aside0.mk (Kd.V_below (by (with_reducible repeat (first | apply Kd.V_alloc | apply Kd.V_drewN | apply Kd.V_drew)); exact HO368.out) hb)
              have n2_ := Aside0.mk (Kd.R_below (by (with_reducible repeat (first | apply Kd.R_alloc | apply Kd.R_drewN | apply Kd.R_drew)); exact HO373.out) hb)
              have n3_ := Aside0.mk (Kd.R_below (by (with_reducible repeat (first | apply Kd.R_alloc | apply Kd.R_drewN | apply Kd.R_drew)); exact HO377.out) hb)
              have n4_ := Aside0.mk (blk_below (g := gb350) (o := .cells #[.int .i64 a0_0, .string a0_1, .int .i64 a0_2, .int .i64 a0_3, .slice A0_4 l0_4.length c0_4] 24 (0, 0)) (by (with_reducible repeat (first | refine blk_drewN ?_ _ | refine blk_drew ?_ | refine blk_alloc ?_ _)); exact BK350.out) hb)
              have n5_ := Aside0.mk (blk_below (g := gb361) (o := .cells #[.int .i64 t353, .string t354, .int .i64 t355, .int .i64 t356, .slice Ao46 t357.length co46] 24 (0, 0)) (by (with_reducible repeat (first | refine blk_drewN ?_ _ | refine blk_drew ?_ | refine blk_alloc ?_ _)); exact BK361.out) hb)
              have n6_ := Aside0.mk (blk_below (g := gb370) (o := .cells #[.int .i64 t362, .string t363, .int .i64 t364, .int .i64 t365, .slice Ao54 t366.length co54] 24 (0, 0)) (by (with_reducible repeat (first | refine blk_drewN ?_ _ | refine blk_drew ?_ | refine blk_alloc ?_ _)); exact BK370.out) hb)
              have n7_ := Aside0.mk (below_step (by repeat (first | (with_reducible first | exact HB.out | apply below_alloc | apply pw_below_drewN | apply below_drew1 | refine below_set ?_ GE350.out | refine below_set ?_ GE361.out | refine below_set ?_ GE370.out) | exact HB.out)) hb)
              clear HO359
              clear HO368
              clear HO373
              clear HO377
              clear BK350
              clear BK361
              clear BK370
              clear HB
              have HO359 := n0_
              have HO368 := n1_
              have HO373 := n2_
              have HO377 := n3_
              have BK350 := n4_
              have BK361 := n5_
              have BK370 := n6_
              have HB := n7_
              clear n0_ n1_ n2_ n3_ n4_ n5_ n6_ n7_
              (try clear hb)
              (try clear hb2)
              (try clear hk)
              (try clear hi)
              refine hK.out _ _ ⟨(blk_cell BK350.out 0).trans rfl, (blk_cell BK350.out 1).trans rfl, (blk_cell BK350.out 2).trans rfl, (blk_cell BK350.out 3).trans rfl, (blk_cell BK350.out 4).trans rfl, (blk_cell BK361.out 0).trans rfl, (blk_cell BK361.out 1).trans rfl, (blk_cell BK361.out 2).trans rfl, (blk_cell BK361.out 3).trans rfl, (blk_cell BK361.out 4).trans rfl, (blk_cell BK370.out 0).trans rfl, (blk_cell BK370.out 1).trans rfl, (blk_cell BK370.out 2).trans rfl, (blk_cell BK370.out 3).trans rfl, (blk_cell BK370.out 4).trans rfl⟩ (fun hHeld => ?_)
              clear hK K
              refine norm_ (a' := ?_) ?_ ?_
              rotate_left
              ·show Act.put _ (some 135) _ = _
               simp only [Act.put, List.setIfInBounds_toArray, List.set_cons_zero, List.set_cons_succ, i64_w, i32_w]
               rfl
              refine pure_ (i := 54) (N := some 136) (v := ?_) (a' := ?_) #[true, true, true, true, true, true, true, true, true, true, true, true, true, true, true, true, true, true, true, true, true, true, true, true, true, true, true, true, true, true, true, true, true, true, true, true, true, true, true, true, true, true, true, true, true, true, true, true, true, true, true, true, true, true, true, false] rfl rfl (any_of HT_.out (by kernel_rfl)) (fun _ _ _ h => h) (Or.inl ⟨by rfl, ?_⟩) ?_ ?_
              rotate_left
              ·intro w'
               go_simp
               with_reducible rfl
              rotate_left
              ·simp only [Act.put, List.setIfInBounds_toArray, List.set_cons_zero, List.set_cons_succ, i64_w, i32_w]
               rfl
              refine pure_ (i := 55) (N := some 8) (v := ?_) (a' := ?_) #[true, true, true, true, true, true, true, true, true, true, true, true, true, true, true, true, true, true, true, true, true, true, true, true, true, true, true, true, true, true, true, true, true, true, true, true, true, true, true, true, true, true, true, true, true, true, true, true, true, true, true, true, true, true, true, true] rfl rfl (any_of HT_.out (by kernel_rfl)) (fun _ _ _ h => h) (Or.inl ⟨by rfl, ?_⟩) ?_ ?_
              rotate_left
              ·intro w'
               go_simp
               with_reducible rfl
              rotate_left
              ·simp only [Act.put, List.setIfInBounds_toArray, List.set_cons_zero, List.set_cons_succ, i64_w, i32_w]
               rfl
              refine done_ (done_of HT_.out (by kernel_rfl)) ?_
              try go_wp2
              go_ret
              exact ⟨by first | rfl | (simp [errW_none, errW_some] <;> rfl) | (simp [*, errW_none, errW_some] <;> rfl) | (simp [IntKind.wrap_i64, wrap64]; done), by repeat (first | (with_reducible first | exact HB.out | apply below_alloc | apply pw_below_drewN | apply below_drew1 | refine below_set ?_ GE350.out | refine below_set ?_ GE361.out | refine below_set ?_ GE370.out) | exact HB.out)⟩
             ·rw [if_neg c39] at H
              exact absurd H (by simp)
            ·rw [if_neg c38] at H
             exact absurd H (by simp)
           ·rw [if_neg c37] at H
            exact absurd H (by simp)
          ·rw [if_neg c36] at H
           exact absurd H (by simp)
         ·replace c35 := Bool.eq_false_iff.mpr c35
          subst c35
          have H1 : (none) = some r := by rw [if_neg (show ¬ (false = true) by decide)] at H; exact H
          clear H
          have H := H1
          clear H1
          exact absurd H (by simp)
        ·rw [if_neg c33] at H
         exact absurd H (by simp)
       ·replace c32 := Bool.eq_false_iff.mpr c32
        subst c32
        have H1 : (none) = some r := by rw [if_neg (show ¬ (false = true) by decide)] at H; exact H
        clear H
        have H := H1
        clear H1
        exact absurd H (by simp)
      ·rw [if_neg c30] at H
       exact absurd H (by simp)
     ·rw [if_neg c29] at H
      exact absurd H (by simp)
    ·rw [if_neg c26] at H
     exact absurd H (by simp)

end Go.Proofs.Ytbheobngeocdfaa.PAll
