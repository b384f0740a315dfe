/- What the machine's calls come to, function by function: printed by a program of this session after the kit's print; Lean checks it. SLIM -/
import Derived.Test.YtbheobngeocdfaaPAllx0
namespace Go.Proofs.Ytbheobngeocdfaa.PAll
open Go.RowKit Go.Proofs.YtbheobngeocdfaaW.PrintWords Go.Proofs.YtbheobngeocdfaaW.PrintLast Go.Proofs.YtbheobngeocdfaaW.PrintMore
attribute [local go_sem] max2_int min2_int max_two min_two max_three min_three max_four min_four   -- for this text's walks alone
set_option linter.unusedVariables false
set_option linter.unusedSimpArgs false

/-! ### tree_Get: function 24 -/
def tree_Get.l0 : Nat → List Int → Int → Int → Int → ByteArray → Int → Int → List (S24) → Option (Int × ByteArray × Int × Int × (List (S24)) × Bool)
 | 0, _, _, _, _, _, _, _, _ => none
 | k + 1, x8, x9, x10, x309000, x309001, x309002, x309003, x309004 => if x10 < x9 then (if 0 ≤ x10 then (if x10 < (x8.length : Int) then (if (rd x8 x10) < 0 then (some (0, (⟨#[]⟩ : ByteArray), 0, 0, ([] : List (S24)), false)) else (if (rd x8 x10) ≥ (x309004.length : Int) then (some (0, (⟨#[]⟩ : ByteArray), 0, 0, ([] : List (S24)), false)) else (if 0 ≤ (rd x8 x10) then (if (rd x8 x10) < (x309004.length : Int) then (tree_Get.l0 k x8 x9 (wrap64 (x10 + 1)) ((rd_T24 x309004 (rd x8 x10)).f0) ((rd_T24 x309004 (rd x8 x10)).f1) ((rd_T24 x309004 (rd x8 x10)).f2) ((rd_T24 x309004 (rd x8 x10)).f3) ((rd_T24 x309004 (rd x8 x10)).f4)) else (none)) else (none)))) else (none)) else (none)) else (some (x309000, x309001, x309002, x309003, x309004, true))
def tree_Get.f (k : Nat) (a0_0 : Int) (a0_1 : ByteArray) (a0_2 : Int) (a0_3 : Int) (l0_4 : List (S24)) (l1 : List Int) : Option (Int × ByteArray × Int × Int × (List (S24)) × Bool) := tree_Get.l0 k l1 (l1.length : Int) 0 a0_0 a0_1 a0_2 a0_3 l0_4
theorem tree_Get.mono_l : ∀ k, (∀ y0 y1 y2 y3 y4 y5 y6 y7, LeO (tree_Get.l0 k y0 y1 y2 y3 y4 y5 y6 y7) (tree_Get.l0 (k + 1) y0 y1 y2 y3 y4 y5 y6 y7))
 | 0 => fun _ _ _ _ _ _ _ _ r h => by simp [tree_Get.l0] at h
 | k + 1 => by
  have ih0 := tree_Get.mono_l k
  ·intro y0 y1 y2 y3 y4 y5 y6 y7
   unfold tree_Get.l0
   repeat' first
   | (with_reducible exact ih0 _ _ _ _ _ _ _ _)
   | (with_reducible exact LeO.refl _)
   | (with_reducible exact LeO.none _)
   | (with_reducible refine LeO.ite ?_ ?_)
   | (with_reducible refine LeO.bind ?_ (fun _ => ?_))
   | exact ih0 _ _ _ _ _ _ _ _
   | exact LeO.none _
   | refine LeO.ite ?_ ?_
   | refine LeO.bind ?_ (fun _ => ?_)
theorem tree_Get.mono : ∀ a0 a1 a2 a3 a4 a5 k, LeO (tree_Get.f k a0 a1 a2 a3 a4 a5) (tree_Get.f (k + 1) a0 a1 a2 a3 a4 a5) := by
 intro a0 a1 a2 a3 a4 a5 k
 have ih0 := tree_Get.mono_l k
 unfold tree_Get.f
 repeat' first
   | (with_reducible exact ih0 _ _ _ _ _ _ _ _)
   | (with_reducible exact LeO.refl _)
   | (with_reducible exact LeO.none _)
   | (with_reducible refine LeO.ite ?_ ?_)
   | (with_reducible refine LeO.bind ?_ (fun _ => ?_))
   | exact ih0 _ _ _ _ _ _ _ _
   | exact LeO.none _
   | refine LeO.ite ?_ ?_
   | refine LeO.bind ?_ (fun _ => ?_)
set_option maxHeartbeats 8000000 in
set_option maxRecDepth 100000 in
theorem tree_Get.calls (k : Nat) (a0_0 : Int) (a0_1 : ByteArray) (a0_2 : Int) (a0_3 : Int) (P0_4_ : Nat → Prop) (A0_4 : Option Addr) (c0_4 : Nat) (l0_4 : List (S24)) (A1 : Option Addr) (c1 : Nat) (l1 : List Int) (r1 : Int) (r2 : ByteArray) (r3 : Int) (r4 : Int) (r5 : List (S24)) (r6 : Bool) (w : World) (hs0_4 : Kd.V k24 24 w w.heap.size (fun k_ => P0_4_ k_) (.slice A0_4 l0_4.length c0_4) l0_4) (hr1 : Kd.C (Kd.int .i64) w A1 l1.length l1) (hc1 : l1.length ≤ c1) (h : tree_Get.f k a0_0 a0_1 a0_2 a0_3 l0_4 l1 = some (r1, r2, r3, r4, r5, r6)) :
  Calls Try.prog 24 #[.agg #[.int .i64 a0_0, .string a0_1, .int .i64 a0_2, .int .i64 a0_3, .slice A0_4 l0_4.length c0_4], .slice A1 l1.length c1] w fun e w' => ∃ v4_ : Value, e = .returned (.tuple #[.agg #[.int .i64 r1, .string r2, .int .i64 r3, .int .i64 r4, v4_], .bool r6]) ∧ Kd.V k24 24 w' w.heap.size (fun k_ => (P0_4_ k_ ∨ w.heap.size ≤ k_)) v4_ r5 ∧ Below w.heap.size w w' := by
 have hu24 := Try.underlying24
 have HO0_4 := Aside0.mk (show Kd.V k24 24 w w.heap.size (fun k_ => (P0_4_ k_ ∨ w.heap.size ≤ k_)) (.slice A0_4 l0_4.length c0_4) l0_4 from Kd.V_mono hs0_4 (fun k_ hk => .inl hk))
 have HR1 := Aside0.mk hr1
 have HC1 := Aside0.mk hc1
 clear hr1 hc1
 have HB := Aside0.mk (Below.refl w.heap.size w)
 have H : (tree_Get.l0 k l1 (l1.length : Int) 0 a0_0 a0_1 a0_2 a0_3 l0_4) = some (r1, r2, r3, r4, r5, r6) := h
 clear h
 have H' := Aside0.mk H
 clear H
 go_enter Try.func24, Try.ntmps24
 go_wp2_with (first | ((with_reducible refine gate_dst (N := 2) rfl ?_); (try (refine gate_guard (by rfl) ?_; dsimp only)); refine box_event ?hg (N := 2) ?hd (cs := #[.int .i64 a0_0, .string a0_1, .int .i64 a0_2, .int .i64 a0_3, .slice A0_4 l0_4.length c0_4]) (t := 24) ?hr ?_; (case hd => rfl); (case hg => rfl); (case hr => first | (go_simp; done) | (go_simp; rfl)); intro gb308 hg w3 hbox hb; have n0_ := Aside0.mk (Kd.V_below (Kd.V_elderB (by (with_reducible repeat (first | apply Kd.V_alloc | apply Kd.V_drewN | apply Kd.V_drew)); exact HO0_4.out) gb308 (Nat.le_of_eq hg.symm)) hb); have n1_ := Aside0.mk (below_step (by repeat (first | (with_reducible first | exact HB.out | apply below_alloc | apply pw_below_drewN | apply below_drew1) | exact HB.out)) hb); have n2_ := Aside0.mk (hbox); have n3_ := Aside0.mk ((by rw [hg]; exact (below_size (by repeat (first | (with_reducible first | exact HB.out | apply below_alloc | apply pw_below_drewN | apply below_drew1) | exact HB.out))) : w.heap.size ≤ gb308)); have n4_ := Aside0.mk ((by rw [hg]; exact (below_size (by repeat (first | (with_reducible first | exact HB.out | apply below_alloc | apply pw_below_drewN | apply below_drew1) | exact HB.out))) : w.heap.size ≤ gb308)); clear HO0_4; clear HB; have HO0_4 := n0_; have HB := n1_; have BK308 := n2_; have GW308 := n3_; have GE308 := n4_; clear n0_ n1_ n2_ n3_ n4_; clear hb hbox hg) | ((with_reducible refine gate_dst (N := 4) rfl ?_); (try (refine gate_guard (by rfl) ?_; dsimp only)); refine box_event ?hg (N := 4) ?hd (cs := #[.int .i64 0, .string (⟨#[]⟩ : ByteArray), .int .i64 0, .int .i64 0, .slice none 0 0]) (t := 24) ?hr ?_; (case hd => rfl); (case hg => rfl); (case hr => first | (go_simp; done) | (go_simp; rfl)); intro gb309 hg w4 hbox hb; have n0_ := Aside0.mk (Kd.V_below (Kd.V_elderB (by (with_reducible repeat (first | apply Kd.V_alloc | apply Kd.V_drewN | apply Kd.V_drew)); exact HO0_4.out) gb309 (Nat.le_of_eq hg.symm)) hb); have n1_ := Aside0.mk (blk_below (g := gb308) (o := .cells #[.int .i64 a0_0, .string a0_1, .int .i64 a0_2, .int .i64 a0_3, .slice A0_4 l0_4.length c0_4] 24 (0, 0)) (by (with_reducible repeat (first | refine blk_drewN ?_ _ | refine blk_drew ?_ | refine blk_alloc ?_ _)); exact BK308.out) hb); have n2_ := Aside0.mk (below_step (by repeat (first | (with_reducible first | exact HB.out | apply below_alloc | apply pw_below_drewN | apply below_drew1 | refine below_set ?_ GE308.out) | exact HB.out)) hb); have n3_ := Aside0.mk (hbox); have n4_ := Aside0.mk ((by rw [hg]; exact (below_size (by repeat (first | (with_reducible first | exact HB.out | apply below_alloc | apply pw_below_drewN | apply below_drew1 | refine below_set ?_ GE308.out) | exact HB.out))) : w.heap.size ≤ gb309)); have n5_ := Aside0.mk ((by rw [hg]; exact (below_size (by repeat (first | (with_reducible first | exact HB.out | apply below_alloc | apply pw_below_drewN | apply below_drew1 | refine below_set ?_ GE308.out) | exact HB.out))) : w.heap.size ≤ gb309)); have n6_ := Aside0.mk ((by rw [hg]; exact Nat.ne_of_lt (blk_lt (g := gb308) (o := .cells #[.int .i64 a0_0, .string a0_1, .int .i64 a0_2, .int .i64 a0_3, .slice A0_4 l0_4.length c0_4] 24 (0, 0)) (by (with_reducible repeat (first | refine blk_drewN ?_ _ | refine blk_drew ?_ | refine blk_alloc ?_ _)); exact BK308.out)) : gb308 ≠ gb309)); have n7_ := Aside0.mk ((by rw [hg]; exact Nat.ne_of_gt (blk_lt (g := gb308) (o := .cells #[.int .i64 a0_0, .string a0_1, .int .i64 a0_2, .int .i64 a0_3, .slice A0_4 l0_4.length c0_4] 24 (0, 0)) (by (with_reducible repeat (first | refine blk_drewN ?_ _ | refine blk_drew ?_ | refine blk_alloc ?_ _)); exact BK308.out)) : gb309 ≠ gb308)); clear HO0_4; clear BK308; clear HB; have HO0_4 := n0_; have BK308 := n1_; have HB := n2_; have BK309 := n3_; have GW309 := n4_; have GE309 := n5_; have NB308_309 := n6_; have NB309_308 := n7_; clear n0_ n1_ n2_ n3_ n4_ n5_ n6_ n7_; clear hb hbox hg))
 go_loopg [10] k (fun kq v10 w' => ∃ (x10_1 : Int) (x309000_1 : Int) (x309001_1 : ByteArray) (x309002_1 : Int) (x309003_1 : Int) (x309004_1 : List (S24)) (x310000_1 : Int) (x310001_1 : ByteArray) (x310002_1 : Int) (x310003_1 : Int) (u309004 : Value), v10 = .int .i64 x10_1 ∧ Aside0 (tree_Get.l0 kq l1 (l1.length : Int) x10_1 x309000_1 x309001_1 x309002_1 x309003_1 x309004_1 = some (r1, r2, r3, r4, r5, r6)) ∧ Aside0 (kq ≤ k) ∧ Aside0 (Kd.V k24 24 w' w.heap.size (fun k_ => (P0_4_ k_ ∨ w.heap.size ≤ k_) ∧ k_ ≠ gb308 ∧ k_ ≠ gb309) u309004 x309004_1) ∧ Aside0 (w'.heap[gb308]? = some (.cells #[.int .i64 x309000_1, .string x309001_1, .int .i64 x309002_1, .int .i64 x309003_1, u309004] 24 (0, 0))) ∧ Aside0 (w'.heap[gb309]? = some (.cells #[.int .i64 x310000_1, .string x310001_1, .int .i64 x310002_1, .int .i64 x310003_1, (.slice none 0 0)] 24 (0, 0))) ∧ Aside0 (Below w.heap.size w w'))
 case atStart => exact ⟨(0), (a0_0), (a0_1), (a0_2), (a0_3), (l0_4), (0), ((⟨#[]⟩ : ByteArray)), (0), (0), (.slice A0_4 l0_4.length c0_4), (by first | rfl | (simp; done) | (simp [*]; done)), H', ⟨Nat.le_refl _⟩, ⟨by (with_reducible repeat (first | apply Kd.V_alloc | apply Kd.V_drewN | apply Kd.V_drew)); exact Kd.V_mono HO0_4.out (fun _ hk => ⟨hk.1.1, ⟨hk.1.2, hk.2⟩⟩)⟩, ⟨by (with_reducible repeat (first | refine blk_drewN ?_ _ | refine blk_drew ?_ | refine blk_alloc ?_ _)); exact BK308.out⟩, ⟨by (with_reducible repeat (first | refine blk_drewN ?_ _ | refine blk_drew ?_ | refine blk_alloc ?_ _)); exact BK309.out⟩, ⟨by repeat (first | (with_reducible first | exact HB.out | apply below_alloc | apply pw_below_drewN | apply below_drew1 | refine below_set ?_ GE308.out | refine below_set ?_ GE309.out) | exact HB.out)⟩⟩
 case round =>
  clear H'
  try clear c1
  try clear c2
  try clear p2
  obtain ⟨x10_1, x309000_1, x309001_1, x309002_1, x309003_1, x309004_1, x310000_1, x310001_1, x310002_1, x310003_1, u309004, rfl, HA, HK1, HO_309004, BK308, BK309, HB⟩ := hrel
  cases gk with
  | zero => exact absurd HA.out (by simp [tree_Get.l0])
  | succ k1 =>
   have H := HA.out
   clear HA
   simp only [tree_Get.l0] at H
   by_cases c5 : x10_1 < (l1.length : Int)
   ·rw [if_pos c5] at H
    have c5b0 : decide (x10_1 < (l1.length : Int)) = true := decide_eq_true c5
    clear c5
    by_cases c6 : 0 ≤ x10_1
    ·rw [if_pos c6] at H
     have c6b0 : decide (0 ≤ x10_1) = true := decide_eq_true c6
     clear c6
     by_cases c7 : x10_1 < (l1.length : Int)
     ·rw [if_pos c7] at H
      have c7b0 : decide (x10_1 < (l1.length : Int)) = true := decide_eq_true c7
      clear c7
      by_cases c8 : (rd l1 x10_1) < 0
      ·rw [if_pos c8] at H
       have c8b0 : decide ((rd l1 x10_1) < 0) = true := decide_eq_true c8
       clear c8
       simp only [Option.some.injEq, Prod.mk.injEq] at H
       obtain ⟨rfl, rfl, rfl, rfl, rfl, rfl⟩ := H
       have p310 : 0 ≤ (x10_1 : Int) := of_decide_eq_true (by first | (with_reducible assumption) | assumption)
       have q310 : x10_1 < (l1.length : Int) := of_decide_eq_true (by first | (with_reducible assumption) | assumption)
       obtain ⟨ad310, e310, hx310_0⟩ := Kd.at_int HR1.out x10_1 p310 q310
       cases e310
       replace hx310_0 := (HB.out.cell (World.block_lt_of_cell? w _ hx310_0)).trans hx310_0
       replace p310 := eq_true p310
       replace q310 := eq_true q310
       have hnb9 := NB309_308.out
       have hnc9 := NB308_309.out
       have hcz10_0 : wr.cell? ⟨gb309, 0, none⟩ = some (.int .i64 x310000_1) := (blk_cell BK309.out 0).trans rfl
       have hcz10_1 : wr.cell? ⟨gb309, 1, none⟩ = some (.string x310001_1) := (blk_cell BK309.out 1).trans rfl
       have hcz10_2 : wr.cell? ⟨gb309, 2, none⟩ = some (.int .i64 x310002_1) := (blk_cell BK309.out 2).trans rfl
       have hcz10_3 : wr.cell? ⟨gb309, 3, none⟩ = some (.int .i64 x310003_1) := (blk_cell BK309.out 3).trans rfl
       have hcz10_4 : wr.cell? ⟨gb309, 4, none⟩ = some (.slice none 0 0) := (blk_cell BK309.out 4).trans rfl
       have hfz10_0 := blk_frozen BK309.out 0
       have hfz10_1 := blk_frozen BK309.out 1
       have hfz10_2 := blk_frozen BK309.out 2
       have hfz10_3 := blk_frozen BK309.out 3
       have hfz10_4 := blk_frozen BK309.out 4
       go_wp2
       refine bodyPost_ret (results_ct rfl _ _ gb309 24 #[.int .i64 0, .string (⟨#[]⟩ : ByteArray), .int .i64 0, .int .i64 0, .slice none 0 0] (0, 0) _ rfl (by (with_reducible repeat (first | refine blk_drewN ?_ _ | refine blk_drew ?_ | refine blk_alloc ?_ _)); refine blk_put (cs := #[.int .i64 0, .string (⟨#[]⟩ : ByteArray), .int .i64 0, .int .i64 0, .slice none 0 0]) ?_ 4 _ rfl; (with_reducible repeat (first | refine blk_drewN ?_ _ | refine blk_drew ?_ | refine blk_alloc ?_ _)); refine blk_put (cs := #[.int .i64 0, .string (⟨#[]⟩ : ByteArray), .int .i64 0, .int .i64 x310003_1, .slice none 0 0]) ?_ 3 _ rfl; (with_reducible repeat (first | refine blk_drewN ?_ _ | refine blk_drew ?_ | refine blk_alloc ?_ _)); refine blk_put (cs := #[.int .i64 0, .string (⟨#[]⟩ : ByteArray), .int .i64 x310002_1, .int .i64 x310003_1, .slice none 0 0]) ?_ 2 _ rfl; (with_reducible repeat (first | refine blk_drewN ?_ _ | refine blk_drew ?_ | refine blk_alloc ?_ _)); refine blk_put (cs := #[.int .i64 0, .string x310001_1, .int .i64 x310002_1, .int .i64 x310003_1, .slice none 0 0]) ?_ 1 _ rfl; (with_reducible repeat (first | refine blk_drewN ?_ _ | refine blk_drew ?_ | refine blk_alloc ?_ _)); refine blk_put (cs := #[.int .i64 x310000_1, .string x310001_1, .int .i64 x310002_1, .int .i64 x310003_1, .slice none 0 0]) ?_ 0 _ rfl; (with_reducible repeat (first | refine blk_drewN ?_ _ | refine blk_drew ?_ | refine blk_alloc ?_ _)); exact BK309.out) Try.underlying24 rfl (by kernel_rfl)) rfl ?_
       exact ⟨_, by first | rfl | (simp [errW_none, errW_some] <;> rfl) | (simp [*, errW_none, errW_some] <;> rfl), Kd.V_nil _ _ _ _ _, by repeat (first | (with_reducible first | exact HB.out | apply below_alloc | apply pw_below_drewN | apply below_drew1 | refine below_set ?_ GE308.out | refine below_set ?_ GE309.out) | exact HB.out)⟩
      ·rw [if_neg c8] at H
       have c8b0 : decide ((rd l1 x10_1) < 0) = false := decide_eq_false c8
       clear c8
       by_cases c11 : (rd l1 x10_1) ≥ (x309004_1.length : Int)
       ·rw [if_pos c11] at H
        have c11b0 : decide ((x309004_1.length : Int) ≤ (rd l1 x10_1)) = true := decide_eq_true c11
        clear c11
        simp only [Option.some.injEq, Prod.mk.injEq] at H
        obtain ⟨rfl, rfl, rfl, rfl, rfl, rfl⟩ := H
        have p310 : 0 ≤ (x10_1 : Int) := of_decide_eq_true (by first | (with_reducible assumption) | assumption)
        have q310 : x10_1 < (l1.length : Int) := of_decide_eq_true (by first | (with_reducible assumption) | assumption)
        obtain ⟨ad310, e310, hx310_0⟩ := Kd.at_int HR1.out x10_1 p310 q310
        cases e310
        replace hx310_0 := (HB.out.cell (World.block_lt_of_cell? w _ hx310_0)).trans hx310_0
        replace p310 := eq_true p310
        replace q310 := eq_true q310
        have hnb12 := NB308_309.out
        have hnc12 := NB309_308.out
        have hcz13_0 : wr.cell? ⟨gb308, 0, none⟩ = some (.int .i64 x309000_1) := (blk_cell BK308.out 0).trans rfl
        have hcz13_1 : wr.cell? ⟨gb308, 1, none⟩ = some (.string x309001_1) := (blk_cell BK308.out 1).trans rfl
        have hcz13_2 : wr.cell? ⟨gb308, 2, none⟩ = some (.int .i64 x309002_1) := (blk_cell BK308.out 2).trans rfl
        have hcz13_3 : wr.cell? ⟨gb308, 3, none⟩ = some (.int .i64 x309003_1) := (blk_cell BK308.out 3).trans rfl
        have hcz13_4 : wr.cell? ⟨gb308, 4, none⟩ = some (u309004) := (blk_cell BK308.out 4).trans rfl
        have hfz13_0 := blk_frozen BK308.out 0
        have hfz13_1 := blk_frozen BK308.out 1
        have hfz13_2 := blk_frozen BK308.out 2
        have hfz13_3 := blk_frozen BK308.out 3
        have hfz13_4 := blk_frozen BK308.out 4
        obtain ⟨Ao14, co14, eo14⟩ := Kd.V_slice HO_309004.out
        subst eo14
        have hcz15_0 : wr.cell? ⟨gb309, 0, none⟩ = some (.int .i64 x310000_1) := (blk_cell BK309.out 0).trans rfl
        have hcz15_1 : wr.cell? ⟨gb309, 1, none⟩ = some (.string x310001_1) := (blk_cell BK309.out 1).trans rfl
        have hcz15_2 : wr.cell? ⟨gb309, 2, none⟩ = some (.int .i64 x310002_1) := (blk_cell BK309.out 2).trans rfl
        have hcz15_3 : wr.cell? ⟨gb309, 3, none⟩ = some (.int .i64 x310003_1) := (blk_cell BK309.out 3).trans rfl
        have hcz15_4 : wr.cell? ⟨gb309, 4, none⟩ = some (.slice none 0 0) := (blk_cell BK309.out 4).trans rfl
        have hfz15_0 := blk_frozen BK309.out 0
        have hfz15_1 := blk_frozen BK309.out 1
        have hfz15_2 := blk_frozen BK309.out 2
        have hfz15_3 := blk_frozen BK309.out 3
        have hfz15_4 := blk_frozen BK309.out 4
        go_wp2
        refine bodyPost_ret (results_ct rfl _ _ gb309 24 #[.int .i64 0, .string (⟨#[]⟩ : ByteArray), .int .i64 0, .int .i64 0, .slice none 0 0] (0, 0) _ rfl (by (with_reducible repeat (first | refine blk_drewN ?_ _ | refine blk_drew ?_ | refine blk_alloc ?_ _)); refine blk_put (cs := #[.int .i64 0, .string (⟨#[]⟩ : ByteArray), .int .i64 0, .int .i64 0, .slice none 0 0]) ?_ 4 _ rfl; (with_reducible repeat (first | refine blk_drewN ?_ _ | refine blk_drew ?_ | refine blk_alloc ?_ _)); refine blk_put (cs := #[.int .i64 0, .string (⟨#[]⟩ : ByteArray), .int .i64 0, .int .i64 x310003_1, .slice none 0 0]) ?_ 3 _ rfl; (with_reducible repeat (first | refine blk_drewN ?_ _ | refine blk_drew ?_ | refine blk_alloc ?_ _)); refine blk_put (cs := #[.int .i64 0, .string (⟨#[]⟩ : ByteArray), .int .i64 x310002_1, .int .i64 x310003_1, .slice none 0 0]) ?_ 2 _ rfl; (with_reducible repeat (first | refine blk_drewN ?_ _ | refine blk_drew ?_ | refine blk_alloc ?_ _)); refine blk_put (cs := #[.int .i64 0, .string x310001_1, .int .i64 x310002_1, .int .i64 x310003_1, .slice none 0 0]) ?_ 1 _ rfl; (with_reducible repeat (first | refine blk_drewN ?_ _ | refine blk_drew ?_ | refine blk_alloc ?_ _)); refine blk_put (cs := #[.int .i64 x310000_1, .string x310001_1, .int .i64 x310002_1, .int .i64 x310003_1, .slice none 0 0]) ?_ 0 _ rfl; (with_reducible repeat (first | refine blk_drewN ?_ _ | refine blk_drew ?_ | refine blk_alloc ?_ _)); exact BK309.out) Try.underlying24 rfl (by kernel_rfl)) rfl ?_
        exact ⟨_, by first | rfl | (simp [errW_none, errW_some] <;> rfl) | (simp [*, errW_none, errW_some] <;> rfl), Kd.V_nil _ _ _ _ _, by repeat (first | (with_reducible first | exact HB.out | apply below_alloc | apply pw_below_drewN | apply below_drew1 | refine below_set ?_ GE308.out | refine below_set ?_ GE309.out) | exact HB.out)⟩
       ·rw [if_neg c11] at H
        have c11b0 : decide ((x309004_1.length : Int) ≤ (rd l1 x10_1)) = false := decide_eq_false c11
        clear c11
        by_cases c16 : 0 ≤ (rd l1 x10_1)
        ·rw [if_pos c16] at H
         have c16b0 : decide (0 ≤ (rd l1 x10_1)) = true := decide_eq_true c16
         clear c16
         by_cases c17 : (rd l1 x10_1) < (x309004_1.length : Int)
         ·rw [if_pos c17] at H
          have c17b0 : decide ((rd l1 x10_1) < (x309004_1.length : Int)) = true := decide_eq_true c17
          clear c17
          have H' := Aside0.mk H
          clear H
          have p310 : 0 ≤ (x10_1 : Int) := of_decide_eq_true (by first | (with_reducible assumption) | assumption)
          have q310 : x10_1 < (l1.length : Int) := of_decide_eq_true (by first | (with_reducible assumption) | assumption)
          obtain ⟨ad310, e310, hx310_0⟩ := Kd.at_int HR1.out x10_1 p310 q310
          cases e310
          replace hx310_0 := (HB.out.cell (World.block_lt_of_cell? w _ hx310_0)).trans hx310_0
          replace p310 := eq_true p310
          replace q310 := eq_true q310
          have hnb18 := NB308_309.out
          have hnc18 := NB309_308.out
          have hcz19_0 : wr.cell? ⟨gb308, 0, none⟩ = some (.int .i64 x309000_1) := (blk_cell BK308.out 0).trans rfl
          have hcz19_1 : wr.cell? ⟨gb308, 1, none⟩ = some (.string x309001_1) := (blk_cell BK308.out 1).trans rfl
          have hcz19_2 : wr.cell? ⟨gb308, 2, none⟩ = some (.int .i64 x309002_1) := (blk_cell BK308.out 2).trans rfl
          have hcz19_3 : wr.cell? ⟨gb308, 3, none⟩ = some (.int .i64 x309003_1) := (blk_cell BK308.out 3).trans rfl
          have hcz19_4 : wr.cell? ⟨gb308, 4, none⟩ = some (u309004) := (blk_cell BK308.out 4).trans rfl
          have hfz19_0 := blk_frozen BK308.out 0
          have hfz19_1 := blk_frozen BK308.out 1
          have hfz19_2 := blk_frozen BK308.out 2
          have hfz19_3 := blk_frozen BK308.out 3
          have hfz19_4 := blk_frozen BK308.out 4
          obtain ⟨Ao20, co20, eo20⟩ := Kd.V_slice HO_309004.out
          subst eo20
          have p311 : 0 ≤ ((rd l1 x10_1) : Int) := of_decide_eq_true (by first | (with_reducible assumption) | assumption)
          have q311 : (rd l1 x10_1) < (x309004_1.length : Int) := of_decide_eq_true (by first | (with_reducible assumption) | assumption)
          obtain ⟨ad311, A311_4, c311_4, e311, hx311_0, hx311_1, hx311_2, hx311_3, hx311_4, hl311_4, hi311_4⟩ := at_T24 (Kd.V_reads' HO_309004.out).2.2 (rd l1 x10_1) p311 q311
          cases e311
          obtain ⟨ce311, hce311, hMe311, hcc311⟩ := Kd.V_get HO_309004.out z24 (rd l1 x10_1) p311 (by first | exact q311 | exact of_decide_eq_true (by first | (with_reducible assumption) | assumption) | (have e_ := (Kd.V_reads' HO_309004.out).1; omega))
          obtain ⟨ua311_4, uc311_4, rfl, ul311_4, ge311_4⟩ := k24_openF hMe311
          have hv311_4 := hcc311 4 _ rfl
          rw [add_field _ _ 4 (by omega)] at hv311_4
          replace hv311_4 := Option.some.inj (hv311_4.symm.trans hx311_4)
          injection hv311_4 with hva_ hvn_ hvc_
          rw [hva_] at ge311_4
          rw [hvc_] at ul311_4
          have HL311_4 := Aside0.mk (show Kd.V k24 24 _ w.heap.size _ _ ((rd_T24 x309004_1 (rd l1 x10_1)).f4) from Kd.V_mk ul311_4 ge311_4)
          clear hva_ hvn_ hvc_ ge311_4 ul311_4
          clear hcc311 hce311
          have HR311_4 := Aside0.mk hi311_4
          have HC311_4 := Aside0.mk hl311_4
          clear hi311_4 hl311_4
          replace p311 := eq_true p311
          replace q311 := eq_true q311
          go_wp2
          go_roundg k1
          case measure => have := HK1.out; omega
          case rel => exact ⟨(wrap64 (x10_1 + 1)), ((rd_T24 x309004_1 (rd l1 x10_1)).f0), ((rd_T24 x309004_1 (rd l1 x10_1)).f1), ((rd_T24 x309004_1 (rd l1 x10_1)).f2), ((rd_T24 x309004_1 (rd l1 x10_1)).f3), ((rd_T24 x309004_1 (rd l1 x10_1)).f4), (x310000_1), (x310001_1), (x310002_1), (x310003_1), (.slice A311_4 ((rd_T24 x309004_1 (rd l1 x10_1)).f4).length c311_4), (by first | rfl | (simp; done) | (simp [*]; done)), H', ⟨by have := HK1.out; omega⟩, ⟨by (with_reducible repeat (first | apply Kd.V_alloc | apply Kd.V_drewN | apply Kd.V_drew)); exact Kd.V_mono (Kd.V_far (p := ⟨gb308, 4, none⟩) (Kd.V_far (p := ⟨gb308, 3, none⟩) (Kd.V_far (p := ⟨gb308, 2, none⟩) (Kd.V_far (p := ⟨gb308, 1, none⟩) (Kd.V_far (p := ⟨gb308, 0, none⟩) (Kd.V_mono HL311_4.out (fun k_ hk => (⟨hk, hk.2.1⟩ : _ ∧ k_ ≠ gb308))) (fun _ hk => hk.2) (.int .i64 ((rd_T24 x309004_1 (rd l1 x10_1)).f0))) (fun _ hk => hk.2) (.string ((rd_T24 x309004_1 (rd l1 x10_1)).f1))) (fun _ hk => hk.2) (.int .i64 ((rd_T24 x309004_1 (rd l1 x10_1)).f2))) (fun _ hk => hk.2) (.int .i64 ((rd_T24 x309004_1 (rd l1 x10_1)).f3))) (fun _ hk => hk.2) (.slice A311_4 ((rd_T24 x309004_1 (rd l1 x10_1)).f4).length c311_4)) (fun _ hk => ⟨hk.1.1, ⟨hk.1.2.1, hk.1.2.2⟩⟩)⟩, ⟨by (with_reducible repeat (first | refine blk_drewN ?_ _ | refine blk_drew ?_ | refine blk_alloc ?_ _)); refine blk_put (cs := #[.int .i64 ((rd_T24 x309004_1 (rd l1 x10_1)).f0), .string ((rd_T24 x309004_1 (rd l1 x10_1)).f1), .int .i64 ((rd_T24 x309004_1 (rd l1 x10_1)).f2), .int .i64 ((rd_T24 x309004_1 (rd l1 x10_1)).f3), .slice (some ad311) x309004_1.length co20]) ?_ 4 _ rfl; (with_reducible repeat (first | refine blk_drewN ?_ _ | refine blk_drew ?_ | refine blk_alloc ?_ _)); refine blk_put (cs := #[.int .i64 ((rd_T24 x309004_1 (rd l1 x10_1)).f0), .string ((rd_T24 x309004_1 (rd l1 x10_1)).f1), .int .i64 ((rd_T24 x309004_1 (rd l1 x10_1)).f2), .int .i64 x309003_1, .slice (some ad311) x309004_1.length co20]) ?_ 3 _ rfl; (with_reducible repeat (first | refine blk_drewN ?_ _ | refine blk_drew ?_ | refine blk_alloc ?_ _)); refine blk_put (cs := #[.int .i64 ((rd_T24 x309004_1 (rd l1 x10_1)).f0), .string ((rd_T24 x309004_1 (rd l1 x10_1)).f1), .int .i64 x309002_1, .int .i64 x309003_1, .slice (some ad311) x309004_1.length co20]) ?_ 2 _ rfl; (with_reducible repeat (first | refine blk_drewN ?_ _ | refine blk_drew ?_ | refine blk_alloc ?_ _)); refine blk_put (cs := #[.int .i64 ((rd_T24 x309004_1 (rd l1 x10_1)).f0), .string x309001_1, .int .i64 x309002_1, .int .i64 x309003_1, .slice (some ad311) x309004_1.length co20]) ?_ 1 _ rfl; (with_reducible repeat (first | refine blk_drewN ?_ _ | refine blk_drew ?_ | refine blk_alloc ?_ _)); refine blk_put (cs := #[.int .i64 x309000_1, .string x309001_1, .int .i64 x309002_1, .int .i64 x309003_1, .slice (some ad311) x309004_1.length co20]) ?_ 0 _ rfl; (with_reducible repeat (first | refine blk_drewN ?_ _ | refine blk_drew ?_ | refine blk_alloc ?_ _)); exact BK308.out⟩, ⟨by (with_reducible repeat (first | refine blk_drewN ?_ _ | refine blk_drew ?_ | refine blk_alloc ?_ _)); refine blk_far ?_ NB309_308.out _; (with_reducible repeat (first | refine blk_drewN ?_ _ | refine blk_drew ?_ | refine blk_alloc ?_ _)); refine blk_far ?_ NB309_308.out _; (with_reducible repeat (first | refine blk_drewN ?_ _ | refine blk_drew ?_ | refine blk_alloc ?_ _)); refine blk_far ?_ NB309_308.out _; (with_reducible repeat (first | refine blk_drewN ?_ _ | refine blk_drew ?_ | refine blk_alloc ?_ _)); refine blk_far ?_ NB309_308.out _; (with_reducible repeat (first | refine blk_drewN ?_ _ | refine blk_drew ?_ | refine blk_alloc ?_ _)); refine blk_far ?_ NB309_308.out _; (with_reducible repeat (first | refine blk_drewN ?_ _ | refine blk_drew ?_ | refine blk_alloc ?_ _)); exact BK309.out⟩, ⟨by repeat (first | (with_reducible first | exact HB.out | apply below_alloc | apply pw_below_drewN | apply below_drew1 | refine below_set ?_ GE308.out | refine below_set ?_ GE309.out) | exact HB.out)⟩⟩
         ·rw [if_neg c17] at H
          exact absurd H (by simp)
        ·rw [if_neg c16] at H
         exact absurd H (by simp)
     ·rw [if_neg c7] at H
      exact absurd H (by simp)
    ·rw [if_neg c6] at H
     exact absurd H (by simp)
   ·rw [if_neg c5] at H
    have c5b0 : decide (x10_1 < (l1.length : Int)) = false := decide_eq_false c5
    clear c5
    simp only [Option.some.injEq, Prod.mk.injEq] at H
    obtain ⟨rfl, rfl, rfl, rfl, rfl, rfl⟩ := H
    have hnb21 := NB308_309.out
    have hnc21 := NB309_308.out
    have hcz22_0 : wr.cell? ⟨gb308, 0, none⟩ = some (.int .i64 x309000_1) := (blk_cell BK308.out 0).trans rfl
    have hcz22_1 : wr.cell? ⟨gb308, 1, none⟩ = some (.string x309001_1) := (blk_cell BK308.out 1).trans rfl
    have hcz22_2 : wr.cell? ⟨gb308, 2, none⟩ = some (.int .i64 x309002_1) := (blk_cell BK308.out 2).trans rfl
    have hcz22_3 : wr.cell? ⟨gb308, 3, none⟩ = some (.int .i64 x309003_1) := (blk_cell BK308.out 3).trans rfl
    have hcz22_4 : wr.cell? ⟨gb308, 4, none⟩ = some (u309004) := (blk_cell BK308.out 4).trans rfl
    have hfz22_0 := blk_frozen BK308.out 0
    have hfz22_1 := blk_frozen BK308.out 1
    have hfz22_2 := blk_frozen BK308.out 2
    have hfz22_3 := blk_frozen BK308.out 3
    have hfz22_4 := blk_frozen BK308.out 4
    have hcz23_0 : wr.cell? ⟨gb309, 0, none⟩ = some (.int .i64 x310000_1) := (blk_cell BK309.out 0).trans rfl
    have hcz23_1 : wr.cell? ⟨gb309, 1, none⟩ = some (.string x310001_1) := (blk_cell BK309.out 1).trans rfl
    have hcz23_2 : wr.cell? ⟨gb309, 2, none⟩ = some (.int .i64 x310002_1) := (blk_cell BK309.out 2).trans rfl
    have hcz23_3 : wr.cell? ⟨gb309, 3, none⟩ = some (.int .i64 x310003_1) := (blk_cell BK309.out 3).trans rfl
    have hcz23_4 : wr.cell? ⟨gb309, 4, none⟩ = some (.slice none 0 0) := (blk_cell BK309.out 4).trans rfl
    have hfz23_0 := blk_frozen BK309.out 0
    have hfz23_1 := blk_frozen BK309.out 1
    have hfz23_2 := blk_frozen BK309.out 2
    have hfz23_3 := blk_frozen BK309.out 3
    have hfz23_4 := blk_frozen BK309.out 4
    obtain ⟨Ao24, co24, eo24⟩ := Kd.V_slice HO_309004.out
    subst eo24
    go_wp2
    refine bodyPost_ret (results_ct rfl _ _ gb309 24 #[.int .i64 x309000_1, .string x309001_1, .int .i64 x309002_1, .int .i64 x309003_1, .slice Ao24 x309004_1.length co24] (0, 0) _ rfl (by (with_reducible repeat (first | refine blk_drewN ?_ _ | refine blk_drew ?_ | refine blk_alloc ?_ _)); refine blk_put (cs := #[.int .i64 x309000_1, .string x309001_1, .int .i64 x309002_1, .int .i64 x309003_1, .slice none 0 0]) ?_ 4 _ rfl; (with_reducible repeat (first | refine blk_drewN ?_ _ | refine blk_drew ?_ | refine blk_alloc ?_ _)); refine blk_put (cs := #[.int .i64 x309000_1, .string x309001_1, .int .i64 x309002_1, .int .i64 x310003_1, .slice none 0 0]) ?_ 3 _ rfl; (with_reducible repeat (first | refine blk_drewN ?_ _ | refine blk_drew ?_ | refine blk_alloc ?_ _)); refine blk_put (cs := #[.int .i64 x309000_1, .string x309001_1, .int .i64 x310002_1, .int .i64 x310003_1, .slice none 0 0]) ?_ 2 _ rfl; (with_reducible repeat (first | refine blk_drewN ?_ _ | refine blk_drew ?_ | refine blk_alloc ?_ _)); refine blk_put (cs := #[.int .i64 x309000_1, .string x310001_1, .int .i64 x310002_1, .int .i64 x310003_1, .slice none 0 0]) ?_ 1 _ rfl; (with_reducible repeat (first | refine blk_drewN ?_ _ | refine blk_drew ?_ | refine blk_alloc ?_ _)); refine blk_put (cs := #[.int .i64 x310000_1, .string x310001_1, .int .i64 x310002_1, .int .i64 x310003_1, .slice none 0 0]) ?_ 0 _ rfl; (with_reducible repeat (first | refine blk_drewN ?_ _ | refine blk_drew ?_ | refine blk_alloc ?_ _)); exact BK309.out) Try.underlying24 rfl (by kernel_rfl)) rfl ?_
    exact ⟨_, by first | rfl | (simp [errW_none, errW_some] <;> rfl) | (simp [*, errW_none, errW_some] <;> rfl), by (with_reducible repeat (first | apply Kd.V_alloc | apply Kd.V_drewN | apply Kd.V_drew)); exact Kd.V_mono (Kd.V_far (p := ⟨gb309, 4, none⟩) (Kd.V_far (p := ⟨gb309, 3, none⟩) (Kd.V_far (p := ⟨gb309, 2, none⟩) (Kd.V_far (p := ⟨gb309, 1, none⟩) (Kd.V_far (p := ⟨gb309, 0, none⟩) (Kd.V_mono HO_309004.out (fun k_ hk => (⟨hk, hk.2.2⟩ : _ ∧ k_ ≠ gb309))) (fun _ hk => hk.2) (.int .i64 x309000_1)) (fun _ hk => hk.2) (.string x309001_1)) (fun _ hk => hk.2) (.int .i64 x309002_1)) (fun _ hk => hk.2) (.int .i64 x309003_1)) (fun _ hk => hk.2) (.slice Ao24 x309004_1.length co24)) (fun _ hk => hk.1.1), by repeat (first | (with_reducible first | exact HB.out | apply below_alloc | apply pw_below_drewN | apply below_drew1 | refine below_set ?_ GE308.out | refine below_set ?_ GE309.out) | exact HB.out)⟩

end Go.Proofs.Ytbheobngeocdfaa.PAll
