/- What the machine's calls come to, function by function: printed by a program of this session after the kit's print; Lean checks it. SLIM -/
import Derived.Test.YtbheobngeocdfaaPAllx0
import Derived.Test.YtbheobngeocdfaaPAllxf25
namespace Go.Proofs.Ytbheobngeocdfaa.PAll
open Go.RowKit Go.Proofs.YtbheobngeocdfaaW.PrintWords Go.Proofs.YtbheobngeocdfaaW.PrintLast Go.Proofs.YtbheobngeocdfaaW.PrintMore
attribute [local go_sem] max2_int min2_int max_two min_two max_three min_three max_four min_four   -- for this text's walks alone
set_option linter.unusedVariables false
set_option linter.unusedSimpArgs false

/-! ### assessorref03_Number: function 29 -/
mutual
def assessorref03_Number.l0 : Nat → List Int → Int → Int → Int → ByteArray → Int → Int → List (S24) → Option (Int × Bool)
 | 0, _, _, _, _, _, _, _, _ => none
 | k + 1, x1, x8, x9, x322000, x322001, x322002, x322003, x322004 => if x9 < (x1.length : Int) then (assessorref03_Number.l1 k x1 (wrap64 (x8 + 1)) x9 0 x322000 x322001 x322002 x322003 x322004) else (some (x8, true))
def assessorref03_Number.l1 : Nat → List Int → Int → Int → Int → Int → ByteArray → Int → Int → List (S24) → Option (Int × Bool)
 | 0, _, _, _, _, _, _, _, _, _ => none
 | k + 1, x1, x8, x9, x10, x322000, x322001, x322002, x322003, x322004 => if 0 ≤ x9 then (if x9 < (x1.length : Int) then (if x10 < (rd x1 x9) then (if 0 ≤ x10 then (if x10 < (x322004.length : Int) then ((assessorref03_Count.f k ((rd_T24 x322004 x10).f0) ((rd_T24 x322004 x10).f1) ((rd_T24 x322004 x10).f2) ((rd_T24 x322004 x10).f3) ((rd_T24 x322004 x10).f4)).bind fun t333 => (assessorref03_Number.l1 k x1 (wrap64 (x8 + t333)) x9 (wrap64 (x10 + 1)) x322000 x322001 x322002 x322003 x322004)) else (none)) else (none)) else (if 0 ≤ (rd x1 x9) then (if (rd x1 x9) < (x322004.length : Int) then (assessorref03_Number.l0 k x1 x8 (wrap64 (x9 + 1)) ((rd_T24 x322004 (rd x1 x9)).f0) ((rd_T24 x322004 (rd x1 x9)).f1) ((rd_T24 x322004 (rd x1 x9)).f2) ((rd_T24 x322004 (rd x1 x9)).f3) ((rd_T24 x322004 (rd x1 x9)).f4)) else (none)) else (none))) else (none)) else (none)
end
def assessorref03_Number.f (k : Nat) (a0_0 : Int) (a0_1 : ByteArray) (a0_2 : Int) (a0_3 : Int) (l0_4 : List (S24)) (l1 : List Int) : Option (Int × Bool) := (assessorref03_Get.f k a0_0 a0_1 a0_2 a0_3 l0_4 l1).bind fun bt322 => (if bt322.2.2.2.2.2 = true then (assessorref03_Number.l0 k l1 0 0 a0_0 a0_1 a0_2 a0_3 l0_4) else (some (0, false)))
theorem assessorref03_Number.mono_l : ∀ k, (∀ y0 y1 y2 y3 y4 y5 y6 y7, LeO (assessorref03_Number.l0 k y0 y1 y2 y3 y4 y5 y6 y7) (assessorref03_Number.l0 (k + 1) y0 y1 y2 y3 y4 y5 y6 y7)) ∧ (∀ y0 y1 y2 y3 y4 y5 y6 y7 y8, LeO (assessorref03_Number.l1 k y0 y1 y2 y3 y4 y5 y6 y7 y8) (assessorref03_Number.l1 (k + 1) y0 y1 y2 y3 y4 y5 y6 y7 y8))
 | 0 => ⟨fun _ _ _ _ _ _ _ _ r h => by simp [assessorref03_Number.l0] at h, fun _ _ _ _ _ _ _ _ _ r h => by simp [assessorref03_Number.l1] at h⟩
 | k + 1 => by
  obtain ⟨ih0, ih1⟩ := assessorref03_Number.mono_l k
  refine ⟨?_, ?_⟩
  ·intro y0 y1 y2 y3 y4 y5 y6 y7
   unfold assessorref03_Number.l0
   repeat' first
   | (with_reducible exact ih0 _ _ _ _ _ _ _ _)
   | (with_reducible exact ih1 _ _ _ _ _ _ _ _ _)
   | (with_reducible exact assessorref03_Count.mono _ _ _ _ _ _)
   | (with_reducible exact assessorref03_Get.mono _ _ _ _ _ _ _)
   | (with_reducible exact LeO.refl _)
   | (with_reducible exact LeO.none _)
   | (with_reducible refine LeO.ite ?_ ?_)
   | (with_reducible refine LeO.bind ?_ (fun _ => ?_))
   | exact ih0 _ _ _ _ _ _ _ _
   | exact ih1 _ _ _ _ _ _ _ _ _
   | exact assessorref03_Count.mono _ _ _ _ _ _
   | exact assessorref03_Get.mono _ _ _ _ _ _ _
   | exact LeO.none _
   | refine LeO.ite ?_ ?_
   | refine LeO.bind ?_ (fun _ => ?_)
  ·intro y0 y1 y2 y3 y4 y5 y6 y7 y8
   unfold assessorref03_Number.l1
   repeat' first
   | (with_reducible exact ih0 _ _ _ _ _ _ _ _)
   | (with_reducible exact ih1 _ _ _ _ _ _ _ _ _)
   | (with_reducible exact assessorref03_Count.mono _ _ _ _ _ _)
   | (with_reducible exact assessorref03_Get.mono _ _ _ _ _ _ _)
   | (with_reducible exact LeO.refl _)
   | (with_reducible exact LeO.none _)
   | (with_reducible refine LeO.ite ?_ ?_)
   | (with_reducible refine LeO.bind ?_ (fun _ => ?_))
   | exact ih0 _ _ _ _ _ _ _ _
   | exact ih1 _ _ _ _ _ _ _ _ _
   | exact assessorref03_Count.mono _ _ _ _ _ _
   | exact assessorref03_Get.mono _ _ _ _ _ _ _
   | exact LeO.none _
   | refine LeO.ite ?_ ?_
   | refine LeO.bind ?_ (fun _ => ?_)
theorem assessorref03_Number.mono : ∀ a0 a1 a2 a3 a4 a5 k, LeO (assessorref03_Number.f k a0 a1 a2 a3 a4 a5) (assessorref03_Number.f (k + 1) a0 a1 a2 a3 a4 a5) := by
 intro a0 a1 a2 a3 a4 a5 k
 obtain ⟨ih0, ih1⟩ := assessorref03_Number.mono_l k
 unfold assessorref03_Number.f
 repeat' first
   | (with_reducible exact ih0 _ _ _ _ _ _ _ _)
   | (with_reducible exact ih1 _ _ _ _ _ _ _ _ _)
   | (with_reducible exact assessorref03_Count.mono _ _ _ _ _ _)
   | (with_reducible exact assessorref03_Get.mono _ _ _ _ _ _ _)
   | (with_reducible exact LeO.refl _)
   | (with_reducible exact LeO.none _)
   | (with_reducible refine LeO.ite ?_ ?_)
   | (with_reducible refine LeO.bind ?_ (fun _ => ?_))
   | exact ih0 _ _ _ _ _ _ _ _
   | exact ih1 _ _ _ _ _ _ _ _ _
   | exact assessorref03_Count.mono _ _ _ _ _ _
   | exact assessorref03_Get.mono _ _ _ _ _ _ _
   | exact LeO.none _
   | refine LeO.ite ?_ ?_
   | refine LeO.bind ?_ (fun _ => ?_)
def assessorref03_Number.T13 : Bool × List (List Nat × List Nat) := (true, [([], []), ([0], [0]), ([], []), ([], []), ([2, 3], [2, 3]), ([4], [4]), ([1, 5], [1, 5]), ([6], [6]), ([7, 0, 1, 2, 3, 4, 5, 6, 7], [7])])
def assessorref03_Number.B13 : List Nat := [0, 1, 0, 0, 12, 28, 63, 127, 255]
theorem assessorref03_Number.tab13 : rtab .any (opsOf Try.f29 13) = assessorref03_Number.T13 := by kernel_rfl
theorem assessorref03_Number.bits13 : waitsOk assessorref03_Number.T13.2 assessorref03_Number.B13 = true := by kernel_rfl
set_option maxHeartbeats 8000000 in
set_option maxRecDepth 100000 in
theorem assessorref03_Number.calls (k : Nat) (a0_0 : Int) (a0_1 : ByteArray) (a0_2 : Int) (a0_3 : Int) (P0_4_ : Nat → Prop) (A0_4 : Option Addr) (c0_4 : Nat) (l0_4 : List (S24)) (A1 : Option Addr) (c1 : Nat) (l1 : List Int) (r1 : Int) (r2 : Bool) (w : World) (hs0_4 : Kd.V k24 24 w w.heap.size (fun k_ => P0_4_ k_) (.slice A0_4 l0_4.length c0_4) l0_4) (hr1 : Kd.C (Kd.int .i64) w A1 l1.length l1) (hc1 : l1.length ≤ c1) (h : assessorref03_Number.f k a0_0 a0_1 a0_2 a0_3 l0_4 l1 = some (r1, r2)) :
  Calls Try.prog 29 #[.agg #[.int .i64 a0_0, .string a0_1, .int .i64 a0_2, .int .i64 a0_3, .slice A0_4 l0_4.length c0_4], .slice A1 l1.length c1] w fun e w' => e = .returned (.tuple #[.int .i64 r1, .bool r2]) ∧ Below w.heap.size w w' := by
 have hu24 := Try.underlying24
 have HO0_4 := Aside0.mk (show Kd.V k24 24 w w.heap.size (fun k_ => (P0_4_ k_ ∨ w.heap.size ≤ k_)) (.slice A0_4 l0_4.length c0_4) l0_4 from Kd.V_mono hs0_4 (fun k_ hk => .inl hk))
 have HR1 := Aside0.mk hr1
 have HC1 := Aside0.mk hc1
 clear hr1 hc1
 have HB := Aside0.mk (Below.refl w.heap.size w)
 have H : ((assessorref03_Get.f k a0_0 a0_1 a0_2 a0_3 l0_4 l1).bind fun bt322 => (if bt322.2.2.2.2.2 = true then (assessorref03_Number.l0 k l1 0 0 a0_0 a0_1 a0_2 a0_3 l0_4) else (some (0, false)))) = some (r1, r2) := h
 clear h
 replace H := Option.bind_eq_some_iff.mp H
 obtain ⟨⟨t322, t323, t324, t325, t326, t329⟩, A30, H⟩ := H
 replace H : (if t329 = true then (assessorref03_Number.l0 k l1 0 0 a0_0 a0_1 a0_2 a0_3 l0_4) else (some (0, false))) = some (r1, r2) := H
 have A3 := Aside0.mk A30
 clear A30
 by_cases c4 : t329 = true
 ·subst c4
  have H1 : (assessorref03_Number.l0 k l1 0 0 a0_0 a0_1 a0_2 a0_3 l0_4) = some (r1, r2) := by rw [if_pos rfl] at H; exact H
  clear H
  have H := H1
  clear H1
  have H' := Aside0.mk H
  clear H
  go_enter Try.func29, Try.ntmps29
  go_wp2_with (first | ((with_reducible refine gate_dst (N := 2) rfl ?_); refine box_event ?hg (N := 2) ?hd (cs := #[.int .i64 a0_0, .string a0_1, .int .i64 a0_2, .int .i64 a0_3, .slice A0_4 l0_4.length c0_4]) (t := 24) ?hr ?_; (case hd => rfl); (case hg => rfl); (case hr => first | (go_simp; done) | (go_simp; rfl)); intro gb321 hg w5 hbox hb; have n0_ := Aside0.mk (Kd.V_below (Kd.V_elderB (by (with_reducible repeat (first | apply Kd.V_alloc | apply Kd.V_drewN | apply Kd.V_drew)); exact HO0_4.out) gb321 (Nat.le_of_eq hg.symm)) hb); have n1_ := Aside0.mk (below_step (by repeat (first | (with_reducible first | exact HB.out | apply below_alloc | apply pw_below_drewN | apply below_drew1) | exact HB.out)) hb); have n2_ := Aside0.mk (hbox); have n3_ := Aside0.mk ((by rw [hg]; exact (below_size (by repeat (first | (with_reducible first | exact HB.out | apply below_alloc | apply pw_below_drewN | apply below_drew1) | exact HB.out))) : w.heap.size ≤ gb321)); have n4_ := Aside0.mk ((by rw [hg]; exact (below_size (by repeat (first | (with_reducible first | exact HB.out | apply below_alloc | apply pw_below_drewN | apply below_drew1) | exact HB.out))) : w.heap.size ≤ gb321)); clear HO0_4; clear HB; have HO0_4 := n0_; have HB := n1_; have BK321 := n2_; have GW321 := n3_; have GE321 := n4_; clear n0_ n1_ n2_ n3_ n4_; clear hb hbox hg; have hcz6_0 : w5.cell? ⟨gb321, 0, none⟩ = some (.int .i64 a0_0) := (blk_cell BK321.out 0).trans rfl; have hcz6_1 : w5.cell? ⟨gb321, 1, none⟩ = some (.string a0_1) := (blk_cell BK321.out 1).trans rfl; have hcz6_2 : w5.cell? ⟨gb321, 2, none⟩ = some (.int .i64 a0_2) := (blk_cell BK321.out 2).trans rfl; have hcz6_3 : w5.cell? ⟨gb321, 3, none⟩ = some (.int .i64 a0_3) := (blk_cell BK321.out 3).trans rfl; have hcz6_4 : w5.cell? ⟨gb321, 4, none⟩ = some (.slice A0_4 l0_4.length c0_4) := (blk_cell BK321.out 4).trans rfl; have hfz6_0 := blk_frozen BK321.out 0; have hfz6_1 := blk_frozen BK321.out 1; have hfz6_2 := blk_frozen BK321.out 2; have hfz6_3 := blk_frozen BK321.out 3; have hfz6_4 := blk_frozen BK321.out 4) | ((with_reducible refine gate_callee (f := 25) rfl ?_); refine goesL_ (some 14) rfl rfl Try.func25 (by kernel_rfl) rfl #[.agg #[.int .i64 a0_0, .string a0_1, .int .i64 a0_2, .int .i64 a0_3, .slice A0_4 l0_4.length c0_4], .slice A1 l1.length c1] rfl (by (try simp only [List.map_toArray, List.map_cons, List.map_nil]); first | done | rfl | (simp only [List.length_drop, List.length_take]; rfl)) ?_; (with_reducible refine (assessorref03_Get.calls k a0_0 a0_1 a0_2 a0_3 (fun k_ => ((P0_4_ k_ ∨ w.heap.size ≤ k_) ∧ k_ ≠ gb321)) _ _ l0_4 _ _ l1 t322 t323 t324 t325 t326 true _ ?side1 ?side2 ?side3 A3.out).mono ?_); (case side1 => exact HO0_4.out); (case side2 => repeat (first | exact (Kd.C_below HR1.out HB.out) | (with_reducible refine Kd.C_alloc ?_ _) | (with_reducible refine Kd.C_drewN ?_ _) | (with_reducible refine Kd.C_drew ?_))); (case side3 => exact HC1.out); rintro e w7 ⟨v327, rfl, ho0, hb⟩; refine ⟨_, rfl, ?_⟩; have n0_ := Aside0.mk (Kd.V_below (by (with_reducible repeat (first | apply Kd.V_alloc | apply Kd.V_drewN | apply Kd.V_drew)); exact HO0_4.out) hb); have n1_ := Aside0.mk (Kd.V_lower (Kd.V_mono (ok' := fun k_ => (P0_4_ k_ ∨ w.heap.size ≤ k_) ∧ k_ ≠ gb321) ho0 (fun k_ hk_ => ⟨Or.elim hk_ (fun hs_ => hs_.1) (fun hn_ => (.inr (Nat.le_trans (below_size (by repeat (first | (with_reducible first | exact HB.out | apply below_alloc | apply pw_below_drewN | apply below_drew1 | refine below_set ?_ GE321.out) | exact HB.out))) hn_))), Or.elim hk_ (fun hs_ => hs_.2) (fun hn_ => (Kd.freshB (g := gb321) (o := .cells #[.int .i64 a0_0, .string a0_1, .int .i64 a0_2, .int .i64 a0_3, .slice A0_4 l0_4.length c0_4] 24 (0, 0)) (by (with_reducible repeat (first | refine blk_drewN ?_ _ | refine blk_drew ?_ | refine blk_alloc ?_ _)); exact BK321.out) k_ hn_))⟩)) (below_size (by repeat (first | (with_reducible first | exact HB.out | apply below_alloc | apply pw_below_drewN | apply below_drew1 | refine below_set ?_ GE321.out) | exact HB.out)))); have n2_ := Aside0.mk (blk_below (g := gb321) (o := .cells #[.int .i64 a0_0, .string a0_1, .int .i64 a0_2, .int .i64 a0_3, .slice A0_4 l0_4.length c0_4] 24 (0, 0)) (by (with_reducible repeat (first | refine blk_drewN ?_ _ | refine blk_drew ?_ | refine blk_alloc ?_ _)); exact BK321.out) hb); have n3_ := Aside0.mk (below_step (by repeat (first | (with_reducible first | exact HB.out | apply below_alloc | apply pw_below_drewN | apply below_drew1 | refine below_set ?_ GE321.out) | exact HB.out)) hb); clear HO0_4; clear BK321; clear HB; have HO0_4 := n0_; have HO328 := n1_; have BK321 := n2_; have HB := n3_; clear n0_ n1_ n2_ n3_; (try clear hb); (try clear hb2); (try clear hk); (try clear hi); (try clear ho0)) | ((with_reducible refine gate_dst (N := 6) rfl ?_); refine box_event ?hg (N := 6) ?hd (cs := #[.int .i64 0, .string (⟨#[]⟩ : ByteArray), .int .i64 0, .int .i64 0, .slice none 0 0]) (t := 24) ?hr ?_; (case hd => rfl); (case hg => rfl); (case hr => first | (go_simp; done) | (go_simp; rfl)); intro gb330 hg w8 hbox hb; have n0_ := Aside0.mk (Kd.V_below (Kd.V_elderB (by (with_reducible repeat (first | apply Kd.V_alloc | apply Kd.V_drewN | apply Kd.V_drew)); exact HO0_4.out) gb330 (Nat.le_of_eq hg.symm)) hb); have n1_ := Aside0.mk (Kd.V_below (Kd.V_elderB (by (with_reducible repeat (first | apply Kd.V_alloc | apply Kd.V_drewN | apply Kd.V_drew)); exact HO328.out) gb330 (Nat.le_of_eq hg.symm)) hb); have n2_ := Aside0.mk (blk_below (g := gb321) (o := .cells #[.int .i64 a0_0, .string a0_1, .int .i64 a0_2, .int .i64 a0_3, .slice A0_4 l0_4.length c0_4] 24 (0, 0)) (by (with_reducible repeat (first | refine blk_drewN ?_ _ | refine blk_drew ?_ | refine blk_alloc ?_ _)); exact BK321.out) hb); have n3_ := Aside0.mk (below_step (by repeat (first | (with_reducible first | exact HB.out | apply below_alloc | apply pw_below_drewN | apply below_drew1 | refine below_set ?_ GE321.out) | exact HB.out)) hb); have n4_ := Aside0.mk (hbox); have n5_ := Aside0.mk ((by rw [hg]; exact (below_size (by repeat (first | (with_reducible first | exact HB.out | apply below_alloc | apply pw_below_drewN | apply below_drew1 | refine below_set ?_ GE321.out) | exact HB.out))) : w.heap.size ≤ gb330)); have n6_ := Aside0.mk ((by rw [hg]; exact (below_size (by repeat (first | (with_reducible first | exact HB.out | apply below_alloc | apply pw_below_drewN | apply below_drew1 | refine below_set ?_ GE321.out) | exact HB.out))) : w.heap.size ≤ gb330)); have n7_ := Aside0.mk ((by rw [hg]; exact Nat.ne_of_lt (blk_lt (g := gb321) (o := .cells #[.int .i64 a0_0, .string a0_1, .int .i64 a0_2, .int .i64 a0_3, .slice A0_4 l0_4.length c0_4] 24 (0, 0)) (by (with_reducible repeat (first | refine blk_drewN ?_ _ | refine blk_drew ?_ | refine blk_alloc ?_ _)); exact BK321.out)) : gb321 ≠ gb330)); have n8_ := Aside0.mk ((by rw [hg]; exact Nat.ne_of_gt (blk_lt (g := gb321) (o := .cells #[.int .i64 a0_0, .string a0_1, .int .i64 a0_2, .int .i64 a0_3, .slice A0_4 l0_4.length c0_4] 24 (0, 0)) (by (with_reducible repeat (first | refine blk_drewN ?_ _ | refine blk_drew ?_ | refine blk_alloc ?_ _)); exact BK321.out)) : gb330 ≠ gb321)); clear HO0_4; clear HO328; clear BK321; clear HB; have HO0_4 := n0_; have HO328 := n1_; have BK321 := n2_; have HB := n3_; have BK330 := n4_; have GW330 := n5_; have GE330 := n6_; have NB321_330 := n7_; have NB330_321 := n8_; clear n0_ n1_ n2_ n3_ n4_ n5_ n6_ n7_ n8_; clear hb hbox hg; have hnb9 := NB330_321.out; have hnc9 := NB321_330.out; have hcz10_0 : w8.cell? ⟨gb330, 0, none⟩ = some (.int .i64 0) := (blk_cell BK330.out 0).trans rfl; have hcz10_1 : w8.cell? ⟨gb330, 1, none⟩ = some (.string (⟨#[]⟩ : ByteArray)) := (blk_cell BK330.out 1).trans rfl; have hcz10_2 : w8.cell? ⟨gb330, 2, none⟩ = some (.int .i64 0) := (blk_cell BK330.out 2).trans rfl; have hcz10_3 : w8.cell? ⟨gb330, 3, none⟩ = some (.int .i64 0) := (blk_cell BK330.out 3).trans rfl; have hcz10_4 : w8.cell? ⟨gb330, 4, none⟩ = some (.slice none 0 0) := (blk_cell BK330.out 4).trans rfl; have hfz10_0 := blk_frozen BK330.out 0; have hfz10_1 := blk_frozen BK330.out 1; have hfz10_2 := blk_frozen BK330.out 2; have hfz10_3 := blk_frozen BK330.out 3; have hfz10_4 := blk_frozen BK330.out 4; obtain ⟨Ao11, co11, eo11⟩ := Kd.V_slice HO328.out; subst eo11))
  go_loopg [8, 9] k (fun kq v8 v9 w' => ∃ (x8_1 : Int) (x9_1 : Int) (x322000_1 : Int) (x322001_1 : ByteArray) (x322002_1 : Int) (x322003_1 : Int) (x322004_1 : List (S24)) (u322004 : Value), v8 = .int .i64 x8_1 ∧ v9 = .int .i64 x9_1 ∧ Aside0 (assessorref03_Number.l0 kq l1 x8_1 x9_1 x322000_1 x322001_1 x322002_1 x322003_1 x322004_1 = some (r1, r2)) ∧ Aside0 (kq ≤ k) ∧ Aside0 (Kd.V k24 24 w' w.heap.size (fun k_ => (P0_4_ k_ ∨ w.heap.size ≤ k_) ∧ k_ ≠ gb321 ∧ k_ ≠ gb330) u322004 x322004_1) ∧ Aside0 (Kd.V k24 24 w' w.heap.size (fun k_ => (P0_4_ k_ ∨ w.heap.size ≤ k_) ∧ k_ ≠ gb321 ∧ k_ ≠ gb330) (.slice Ao11 t326.length co11) t326) ∧ Aside0 (w'.heap[gb321]? = some (.cells #[.int .i64 x322000_1, .string x322001_1, .int .i64 x322002_1, .int .i64 x322003_1, u322004] 24 (0, 0))) ∧ Aside0 (w'.heap[gb330]? = some (.cells #[.int .i64 t322, .string t323, .int .i64 t324, .int .i64 t325, (.slice Ao11 t326.length co11)] 24 (0, 0))) ∧ Aside0 (Below w.heap.size w w'))
  case atStart => exact ⟨(0), (0), (a0_0), (a0_1), (a0_2), (a0_3), (l0_4), (.slice A0_4 l0_4.length c0_4), (by first | rfl | (simp; done) | (simp [*]; done)), (by first | rfl | (simp; done) | (simp [*]; done)), H', ⟨Nat.le_refl _⟩, ⟨by (with_reducible repeat (first | apply Kd.V_alloc | apply Kd.V_drewN | apply Kd.V_drew)); exact Kd.V_mono (Kd.V_far (p := ⟨gb330, 4, none⟩) (Kd.V_far (p := ⟨gb330, 3, none⟩) (Kd.V_far (p := ⟨gb330, 2, none⟩) (Kd.V_far (p := ⟨gb330, 1, none⟩) (Kd.V_far (p := ⟨gb330, 0, none⟩) (Kd.V_mono HO0_4.out (fun k_ hk => (⟨hk, hk.2⟩ : _ ∧ k_ ≠ gb330))) (fun _ hk => hk.2) (.int .i64 t322)) (fun _ hk => hk.2) (.string t323)) (fun _ hk => hk.2) (.int .i64 t324)) (fun _ hk => hk.2) (.int .i64 t325)) (fun _ hk => hk.2) (.slice Ao11 t326.length co11)) (fun _ hk => ⟨hk.1.1.1, ⟨hk.1.1.2, hk.1.2⟩⟩)⟩, ⟨by (with_reducible repeat (first | apply Kd.V_alloc | apply Kd.V_drewN | apply Kd.V_drew)); exact Kd.V_mono (Kd.V_far (p := ⟨gb330, 4, none⟩) (Kd.V_far (p := ⟨gb330, 3, none⟩) (Kd.V_far (p := ⟨gb330, 2, none⟩) (Kd.V_far (p := ⟨gb330, 1, none⟩) (Kd.V_far (p := ⟨gb330, 0, none⟩) (Kd.V_mono HO328.out (fun k_ hk => (⟨hk, hk.2⟩ : _ ∧ k_ ≠ gb330))) (fun _ hk => hk.2) (.int .i64 t322)) (fun _ hk => hk.2) (.string t323)) (fun _ hk => hk.2) (.int .i64 t324)) (fun _ hk => hk.2) (.int .i64 t325)) (fun _ hk => hk.2) (.slice Ao11 t326.length co11)) (fun _ hk => ⟨hk.1.1.1, ⟨hk.1.1.2, hk.1.2⟩⟩)⟩, ⟨by (with_reducible repeat (first | refine blk_drewN ?_ _ | refine blk_drew ?_ | refine blk_alloc ?_ _)); refine blk_far ?_ NB321_330.out _; (with_reducible repeat (first | refine blk_drewN ?_ _ | refine blk_drew ?_ | refine blk_alloc ?_ _)); refine blk_far ?_ NB321_330.out _; (with_reducible repeat (first | refine blk_drewN ?_ _ | refine blk_drew ?_ | refine blk_alloc ?_ _)); refine blk_far ?_ NB321_330.out _; (with_reducible repeat (first | refine blk_drewN ?_ _ | refine blk_drew ?_ | refine blk_alloc ?_ _)); refine blk_far ?_ NB321_330.out _; (with_reducible repeat (first | refine blk_drewN ?_ _ | refine blk_drew ?_ | refine blk_alloc ?_ _)); refine blk_far ?_ NB321_330.out _; (with_reducible repeat (first | refine blk_drewN ?_ _ | refine blk_drew ?_ | refine blk_alloc ?_ _)); exact BK321.out⟩, ⟨by (with_reducible repeat (first | refine blk_drewN ?_ _ | refine blk_drew ?_ | refine blk_alloc ?_ _)); refine blk_put (cs := #[.int .i64 t322, .string t323, .int .i64 t324, .int .i64 t325, .slice none 0 0]) ?_ 4 _ rfl; (with_reducible repeat (first | refine blk_drewN ?_ _ | refine blk_drew ?_ | refine blk_alloc ?_ _)); refine blk_put (cs := #[.int .i64 t322, .string t323, .int .i64 t324, .int .i64 0, .slice none 0 0]) ?_ 3 _ rfl; (with_reducible repeat (first | refine blk_drewN ?_ _ | refine blk_drew ?_ | refine blk_alloc ?_ _)); refine blk_put (cs := #[.int .i64 t322, .string t323, .int .i64 0, .int .i64 0, .slice none 0 0]) ?_ 2 _ rfl; (with_reducible repeat (first | refine blk_drewN ?_ _ | refine blk_drew ?_ | refine blk_alloc ?_ _)); refine blk_put (cs := #[.int .i64 t322, .string (⟨#[]⟩ : ByteArray), .int .i64 0, .int .i64 0, .slice none 0 0]) ?_ 1 _ rfl; (with_reducible repeat (first | refine blk_drewN ?_ _ | refine blk_drew ?_ | refine blk_alloc ?_ _)); refine blk_put (cs := #[.int .i64 0, .string (⟨#[]⟩ : ByteArray), .int .i64 0, .int .i64 0, .slice none 0 0]) ?_ 0 _ rfl; (with_reducible repeat (first | refine blk_drewN ?_ _ | refine blk_drew ?_ | refine blk_alloc ?_ _)); exact BK330.out⟩, ⟨by repeat (first | (with_reducible first | exact HB.out | apply below_alloc | apply pw_below_drewN | apply below_drew1 | refine below_set ?_ GE321.out | refine below_set ?_ GE330.out) | exact HB.out)⟩⟩
  case round =>
   clear H'
   try clear c1
   try clear c2
   try clear p2
   try clear c4
   try clear c9
   try clear hcz10_0
   try clear hcz10_1
   try clear hcz10_2
   try clear hcz10_3
   try clear hcz10_4
   try clear hcz6_0
   try clear hcz6_1
   try clear hcz6_2
   try clear hcz6_3
   try clear hcz6_4
   try clear hfz10_0
   try clear hfz10_1
   try clear hfz10_2
   try clear hfz10_3
   try clear hfz10_4
   try clear hfz6_0
   try clear hfz6_1
   try clear hfz6_2
   try clear hfz6_3
   try clear hfz6_4
   obtain ⟨x8_1, x9_1, x322000_1, x322001_1, x322002_1, x322003_1, x322004_1, u322004, rfl, rfl, HA, HK1, HO_322004, HO_331004, BK321, BK330, HB⟩ := hrel
   cases gk with
   | zero => exact absurd HA.out (by simp [assessorref03_Number.l0])
   | succ k1 =>
    have H := HA.out
    clear HA
    simp only [assessorref03_Number.l0] at H
    by_cases c12 : x9_1 < (l1.length : Int)
    ·rw [if_pos c12] at H
     have c12b0 : decide (x9_1 < (l1.length : Int)) = true := decide_eq_true c12
     clear c12
     have H' := Aside0.mk H
     clear H
     go_wp2
     go_loopg [8, 10] k1 (fun kq v8 v10 w' => ∃ (x8_2 : Int) (x10_2 : Int), v8 = .int .i64 x8_2 ∧ v10 = .int .i64 x10_2 ∧ Aside0 (assessorref03_Number.l1 kq l1 x8_2 x9_1 x10_2 x322000_1 x322001_1 x322002_1 x322003_1 x322004_1 = some (r1, r2)) ∧ Aside0 (kq ≤ k1) ∧ Aside0 (Kd.V k24 24 w' w.heap.size (fun k_ => (P0_4_ k_ ∨ w.heap.size ≤ k_) ∧ k_ ≠ gb321 ∧ k_ ≠ gb330) u322004 x322004_1) ∧ Aside0 (Kd.V k24 24 w' w.heap.size (fun k_ => (P0_4_ k_ ∨ w.heap.size ≤ k_) ∧ k_ ≠ gb321 ∧ k_ ≠ gb330) (.slice Ao11 t326.length co11) t326) ∧ Aside0 (w'.heap[gb321]? = some (.cells #[.int .i64 x322000_1, .string x322001_1, .int .i64 x322002_1, .int .i64 x322003_1, u322004] 24 (0, 0))) ∧ Aside0 (w'.heap[gb330]? = some (.cells #[.int .i64 t322, .string t323, .int .i64 t324, .int .i64 t325, (.slice Ao11 t326.length co11)] 24 (0, 0))) ∧ Aside0 (Below w.heap.size w w'))
     case atStart => exact ⟨(wrap64 (x8_1 + 1)), (0), (by first | rfl | (simp; done) | (simp [*]; done)), (by first | rfl | (simp; done) | (simp [*]; done)), H', ⟨Nat.le_refl _⟩, ⟨by (with_reducible repeat (first | apply Kd.V_alloc | apply Kd.V_drewN | apply Kd.V_drew)); exact HO_322004.out⟩, ⟨by (with_reducible repeat (first | apply Kd.V_alloc | apply Kd.V_drewN | apply Kd.V_drew)); exact HO_331004.out⟩, ⟨by (with_reducible repeat (first | refine blk_drewN ?_ _ | refine blk_drew ?_ | refine blk_alloc ?_ _)); exact BK321.out⟩, ⟨by (with_reducible repeat (first | refine blk_drewN ?_ _ | refine blk_drew ?_ | refine blk_alloc ?_ _)); exact BK330.out⟩, ⟨by repeat (first | (with_reducible first | exact HB.out | apply below_alloc | apply pw_below_drewN | apply below_drew1 | refine below_set ?_ GE321.out | refine below_set ?_ GE330.out) | exact HB.out)⟩⟩
     case round =>
      clear H'
      try clear c1
      try clear c2
      try clear p2
      try clear c4
      try clear p6
      try clear c9
      try clear c12
      try clear c12b0
      try clear hcz10_0
      try clear hcz10_1
      try clear hcz10_2
      try clear hcz10_3
      try clear hcz10_4
      try clear hcz6_0
      try clear hcz6_1
      try clear hcz6_2
      try clear hcz6_3
      try clear hcz6_4
      try clear hfz10_0
      try clear hfz10_1
      try clear hfz10_2
      try clear hfz10_3
      try clear hfz10_4
      try clear hfz6_0
      try clear hfz6_1
      try clear hfz6_2
      try clear hfz6_3
      try clear hfz6_4
      try clear p2
      obtain ⟨x8_2, x10_2, rfl, rfl, HA, HK2, HO_322004, HO_331004, BK321, BK330, HB⟩ := hrel
      cases gk with
      | zero => exact absurd HA.out (by simp [assessorref03_Number.l1])
      | succ k2 =>
       have H := HA.out
       clear HA
       simp only [assessorref03_Number.l1] at H
       by_cases c13 : 0 ≤ x9_1
       ·rw [if_pos c13] at H
        have c13b0 : decide (0 ≤ x9_1) = true := decide_eq_true c13
        clear c13
        by_cases c14 : x9_1 < (l1.length : Int)
        ·rw [if_pos c14] at H
         have c14b0 : decide (x9_1 < (l1.length : Int)) = true := decide_eq_true c14
         clear c14
         by_cases c15 : x10_2 < (rd l1 x9_1)
         ·rw [if_pos c15] at H
          have c15b0 : decide (x10_2 < (rd l1 x9_1)) = true := decide_eq_true c15
          clear c15
          by_cases c16 : 0 ≤ x10_2
          ·rw [if_pos c16] at H
           have c16b0 : decide (0 ≤ x10_2) = true := decide_eq_true c16
           clear c16
           by_cases c17 : x10_2 < (x322004_1.length : Int)
           ·rw [if_pos c17] at H
            have c17b0 : decide (x10_2 < (x322004_1.length : Int)) = true := decide_eq_true c17
            clear c17
            replace H := Option.bind_eq_some_iff.mp H
            obtain ⟨t333, A180, H⟩ := H
            replace H : (assessorref03_Number.l1 k2 l1 (wrap64 (x8_2 + t333)) x9_1 (wrap64 (x10_2 + 1)) x322000_1 x322001_1 x322002_1 x322003_1 x322004_1) = some (r1, r2) := H
            have A18 := Aside0.mk A180
            clear A180
            have H' := Aside0.mk H
            clear H
            have p331 : 0 ≤ (x9_1 : Int) := of_decide_eq_true (by first | (with_reducible assumption) | assumption)
            have q331 : x9_1 < (l1.length : Int) := of_decide_eq_true (by first | (with_reducible assumption) | assumption)
            obtain ⟨ad331, e331, hx331_0⟩ := Kd.at_int HR1.out x9_1 p331 q331
            cases e331
            replace hx331_0 := (HB.out.cell (World.block_lt_of_cell? w _ hx331_0)).trans hx331_0
            replace p331 := eq_true p331
            replace q331 := eq_true q331
            have hnb19 := NB321_330.out
            have hnc19 := NB330_321.out
            have hcz20_0 : wr.cell? ⟨gb321, 0, none⟩ = some (.int .i64 x322000_1) := (blk_cell BK321.out 0).trans rfl
            have hcz20_1 : wr.cell? ⟨gb321, 1, none⟩ = some (.string x322001_1) := (blk_cell BK321.out 1).trans rfl
            have hcz20_2 : wr.cell? ⟨gb321, 2, none⟩ = some (.int .i64 x322002_1) := (blk_cell BK321.out 2).trans rfl
            have hcz20_3 : wr.cell? ⟨gb321, 3, none⟩ = some (.int .i64 x322003_1) := (blk_cell BK321.out 3).trans rfl
            have hcz20_4 : wr.cell? ⟨gb321, 4, none⟩ = some (u322004) := (blk_cell BK321.out 4).trans rfl
            have hfz20_0 := blk_frozen BK321.out 0
            have hfz20_1 := blk_frozen BK321.out 1
            have hfz20_2 := blk_frozen BK321.out 2
            have hfz20_3 := blk_frozen BK321.out 3
            have hfz20_4 := blk_frozen BK321.out 4
            obtain ⟨Ao21, co21, eo21⟩ := Kd.V_slice HO_322004.out
            subst eo21
            have p332 : 0 ≤ (x10_2 : Int) := of_decide_eq_true (by first | (with_reducible assumption) | assumption)
            have q332 : x10_2 < (x322004_1.length : Int) := of_decide_eq_true (by first | (with_reducible assumption) | assumption)
            obtain ⟨ad332, A332_4, c332_4, e332, hx332_0, hx332_1, hx332_2, hx332_3, hx332_4, hl332_4, hi332_4⟩ := at_T24 (Kd.V_reads' HO_322004.out).2.2 x10_2 p332 q332
            cases e332
            obtain ⟨ce332, hce332, hMe332, hcc332⟩ := Kd.V_get HO_322004.out z24 x10_2 p332 (by first | exact q332 | exact of_decide_eq_true (by first | (with_reducible assumption) | assumption) | (have e_ := (Kd.V_reads' HO_322004.out).1; omega))
            obtain ⟨ua332_4, uc332_4, rfl, ul332_4, ge332_4⟩ := k24_openF hMe332
            have hv332_4 := hcc332 4 _ rfl
            rw [add_field _ _ 4 (by omega)] at hv332_4
            replace hv332_4 := Option.some.inj (hv332_4.symm.trans hx332_4)
            injection hv332_4 with hva_ hvn_ hvc_
            rw [hva_] at ge332_4
            rw [hvc_] at ul332_4
            have HL332_4 := Aside0.mk (show Kd.V k24 24 _ w.heap.size _ _ ((rd_T24 x322004_1 x10_2).f4) from Kd.V_mk ul332_4 ge332_4)
            clear hva_ hvn_ hvc_ ge332_4 ul332_4
            clear hcc332 hce332
            have HR332_4 := Aside0.mk hi332_4
            have HC332_4 := Aside0.mk hl332_4
            clear hi332_4 hl332_4
            replace p332 := eq_true p332
            replace q332 := eq_true q332
            go_wp2_with (first | ((with_reducible refine gate_callee (f := 32) rfl ?_); refine goesL_ (some 41) rfl rfl Try.func32 (by kernel_rfl) rfl #[.agg #[.int .i64 ((rd_T24 x322004_1 x10_2).f0), .string ((rd_T24 x322004_1 x10_2).f1), .int .i64 ((rd_T24 x322004_1 x10_2).f2), .int .i64 ((rd_T24 x322004_1 x10_2).f3), .slice A332_4 ((rd_T24 x322004_1 x10_2).f4).length c332_4]] rfl (by (try simp only [List.map_toArray, List.map_cons, List.map_nil]); first | done | rfl | (simp only [List.length_drop, List.length_take]; rfl)) ?_; (with_reducible refine (assessorref03_Count.calls k2 ((rd_T24 x322004_1 x10_2).f0) ((rd_T24 x322004_1 x10_2).f1) ((rd_T24 x322004_1 x10_2).f2) ((rd_T24 x322004_1 x10_2).f3) _ _ ((rd_T24 x322004_1 x10_2).f4) t333 _ ?side1 ?side2 A18.out).mono ?_); (case side1 => repeat (first | exact (by repeat (first | (with_reducible exact HR332_4.out) | (with_reducible refine Kd.C_alloc ?_ _) | (with_reducible refine Kd.C_drewN ?_ _) | (with_reducible refine Kd.C_drew ?_) | exact HR332_4.out)) | (with_reducible refine Kd.C_alloc ?_ _) | (with_reducible refine Kd.C_drewN ?_ _) | (with_reducible refine Kd.C_drew ?_))); (case side2 => exact HC332_4.out); rintro e w22 ⟨rfl, hb⟩; refine ⟨_, rfl, ?_⟩; have n0_ := Aside0.mk (Kd.V_below (by (with_reducible repeat (first | apply Kd.V_alloc | apply Kd.V_drewN | apply Kd.V_drew)); exact HO_322004.out) hb); have n1_ := Aside0.mk (Kd.V_below (by (with_reducible repeat (first | apply Kd.V_alloc | apply Kd.V_drewN | apply Kd.V_drew)); exact HO_331004.out) hb); have n2_ := Aside0.mk (Kd.V_below (by (with_reducible repeat (first | apply Kd.V_alloc | apply Kd.V_drewN | apply Kd.V_drew)); exact HL332_4.out) hb); have n3_ := Aside0.mk (blk_below (g := gb321) (o := .cells #[.int .i64 x322000_1, .string x322001_1, .int .i64 x322002_1, .int .i64 x322003_1, .slice (some ad332) x322004_1.length co21] 24 (0, 0)) (by (with_reducible repeat (first | refine blk_drewN ?_ _ | refine blk_drew ?_ | refine blk_alloc ?_ _)); exact BK321.out) hb); have n4_ := Aside0.mk (blk_below (g := gb330) (o := .cells #[.int .i64 t322, .string t323, .int .i64 t324, .int .i64 t325, .slice Ao11 t326.length co11] 24 (0, 0)) (by (with_reducible repeat (first | refine blk_drewN ?_ _ | refine blk_drew ?_ | refine blk_alloc ?_ _)); exact BK330.out) hb); have n5_ := Aside0.mk (Kd.C_below (by repeat (first | (with_reducible exact HR332_4.out) | (with_reducible refine Kd.C_alloc ?_ _) | (with_reducible refine Kd.C_drewN ?_ _) | (with_reducible refine Kd.C_drew ?_) | exact HR332_4.out)) hb); have n6_ := Aside0.mk (below_step (by repeat (first | (with_reducible first | exact HB.out | apply below_alloc | apply pw_below_drewN | apply below_drew1 | refine below_set ?_ GE321.out | refine below_set ?_ GE330.out) | exact HB.out)) hb); clear HO_322004; clear HO_331004; clear HL332_4; clear BK321; clear BK330; clear HR332_4; clear HB; have HO_322004 := n0_; have HO_331004 := n1_; have HL332_4 := n2_; have BK321 := n3_; have BK330 := n4_; have HR332_4 := n5_; have HB := n6_; clear n0_ n1_ n2_ n3_ n4_ n5_ n6_; (try clear hb); (try clear hb2); (try clear hk); (try clear hi)))
            go_roundg k2
            case measure => have := HK1.out; have := HK2.out; omega
            case rel => exact ⟨(wrap64 (x8_2 + t333)), (wrap64 (x10_2 + 1)), (by first | rfl | (simp; done) | (simp [*]; done)), (by first | rfl | (simp; done) | (simp [*]; done)), H', ⟨by have := HK1.out; have := HK2.out; omega⟩, ⟨by (with_reducible repeat (first | apply Kd.V_alloc | apply Kd.V_drewN | apply Kd.V_drew)); exact HO_322004.out⟩, ⟨by (with_reducible repeat (first | apply Kd.V_alloc | apply Kd.V_drewN | apply Kd.V_drew)); exact HO_331004.out⟩, ⟨by (with_reducible repeat (first | refine blk_drewN ?_ _ | refine blk_drew ?_ | refine blk_alloc ?_ _)); exact BK321.out⟩, ⟨by (with_reducible repeat (first | refine blk_drewN ?_ _ | refine blk_drew ?_ | refine blk_alloc ?_ _)); exact BK330.out⟩, ⟨by repeat (first | (with_reducible first | exact HB.out | apply below_alloc | apply pw_below_drewN | apply below_drew1 | refine below_set ?_ GE321.out | refine below_set ?_ GE330.out) | exact HB.out)⟩⟩
           ·rw [if_neg c17] at H
            exact absurd H (by simp)
          ·rw [if_neg c16] at H
           exact absurd H (by simp)
         ·rw [if_neg c15] at H
          have c15b0 : decide (x10_2 < (rd l1 x9_1)) = false := decide_eq_false c15
          clear c15
          by_cases c23 : 0 ≤ (rd l1 x9_1)
          ·rw [if_pos c23] at H
           have c23b0 : decide (0 ≤ (rd l1 x9_1)) = true := decide_eq_true c23
           clear c23
           by_cases c24 : (rd l1 x9_1) < (x322004_1.length : Int)
           ·rw [if_pos c24] at H
            have c24b0 : decide ((rd l1 x9_1) < (x322004_1.length : Int)) = true := decide_eq_true c24
            clear c24
            have H' := Aside0.mk H
            clear H
            have p331 : 0 ≤ (x9_1 : Int) := of_decide_eq_true (by first | (with_reducible assumption) | assumption)
            have q331 : x9_1 < (l1.length : Int) := of_decide_eq_true (by first | (with_reducible assumption) | assumption)
            obtain ⟨ad331, e331, hx331_0⟩ := Kd.at_int HR1.out x9_1 p331 q331
            cases e331
            replace hx331_0 := (HB.out.cell (World.block_lt_of_cell? w _ hx331_0)).trans hx331_0
            replace p331 := eq_true p331
            replace q331 := eq_true q331
            try go_wp2
            have n0_ := Aside0.mk (Kd.V_drew HO_322004.out)
            have n1_ := Aside0.mk (Kd.V_drew HO_331004.out)
            have n2_ := Aside0.mk (blk_drew BK321.out)
            have n3_ := Aside0.mk (blk_drew BK330.out)
            have n4_ := Aside0.mk (below_drew1 HB.out)
            clear HO_322004
            clear HO_331004
            clear BK321
            clear BK330
            clear HB
            have HO_322004 := n0_
            have HO_331004 := n1_
            have BK321 := n2_
            have BK330 := n3_
            have HB := n4_
            clear n0_ n1_ n2_ n3_ n4_
            have p334 : 0 ≤ (x9_1 : Int) := of_decide_eq_true (by first | (with_reducible assumption) | assumption)
            have q334 : x9_1 < (l1.length : Int) := of_decide_eq_true (by first | (with_reducible assumption) | assumption)
            obtain ⟨ad334, e334, hx334_0⟩ := Kd.at_int HR1.out x9_1 p334 q334
            have hw334_0 := hx334_0
            obtain rfl : ad331 = ad334 := (by injection e334)
            replace hx334_0 := (HB.out.cell (World.block_lt_of_cell? w _ hx334_0)).trans hx334_0
            replace p334 := eq_true p334
            replace q334 := eq_true q334
            obtain ⟨Ao26, co26, eo26⟩ := Kd.V_slice HO_322004.out
            (first | subst eo26 | (injection eo26 with f1_ f2_ f3_; have f4_ := f1_.symm; have f5_ := f3_.symm; clear f1_ f2_ f3_; subst f4_; subst f5_))
            have p335 : 0 ≤ ((rd l1 x9_1) : Int) := of_decide_eq_true (by first | (with_reducible assumption) | assumption)
            have q335 : (rd l1 x9_1) < (x322004_1.length : Int) := of_decide_eq_true (by first | (with_reducible assumption) | assumption)
            obtain ⟨ad335, A335_4, c335_4, e335, hx335_0, hx335_1, hx335_2, hx335_3, hx335_4, hl335_4, hi335_4⟩ := at_T24 (Kd.V_reads' HO_322004.out).2.2 (rd l1 x9_1) p335 q335
            cases e335
            obtain ⟨ce335, hce335, hMe335, hcc335⟩ := Kd.V_get HO_322004.out z24 (rd l1 x9_1) p335 (by first | exact q335 | exact of_decide_eq_true (by first | (with_reducible assumption) | assumption) | (have e_ := (Kd.V_reads' HO_322004.out).1; omega))
            obtain ⟨ua335_4, uc335_4, rfl, ul335_4, ge335_4⟩ := k24_openF hMe335
            have hv335_4 := hcc335 4 _ rfl
            rw [add_field _ _ 4 (by omega)] at hv335_4
            replace hv335_4 := Option.some.inj (hv335_4.symm.trans hx335_4)
            injection hv335_4 with hva_ hvn_ hvc_
            rw [hva_] at ge335_4
            rw [hvc_] at ul335_4
            have HL335_4 := Aside0.mk (show Kd.V k24 24 _ w.heap.size _ _ ((rd_T24 x322004_1 (rd l1 x9_1)).f4) from Kd.V_mk ul335_4 ge335_4)
            clear hva_ hvn_ hvc_ ge335_4 ul335_4
            clear hcc335 hce335
            have HR335_4 := Aside0.mk hi335_4
            have HC335_4 := Aside0.mk hl335_4
            clear hi335_4 hl335_4
            replace p335 := eq_true p335
            replace q335 := eq_true q335
            refine start_ (n := 9) (S := fun w' => w'.cell? ⟨gb321, 0, none⟩ = some (.int .i64 x322000_1) ∧ w'.cell? ⟨gb321, 1, none⟩ = some (.string x322001_1) ∧ w'.cell? ⟨gb321, 2, none⟩ = some (.int .i64 x322002_1) ∧ w'.cell? ⟨gb321, 3, none⟩ = some (.int .i64 x322003_1) ∧ w'.cell? ⟨gb321, 4, none⟩ = some (.slice (some ad335) x322004_1.length co26) ∧ w'.cell? (ad331.add (x9_1).toNat) = some (.int .i64 (rd l1 x9_1)) ∧ w'.cell? (ad335.add (((rd l1 x9_1)).toNat * 5)) = some (.int .i64 ((rd_T24 x322004_1 (rd l1 x9_1)).f0)) ∧ w'.cell? ⟨(ad335.add (((rd l1 x9_1)).toNat * 5)).block, (ad335.add (((rd l1 x9_1)).toNat * 5)).off + 1, none⟩ = some (.string ((rd_T24 x322004_1 (rd l1 x9_1)).f1)) ∧ w'.cell? ⟨(ad335.add (((rd l1 x9_1)).toNat * 5)).block, (ad335.add (((rd l1 x9_1)).toNat * 5)).off + 2, none⟩ = some (.int .i64 ((rd_T24 x322004_1 (rd l1 x9_1)).f2)) ∧ w'.cell? ⟨(ad335.add (((rd l1 x9_1)).toNat * 5)).block, (ad335.add (((rd l1 x9_1)).toNat * 5)).off + 3, none⟩ = some (.int .i64 ((rd_T24 x322004_1 (rd l1 x9_1)).f3)) ∧ w'.cell? ⟨(ad335.add (((rd l1 x9_1)).toNat * 5)).block, (ad335.add (((rd l1 x9_1)).toNat * 5)).off + 4, none⟩ = some (.slice A335_4 ((rd_T24 x322004_1 (rd l1 x9_1)).f4).length c335_4)) (ds := [8]) #[false, false, false, false, false, false, false, false, false] (by kernel_rfl) rfl rfl ⟨(blk_cell BK321.out 0).trans rfl, (blk_cell BK321.out 1).trans rfl, (blk_cell BK321.out 2).trans rfl, (blk_cell BK321.out 3).trans rfl, (blk_cell BK321.out 4).trans rfl, ((HB.out.cell (World.block_lt_of_cell? w _ hw334_0)).trans hw334_0), hx335_0, hx335_1, hx335_2, hx335_3, hx335_4⟩ (fun hHeld => ?_); refine with_tabW assessorref03_Number.tab13 assessorref03_Number.bits13 (fun HT_ HW_ => ?_)
            generalize wr.drew = w25 at HO_322004 HO_331004 BK321 BK330 HB HL335_4 HR335_4 hx334_0 hx335_0 hx335_1 hx335_2 hx335_3 hx335_4 hHeld ⊢
            refine pure_ (i := 0) (N := some 43) (v := ?_) (a' := ?_) #[true, false, false, false, false, false, false, false, false] rfl rfl (any_of HT_.out (by kernel_rfl)) (fun _ _ _ h => h) (Or.inl ⟨by rfl, ?_⟩) ?_ ?_
            rotate_left
            ·intro w'
             go_simp
             with_reducible rfl
            rotate_left
            ·simp only [Act.put, List.setIfInBounds_toArray, List.set_cons_zero, List.set_cons_succ, i64_w, i32_w]
             rfl
            refine pure_ (i := 2) (N := some 45) (v := ?_) (a' := ?_) #[true, false, true, false, false, false, false, false, false] rfl rfl (any_of HT_.out (by kernel_rfl)) (fun _ _ _ h => h) (Or.inl ⟨by rfl, ?_⟩) ?_ ?_
            rotate_left
            ·intro w'
             go_simp
             with_reducible rfl
            rotate_left
            ·simp only [Act.put, List.setIfInBounds_toArray, List.set_cons_zero, List.set_cons_succ, i64_w, i32_w]
             rfl
            refine pure_ (i := 3) (N := some 46) (v := ?_) (a' := ?_) #[true, false, true, true, false, false, false, false, false] rfl rfl (any_of HT_.out (by kernel_rfl)) (fun _ _ _ h => h) (Or.inl ⟨by rfl, ?_⟩) ?_ ?_
            rotate_left
            ·intro w'
             go_simp
             with_reducible rfl
            rotate_left
            ·simp only [Act.put, List.setIfInBounds_toArray, List.set_cons_zero, List.set_cons_succ, i64_w, i32_w]
             rfl
            refine pure_ (i := 4) (N := some 47) (v := ?_) (a' := ?_) #[true, false, true, true, true, false, false, false, false] rfl rfl (any_of HT_.out (by kernel_rfl)) (fun _ _ _ h => h) (Or.inl ⟨by rfl, ?_⟩) ?_ ?_
            rotate_left
            ·intro w'
             go_simp
             with_reducible rfl
            rotate_left
            ·simp only [Act.put, List.setIfInBounds_toArray, List.set_cons_zero, List.set_cons_succ, i64_w, i32_w]
             rfl
            refine take_ (i := 1) (N := some 44) (v := ?_) (a' := ?_) #[true, true, true, true, true, false, false, false, false] rfl rfl (take_ofW HT_.out HW_.out (by kernel_rfl)) (fun _ _ _ h => h) (Or.inl ⟨by rfl, ?_⟩) hHeld ?_ ?_
            rotate_left
            ·rintro w' ⟨s0, s1, s2, s3, s4, s5, s6, s7, s8, s9, s10⟩
             go_simp
             with_reducible rfl
            rotate_left
            ·simp only [Act.put, List.setIfInBounds_toArray, List.set_cons_zero, List.set_cons_succ, i64_w, i32_w]
             rfl
            refine take_ (i := 5) (N := some 48) (v := ?_) (a' := ?_) #[true, true, true, true, true, true, false, false, false] rfl rfl (take_ofW HT_.out HW_.out (by kernel_rfl)) (fun _ _ _ h => h) (Or.inl ⟨by rfl, ?_⟩) hHeld ?_ ?_
            rotate_left
            ·rintro w' ⟨s0, s1, s2, s3, s4, s5, s6, s7, s8, s9, s10⟩
             go_simp
             with_reducible rfl
            rotate_left
            ·simp only [Act.put, List.setIfInBounds_toArray, List.set_cons_zero, List.set_cons_succ, i64_w, i32_w]
             rfl
            refine pure_ (i := 6) (N := some 49) (v := ?_) (a' := ?_) #[true, true, true, true, true, true, true, false, false] rfl rfl (any_of HT_.out (by kernel_rfl)) (fun _ _ _ h => h) (Or.inl ⟨by rfl, ?_⟩) ?_ ?_
            rotate_left
            ·intro w'
             go_simp
             with_reducible rfl
            rotate_left
            ·simp only [Act.put, List.setIfInBounds_toArray, List.set_cons_zero, List.set_cons_succ, i64_w, i32_w]
             rfl
            refine take_ (i := 7) (N := some 50) (v := ?_) (a' := ?_) #[true, true, true, true, true, true, true, true, false] rfl rfl (take_ofW HT_.out HW_.out (by kernel_rfl)) (fun _ _ _ h => h) (Or.inl ⟨by rfl, ?_⟩) hHeld ?_ ?_
            rotate_left
            ·rintro w' ⟨s0, s1, s2, s3, s4, s5, s6, s7, s8, s9, s10⟩
             go_simp
             with_reducible rfl
            rotate_left
            ·simp only [Act.put, List.setIfInBounds_toArray, List.set_cons_zero, List.set_cons_succ, i64_w, i32_w]
             rfl
            refine last_ (i := 8) (N := none) #[true, true, true, true, true, true, true, true, true] rfl rfl (one_of HT_.out (by kernel_rfl)) (by decide) (fun K hK => ?_)
            have hs27 : w25.cell? ⟨gb321, 0, none⟩ = some (.int .i64 x322000_1) := (blk_cell BK321.out 0).trans rfl
            have hfs27 := blk_frozen BK321.out 0
            have hns27_1 := NB330_321.out
            have hms27_1 := NB321_330.out
            have hs28 : w25.cell? ⟨gb321, 1, none⟩ = some (.string x322001_1) := (blk_cell BK321.out 1).trans rfl
            have hfs28 := blk_frozen BK321.out 1
            have hns28_1 := NB330_321.out
            have hms28_1 := NB321_330.out
            have hs29 : w25.cell? ⟨gb321, 2, none⟩ = some (.int .i64 x322002_1) := (blk_cell BK321.out 2).trans rfl
            have hfs29 := blk_frozen BK321.out 2
            have hns29_1 := NB330_321.out
            have hms29_1 := NB321_330.out
            have hs30 : w25.cell? ⟨gb321, 3, none⟩ = some (.int .i64 x322003_1) := (blk_cell BK321.out 3).trans rfl
            have hfs30 := blk_frozen BK321.out 3
            have hns30_1 := NB330_321.out
            have hms30_1 := NB321_330.out
            have hs31 : w25.cell? ⟨gb321, 4, none⟩ = some (.slice (some ad335) x322004_1.length co26) := (blk_cell BK321.out 4).trans rfl
            have hfs31 := blk_frozen BK321.out 4
            have hns31_1 := NB330_321.out
            have hms31_1 := NB321_330.out
            refine skip_ (w1 := ?_) (by rfl) rfl ?_ ?_
            rotate_left
            ·go_simp
             rfl
            refine hK.out _ _ ?_
            clear hK K
            refine done_ (done_of HT_.out (by kernel_rfl)) ?_
            try go_wp2
            go_roundg k2
            case measure => have := HK1.out; have := HK2.out; omega
            case rel => exact ⟨(x8_2), (wrap64 (x9_1 + 1)), ((rd_T24 x322004_1 (rd l1 x9_1)).f0), ((rd_T24 x322004_1 (rd l1 x9_1)).f1), ((rd_T24 x322004_1 (rd l1 x9_1)).f2), ((rd_T24 x322004_1 (rd l1 x9_1)).f3), ((rd_T24 x322004_1 (rd l1 x9_1)).f4), (.slice A335_4 ((rd_T24 x322004_1 (rd l1 x9_1)).f4).length c335_4), (by first | rfl | (simp; done) | (simp [*]; done)), (by first | rfl | (simp; done) | (simp [*]; done)), H', ⟨by have := HK1.out; have := HK2.out; omega⟩, ⟨by (with_reducible repeat (first | apply Kd.V_alloc | apply Kd.V_drewN | apply Kd.V_drew)); exact Kd.V_mono (Kd.V_far (p := ⟨gb321, 4, none⟩) (Kd.V_far (p := ⟨gb321, 3, none⟩) (Kd.V_far (p := ⟨gb321, 2, none⟩) (Kd.V_far (p := ⟨gb321, 1, none⟩) (Kd.V_far (p := ⟨gb321, 0, none⟩) (Kd.V_mono HL335_4.out (fun k_ hk => (⟨hk, hk.2.1⟩ : _ ∧ k_ ≠ gb321))) (fun _ hk => hk.2) (.int .i64 ((rd_T24 x322004_1 (rd l1 x9_1)).f0))) (fun _ hk => hk.2) (.string ((rd_T24 x322004_1 (rd l1 x9_1)).f1))) (fun _ hk => hk.2) (.int .i64 ((rd_T24 x322004_1 (rd l1 x9_1)).f2))) (fun _ hk => hk.2) (.int .i64 ((rd_T24 x322004_1 (rd l1 x9_1)).f3))) (fun _ hk => hk.2) (.slice A335_4 ((rd_T24 x322004_1 (rd l1 x9_1)).f4).length c335_4)) (fun _ hk => ⟨hk.1.1, ⟨hk.1.2.1, hk.1.2.2⟩⟩)⟩, ⟨by (with_reducible repeat (first | apply Kd.V_alloc | apply Kd.V_drewN | apply Kd.V_drew)); exact Kd.V_mono (Kd.V_far (p := ⟨gb321, 4, none⟩) (Kd.V_far (p := ⟨gb321, 3, none⟩) (Kd.V_far (p := ⟨gb321, 2, none⟩) (Kd.V_far (p := ⟨gb321, 1, none⟩) (Kd.V_far (p := ⟨gb321, 0, none⟩) (Kd.V_mono HO_331004.out (fun k_ hk => (⟨hk, hk.2.1⟩ : _ ∧ k_ ≠ gb321))) (fun _ hk => hk.2) (.int .i64 ((rd_T24 x322004_1 (rd l1 x9_1)).f0))) (fun _ hk => hk.2) (.string ((rd_T24 x322004_1 (rd l1 x9_1)).f1))) (fun _ hk => hk.2) (.int .i64 ((rd_T24 x322004_1 (rd l1 x9_1)).f2))) (fun _ hk => hk.2) (.int .i64 ((rd_T24 x322004_1 (rd l1 x9_1)).f3))) (fun _ hk => hk.2) (.slice A335_4 ((rd_T24 x322004_1 (rd l1 x9_1)).f4).length c335_4)) (fun _ hk => ⟨hk.1.1, ⟨hk.1.2.1, hk.1.2.2⟩⟩)⟩, ⟨by (with_reducible repeat (first | refine blk_drewN ?_ _ | refine blk_drew ?_ | refine blk_alloc ?_ _)); refine blk_put (cs := #[.int .i64 ((rd_T24 x322004_1 (rd l1 x9_1)).f0), .string ((rd_T24 x322004_1 (rd l1 x9_1)).f1), .int .i64 ((rd_T24 x322004_1 (rd l1 x9_1)).f2), .int .i64 ((rd_T24 x322004_1 (rd l1 x9_1)).f3), .slice (some ad335) x322004_1.length co26]) ?_ 4 _ rfl; (with_reducible repeat (first | refine blk_drewN ?_ _ | refine blk_drew ?_ | refine blk_alloc ?_ _)); refine blk_put (cs := #[.int .i64 ((rd_T24 x322004_1 (rd l1 x9_1)).f0), .string ((rd_T24 x322004_1 (rd l1 x9_1)).f1), .int .i64 ((rd_T24 x322004_1 (rd l1 x9_1)).f2), .int .i64 x322003_1, .slice (some ad335) x322004_1.length co26]) ?_ 3 _ rfl; (with_reducible repeat (first | refine blk_drewN ?_ _ | refine blk_drew ?_ | refine blk_alloc ?_ _)); refine blk_put (cs := #[.int .i64 ((rd_T24 x322004_1 (rd l1 x9_1)).f0), .string ((rd_T24 x322004_1 (rd l1 x9_1)).f1), .int .i64 x322002_1, .int .i64 x322003_1, .slice (some ad335) x322004_1.length co26]) ?_ 2 _ rfl; (with_reducible repeat (first | refine blk_drewN ?_ _ | refine blk_drew ?_ | refine blk_alloc ?_ _)); refine blk_put (cs := #[.int .i64 ((rd_T24 x322004_1 (rd l1 x9_1)).f0), .string x322001_1, .int .i64 x322002_1, .int .i64 x322003_1, .slice (some ad335) x322004_1.length co26]) ?_ 1 _ rfl; (with_reducible repeat (first | refine blk_drewN ?_ _ | refine blk_drew ?_ | refine blk_alloc ?_ _)); refine blk_put (cs := #[.int .i64 x322000_1, .string x322001_1, .int .i64 x322002_1, .int .i64 x322003_1, .slice (some ad335) x322004_1.length co26]) ?_ 0 _ rfl; (with_reducible repeat (first | refine blk_drewN ?_ _ | refine blk_drew ?_ | refine blk_alloc ?_ _)); exact BK321.out⟩, ⟨by (with_reducible repeat (first | refine blk_drewN ?_ _ | refine blk_drew ?_ | refine blk_alloc ?_ _)); refine blk_far ?_ NB330_321.out _; (with_reducible repeat (first | refine blk_drewN ?_ _ | refine blk_drew ?_ | refine blk_alloc ?_ _)); refine blk_far ?_ NB330_321.out _; (with_reducible repeat (first | refine blk_drewN ?_ _ | refine blk_drew ?_ | refine blk_alloc ?_ _)); refine blk_far ?_ NB330_321.out _; (with_reducible repeat (first | refine blk_drewN ?_ _ | refine blk_drew ?_ | refine blk_alloc ?_ _)); refine blk_far ?_ NB330_321.out _; (with_reducible repeat (first | refine blk_drewN ?_ _ | refine blk_drew ?_ | refine blk_alloc ?_ _)); refine blk_far ?_ NB330_321.out _; (with_reducible repeat (first | refine blk_drewN ?_ _ | refine blk_drew ?_ | refine blk_alloc ?_ _)); exact BK330.out⟩, ⟨by repeat (first | (with_reducible first | exact HB.out | apply below_alloc | apply pw_below_drewN | apply below_drew1 | refine below_set ?_ GE321.out | refine below_set ?_ GE330.out) | exact HB.out)⟩⟩
           ·rw [if_neg c24] at H
            exact absurd H (by simp)
          ·rw [if_neg c23] at H
           exact absurd H (by simp)
        ·rw [if_neg c14] at H
         exact absurd H (by simp)
       ·rw [if_neg c13] at H
        exact absurd H (by simp)
    ·rw [if_neg c12] at H
     have c12b0 : decide (x9_1 < (l1.length : Int)) = false := decide_eq_false c12
     clear c12
     simp only [Option.some.injEq, Prod.mk.injEq] at H
     obtain ⟨rfl, rfl⟩ := H
     go_wp2
     go_ret2
     exact ⟨by first | rfl | (simp [errW_none, errW_some] <;> rfl) | (simp [*, errW_none, errW_some] <;> rfl) | (simp [IntKind.wrap_i64, wrap64]; done), by repeat (first | (with_reducible first | exact HB.out | apply below_alloc | apply pw_below_drewN | apply below_drew1 | refine below_set ?_ GE321.out | refine below_set ?_ GE330.out) | exact HB.out)⟩
 ·replace c4 := Bool.eq_false_iff.mpr c4
  subst c4
  have H1 : (some (0, false)) = some (r1, r2) := by rw [if_neg (show ¬ (false = true) by decide)] at H; exact H
  clear H
  have H := H1
  clear H1
  simp only [Option.some.injEq, Prod.mk.injEq] at H
  obtain ⟨rfl, rfl⟩ := H
  go_enter Try.func29, Try.ntmps29
  go_wp2_with (first | ((with_reducible refine gate_dst (N := 2) rfl ?_); refine box_event ?hg (N := 2) ?hd (cs := #[.int .i64 a0_0, .string a0_1, .int .i64 a0_2, .int .i64 a0_3, .slice A0_4 l0_4.length c0_4]) (t := 24) ?hr ?_; (case hd => rfl); (case hg => rfl); (case hr => first | (go_simp; done) | (go_simp; rfl)); intro gb321 hg w32 hbox hb; have n0_ := Aside0.mk (Kd.V_below (Kd.V_elderB (by (with_reducible repeat (first | apply Kd.V_alloc | apply Kd.V_drewN | apply Kd.V_drew)); exact HO0_4.out) gb321 (Nat.le_of_eq hg.symm)) hb); have n1_ := Aside0.mk (below_step (by repeat (first | (with_reducible first | exact HB.out | apply below_alloc | apply pw_below_drewN | apply below_drew1) | exact HB.out)) hb); have n2_ := Aside0.mk (hbox); have n3_ := Aside0.mk ((by rw [hg]; exact (below_size (by repeat (first | (with_reducible first | exact HB.out | apply below_alloc | apply pw_below_drewN | apply below_drew1) | exact HB.out))) : w.heap.size ≤ gb321)); have n4_ := Aside0.mk ((by rw [hg]; exact (below_size (by repeat (first | (with_reducible first | exact HB.out | apply below_alloc | apply pw_below_drewN | apply below_drew1) | exact HB.out))) : w.heap.size ≤ gb321)); clear HO0_4; clear HB; have HO0_4 := n0_; have HB := n1_; have BK321 := n2_; have GW321 := n3_; have GE321 := n4_; clear n0_ n1_ n2_ n3_ n4_; clear hb hbox hg; have hcz33_0 : w32.cell? ⟨gb321, 0, none⟩ = some (.int .i64 a0_0) := (blk_cell BK321.out 0).trans rfl; have hcz33_1 : w32.cell? ⟨gb321, 1, none⟩ = some (.string a0_1) := (blk_cell BK321.out 1).trans rfl; have hcz33_2 : w32.cell? ⟨gb321, 2, none⟩ = some (.int .i64 a0_2) := (blk_cell BK321.out 2).trans rfl; have hcz33_3 : w32.cell? ⟨gb321, 3, none⟩ = some (.int .i64 a0_3) := (blk_cell BK321.out 3).trans rfl; have hcz33_4 : w32.cell? ⟨gb321, 4, none⟩ = some (.slice A0_4 l0_4.length c0_4) := (blk_cell BK321.out 4).trans rfl; have hfz33_0 := blk_frozen BK321.out 0; have hfz33_1 := blk_frozen BK321.out 1; have hfz33_2 := blk_frozen BK321.out 2; have hfz33_3 := blk_frozen BK321.out 3; have hfz33_4 := blk_frozen BK321.out 4) | ((with_reducible refine gate_callee (f := 25) rfl ?_); refine goesL_ (some 14) rfl rfl Try.func25 (by kernel_rfl) rfl #[.agg #[.int .i64 a0_0, .string a0_1, .int .i64 a0_2, .int .i64 a0_3, .slice A0_4 l0_4.length c0_4], .slice A1 l1.length c1] rfl (by (try simp only [List.map_toArray, List.map_cons, List.map_nil]); first | done | rfl | (simp only [List.length_drop, List.length_take]; rfl)) ?_; (with_reducible refine (assessorref03_Get.calls k a0_0 a0_1 a0_2 a0_3 (fun k_ => ((P0_4_ k_ ∨ w.heap.size ≤ k_) ∧ k_ ≠ gb321)) _ _ l0_4 _ _ l1 t322 t323 t324 t325 t326 false _ ?side1 ?side2 ?side3 A3.out).mono ?_); (case side1 => exact HO0_4.out); (case side2 => repeat (first | exact (Kd.C_below HR1.out HB.out) | (with_reducible refine Kd.C_alloc ?_ _) | (with_reducible refine Kd.C_drewN ?_ _) | (with_reducible refine Kd.C_drew ?_))); (case side3 => exact HC1.out); rintro e w34 ⟨v327, rfl, ho0, hb⟩; refine ⟨_, rfl, ?_⟩; have n0_ := Aside0.mk (Kd.V_below (by (with_reducible repeat (first | apply Kd.V_alloc | apply Kd.V_drewN | apply Kd.V_drew)); exact HO0_4.out) hb); have n1_ := Aside0.mk (Kd.V_lower (Kd.V_mono (ok' := fun k_ => (P0_4_ k_ ∨ w.heap.size ≤ k_) ∧ k_ ≠ gb321) ho0 (fun k_ hk_ => ⟨Or.elim hk_ (fun hs_ => hs_.1) (fun hn_ => (.inr (Nat.le_trans (below_size (by repeat (first | (with_reducible first | exact HB.out | apply below_alloc | apply pw_below_drewN | apply below_drew1 | refine below_set ?_ GE321.out) | exact HB.out))) hn_))), Or.elim hk_ (fun hs_ => hs_.2) (fun hn_ => (Kd.freshB (g := gb321) (o := .cells #[.int .i64 a0_0, .string a0_1, .int .i64 a0_2, .int .i64 a0_3, .slice A0_4 l0_4.length c0_4] 24 (0, 0)) (by (with_reducible repeat (first | refine blk_drewN ?_ _ | refine blk_drew ?_ | refine blk_alloc ?_ _)); exact BK321.out) k_ hn_))⟩)) (below_size (by repeat (first | (with_reducible first | exact HB.out | apply below_alloc | apply pw_below_drewN | apply below_drew1 | refine below_set ?_ GE321.out) | exact HB.out)))); have n2_ := Aside0.mk (blk_below (g := gb321) (o := .cells #[.int .i64 a0_0, .string a0_1, .int .i64 a0_2, .int .i64 a0_3, .slice A0_4 l0_4.length c0_4] 24 (0, 0)) (by (with_reducible repeat (first | refine blk_drewN ?_ _ | refine blk_drew ?_ | refine blk_alloc ?_ _)); exact BK321.out) hb); have n3_ := Aside0.mk (below_step (by repeat (first | (with_reducible first | exact HB.out | apply below_alloc | apply pw_below_drewN | apply below_drew1 | refine below_set ?_ GE321.out) | exact HB.out)) hb); clear HO0_4; clear BK321; clear HB; have HO0_4 := n0_; have HO328 := n1_; have BK321 := n2_; have HB := n3_; clear n0_ n1_ n2_ n3_; (try clear hb); (try clear hb2); (try clear hk); (try clear hi); (try clear ho0)) | ((with_reducible refine gate_dst (N := 6) rfl ?_); refine box_event ?hg (N := 6) ?hd (cs := #[.int .i64 0, .string (⟨#[]⟩ : ByteArray), .int .i64 0, .int .i64 0, .slice none 0 0]) (t := 24) ?hr ?_; (case hd => rfl); (case hg => rfl); (case hr => first | (go_simp; done) | (go_simp; rfl)); intro gb330 hg w35 hbox hb; have n0_ := Aside0.mk (Kd.V_below (Kd.V_elderB (by (with_reducible repeat (first | apply Kd.V_alloc | apply Kd.V_drewN | apply Kd.V_drew)); exact HO0_4.out) gb330 (Nat.le_of_eq hg.symm)) hb); have n1_ := Aside0.mk (Kd.V_below (Kd.V_elderB (by (with_reducible repeat (first | apply Kd.V_alloc | apply Kd.V_drewN | apply Kd.V_drew)); exact HO328.out) gb330 (Nat.le_of_eq hg.symm)) hb); have n2_ := Aside0.mk (blk_below (g := gb321) (o := .cells #[.int .i64 a0_0, .string a0_1, .int .i64 a0_2, .int .i64 a0_3, .slice A0_4 l0_4.length c0_4] 24 (0, 0)) (by (with_reducible repeat (first | refine blk_drewN ?_ _ | refine blk_drew ?_ | refine blk_alloc ?_ _)); exact BK321.out) hb); have n3_ := Aside0.mk (below_step (by repeat (first | (with_reducible first | exact HB.out | apply below_alloc | apply pw_below_drewN | apply below_drew1 | refine below_set ?_ GE321.out) | exact HB.out)) hb); have n4_ := Aside0.mk (hbox); have n5_ := Aside0.mk ((by rw [hg]; exact (below_size (by repeat (first | (with_reducible first | exact HB.out | apply below_alloc | apply pw_below_drewN | apply below_drew1 | refine below_set ?_ GE321.out) | exact HB.out))) : w.heap.size ≤ gb330)); have n6_ := Aside0.mk ((by rw [hg]; exact (below_size (by repeat (first | (with_reducible first | exact HB.out | apply below_alloc | apply pw_below_drewN | apply below_drew1 | refine below_set ?_ GE321.out) | exact HB.out))) : w.heap.size ≤ gb330)); have n7_ := Aside0.mk ((by rw [hg]; exact Nat.ne_of_lt (blk_lt (g := gb321) (o := .cells #[.int .i64 a0_0, .string a0_1, .int .i64 a0_2, .int .i64 a0_3, .slice A0_4 l0_4.length c0_4] 24 (0, 0)) (by (with_reducible repeat (first | refine blk_drewN ?_ _ | refine blk_drew ?_ | refine blk_alloc ?_ _)); exact BK321.out)) : gb321 ≠ gb330)); have n8_ := Aside0.mk ((by rw [hg]; exact Nat.ne_of_gt (blk_lt (g := gb321) (o := .cells #[.int .i64 a0_0, .string a0_1, .int .i64 a0_2, .int .i64 a0_3, .slice A0_4 l0_4.length c0_4] 24 (0, 0)) (by (with_reducible repeat (first | refine blk_drewN ?_ _ | refine blk_drew ?_ | refine blk_alloc ?_ _)); exact BK321.out)) : gb330 ≠ gb321)); clear HO0_4; clear HO328; clear BK321; clear HB; have HO0_4 := n0_; have HO328 := n1_; have BK321 := n2_; have HB := n3_; have BK330 := n4_; have GW330 := n5_; have GE330 := n6_; have NB321_330 := n7_; have NB330_321 := n8_; clear n0_ n1_ n2_ n3_ n4_ n5_ n6_ n7_ n8_; clear hb hbox hg; have hnb36 := NB330_321.out; have hnc36 := NB321_330.out; have hcz37_0 : w35.cell? ⟨gb330, 0, none⟩ = some (.int .i64 0) := (blk_cell BK330.out 0).trans rfl; have hcz37_1 : w35.cell? ⟨gb330, 1, none⟩ = some (.string (⟨#[]⟩ : ByteArray)) := (blk_cell BK330.out 1).trans rfl; have hcz37_2 : w35.cell? ⟨gb330, 2, none⟩ = some (.int .i64 0) := (blk_cell BK330.out 2).trans rfl; have hcz37_3 : w35.cell? ⟨gb330, 3, none⟩ = some (.int .i64 0) := (blk_cell BK330.out 3).trans rfl; have hcz37_4 : w35.cell? ⟨gb330, 4, none⟩ = some (.slice none 0 0) := (blk_cell BK330.out 4).trans rfl; have hfz37_0 := blk_frozen BK330.out 0; have hfz37_1 := blk_frozen BK330.out 1; have hfz37_2 := blk_frozen BK330.out 2; have hfz37_3 := blk_frozen BK330.out 3; have hfz37_4 := blk_frozen BK330.out 4; obtain ⟨Ao38, co38, eo38⟩ := Kd.V_slice HO328.out; subst eo38))
  go_ret2
  exact ⟨by first | rfl | (simp [errW_none, errW_some] <;> rfl) | (simp [*, errW_none, errW_some] <;> rfl) | (simp [IntKind.wrap_i64, wrap64]; done), by repeat (first | (with_reducible first | exact HB.out | apply below_alloc | apply pw_below_drewN | apply below_drew1 | refine below_set ?_ GE321.out | refine below_set ?_ GE330.out) | exact HB.out)⟩

/-! ### assessorref03_Find: function 31 -/
mutual
def assessorref03_Find.j0 : Nat → Int → Bool → Int → ByteArray → Int → Int → List (S24) → Option (Int × Bool)
 | 0, _, _, _, _, _, _, _ => none
 | k + 1, x1, x19, x337000, x337001, x337002, x337003, x337004 => if x19 = true then (some (0, false)) else (assessorref03_Find.l0 k x1 1 0 x337000 x337001 x337002 x337003 x337004)
def assessorref03_Find.l0 : Nat → Int → Int → Int → Int → ByteArray → Int → Int → List (S24) → Option (Int × Bool)
 | 0, _, _, _, _, _, _, _, _ => none
 | k + 1, x1, x6, x7, x337000, x337001, x337002, x337003, x337004 => if x7 < (x337004.length : Int) then (if 0 ≤ x7 then ((assessorref03_Find.f k ((rd_T24 x337004 x7).f0) ((rd_T24 x337004 x7).f1) ((rd_T24 x337004 x7).f2) ((rd_T24 x337004 x7).f3) ((rd_T24 x337004 x7).f4) x1).bind fun bt338 => (if bt338.2 = true then (some (wrap64 (x6 + bt338.1), true)) else ((assessorref03_Count.f k ((rd_T24 x337004 x7).f0) ((rd_T24 x337004 x7).f1) ((rd_T24 x337004 x7).f2) ((rd_T24 x337004 x7).f3) ((rd_T24 x337004 x7).f4)).bind fun t341 => (assessorref03_Find.l0 k x1 (wrap64 (x6 + t341)) (wrap64 (x7 + 1)) x337000 x337001 x337002 x337003 x337004)))) else (none)) else (some (0, true))
def assessorref03_Find.f : Nat → Int → ByteArray → Int → Int → List (S24) → Int → Option (Int × Bool)
 | 0, _, _, _, _, _, _ => none
 | k + 1, a0_0, a0_1, a0_2, a0_3, l0_4, a1 => if a1 < a0_2 then (assessorref03_Find.j0 k a1 true a0_0 a0_1 a0_2 a0_3 l0_4) else (assessorref03_Find.j0 k a1 (decide (a1 ≥ a0_3)) a0_0 a0_1 a0_2 a0_3 l0_4)
end
theorem assessorref03_Find.mono_l : ∀ k, (∀ y0 y1 y2 y3 y4 y5, LeO (assessorref03_Find.f k y0 y1 y2 y3 y4 y5) (assessorref03_Find.f (k + 1) y0 y1 y2 y3 y4 y5)) ∧ (∀ y0 y1 y2 y3 y4 y5 y6, LeO (assessorref03_Find.j0 k y0 y1 y2 y3 y4 y5 y6) (assessorref03_Find.j0 (k + 1) y0 y1 y2 y3 y4 y5 y6)) ∧ (∀ y0 y1 y2 y3 y4 y5 y6 y7, LeO (assessorref03_Find.l0 k y0 y1 y2 y3 y4 y5 y6 y7) (assessorref03_Find.l0 (k + 1) y0 y1 y2 y3 y4 y5 y6 y7))
 | 0 => ⟨fun _ _ _ _ _ _ r h => by simp [assessorref03_Find.f] at h, fun _ _ _ _ _ _ _ r h => by simp [assessorref03_Find.j0] at h, fun _ _ _ _ _ _ _ _ r h => by simp [assessorref03_Find.l0] at h⟩
 | k + 1 => by
  obtain ⟨ih0, ih1, ih2⟩ := assessorref03_Find.mono_l k
  refine ⟨?_, ?_, ?_⟩
  ·intro y0 y1 y2 y3 y4 y5
   unfold assessorref03_Find.f
   repeat' first
   | (with_reducible exact ih0 _ _ _ _ _ _)
   | (with_reducible exact ih1 _ _ _ _ _ _ _)
   | (with_reducible exact ih2 _ _ _ _ _ _ _ _)
   | (with_reducible exact assessorref03_Count.mono _ _ _ _ _ _)
   | (with_reducible exact LeO.refl _)
   | (with_reducible exact LeO.none _)
   | (with_reducible refine LeO.ite ?_ ?_)
   | (with_reducible refine LeO.bind ?_ (fun _ => ?_))
   | exact ih0 _ _ _ _ _ _
   | exact ih1 _ _ _ _ _ _ _
   | exact ih2 _ _ _ _ _ _ _ _
   | exact assessorref03_Count.mono _ _ _ _ _ _
   | exact LeO.none _
   | refine LeO.ite ?_ ?_
   | refine LeO.bind ?_ (fun _ => ?_)
  ·intro y0 y1 y2 y3 y4 y5 y6
   unfold assessorref03_Find.j0
   repeat' first
   | (with_reducible exact ih0 _ _ _ _ _ _)
   | (with_reducible exact ih1 _ _ _ _ _ _ _)
   | (with_reducible exact ih2 _ _ _ _ _ _ _ _)
   | (with_reducible exact assessorref03_Count.mono _ _ _ _ _ _)
   | (with_reducible exact LeO.refl _)
   | (with_reducible exact LeO.none _)
   | (with_reducible refine LeO.ite ?_ ?_)
   | (with_reducible refine LeO.bind ?_ (fun _ => ?_))
   | exact ih0 _ _ _ _ _ _
   | exact ih1 _ _ _ _ _ _ _
   | exact ih2 _ _ _ _ _ _ _ _
   | exact assessorref03_Count.mono _ _ _ _ _ _
   | exact LeO.none _
   | refine LeO.ite ?_ ?_
   | refine LeO.bind ?_ (fun _ => ?_)
  ·intro y0 y1 y2 y3 y4 y5 y6 y7
   unfold assessorref03_Find.l0
   repeat' first
   | (with_reducible exact ih0 _ _ _ _ _ _)
   | (with_reducible exact ih1 _ _ _ _ _ _ _)
   | (with_reducible exact ih2 _ _ _ _ _ _ _ _)
   | (with_reducible exact assessorref03_Count.mono _ _ _ _ _ _)
   | (with_reducible exact LeO.refl _)
   | (with_reducible exact LeO.none _)
   | (with_reducible refine LeO.ite ?_ ?_)
   | (with_reducible refine LeO.bind ?_ (fun _ => ?_))
   | exact ih0 _ _ _ _ _ _
   | exact ih1 _ _ _ _ _ _ _
   | exact ih2 _ _ _ _ _ _ _ _
   | exact assessorref03_Count.mono _ _ _ _ _ _
   | exact LeO.none _
   | refine LeO.ite ?_ ?_
   | refine LeO.bind ?_ (fun _ => ?_)
theorem assessorref03_Find.mono : ∀ a0 a1 a2 a3 a4 a5 k, LeO (assessorref03_Find.f k a0 a1 a2 a3 a4 a5) (assessorref03_Find.f (k + 1) a0 a1 a2 a3 a4 a5) := by
 intro a0 a1 a2 a3 a4 a5 k
 obtain ⟨ih0, ih1, ih2⟩ := assessorref03_Find.mono_l k
 exact ih0 a0 a1 a2 a3 a4 a5
set_option maxHeartbeats 8000000 in
set_option maxRecDepth 100000 in
theorem assessorref03_Find.calls (k : Nat) : ∀ (a0_0 : Int) (a0_1 : ByteArray) (a0_2 : Int) (a0_3 : Int) (A0_4 : Option Addr) (c0_4 : Nat) (l0_4 : List (S24)) (a1 : Int) (r1 : Int) (r2 : Bool) (w : World) (hr0_4 : Kd.C k24 w A0_4 l0_4.length l0_4) (hc0_4 : l0_4.length ≤ c0_4) (h : assessorref03_Find.f k a0_0 a0_1 a0_2 a0_3 l0_4 a1 = some (r1, r2)),
  Calls Try.prog 31 #[.agg #[.int .i64 a0_0, .string a0_1, .int .i64 a0_2, .int .i64 a0_3, .slice A0_4 l0_4.length c0_4], .int .i64 a1] w fun e w' => e = .returned (.tuple #[.int .i64 r1, .bool r2]) ∧ Below w.heap.size w w' := by
 induction k using Nat.strongRecOn with
 | _ k ih =>
 intro a0_0 a0_1 a0_2 a0_3 A0_4 c0_4 l0_4 a1 r1 r2 w hr0_4 hc0_4 h
 cases k with
 | zero => exact absurd h (by simp [assessorref03_Find.f])
 | succ k =>
 simp only [assessorref03_Find.f] at h
 have hu24 := Try.underlying24
 have HR0_4 := Aside0.mk hr0_4
 have HC0_4 := Aside0.mk hc0_4
 clear hr0_4 hc0_4
 have HB := Aside0.mk (Below.refl w.heap.size w)
 have H : (if a1 < a0_2 then (assessorref03_Find.j0 k a1 true a0_0 a0_1 a0_2 a0_3 l0_4) else (assessorref03_Find.j0 k a1 (decide (a1 ≥ a0_3)) a0_0 a0_1 a0_2 a0_3 l0_4)) = some (r1, r2) := h
 clear h
 have HC3 := Aside0.mk H
 clear H
 go_enter Try.func31, Try.ntmps31
 go_upto_region 1 with (first | ((with_reducible refine gate_dst (N := 2) rfl ?_); refine box_event ?hg (N := 2) ?hd (cs := #[.int .i64 a0_0, .string a0_1, .int .i64 a0_2, .int .i64 a0_3, .slice A0_4 l0_4.length c0_4]) (t := 24) ?hr ?_; (case hd => rfl); (case hg => rfl); (case hr => first | (go_simp; done) | (go_simp; rfl)); intro gb336 hg w4 hbox hb; have n0_ := Aside0.mk (below_step (by repeat (first | (with_reducible first | exact HB.out | apply below_alloc | apply pw_below_drewN | apply below_drew1) | exact HB.out)) hb); have n1_ := Aside0.mk (hbox); have n2_ := Aside0.mk ((by rw [hg]; exact (below_size (by repeat (first | (with_reducible first | exact HB.out | apply below_alloc | apply pw_below_drewN | apply below_drew1) | exact HB.out))) : w.heap.size ≤ gb336)); have n3_ := Aside0.mk ((by rw [hg]; exact (below_size (by repeat (first | (with_reducible first | exact HB.out | apply below_alloc | apply pw_below_drewN | apply below_drew1) | exact HB.out))) : w.heap.size ≤ gb336)); clear HB; have HB := n0_; have BK336 := n1_; have GW336 := n2_; have GE336 := n3_; clear n0_ n1_ n2_ n3_; clear hb hbox hg))
 (try simp only [Act.put, List.setIfInBounds_toArray, List.set_cons_zero, List.set_cons_succ])
 go_cut [19] (fun v19 wc => ∃ (kq : Nat) (x19_2 : Bool), v19 = .bool x19_2 ∧ Aside0 (assessorref03_Find.j0 kq a1 x19_2 a0_0 a0_1 a0_2 a0_3 l0_4 = some (r1, r2)) ∧ Aside0 (kq ≤ k) ∧ Aside0 (wc.heap[gb336]? = some (.cells #[.int .i64 a0_0, .string a0_1, .int .i64 a0_2, .int .i64 a0_3, (.slice A0_4 l0_4.length c0_4)] 24 (0, 0))) ∧ Aside0 (Below w.heap.size w wc))
 case first =>
  have H := HC3.out
  clear HC3
  by_cases c5 : a1 < a0_2
  ·rw [if_pos c5] at H
   have c5b0 : decide (a1 < a0_2) = true := decide_eq_true c5
   clear c5
   (first | rw [c5b0] | (simp only [i64_w, i32_w]; rw [c5b0]) | skip)
   have H' := Aside0.mk H
   clear H
   have hcz6_0 : w4.cell? ⟨gb336, 0, none⟩ = some (.int .i64 a0_0) := (blk_cell BK336.out 0).trans rfl
   have hcz6_1 : w4.cell? ⟨gb336, 1, none⟩ = some (.string a0_1) := (blk_cell BK336.out 1).trans rfl
   have hcz6_2 : w4.cell? ⟨gb336, 2, none⟩ = some (.int .i64 a0_2) := (blk_cell BK336.out 2).trans rfl
   have hcz6_3 : w4.cell? ⟨gb336, 3, none⟩ = some (.int .i64 a0_3) := (blk_cell BK336.out 3).trans rfl
   have hcz6_4 : w4.cell? ⟨gb336, 4, none⟩ = some (.slice A0_4 l0_4.length c0_4) := (blk_cell BK336.out 4).trans rfl
   have hfz6_0 := blk_frozen BK336.out 0
   have hfz6_1 := blk_frozen BK336.out 1
   have hfz6_2 := blk_frozen BK336.out 2
   have hfz6_3 := blk_frozen BK336.out 3
   have hfz6_4 := blk_frozen BK336.out 4
   go_wp2
   go_meet
   case rel => exact ⟨_, (true), (by first | rfl | (simp; done) | (simp [*]; done)), H', ⟨by first | omega | exact Nat.le_refl _⟩, ⟨by (with_reducible repeat (first | refine blk_drewN ?_ _ | refine blk_drew ?_ | refine blk_alloc ?_ _)); exact BK336.out⟩, ⟨by repeat (first | (with_reducible first | exact HB.out | apply below_alloc | apply pw_below_drewN | apply below_drew1 | refine below_set ?_ GE336.out) | exact HB.out)⟩⟩
  ·rw [if_neg c5] at H
   have c5b0 : decide (a1 < a0_2) = false := decide_eq_false c5
   clear c5
   (first | rw [c5b0] | (simp only [i64_w, i32_w]; rw [c5b0]) | skip)
   have H' := Aside0.mk H
   clear H
   have hcz7_0 : w4.cell? ⟨gb336, 0, none⟩ = some (.int .i64 a0_0) := (blk_cell BK336.out 0).trans rfl
   have hcz7_1 : w4.cell? ⟨gb336, 1, none⟩ = some (.string a0_1) := (blk_cell BK336.out 1).trans rfl
   have hcz7_2 : w4.cell? ⟨gb336, 2, none⟩ = some (.int .i64 a0_2) := (blk_cell BK336.out 2).trans rfl
   have hcz7_3 : w4.cell? ⟨gb336, 3, none⟩ = some (.int .i64 a0_3) := (blk_cell BK336.out 3).trans rfl
   have hcz7_4 : w4.cell? ⟨gb336, 4, none⟩ = some (.slice A0_4 l0_4.length c0_4) := (blk_cell BK336.out 4).trans rfl
   have hfz7_0 := blk_frozen BK336.out 0
   have hfz7_1 := blk_frozen BK336.out 1
   have hfz7_2 := blk_frozen BK336.out 2
   have hfz7_3 := blk_frozen BK336.out 3
   have hfz7_4 := blk_frozen BK336.out 4
   go_wp2
   go_meet
   case rel => exact ⟨_, (decide (a1 ≥ a0_3)), (by first | rfl | (simp; done) | (simp [*]; done)), H', ⟨by first | omega | exact Nat.le_refl _⟩, ⟨by (with_reducible repeat (first | refine blk_drewN ?_ _ | refine blk_drew ?_ | refine blk_alloc ?_ _)); exact BK336.out⟩, ⟨by repeat (first | (with_reducible first | exact HB.out | apply below_alloc | apply pw_below_drewN | apply below_drew1 | refine below_set ?_ GE336.out) | exact HB.out)⟩⟩
 case rest =>
  clear HC3
  try clear p2
  try clear c3
  try clear c5
  try clear c5b0
  try clear hcz6_0
  try clear hcz6_1
  try clear hcz6_2
  try clear hcz6_3
  try clear hcz6_4
  try clear hcz7_0
  try clear hcz7_1
  try clear hcz7_2
  try clear hcz7_3
  try clear hcz7_4
  try clear hfz6_0
  try clear hfz6_1
  try clear hfz6_2
  try clear hfz6_3
  try clear hfz6_4
  try clear hfz7_0
  try clear hfz7_1
  try clear hfz7_2
  try clear hfz7_3
  try clear hfz7_4
  obtain ⟨kq, x19_2, rfl, HA, HJ2, BK336, HB⟩ := hcut
  cases kq with
  | zero => exact absurd HA.out (by simp [assessorref03_Find.j0])
  | succ kj2 =>
   have H := HA.out
   clear HA
   simp only [assessorref03_Find.j0] at H
   by_cases c8 : x19_2 = true
   ·subst c8
    have H1 : (some (0, false)) = some (r1, r2) := by rw [if_pos rfl] at H; exact H
    clear H
    have H := H1
    clear H1
    simp only [Option.some.injEq, Prod.mk.injEq] at H
    obtain ⟨rfl, rfl⟩ := H
    go_wp2
    go_ret2
    exact ⟨by first | rfl | (simp [errW_none, errW_some] <;> rfl) | (simp [*, errW_none, errW_some] <;> rfl) | (simp [IntKind.wrap_i64, wrap64]; done), by repeat (first | (with_reducible first | exact HB.out | apply below_alloc | apply pw_below_drewN | apply below_drew1 | refine below_set ?_ GE336.out) | exact HB.out)⟩
   ·replace c8 := Bool.eq_false_iff.mpr c8
    subst c8
    have H1 : (assessorref03_Find.l0 kj2 a1 1 0 a0_0 a0_1 a0_2 a0_3 l0_4) = some (r1, r2) := by rw [if_neg (show ¬ (false = true) by decide)] at H; exact H
    clear H
    have H := H1
    clear H1
    have H' := Aside0.mk H
    clear H
    go_wp2
    go_loopg [6, 7] kj2 (fun kq v6 v7 w' => ∃ (x6_2 : Int) (x7_2 : Int), v6 = .int .i64 x6_2 ∧ v7 = .int .i64 x7_2 ∧ Aside0 (assessorref03_Find.l0 kq a1 x6_2 x7_2 a0_0 a0_1 a0_2 a0_3 l0_4 = some (r1, r2)) ∧ Aside0 (kq ≤ kj2) ∧ Aside0 (w'.heap[gb336]? = some (.cells #[.int .i64 a0_0, .string a0_1, .int .i64 a0_2, .int .i64 a0_3, (.slice A0_4 l0_4.length c0_4)] 24 (0, 0))) ∧ Aside0 (Below w.heap.size w w'))
    case atStart => exact ⟨(1), (0), (by first | rfl | (simp; done) | (simp [*]; done)), (by first | rfl | (simp; done) | (simp [*]; done)), H', ⟨Nat.le_refl _⟩, ⟨by (with_reducible repeat (first | refine blk_drewN ?_ _ | refine blk_drew ?_ | refine blk_alloc ?_ _)); exact BK336.out⟩, ⟨by repeat (first | (with_reducible first | exact HB.out | apply below_alloc | apply pw_below_drewN | apply below_drew1 | refine below_set ?_ GE336.out) | exact HB.out)⟩⟩
    case round =>
     clear H'
     try clear p2
     try clear c3
     try clear c5
     try clear c5b0
     try clear c8
     try clear hcz6_0
     try clear hcz6_1
     try clear hcz6_2
     try clear hcz6_3
     try clear hcz6_4
     try clear hcz7_0
     try clear hcz7_1
     try clear hcz7_2
     try clear hcz7_3
     try clear hcz7_4
     try clear hfz6_0
     try clear hfz6_1
     try clear hfz6_2
     try clear hfz6_3
     try clear hfz6_4
     try clear hfz7_0
     try clear hfz7_1
     try clear hfz7_2
     try clear hfz7_3
     try clear hfz7_4
     try clear p2
     obtain ⟨x6_2, x7_2, rfl, rfl, HA, HK2, BK336, HB⟩ := hrel
     cases gk with
     | zero => exact absurd HA.out (by simp [assessorref03_Find.l0])
     | succ k2 =>
      have H := HA.out
      clear HA
      simp only [assessorref03_Find.l0] at H
      by_cases c9 : x7_2 < (l0_4.length : Int)
      ·rw [if_pos c9] at H
       have c9b0 : decide (x7_2 < (l0_4.length : Int)) = true := decide_eq_true c9
       clear c9
       by_cases c10 : 0 ≤ x7_2
       ·rw [if_pos c10] at H
        have c10b0 : decide (0 ≤ x7_2) = true := decide_eq_true c10
        clear c10
        replace H := Option.bind_eq_some_iff.mp H
        obtain ⟨⟨t338, t339⟩, A110, H⟩ := H
        replace H : (if t339 = true then (some (wrap64 (x6_2 + t338), true)) else ((assessorref03_Count.f k2 ((rd_T24 l0_4 x7_2).f0) ((rd_T24 l0_4 x7_2).f1) ((rd_T24 l0_4 x7_2).f2) ((rd_T24 l0_4 x7_2).f3) ((rd_T24 l0_4 x7_2).f4)).bind fun t341 => (assessorref03_Find.l0 k2 a1 (wrap64 (x6_2 + t341)) (wrap64 (x7_2 + 1)) a0_0 a0_1 a0_2 a0_3 l0_4))) = some (r1, r2) := H
        have A11 := Aside0.mk A110
        clear A110
        by_cases c12 : t339 = true
        ·subst c12
         have H1 : (some (wrap64 (x6_2 + t338), true)) = some (r1, r2) := by rw [if_pos rfl] at H; exact H
         clear H
         have H := H1
         clear H1
         simp only [Option.some.injEq, Prod.mk.injEq] at H
         obtain ⟨rfl, rfl⟩ := H
         have hcz13_0 : wr.cell? ⟨gb336, 0, none⟩ = some (.int .i64 a0_0) := (blk_cell BK336.out 0).trans rfl
         have hcz13_1 : wr.cell? ⟨gb336, 1, none⟩ = some (.string a0_1) := (blk_cell BK336.out 1).trans rfl
         have hcz13_2 : wr.cell? ⟨gb336, 2, none⟩ = some (.int .i64 a0_2) := (blk_cell BK336.out 2).trans rfl
         have hcz13_3 : wr.cell? ⟨gb336, 3, none⟩ = some (.int .i64 a0_3) := (blk_cell BK336.out 3).trans rfl
         have hcz13_4 : wr.cell? ⟨gb336, 4, none⟩ = some (.slice A0_4 l0_4.length c0_4) := (blk_cell BK336.out 4).trans rfl
         have hfz13_0 := blk_frozen BK336.out 0
         have hfz13_1 := blk_frozen BK336.out 1
         have hfz13_2 := blk_frozen BK336.out 2
         have hfz13_3 := blk_frozen BK336.out 3
         have hfz13_4 := blk_frozen BK336.out 4
         have p337 : 0 ≤ (x7_2 : Int) := of_decide_eq_true (by first | (with_reducible assumption) | assumption)
         have q337 : x7_2 < (l0_4.length : Int) := of_decide_eq_true (by first | (with_reducible assumption) | assumption)
         obtain ⟨ad337, A337_4, c337_4, e337, hx337_0, hx337_1, hx337_2, hx337_3, hx337_4, hl337_4, hi337_4⟩ := at_T24 HR0_4.out x7_2 p337 q337
         cases e337
         replace hx337_0 := (HB.out.cell (World.block_lt_of_cell? w _ hx337_0)).trans hx337_0
         replace hx337_1 := (HB.out.cell (World.block_lt_of_cell? w _ hx337_1)).trans hx337_1
         replace hx337_2 := (HB.out.cell (World.block_lt_of_cell? w _ hx337_2)).trans hx337_2
         replace hx337_3 := (HB.out.cell (World.block_lt_of_cell? w _ hx337_3)).trans hx337_3
         replace hx337_4 := (HB.out.cell (World.block_lt_of_cell? w _ hx337_4)).trans hx337_4
         have HR337_4 := Aside0.mk hi337_4
         have HC337_4 := Aside0.mk hl337_4
         clear hi337_4 hl337_4
         replace p337 := eq_true p337
         replace q337 := eq_true q337
         go_wp2_with (first | ((with_reducible refine gate_callee (f := 31) rfl ?_); refine goesL_ (some 34) rfl rfl Try.func31 (by kernel_rfl) rfl #[.agg #[.int .i64 ((rd_T24 l0_4 x7_2).f0), .string ((rd_T24 l0_4 x7_2).f1), .int .i64 ((rd_T24 l0_4 x7_2).f2), .int .i64 ((rd_T24 l0_4 x7_2).f3), .slice A337_4 ((rd_T24 l0_4 x7_2).f4).length c337_4], .int .i64 a1] rfl (by (try simp only [List.map_toArray, List.map_cons, List.map_nil]); first | done | rfl | (simp only [List.length_drop, List.length_take]; rfl)) ?_; (with_reducible refine (ih k2 (by have := HJ2.out; have := HK2.out; omega) ((rd_T24 l0_4 x7_2).f0) ((rd_T24 l0_4 x7_2).f1) ((rd_T24 l0_4 x7_2).f2) ((rd_T24 l0_4 x7_2).f3) _ _ ((rd_T24 l0_4 x7_2).f4) a1 t338 true _ ?side1 ?side2 A11.out).mono ?_); (case side1 => repeat (first | exact (Kd.C_below HR337_4.out HB.out) | (with_reducible refine Kd.C_alloc ?_ _) | (with_reducible refine Kd.C_drewN ?_ _) | (with_reducible refine Kd.C_drew ?_))); (case side2 => exact HC337_4.out); rintro e w14 ⟨rfl, hb⟩; refine ⟨_, rfl, ?_⟩; have n0_ := Aside0.mk (blk_below (g := gb336) (o := .cells #[.int .i64 a0_0, .string a0_1, .int .i64 a0_2, .int .i64 a0_3, .slice (some ad337) l0_4.length c0_4] 24 (0, 0)) (by (with_reducible repeat (first | refine blk_drewN ?_ _ | refine blk_drew ?_ | refine blk_alloc ?_ _)); exact BK336.out) hb); have n1_ := Aside0.mk (below_step (by repeat (first | (with_reducible first | exact HB.out | apply below_alloc | apply pw_below_drewN | apply below_drew1 | refine below_set ?_ GE336.out) | exact HB.out)) hb); clear BK336; clear HB; have BK336 := n0_; have HB := n1_; clear n0_ n1_; (try clear hb); (try clear hb2); (try clear hk); (try clear hi)))
         go_ret2
         exact ⟨by first | rfl | (simp [errW_none, errW_some] <;> rfl) | (simp [*, errW_none, errW_some] <;> rfl) | (simp [IntKind.wrap_i64, wrap64]; done), by repeat (first | (with_reducible first | exact HB.out | apply below_alloc | apply pw_below_drewN | apply below_drew1 | refine below_set ?_ GE336.out) | exact HB.out)⟩
        ·replace c12 := Bool.eq_false_iff.mpr c12
         subst c12
         have H1 : ((assessorref03_Count.f k2 ((rd_T24 l0_4 x7_2).f0) ((rd_T24 l0_4 x7_2).f1) ((rd_T24 l0_4 x7_2).f2) ((rd_T24 l0_4 x7_2).f3) ((rd_T24 l0_4 x7_2).f4)).bind fun t341 => (assessorref03_Find.l0 k2 a1 (wrap64 (x6_2 + t341)) (wrap64 (x7_2 + 1)) a0_0 a0_1 a0_2 a0_3 l0_4)) = some (r1, r2) := by rw [if_neg (show ¬ (false = true) by decide)] at H; exact H
         clear H
         have H := H1
         clear H1
         replace H := Option.bind_eq_some_iff.mp H
         obtain ⟨t341, A150, H⟩ := H
         replace H : (assessorref03_Find.l0 k2 a1 (wrap64 (x6_2 + t341)) (wrap64 (x7_2 + 1)) a0_0 a0_1 a0_2 a0_3 l0_4) = some (r1, r2) := H
         have A15 := Aside0.mk A150
         clear A150
         have H' := Aside0.mk H
         clear H
         have hcz16_0 : wr.cell? ⟨gb336, 0, none⟩ = some (.int .i64 a0_0) := (blk_cell BK336.out 0).trans rfl
         have hcz16_1 : wr.cell? ⟨gb336, 1, none⟩ = some (.string a0_1) := (blk_cell BK336.out 1).trans rfl
         have hcz16_2 : wr.cell? ⟨gb336, 2, none⟩ = some (.int .i64 a0_2) := (blk_cell BK336.out 2).trans rfl
         have hcz16_3 : wr.cell? ⟨gb336, 3, none⟩ = some (.int .i64 a0_3) := (blk_cell BK336.out 3).trans rfl
         have hcz16_4 : wr.cell? ⟨gb336, 4, none⟩ = some (.slice A0_4 l0_4.length c0_4) := (blk_cell BK336.out 4).trans rfl
         have hfz16_0 := blk_frozen BK336.out 0
         have hfz16_1 := blk_frozen BK336.out 1
         have hfz16_2 := blk_frozen BK336.out 2
         have hfz16_3 := blk_frozen BK336.out 3
         have hfz16_4 := blk_frozen BK336.out 4
         have p337 : 0 ≤ (x7_2 : Int) := of_decide_eq_true (by first | (with_reducible assumption) | assumption)
         have q337 : x7_2 < (l0_4.length : Int) := of_decide_eq_true (by first | (with_reducible assumption) | assumption)
         obtain ⟨ad337, A337_4, c337_4, e337, hx337_0, hx337_1, hx337_2, hx337_3, hx337_4, hl337_4, hi337_4⟩ := at_T24 HR0_4.out x7_2 p337 q337
         cases e337
         replace hx337_0 := (HB.out.cell (World.block_lt_of_cell? w _ hx337_0)).trans hx337_0
         replace hx337_1 := (HB.out.cell (World.block_lt_of_cell? w _ hx337_1)).trans hx337_1
         replace hx337_2 := (HB.out.cell (World.block_lt_of_cell? w _ hx337_2)).trans hx337_2
         replace hx337_3 := (HB.out.cell (World.block_lt_of_cell? w _ hx337_3)).trans hx337_3
         replace hx337_4 := (HB.out.cell (World.block_lt_of_cell? w _ hx337_4)).trans hx337_4
         have HR337_4 := Aside0.mk hi337_4
         have HC337_4 := Aside0.mk hl337_4
         clear hi337_4 hl337_4
         replace p337 := eq_true p337
         replace q337 := eq_true q337
         go_wp2_with (first | ((with_reducible refine gate_callee (f := 31) rfl ?_); refine goesL_ (some 34) rfl rfl Try.func31 (by kernel_rfl) rfl #[.agg #[.int .i64 ((rd_T24 l0_4 x7_2).f0), .string ((rd_T24 l0_4 x7_2).f1), .int .i64 ((rd_T24 l0_4 x7_2).f2), .int .i64 ((rd_T24 l0_4 x7_2).f3), .slice A337_4 ((rd_T24 l0_4 x7_2).f4).length c337_4], .int .i64 a1] rfl (by (try simp only [List.map_toArray, List.map_cons, List.map_nil]); first | done | rfl | (simp only [List.length_drop, List.length_take]; rfl)) ?_; (with_reducible refine (ih k2 (by have := HJ2.out; have := HK2.out; omega) ((rd_T24 l0_4 x7_2).f0) ((rd_T24 l0_4 x7_2).f1) ((rd_T24 l0_4 x7_2).f2) ((rd_T24 l0_4 x7_2).f3) _ _ ((rd_T24 l0_4 x7_2).f4) a1 t338 false _ ?side1 ?side2 A11.out).mono ?_); (case side1 => repeat (first | exact (Kd.C_below HR337_4.out HB.out) | (with_reducible refine Kd.C_alloc ?_ _) | (with_reducible refine Kd.C_drewN ?_ _) | (with_reducible refine Kd.C_drew ?_))); (case side2 => exact HC337_4.out); rintro e w17 ⟨rfl, hb⟩; refine ⟨_, rfl, ?_⟩; have n0_ := Aside0.mk (blk_below (g := gb336) (o := .cells #[.int .i64 a0_0, .string a0_1, .int .i64 a0_2, .int .i64 a0_3, .slice (some ad337) l0_4.length c0_4] 24 (0, 0)) (by (with_reducible repeat (first | refine blk_drewN ?_ _ | refine blk_drew ?_ | refine blk_alloc ?_ _)); exact BK336.out) hb); have n1_ := Aside0.mk (below_step (by repeat (first | (with_reducible first | exact HB.out | apply below_alloc | apply pw_below_drewN | apply below_drew1 | refine below_set ?_ GE336.out) | exact HB.out)) hb); clear BK336; clear HB; have BK336 := n0_; have HB := n1_; clear n0_ n1_; (try clear hb); (try clear hb2); (try clear hk); (try clear hi); have hcz18_0 : w17.cell? ⟨gb336, 0, none⟩ = some (.int .i64 a0_0) := (blk_cell BK336.out 0).trans rfl; have hcz18_1 : w17.cell? ⟨gb336, 1, none⟩ = some (.string a0_1) := (blk_cell BK336.out 1).trans rfl; have hcz18_2 : w17.cell? ⟨gb336, 2, none⟩ = some (.int .i64 a0_2) := (blk_cell BK336.out 2).trans rfl; have hcz18_3 : w17.cell? ⟨gb336, 3, none⟩ = some (.int .i64 a0_3) := (blk_cell BK336.out 3).trans rfl; have hcz18_4 : w17.cell? ⟨gb336, 4, none⟩ = some (.slice (some ad337) l0_4.length c0_4) := (blk_cell BK336.out 4).trans rfl; have hfz18_0 := blk_frozen BK336.out 0; have hfz18_1 := blk_frozen BK336.out 1; have hfz18_2 := blk_frozen BK336.out 2; have hfz18_3 := blk_frozen BK336.out 3; have hfz18_4 := blk_frozen BK336.out 4; have p340 : 0 ≤ (x7_2 : Int) := of_decide_eq_true (by first | (with_reducible assumption) | assumption); have q340 : x7_2 < (l0_4.length : Int) := of_decide_eq_true (by first | (with_reducible assumption) | assumption); obtain ⟨ad340, A340_4, c340_4, e340, hx340_0, hx340_1, hx340_2, hx340_3, hx340_4, hl340_4, hi340_4⟩ := at_T24 HR0_4.out x7_2 p340 q340; obtain rfl : ad337 = ad340 := (by injection e340); replace hx340_0 := (HB.out.cell (World.block_lt_of_cell? w _ hx340_0)).trans hx340_0; replace hx340_1 := (HB.out.cell (World.block_lt_of_cell? w _ hx340_1)).trans hx340_1; replace hx340_2 := (HB.out.cell (World.block_lt_of_cell? w _ hx340_2)).trans hx340_2; replace hx340_3 := (HB.out.cell (World.block_lt_of_cell? w _ hx340_3)).trans hx340_3; replace hx340_4 := (HB.out.cell (World.block_lt_of_cell? w _ hx340_4)).trans hx340_4; have HR340_4 := Aside0.mk hi340_4; have HC340_4 := Aside0.mk hl340_4; clear hi340_4 hl340_4; replace p340 := eq_true p340; replace q340 := eq_true q340) | ((with_reducible refine gate_callee (f := 32) rfl ?_); refine goesL_ (some 47) rfl rfl Try.func32 (by kernel_rfl) rfl #[.agg #[.int .i64 ((rd_T24 l0_4 x7_2).f0), .string ((rd_T24 l0_4 x7_2).f1), .int .i64 ((rd_T24 l0_4 x7_2).f2), .int .i64 ((rd_T24 l0_4 x7_2).f3), .slice A340_4 ((rd_T24 l0_4 x7_2).f4).length c340_4]] rfl (by (try simp only [List.map_toArray, List.map_cons, List.map_nil]); first | done | rfl | (simp only [List.length_drop, List.length_take]; rfl)) ?_; (with_reducible refine (assessorref03_Count.calls k2 ((rd_T24 l0_4 x7_2).f0) ((rd_T24 l0_4 x7_2).f1) ((rd_T24 l0_4 x7_2).f2) ((rd_T24 l0_4 x7_2).f3) _ _ ((rd_T24 l0_4 x7_2).f4) t341 _ ?side1 ?side2 A15.out).mono ?_); (case side1 => repeat (first | exact (Kd.C_below HR340_4.out HB.out) | (with_reducible refine Kd.C_alloc ?_ _) | (with_reducible refine Kd.C_drewN ?_ _) | (with_reducible refine Kd.C_drew ?_))); (case side2 => exact HC340_4.out); rintro e w19 ⟨rfl, hb⟩; refine ⟨_, rfl, ?_⟩; have n0_ := Aside0.mk (blk_below (g := gb336) (o := .cells #[.int .i64 a0_0, .string a0_1, .int .i64 a0_2, .int .i64 a0_3, .slice (some ad337) l0_4.length c0_4] 24 (0, 0)) (by (with_reducible repeat (first | refine blk_drewN ?_ _ | refine blk_drew ?_ | refine blk_alloc ?_ _)); exact BK336.out) hb); have n1_ := Aside0.mk (below_step (by repeat (first | (with_reducible first | exact HB.out | apply below_alloc | apply pw_below_drewN | apply below_drew1 | refine below_set ?_ GE336.out) | exact HB.out)) hb); clear BK336; clear HB; have BK336 := n0_; have HB := n1_; clear n0_ n1_; (try clear hb); (try clear hb2); (try clear hk); (try clear hi)))
         go_roundg k2
         case measure => have := HJ2.out; have := HK2.out; omega
         case rel => exact ⟨(wrap64 (x6_2 + t341)), (wrap64 (x7_2 + 1)), (by first | rfl | (simp; done) | (simp [*]; done)), (by first | rfl | (simp; done) | (simp [*]; done)), H', ⟨by have := HJ2.out; have := HK2.out; omega⟩, ⟨by (with_reducible repeat (first | refine blk_drewN ?_ _ | refine blk_drew ?_ | refine blk_alloc ?_ _)); exact BK336.out⟩, ⟨by repeat (first | (with_reducible first | exact HB.out | apply below_alloc | apply pw_below_drewN | apply below_drew1 | refine below_set ?_ GE336.out) | exact HB.out)⟩⟩
       ·rw [if_neg c10] at H
        exact absurd H (by simp)
      ·rw [if_neg c9] at H
       have c9b0 : decide (x7_2 < (l0_4.length : Int)) = false := decide_eq_false c9
       clear c9
       simp only [Option.some.injEq, Prod.mk.injEq] at H
       obtain ⟨rfl, rfl⟩ := H
       have hcz20_0 : wr.cell? ⟨gb336, 0, none⟩ = some (.int .i64 a0_0) := (blk_cell BK336.out 0).trans rfl
       have hcz20_1 : wr.cell? ⟨gb336, 1, none⟩ = some (.string a0_1) := (blk_cell BK336.out 1).trans rfl
       have hcz20_2 : wr.cell? ⟨gb336, 2, none⟩ = some (.int .i64 a0_2) := (blk_cell BK336.out 2).trans rfl
       have hcz20_3 : wr.cell? ⟨gb336, 3, none⟩ = some (.int .i64 a0_3) := (blk_cell BK336.out 3).trans rfl
       have hcz20_4 : wr.cell? ⟨gb336, 4, none⟩ = some (.slice A0_4 l0_4.length c0_4) := (blk_cell BK336.out 4).trans rfl
       have hfz20_0 := blk_frozen BK336.out 0
       have hfz20_1 := blk_frozen BK336.out 1
       have hfz20_2 := blk_frozen BK336.out 2
       have hfz20_3 := blk_frozen BK336.out 3
       have hfz20_4 := blk_frozen BK336.out 4
       go_wp2
       go_ret2
       exact ⟨by first | rfl | (simp [errW_none, errW_some] <;> rfl) | (simp [*, errW_none, errW_some] <;> rfl) | (simp [IntKind.wrap_i64, wrap64]; done), by repeat (first | (with_reducible first | exact HB.out | apply below_alloc | apply pw_below_drewN | apply below_drew1 | refine below_set ?_ GE336.out) | exact HB.out)⟩

end Go.Proofs.Ytbheobngeocdfaa.PAll
