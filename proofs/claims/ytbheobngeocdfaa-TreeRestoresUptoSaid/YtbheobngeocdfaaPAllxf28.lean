/- What the machine's calls come to, function by function: printed by a program of this session after the kit's print; Lean checks it. SLIM -/
import Derived.Test.YtbheobngeocdfaaPAllx0
import Derived.Test.YtbheobngeocdfaaG1
namespace Go.Proofs.Ytbheobngeocdfaa.PAll
open Go.RowKit Go.Proofs.YtbheobngeocdfaaW.PrintWords Go.Proofs.YtbheobngeocdfaaW.PrintLast Go.Proofs.YtbheobngeocdfaaW.PrintMore
attribute [local go_sem] max2_int min2_int max_two min_two max_three min_three max_four min_four   -- for this text's walks alone
set_option linter.unusedVariables false
set_option linter.unusedSimpArgs false

/-! ### tree_Number: function 28 -/
mutual
def tree_Number.l0 : Nat → Int → List Int → Int → Int → Int → ByteArray → Int → Int → List (S24) → Option (Int × Bool)
 | 0, _, _, _, _, _, _, _, _, _ => none
 | k + 1, x6, x11, x12, x13, x138000, x138001, x138002, x138003, x138004 => if x13 < x12 then (if 0 ≤ x13 then (if x13 < (x11.length : Int) then (if (rd x11 x13) < 0 then (tree_Number.j1 k x6 (rd x11 x13) x11 x12 x13 true x138000 x138001 x138002 x138003 x138004) else (tree_Number.j1 k x6 (rd x11 x13) x11 x12 x13 (decide ((rd x11 x13) ≥ (x138004.length : Int))) x138000 x138001 x138002 x138003 x138004)) else (none)) else (none)) else (some (x6, true))
def tree_Number.j1 : Nat → Int → Int → List Int → Int → Int → Bool → Int → ByteArray → Int → Int → List (S24) → Option (Int × Bool)
 | 0, _, _, _, _, _, _, _, _, _, _, _ => none
 | k + 1, x6, x8, x11, x12, x13, x25, x138000, x138001, x138002, x138003, x138004 => if x25 = true then (some (0, false)) else (if 0 ≤ x8 then (if x8 ≤ (x138004.length : Int) then ((some (x138004.take (x8 : Int).toNat : List (S24))).bind fun y139 => (tree_Number.l1 k (wrap64 (x6 + 1)) x8 x11 x12 x13 y139 (y139.length : Int) 0 x138000 x138001 x138002 x138003 x138004)) else (none)) else (none))
def tree_Number.l1 : Nat → Int → Int → List Int → Int → Int → List (S24) → Int → Int → Int → ByteArray → Int → Int → List (S24) → Option (Int × Bool)
 | 0, _, _, _, _, _, _, _, _, _, _, _, _, _ => none
 | k + 1, x6, x8, x11, x12, x13, x31, x32, x33, x138000, x138001, x138002, x138003, x138004 => if x33 < x32 then (if 0 ≤ x33 then (if x33 < (x31.length : Int) then ((tree_Count.f ((rd_T24 x31 x33).f0) ((rd_T24 x31 x33).f1) ((rd_T24 x31 x33).f2) ((rd_T24 x31 x33).f3) ((rd_T24 x31 x33).f4)).bind fun t146 => (tree_Number.l1 k (wrap64 (x6 + t146)) x8 x11 x12 x13 x31 x32 (wrap64 (x33 + 1)) x138000 x138001 x138002 x138003 x138004)) else (none)) else (none)) else (if 0 ≤ x8 then (if x8 < (x138004.length : Int) then (tree_Number.l0 k x6 x11 x12 (wrap64 (x13 + 1)) ((rd_T24 x138004 x8).f0) ((rd_T24 x138004 x8).f1) ((rd_T24 x138004 x8).f2) ((rd_T24 x138004 x8).f3) ((rd_T24 x138004 x8).f4)) else (none)) else (none))
end
def tree_Number.f (k : Nat) (a0_0 : Int) (a0_1 : ByteArray) (a0_2 : Int) (a0_3 : Int) (l0_4 : List (S24)) (l1 : List Int) : Option (Int × Bool) := tree_Number.l0 k 0 l1 (l1.length : Int) 0 a0_0 a0_1 a0_2 a0_3 l0_4
theorem tree_Number.mono_l : ∀ k, (∀ y0 y1 y2 y3 y4 y5 y6 y7 y8, LeO (tree_Number.l0 k y0 y1 y2 y3 y4 y5 y6 y7 y8) (tree_Number.l0 (k + 1) y0 y1 y2 y3 y4 y5 y6 y7 y8)) ∧ (∀ y0 y1 y2 y3 y4 y5 y6 y7 y8 y9 y10, LeO (tree_Number.j1 k y0 y1 y2 y3 y4 y5 y6 y7 y8 y9 y10) (tree_Number.j1 (k + 1) y0 y1 y2 y3 y4 y5 y6 y7 y8 y9 y10)) ∧ (∀ y0 y1 y2 y3 y4 y5 y6 y7 y8 y9 y10 y11 y12, LeO (tree_Number.l1 k y0 y1 y2 y3 y4 y5 y6 y7 y8 y9 y10 y11 y12) (tree_Number.l1 (k + 1) y0 y1 y2 y3 y4 y5 y6 y7 y8 y9 y10 y11 y12))
 | 0 => ⟨fun _ _ _ _ _ _ _ _ _ r h => by simp [tree_Number.l0] at h, fun _ _ _ _ _ _ _ _ _ _ _ r h => by simp [tree_Number.j1] at h, fun _ _ _ _ _ _ _ _ _ _ _ _ _ r h => by simp [tree_Number.l1] at h⟩
 | k + 1 => by
  obtain ⟨ih0, ih1, ih2⟩ := tree_Number.mono_l k
  refine ⟨?_, ?_, ?_⟩
  ·intro y0 y1 y2 y3 y4 y5 y6 y7 y8
   unfold tree_Number.l0
   repeat' first
   | (with_reducible exact ih0 _ _ _ _ _ _ _ _ _)
   | (with_reducible exact ih1 _ _ _ _ _ _ _ _ _ _ _)
   | (with_reducible exact ih2 _ _ _ _ _ _ _ _ _ _ _ _ _)
   | (with_reducible exact LeO.refl _)
   | (with_reducible exact LeO.none _)
   | (with_reducible refine LeO.ite ?_ ?_)
   | (with_reducible refine LeO.bind ?_ (fun _ => ?_))
   | exact ih0 _ _ _ _ _ _ _ _ _
   | exact ih1 _ _ _ _ _ _ _ _ _ _ _
   | exact ih2 _ _ _ _ _ _ _ _ _ _ _ _ _
   | exact LeO.none _
   | refine LeO.ite ?_ ?_
   | refine LeO.bind ?_ (fun _ => ?_)
  ·intro y0 y1 y2 y3 y4 y5 y6 y7 y8 y9 y10
   unfold tree_Number.j1
   repeat' first
   | (with_reducible exact ih0 _ _ _ _ _ _ _ _ _)
   | (with_reducible exact ih1 _ _ _ _ _ _ _ _ _ _ _)
   | (with_reducible exact ih2 _ _ _ _ _ _ _ _ _ _ _ _ _)
   | (with_reducible exact LeO.refl _)
   | (with_reducible exact LeO.none _)
   | (with_reducible refine LeO.ite ?_ ?_)
   | (with_reducible refine LeO.bind ?_ (fun _ => ?_))
   | exact ih0 _ _ _ _ _ _ _ _ _
   | exact ih1 _ _ _ _ _ _ _ _ _ _ _
   | exact ih2 _ _ _ _ _ _ _ _ _ _ _ _ _
   | exact LeO.none _
   | refine LeO.ite ?_ ?_
   | refine LeO.bind ?_ (fun _ => ?_)
  ·intro y0 y1 y2 y3 y4 y5 y6 y7 y8 y9 y10 y11 y12
   unfold tree_Number.l1
   repeat' first
   | (with_reducible exact ih0 _ _ _ _ _ _ _ _ _)
   | (with_reducible exact ih1 _ _ _ _ _ _ _ _ _ _ _)
   | (with_reducible exact ih2 _ _ _ _ _ _ _ _ _ _ _ _ _)
   | (with_reducible exact LeO.refl _)
   | (with_reducible exact LeO.none _)
   | (with_reducible refine LeO.ite ?_ ?_)
   | (with_reducible refine LeO.bind ?_ (fun _ => ?_))
   | exact ih0 _ _ _ _ _ _ _ _ _
   | exact ih1 _ _ _ _ _ _ _ _ _ _ _
   | exact ih2 _ _ _ _ _ _ _ _ _ _ _ _ _
   | exact LeO.none _
   | refine LeO.ite ?_ ?_
   | refine LeO.bind ?_ (fun _ => ?_)
theorem tree_Number.mono : ∀ a0 a1 a2 a3 a4 a5 k, LeO (tree_Number.f k a0 a1 a2 a3 a4 a5) (tree_Number.f (k + 1) a0 a1 a2 a3 a4 a5) := by
 intro a0 a1 a2 a3 a4 a5 k
 obtain ⟨ih0, ih1, ih2⟩ := tree_Number.mono_l k
 unfold tree_Number.f
 repeat' first
   | (with_reducible exact ih0 _ _ _ _ _ _ _ _ _)
   | (with_reducible exact ih1 _ _ _ _ _ _ _ _ _ _ _)
   | (with_reducible exact ih2 _ _ _ _ _ _ _ _ _ _ _ _ _)
   | (with_reducible exact LeO.refl _)
   | (with_reducible exact LeO.none _)
   | (with_reducible refine LeO.ite ?_ ?_)
   | (with_reducible refine LeO.bind ?_ (fun _ => ?_))
   | exact ih0 _ _ _ _ _ _ _ _ _
   | exact ih1 _ _ _ _ _ _ _ _ _ _ _
   | exact ih2 _ _ _ _ _ _ _ _ _ _ _ _ _
   | exact LeO.none _
   | refine LeO.ite ?_ ?_
   | refine LeO.bind ?_ (fun _ => ?_)
set_option maxHeartbeats 8000000 in
set_option maxRecDepth 100000 in
theorem tree_Number.calls (k : Nat) (a0_0 : Int) (a0_1 : ByteArray) (a0_2 : Int) (a0_3 : Int) (P0_4_ : Nat → Prop) (A0_4 : Option Addr) (c0_4 : Nat) (l0_4 : List (S24)) (A1 : Option Addr) (c1 : Nat) (l1 : List Int) (r1 : Int) (r2 : Bool) (w : World) (hs0_4 : Kd.V k24 24 w w.heap.size (fun k_ => P0_4_ k_) (.slice A0_4 l0_4.length c0_4) l0_4) (hr1 : Kd.C (Kd.int .i64) w A1 l1.length l1) (hc1 : l1.length ≤ c1) (h : tree_Number.f k a0_0 a0_1 a0_2 a0_3 l0_4 l1 = some (r1, r2)) :
  Calls Try.prog 28 #[.agg #[.int .i64 a0_0, .string a0_1, .int .i64 a0_2, .int .i64 a0_3, .slice A0_4 l0_4.length c0_4], .slice A1 l1.length c1] w fun e w' => e = .returned (.tuple #[.int .i64 r1, .bool r2]) ∧ Below w.heap.size w w' := by
 have hu24 := Try.underlying24
 have HO0_4 := Aside0.mk (show Kd.V k24 24 w w.heap.size (fun k_ => (P0_4_ k_ ∨ w.heap.size ≤ k_)) (.slice A0_4 l0_4.length c0_4) l0_4 from Kd.V_mono hs0_4 (fun k_ hk => .inl hk))
 have HR1 := Aside0.mk hr1
 have HC1 := Aside0.mk hc1
 clear hr1 hc1
 have HB := Aside0.mk (Below.refl w.heap.size w)
 have H : (tree_Number.l0 k 0 l1 (l1.length : Int) 0 a0_0 a0_1 a0_2 a0_3 l0_4) = some (r1, r2) := h
 clear h
 have H' := Aside0.mk H
 clear H
 go_enter Try.func28, Try.ntmps28
 go_wp2_with (first | ((with_reducible refine gate_dst (N := 2) rfl ?_); (try (refine gate_guard (by rfl) ?_; dsimp only)); refine box_event ?hg (N := 2) ?hd (cs := #[.int .i64 a0_0, .string a0_1, .int .i64 a0_2, .int .i64 a0_3, .slice A0_4 l0_4.length c0_4]) (t := 24) ?hr ?_; (case hd => rfl); (case hg => rfl); (case hr => first | (go_simp; done) | (go_simp; rfl)); intro gb137 hg w3 hbox hb; have n0_ := Aside0.mk (Kd.V_below (Kd.V_elderB (by (with_reducible repeat (first | apply Kd.V_alloc | apply Kd.V_drewN | apply Kd.V_drew)); exact HO0_4.out) gb137 (Nat.le_of_eq hg.symm)) hb); have n1_ := Aside0.mk (below_step (by repeat (first | (with_reducible first | exact HB.out | apply below_alloc | apply pw_below_drewN | apply below_drew1) | exact HB.out)) hb); have n2_ := Aside0.mk (hbox); have n3_ := Aside0.mk ((by rw [hg]; exact (below_size (by repeat (first | (with_reducible first | exact HB.out | apply below_alloc | apply pw_below_drewN | apply below_drew1) | exact HB.out))) : w.heap.size ≤ gb137)); have n4_ := Aside0.mk ((by rw [hg]; exact (below_size (by repeat (first | (with_reducible first | exact HB.out | apply below_alloc | apply pw_below_drewN | apply below_drew1) | exact HB.out))) : w.heap.size ≤ gb137)); clear HO0_4; clear HB; have HO0_4 := n0_; have HB := n1_; have BK137 := n2_; have GW137 := n3_; have GE137 := n4_; clear n0_ n1_ n2_ n3_ n4_; clear hb hbox hg))
 go_loopg [6, 13] k (fun kq v6 v13 w' => ∃ (x6_1 : Int) (x13_1 : Int) (x138000_1 : Int) (x138001_1 : ByteArray) (x138002_1 : Int) (x138003_1 : Int) (x138004_1 : List (S24)) (u138004 : Value), v6 = .int .i64 x6_1 ∧ v13 = .int .i64 x13_1 ∧ Aside0 (tree_Number.l0 kq x6_1 l1 (l1.length : Int) x13_1 x138000_1 x138001_1 x138002_1 x138003_1 x138004_1 = some (r1, r2)) ∧ Aside0 (kq ≤ k) ∧ Aside0 (Kd.V k24 24 w' w.heap.size (fun k_ => (P0_4_ k_ ∨ w.heap.size ≤ k_) ∧ k_ ≠ gb137) u138004 x138004_1) ∧ Aside0 (w'.heap[gb137]? = some (.cells #[.int .i64 x138000_1, .string x138001_1, .int .i64 x138002_1, .int .i64 x138003_1, u138004] 24 (0, 0))) ∧ Aside0 (Below w.heap.size w w'))
 case atStart => exact ⟨(0), (0), (a0_0), (a0_1), (a0_2), (a0_3), (l0_4), (.slice A0_4 l0_4.length c0_4), (by first | rfl | (simp; done) | (simp [*]; done)), (by first | rfl | (simp; done) | (simp [*]; done)), H', ⟨Nat.le_refl _⟩, ⟨by (with_reducible repeat (first | apply Kd.V_alloc | apply Kd.V_drewN | apply Kd.V_drew)); exact HO0_4.out⟩, ⟨by (with_reducible repeat (first | refine blk_drewN ?_ _ | refine blk_drew ?_ | refine blk_alloc ?_ _)); exact BK137.out⟩, ⟨by repeat (first | (with_reducible first | exact HB.out | apply below_alloc | apply pw_below_drewN | apply below_drew1 | refine below_set ?_ GE137.out) | exact HB.out)⟩⟩
 case round =>
  clear H'
  try clear c1
  try clear c2
  try clear p2
  obtain ⟨x6_1, x13_1, x138000_1, x138001_1, x138002_1, x138003_1, x138004_1, u138004, rfl, rfl, HA, HK1, HO_138004, BK137, HB⟩ := hrel
  cases gk with
  | zero => exact absurd HA.out (by simp [tree_Number.l0])
  | succ k1 =>
   have H := HA.out
   clear HA
   simp only [tree_Number.l0] at H
   by_cases c4 : x13_1 < (l1.length : Int)
   ·rw [if_pos c4] at H
    have c4b0 : decide (x13_1 < (l1.length : Int)) = true := decide_eq_true c4
    clear c4
    by_cases c5 : 0 ≤ x13_1
    ·rw [if_pos c5] at H
     have c5b0 : decide (0 ≤ x13_1) = true := decide_eq_true c5
     clear c5
     by_cases c6 : x13_1 < (l1.length : Int)
     ·rw [if_pos c6] at H
      have c6b0 : decide (x13_1 < (l1.length : Int)) = true := decide_eq_true c6
      clear c6
      have HC7 := Aside0.mk H
      clear H
      have p138 : 0 ≤ (x13_1 : Int) := of_decide_eq_true (by first | (with_reducible assumption) | assumption)
      have q138 : x13_1 < (l1.length : Int) := of_decide_eq_true (by first | (with_reducible assumption) | assumption)
      obtain ⟨ad138, e138, hx138_0⟩ := Kd.at_int HR1.out x13_1 p138 q138
      cases e138
      replace hx138_0 := (HB.out.cell (World.block_lt_of_cell? w _ hx138_0)).trans hx138_0
      replace p138 := eq_true p138
      replace q138 := eq_true q138
      go_upto_region 5 with (fail)
      go_cut [25] (fun v25 wc => ∃ (kq : Nat) (x25_6 : Bool), v25 = .bool x25_6 ∧ Aside0 (tree_Number.j1 kq x6_1 (rd l1 x13_1) l1 (l1.length : Int) x13_1 x25_6 x138000_1 x138001_1 x138002_1 x138003_1 x138004_1 = some (r1, r2)) ∧ Aside0 (kq ≤ k1) ∧ Aside0 (Kd.V k24 24 wc w.heap.size (fun k_ => (P0_4_ k_ ∨ w.heap.size ≤ k_) ∧ k_ ≠ gb137) u138004 x138004_1) ∧ Aside0 (wc.heap[gb137]? = some (.cells #[.int .i64 x138000_1, .string x138001_1, .int .i64 x138002_1, .int .i64 x138003_1, u138004] 24 (0, 0))) ∧ Aside0 (Below w.heap.size w wc))
      case first =>
       have H := HC7.out
       clear HC7
       by_cases c8 : (rd l1 x13_1) < 0
       ·rw [if_pos c8] at H
        have c8b0 : decide ((rd l1 x13_1) < 0) = true := decide_eq_true c8
        clear c8
        (first | rw [c8b0] | (simp only [i64_w, i32_w]; rw [c8b0]) | skip)
        have H' := Aside0.mk H
        clear H
        go_wp2
        go_meet
        case rel => exact ⟨_, (true), (by first | rfl | (simp; done) | (simp [*]; done)), H', ⟨by have := HK1.out; first | omega | exact Nat.le_refl _⟩, ⟨by (with_reducible repeat (first | apply Kd.V_alloc | apply Kd.V_drewN | apply Kd.V_drew)); exact HO_138004.out⟩, ⟨by (with_reducible repeat (first | refine blk_drewN ?_ _ | refine blk_drew ?_ | refine blk_alloc ?_ _)); exact BK137.out⟩, ⟨by repeat (first | (with_reducible first | exact HB.out | apply below_alloc | apply pw_below_drewN | apply below_drew1 | refine below_set ?_ GE137.out) | exact HB.out)⟩⟩
       ·rw [if_neg c8] at H
        have c8b0 : decide ((rd l1 x13_1) < 0) = false := decide_eq_false c8
        clear c8
        (first | rw [c8b0] | (simp only [i64_w, i32_w]; rw [c8b0]) | skip)
        have H' := Aside0.mk H
        clear H
        have hcz9_0 : wr.cell? ⟨gb137, 0, none⟩ = some (.int .i64 x138000_1) := (blk_cell BK137.out 0).trans rfl
        have hcz9_1 : wr.cell? ⟨gb137, 1, none⟩ = some (.string x138001_1) := (blk_cell BK137.out 1).trans rfl
        have hcz9_2 : wr.cell? ⟨gb137, 2, none⟩ = some (.int .i64 x138002_1) := (blk_cell BK137.out 2).trans rfl
        have hcz9_3 : wr.cell? ⟨gb137, 3, none⟩ = some (.int .i64 x138003_1) := (blk_cell BK137.out 3).trans rfl
        have hcz9_4 : wr.cell? ⟨gb137, 4, none⟩ = some (u138004) := (blk_cell BK137.out 4).trans rfl
        have hfz9_0 := blk_frozen BK137.out 0
        have hfz9_1 := blk_frozen BK137.out 1
        have hfz9_2 := blk_frozen BK137.out 2
        have hfz9_3 := blk_frozen BK137.out 3
        have hfz9_4 := blk_frozen BK137.out 4
        obtain ⟨Ao10, co10, eo10⟩ := Kd.V_slice HO_138004.out
        subst eo10
        go_wp2
        go_meet
        case rel => exact ⟨_, (decide ((rd l1 x13_1) ≥ (x138004_1.length : Int))), (by first | rfl | (simp; done) | (simp [*]; done)), H', ⟨by have := HK1.out; first | omega | exact Nat.le_refl _⟩, ⟨by (with_reducible repeat (first | apply Kd.V_alloc | apply Kd.V_drewN | apply Kd.V_drew)); exact HO_138004.out⟩, ⟨by (with_reducible repeat (first | refine blk_drewN ?_ _ | refine blk_drew ?_ | refine blk_alloc ?_ _)); exact BK137.out⟩, ⟨by repeat (first | (with_reducible first | exact HB.out | apply below_alloc | apply pw_below_drewN | apply below_drew1 | refine below_set ?_ GE137.out) | exact HB.out)⟩⟩
      case rest =>
       clear HC7
       try clear c1
       try clear p1
       try clear q1
       try clear hx1
       try clear c2
       try clear p2
       try clear c4
       try clear c4b0
       try clear c5
       try clear c5b0
       try clear c6
       try clear c6b0
       try clear c8
       try clear c8b0
       try clear hcz9_0
       try clear hcz9_1
       try clear hcz9_2
       try clear hcz9_3
       try clear hcz9_4
       try clear hfz9_0
       try clear hfz9_1
       try clear hfz9_2
       try clear hfz9_3
       try clear hfz9_4
       try clear hx138_0
       try clear p138
       try clear p2
       try clear q138
       obtain ⟨kq, x25_6, rfl, HA, HJ6, HO_138004, BK137, HB⟩ := hcut
       cases kq with
       | zero => exact absurd HA.out (by simp [tree_Number.j1])
       | succ kj6 =>
        have H := HA.out
        clear HA
        simp only [tree_Number.j1] at H
        by_cases c11 : x25_6 = true
        ·subst c11
         have H1 : (some (0, false)) = some (r1, r2) := by rw [if_pos rfl] at H; exact H
         clear H
         have H := H1
         clear H1
         simp only [Option.some.injEq, Prod.mk.injEq] at H
         obtain ⟨rfl, rfl⟩ := H
         go_wp2
         go_ret2
         exact ⟨by first | rfl | (simp [errW_none, errW_some] <;> rfl) | (simp [*, errW_none, errW_some] <;> rfl) | (simp [IntKind.wrap_i64, wrap64]; done), by repeat (first | (with_reducible first | exact HB.out | apply below_alloc | apply pw_below_drewN | apply below_drew1 | refine below_set ?_ GE137.out) | exact HB.out)⟩
        ·replace c11 := Bool.eq_false_iff.mpr c11
         subst c11
         have H1 : (if 0 ≤ (rd l1 x13_1) then (if (rd l1 x13_1) ≤ (x138004_1.length : Int) then ((some (x138004_1.take ((rd l1 x13_1) : Int).toNat : List (S24))).bind fun y139 => (tree_Number.l1 kj6 (wrap64 (x6_1 + 1)) (rd l1 x13_1) l1 (l1.length : Int) x13_1 y139 (y139.length : Int) 0 x138000_1 x138001_1 x138002_1 x138003_1 x138004_1)) else (none)) else (none)) = some (r1, r2) := by rw [if_neg (show ¬ (false = true) by decide)] at H; exact H
         clear H
         have H := H1
         clear H1
         by_cases c12 : 0 ≤ (rd l1 x13_1)
         ·rw [if_pos c12] at H
          have c12b0 := eq_true c12
          have c12b1 : decide (0 ≤ (rd l1 x13_1)) = true := decide_eq_true c12
          clear c12
          by_cases c13 : (rd l1 x13_1) ≤ (x138004_1.length : Int)
          ·rw [if_pos c13] at H
           have c13b0 := eq_true c13
           have c13b1 : decide ((rd l1 x13_1) ≤ (x138004_1.length : Int)) = true := decide_eq_true c13
           clear c13
           obtain ⟨y139, hy139⟩ : ∃ y_ : List (S24), y_ = (x138004_1.take ((rd l1 x13_1) : Int).toNat) := ⟨_, rfl⟩
           replace H : (tree_Number.l1 kj6 (wrap64 (x6_1 + 1)) (rd l1 x13_1) l1 (l1.length : Int) x13_1 y139 (y139.length : Int) 0 x138000_1 x138001_1 x138002_1 x138003_1 x138004_1) = some (r1, r2) := by first | (rw [hy139]; with_reducible exact H) | (have H2_ := (Option.bind_some _ _).symm.trans H; rw [hy139]; with_reducible exact H2_) | (have H2_ := (Option.bind_some _ _).symm.trans H; with_reducible exact H2_) | with_reducible exact H | (rw [hy139]; exact H) | exact H
           have Ny139 := Aside0.mk hy139
           clear hy139
           have H' := Aside0.mk H
           clear H
           have hcz14_0 : wc.cell? ⟨gb137, 0, none⟩ = some (.int .i64 x138000_1) := (blk_cell BK137.out 0).trans rfl
           have hcz14_1 : wc.cell? ⟨gb137, 1, none⟩ = some (.string x138001_1) := (blk_cell BK137.out 1).trans rfl
           have hcz14_2 : wc.cell? ⟨gb137, 2, none⟩ = some (.int .i64 x138002_1) := (blk_cell BK137.out 2).trans rfl
           have hcz14_3 : wc.cell? ⟨gb137, 3, none⟩ = some (.int .i64 x138003_1) := (blk_cell BK137.out 3).trans rfl
           have hcz14_4 : wc.cell? ⟨gb137, 4, none⟩ = some (u138004) := (blk_cell BK137.out 4).trans rfl
           have hfz14_0 := blk_frozen BK137.out 0
           have hfz14_1 := blk_frozen BK137.out 1
           have hfz14_2 := blk_frozen BK137.out 2
           have hfz14_3 := blk_frozen BK137.out 3
           have hfz14_4 := blk_frozen BK137.out 4
           obtain ⟨Ao16, co16, eo16⟩ := Kd.V_slice HO_138004.out
           subst eo16
           have q15 : ((rd l1 x13_1) : Int) ≤ ((x138004_1.length : Int) : Int) := of_decide_eq_true (by first | (with_reducible assumption) | assumption)
           obtain ⟨i015, hi015, _, hsz15, _⟩ := info_parts info24
           have hroom15 : x138004_1.length ≤ co16 := (Kd.V_reads' HO_138004.out).2.1
           have hC15 : Kd.F k24 _ _ Ao16 x138004_1.length x138004_1 := (Kd.V_at (base := w.heap.size) HO_138004.out).2.2
           have hcut15 := cut_to (P := Try.prog) 22 24 .i64 Try.underlying22 hi015 Ao16 x138004_1.length co16 (rd l1 x13_1) (of_decide_eq_true (by first | (with_reducible assumption) | assumption)) q15 hroom15
           have hr15 := Kd.F_take (m := ((rd l1 x13_1) : Int).toNat) hC15 (by omega)
           have hy15 : y139.length = ((rd l1 x13_1) : Int).toNat := (by rw [Ny139.out, List.length_take]; omega)
           rw [← Ny139.out] at hr15
           rw [← hy15] at hcut15
           have HO143 := Aside0.mk (show Kd.V k24 24 _ w.heap.size _ (.slice Ao16 y139.length co16) y139 from Kd.V_mk (by omega) hr15)
           have HC143 := Aside0.mk (show y139.length ≤ co16 from by omega)
           clear hr15 hC15 hroom15 hi015 hsz15
           have KY15 := Aside0.mk hy15
           clear hy15
           replace q15 := eq_true q15
           go_wp2
           go_loopg [6, 33] kj6 (fun kq v6 v33 w' => ∃ (x6_3 : Int) (x33_3 : Int), v6 = .int .i64 x6_3 ∧ v33 = .int .i64 x33_3 ∧ Aside0 (tree_Number.l1 kq x6_3 (rd l1 x13_1) l1 (l1.length : Int) x13_1 y139 (y139.length : Int) x33_3 x138000_1 x138001_1 x138002_1 x138003_1 x138004_1 = some (r1, r2)) ∧ Aside0 (kq ≤ kj6) ∧ Aside0 (Kd.V k24 24 w' w.heap.size (fun k_ => (P0_4_ k_ ∨ w.heap.size ≤ k_) ∧ k_ ≠ gb137) (.slice Ao16 y139.length co16) y139) ∧ Aside0 (Kd.V k24 24 w' w.heap.size (fun k_ => (P0_4_ k_ ∨ w.heap.size ≤ k_) ∧ k_ ≠ gb137) (.slice Ao16 x138004_1.length co16) x138004_1) ∧ Aside0 (w'.heap[gb137]? = some (.cells #[.int .i64 x138000_1, .string x138001_1, .int .i64 x138002_1, .int .i64 x138003_1, (.slice Ao16 x138004_1.length co16)] 24 (0, 0))) ∧ Aside0 (Below w.heap.size w w'))
           case atStart => exact ⟨(wrap64 (x6_1 + 1)), (0), (by first | rfl | (simp; done) | (simp [*]; done)), (by first | rfl | (simp; done) | (simp [*]; done)), H', ⟨Nat.le_refl _⟩, ⟨by (with_reducible repeat (first | apply Kd.V_alloc | apply Kd.V_drewN | apply Kd.V_drew)); exact HO143.out⟩, ⟨by (with_reducible repeat (first | apply Kd.V_alloc | apply Kd.V_drewN | apply Kd.V_drew)); exact HO_138004.out⟩, ⟨by (with_reducible repeat (first | refine blk_drewN ?_ _ | refine blk_drew ?_ | refine blk_alloc ?_ _)); exact BK137.out⟩, ⟨by repeat (first | (with_reducible first | exact HB.out | apply below_alloc | apply pw_below_drewN | apply below_drew1 | refine below_set ?_ GE137.out) | exact HB.out)⟩⟩
           case round =>
            clear H'
            try clear c1
            try clear p1
            try clear q1
            try clear hx1
            try clear c2
            try clear p2
            try clear c4
            try clear c4b0
            try clear c5
            try clear c5b0
            try clear c6
            try clear c6b0
            try clear p6
            try clear c8
            try clear c8b0
            try clear c11
            try clear c12
            try clear c12b0
            try clear c12b1
            try clear c13
            try clear c13b0
            try clear c13b1
            try clear p13
            try clear q13
            try clear hx13
            try clear q15
            try clear hcz14_0
            try clear hcz14_1
            try clear hcz14_2
            try clear hcz14_3
            try clear hcz14_4
            try clear hcz9_0
            try clear hcz9_1
            try clear hcz9_2
            try clear hcz9_3
            try clear hcz9_4
            try clear hfz14_0
            try clear hfz14_1
            try clear hfz14_2
            try clear hfz14_3
            try clear hfz14_4
            try clear hfz9_0
            try clear hfz9_1
            try clear hfz9_2
            try clear hfz9_3
            try clear hfz9_4
            try clear hx138_0
            try clear p1
            try clear p138
            try clear p2
            try clear q1
            try clear q138
            try clear q15
            obtain ⟨x6_3, x33_3, rfl, rfl, HA, HK3, HO_31, HO_138004, BK137, HB⟩ := hrel
            cases gk with
            | zero => exact absurd HA.out (by simp [tree_Number.l1])
            | succ k3 =>
             have H := HA.out
             clear HA
             simp only [tree_Number.l1] at H
             by_cases c17 : x33_3 < (y139.length : Int)
             ·rw [if_pos c17] at H
              have c17b0 : decide (x33_3 < (y139.length : Int)) = true := decide_eq_true c17
              clear c17
              by_cases c18 : 0 ≤ x33_3
              ·rw [if_pos c18] at H
               have c18b0 : decide (0 ≤ x33_3) = true := decide_eq_true c18
               clear c18
               by_cases c19 : x33_3 < (y139.length : Int)
               ·rw [if_pos c19] at H
                have c19b0 : decide (x33_3 < (y139.length : Int)) = true := decide_eq_true c19
                clear c19
                replace H := Option.bind_eq_some_iff.mp H
                obtain ⟨t146, A200, H⟩ := H
                replace H : (tree_Number.l1 k3 (wrap64 (x6_3 + t146)) (rd l1 x13_1) l1 (l1.length : Int) x13_1 y139 (y139.length : Int) (wrap64 (x33_3 + 1)) x138000_1 x138001_1 x138002_1 x138003_1 x138004_1) = some (r1, r2) := H
                have A20 := Aside0.mk A200
                clear A200
                have H' := Aside0.mk H
                clear H
                have p144 : 0 ≤ (x33_3 : Int) := of_decide_eq_true (by first | (with_reducible assumption) | assumption)
                have q144 : x33_3 < (y139.length : Int) := of_decide_eq_true (by first | (with_reducible assumption) | assumption)
                obtain ⟨ad144, A144_4, c144_4, e144, hx144_0, hx144_1, hx144_2, hx144_3, hx144_4, hl144_4, hi144_4⟩ := at_T24 (Kd.V_reads' HO_31.out).2.2 x33_3 p144 q144
                cases e144
                obtain ⟨ce144, hce144, hMe144, hcc144⟩ := Kd.V_get HO_31.out z24 x33_3 p144 (by first | exact q144 | exact of_decide_eq_true (by first | (with_reducible assumption) | assumption) | (have e_ := (Kd.V_reads' HO_31.out).1; omega))
                obtain ⟨ua144_4, uc144_4, rfl, ul144_4, ge144_4⟩ := k24_openF hMe144
                have hv144_4 := hcc144 4 _ rfl
                rw [add_field _ _ 4 (by omega)] at hv144_4
                replace hv144_4 := Option.some.inj (hv144_4.symm.trans hx144_4)
                injection hv144_4 with hva_ hvn_ hvc_
                rw [hva_] at ge144_4
                rw [hvc_] at ul144_4
                have HL144_4 := Aside0.mk (show Kd.V k24 24 _ w.heap.size _ _ ((rd_T24 y139 x33_3).f4) from Kd.V_mk ul144_4 ge144_4)
                clear hva_ hvn_ hvc_ ge144_4 ul144_4
                clear hcc144 hce144
                have HR144_4 := Aside0.mk hi144_4
                have HC144_4 := Aside0.mk hl144_4
                clear hi144_4 hl144_4
                replace p144 := eq_true p144
                replace q144 := eq_true q144
                go_wp2_with (first | ((with_reducible refine gate_dst (N := 10) rfl ?_); (try (refine gate_guard (by rfl) ?_; dsimp only)); refine box_event ?hg (N := 10) ?hd (cs := #[.int .i64 0, .string (⟨#[]⟩ : ByteArray), .int .i64 0, .int .i64 0, .slice none 0 0]) (t := 24) ?hr ?_; (case hd => rfl); (case hg => rfl); (case hr => first | (go_simp; done) | (go_simp; rfl)); intro gb145 hg w21 hbox hb; have n0_ := Aside0.mk (Kd.V_below (Kd.V_elderB (by (with_reducible repeat (first | apply Kd.V_alloc | apply Kd.V_drewN | apply Kd.V_drew)); exact HO_31.out) gb145 (Nat.le_of_eq hg.symm)) hb); have n1_ := Aside0.mk (Kd.V_below (Kd.V_elderB (by (with_reducible repeat (first | apply Kd.V_alloc | apply Kd.V_drewN | apply Kd.V_drew)); exact HO_138004.out) gb145 (Nat.le_of_eq hg.symm)) hb); have n2_ := Aside0.mk (Kd.V_below (Kd.V_elderB (by (with_reducible repeat (first | apply Kd.V_alloc | apply Kd.V_drewN | apply Kd.V_drew)); exact HL144_4.out) gb145 (Nat.le_of_eq hg.symm)) hb); have n3_ := Aside0.mk (blk_below (g := gb137) (o := .cells #[.int .i64 x138000_1, .string x138001_1, .int .i64 x138002_1, .int .i64 x138003_1, .slice (some ad144) x138004_1.length co16] 24 (0, 0)) (by (with_reducible repeat (first | refine blk_drewN ?_ _ | refine blk_drew ?_ | refine blk_alloc ?_ _)); exact BK137.out) hb); have n4_ := Aside0.mk (Kd.C_below (by repeat (first | (with_reducible exact HR144_4.out) | (with_reducible refine Kd.C_alloc ?_ _) | (with_reducible refine Kd.C_drewN ?_ _) | (with_reducible refine Kd.C_drew ?_) | exact HR144_4.out)) hb); have n5_ := Aside0.mk (below_step (by repeat (first | (with_reducible first | exact HB.out | apply below_alloc | apply pw_below_drewN | apply below_drew1 | refine below_set ?_ GE137.out) | exact HB.out)) hb); have n6_ := Aside0.mk (hbox); have n7_ := Aside0.mk ((by rw [hg]; exact (below_size (by repeat (first | (with_reducible first | exact HB.out | apply below_alloc | apply pw_below_drewN | apply below_drew1 | refine below_set ?_ GE137.out) | exact HB.out))) : w.heap.size ≤ gb145)); have n8_ := Aside0.mk ((by rw [hg]; exact (below_size (by repeat (first | (with_reducible first | exact HB.out | apply below_alloc | apply pw_below_drewN | apply below_drew1 | refine below_set ?_ GE137.out) | exact HB.out))) : w.heap.size ≤ gb145)); have n9_ := Aside0.mk ((by rw [hg]; exact Nat.ne_of_lt (blk_lt (g := gb137) (o := .cells #[.int .i64 x138000_1, .string x138001_1, .int .i64 x138002_1, .int .i64 x138003_1, .slice (some ad144) x138004_1.length co16] 24 (0, 0)) (by (with_reducible repeat (first | refine blk_drewN ?_ _ | refine blk_drew ?_ | refine blk_alloc ?_ _)); exact BK137.out)) : gb137 ≠ gb145)); have n10_ := Aside0.mk ((by rw [hg]; exact Nat.ne_of_gt (blk_lt (g := gb137) (o := .cells #[.int .i64 x138000_1, .string x138001_1, .int .i64 x138002_1, .int .i64 x138003_1, .slice (some ad144) x138004_1.length co16] 24 (0, 0)) (by (with_reducible repeat (first | refine blk_drewN ?_ _ | refine blk_drew ?_ | refine blk_alloc ?_ _)); exact BK137.out)) : gb145 ≠ gb137)); clear HO_31; clear HO_138004; clear HL144_4; clear BK137; clear HR144_4; clear HB; have HO_31 := n0_; have HO_138004 := n1_; have HL144_4 := n2_; have BK137 := n3_; have HR144_4 := n4_; have HB := n5_; have BK145 := n6_; have GW145 := n7_; have GE145 := n8_; have NB137_145 := n9_; have NB145_137 := n10_; clear n0_ n1_ n2_ n3_ n4_ n5_ n6_ n7_ n8_ n9_ n10_; clear hb hbox hg; have hnb22 := NB145_137.out; have hnc22 := NB137_145.out; have hcz23_0 : w21.cell? ⟨gb145, 0, none⟩ = some (.int .i64 0) := (blk_cell BK145.out 0).trans rfl; have hcz23_1 : w21.cell? ⟨gb145, 1, none⟩ = some (.string (⟨#[]⟩ : ByteArray)) := (blk_cell BK145.out 1).trans rfl; have hcz23_2 : w21.cell? ⟨gb145, 2, none⟩ = some (.int .i64 0) := (blk_cell BK145.out 2).trans rfl; have hcz23_3 : w21.cell? ⟨gb145, 3, none⟩ = some (.int .i64 0) := (blk_cell BK145.out 3).trans rfl; have hcz23_4 : w21.cell? ⟨gb145, 4, none⟩ = some (.slice none 0 0) := (blk_cell BK145.out 4).trans rfl; have hfz23_0 := blk_frozen BK145.out 0; have hfz23_1 := blk_frozen BK145.out 1; have hfz23_2 := blk_frozen BK145.out 2; have hfz23_3 := blk_frozen BK145.out 3; have hfz23_4 := blk_frozen BK145.out 4) | ((with_reducible refine gate_callee (f := 22) rfl ?_); refine goesL_ (some 39) rfl rfl Try.func22 (by kernel_rfl) rfl #[.agg #[.int .i64 ((rd_T24 y139 x33_3).f0), .string ((rd_T24 y139 x33_3).f1), .int .i64 ((rd_T24 y139 x33_3).f2), .int .i64 ((rd_T24 y139 x33_3).f3), .slice A144_4 ((rd_T24 y139 x33_3).f4).length c144_4]] rfl (by (try simp only [List.map_toArray, List.map_cons, List.map_nil]); first | done | rfl | (simp only [List.length_drop, List.length_take]; rfl)) ?_; (with_reducible refine (tree_Count.calls ((rd_T24 y139 x33_3).f0) ((rd_T24 y139 x33_3).f1) ((rd_T24 y139 x33_3).f2) ((rd_T24 y139 x33_3).f3) _ _ ((rd_T24 y139 x33_3).f4) t146 _ ?side1 ?side2 A20.out).mono ?_); (case side1 => repeat (first | exact ((Kd.V_reads' (by (with_reducible repeat (first | apply Kd.V_alloc | apply Kd.V_drewN | apply Kd.V_drew)); exact (Kd.V_mono (Kd.V_far (p := ⟨gb145, 4, none⟩) (Kd.V_far (p := ⟨gb145, 3, none⟩) (Kd.V_far (p := ⟨gb145, 2, none⟩) (Kd.V_far (p := ⟨gb145, 1, none⟩) (Kd.V_far (p := ⟨gb145, 0, none⟩) (Kd.V_mono HL144_4.out (fun k_ hk => (⟨hk, hk.2⟩ : _ ∧ k_ ≠ gb145))) (fun _ hk => hk.2) (.int .i64 ((rd_T24 y139 x33_3).f0))) (fun _ hk => hk.2) (.string ((rd_T24 y139 x33_3).f1))) (fun _ hk => hk.2) (.int .i64 ((rd_T24 y139 x33_3).f2))) (fun _ hk => hk.2) (.int .i64 ((rd_T24 y139 x33_3).f3))) (fun _ hk => hk.2) (.slice A144_4 ((rd_T24 y139 x33_3).f4).length c144_4)) (fun _ h_ => h_.1)))).2.2) | (with_reducible refine Kd.C_alloc ?_ _) | (with_reducible refine Kd.C_drewN ?_ _) | (with_reducible refine Kd.C_drew ?_))); (case side2 => exact HC144_4.out); rintro e w24 ⟨rfl, hb⟩; refine ⟨_, rfl, ?_⟩; have n0_ := Aside0.mk (Kd.V_below (by (with_reducible repeat (first | apply Kd.V_alloc | apply Kd.V_drewN | apply Kd.V_drew)); exact (Kd.V_mono (Kd.V_far (p := ⟨gb145, 4, none⟩) (Kd.V_far (p := ⟨gb145, 3, none⟩) (Kd.V_far (p := ⟨gb145, 2, none⟩) (Kd.V_far (p := ⟨gb145, 1, none⟩) (Kd.V_far (p := ⟨gb145, 0, none⟩) (Kd.V_mono HO_31.out (fun k_ hk => (⟨hk, hk.2⟩ : _ ∧ k_ ≠ gb145))) (fun _ hk => hk.2) (.int .i64 ((rd_T24 y139 x33_3).f0))) (fun _ hk => hk.2) (.string ((rd_T24 y139 x33_3).f1))) (fun _ hk => hk.2) (.int .i64 ((rd_T24 y139 x33_3).f2))) (fun _ hk => hk.2) (.int .i64 ((rd_T24 y139 x33_3).f3))) (fun _ hk => hk.2) (.slice A144_4 ((rd_T24 y139 x33_3).f4).length c144_4)) (fun _ h_ => h_.1))) hb); have n1_ := Aside0.mk (Kd.V_below (by (with_reducible repeat (first | apply Kd.V_alloc | apply Kd.V_drewN | apply Kd.V_drew)); exact (Kd.V_mono (Kd.V_far (p := ⟨gb145, 4, none⟩) (Kd.V_far (p := ⟨gb145, 3, none⟩) (Kd.V_far (p := ⟨gb145, 2, none⟩) (Kd.V_far (p := ⟨gb145, 1, none⟩) (Kd.V_far (p := ⟨gb145, 0, none⟩) (Kd.V_mono HO_138004.out (fun k_ hk => (⟨hk, hk.2⟩ : _ ∧ k_ ≠ gb145))) (fun _ hk => hk.2) (.int .i64 ((rd_T24 y139 x33_3).f0))) (fun _ hk => hk.2) (.string ((rd_T24 y139 x33_3).f1))) (fun _ hk => hk.2) (.int .i64 ((rd_T24 y139 x33_3).f2))) (fun _ hk => hk.2) (.int .i64 ((rd_T24 y139 x33_3).f3))) (fun _ hk => hk.2) (.slice A144_4 ((rd_T24 y139 x33_3).f4).length c144_4)) (fun _ h_ => h_.1))) hb); have n2_ := Aside0.mk (Kd.V_below (by (with_reducible repeat (first | apply Kd.V_alloc | apply Kd.V_drewN | apply Kd.V_drew)); exact (Kd.V_mono (Kd.V_far (p := ⟨gb145, 4, none⟩) (Kd.V_far (p := ⟨gb145, 3, none⟩) (Kd.V_far (p := ⟨gb145, 2, none⟩) (Kd.V_far (p := ⟨gb145, 1, none⟩) (Kd.V_far (p := ⟨gb145, 0, none⟩) (Kd.V_mono HL144_4.out (fun k_ hk => (⟨hk, hk.2⟩ : _ ∧ k_ ≠ gb145))) (fun _ hk => hk.2) (.int .i64 ((rd_T24 y139 x33_3).f0))) (fun _ hk => hk.2) (.string ((rd_T24 y139 x33_3).f1))) (fun _ hk => hk.2) (.int .i64 ((rd_T24 y139 x33_3).f2))) (fun _ hk => hk.2) (.int .i64 ((rd_T24 y139 x33_3).f3))) (fun _ hk => hk.2) (.slice A144_4 ((rd_T24 y139 x33_3).f4).length c144_4)) (fun _ h_ => h_.1))) hb); have n3_ := Aside0.mk (blk_below (g := gb137) (o := .cells #[.int .i64 x138000_1, .string x138001_1, .int .i64 x138002_1, .int .i64 x138003_1, .slice (some ad144) x138004_1.length co16] 24 (0, 0)) (by (with_reducible repeat (first | refine blk_drewN ?_ _ | refine blk_drew ?_ | refine blk_alloc ?_ _)); refine blk_far ?_ NB137_145.out _; (with_reducible repeat (first | refine blk_drewN ?_ _ | refine blk_drew ?_ | refine blk_alloc ?_ _)); refine blk_far ?_ NB137_145.out _; (with_reducible repeat (first | refine blk_drewN ?_ _ | refine blk_drew ?_ | refine blk_alloc ?_ _)); refine blk_far ?_ NB137_145.out _; (with_reducible repeat (first | refine blk_drewN ?_ _ | refine blk_drew ?_ | refine blk_alloc ?_ _)); refine blk_far ?_ NB137_145.out _; (with_reducible repeat (first | refine blk_drewN ?_ _ | refine blk_drew ?_ | refine blk_alloc ?_ _)); refine blk_far ?_ NB137_145.out _; (with_reducible repeat (first | refine blk_drewN ?_ _ | refine blk_drew ?_ | refine blk_alloc ?_ _)); exact BK137.out) hb); have n4_ := Aside0.mk (Kd.C_below ((Kd.V_reads' (by (with_reducible repeat (first | apply Kd.V_alloc | apply Kd.V_drewN | apply Kd.V_drew)); exact (Kd.V_mono (Kd.V_far (p := ⟨gb145, 4, none⟩) (Kd.V_far (p := ⟨gb145, 3, none⟩) (Kd.V_far (p := ⟨gb145, 2, none⟩) (Kd.V_far (p := ⟨gb145, 1, none⟩) (Kd.V_far (p := ⟨gb145, 0, none⟩) (Kd.V_mono HL144_4.out (fun k_ hk => (⟨hk, hk.2⟩ : _ ∧ k_ ≠ gb145))) (fun _ hk => hk.2) (.int .i64 ((rd_T24 y139 x33_3).f0))) (fun _ hk => hk.2) (.string ((rd_T24 y139 x33_3).f1))) (fun _ hk => hk.2) (.int .i64 ((rd_T24 y139 x33_3).f2))) (fun _ hk => hk.2) (.int .i64 ((rd_T24 y139 x33_3).f3))) (fun _ hk => hk.2) (.slice A144_4 ((rd_T24 y139 x33_3).f4).length c144_4)) (fun _ h_ => h_.1)))).2.2) hb); have n5_ := Aside0.mk (blk_below (g := gb145) (o := .cells #[.int .i64 ((rd_T24 y139 x33_3).f0), .string ((rd_T24 y139 x33_3).f1), .int .i64 ((rd_T24 y139 x33_3).f2), .int .i64 ((rd_T24 y139 x33_3).f3), .slice A144_4 ((rd_T24 y139 x33_3).f4).length c144_4] 24 (0, 0)) (by (with_reducible repeat (first | refine blk_drewN ?_ _ | refine blk_drew ?_ | refine blk_alloc ?_ _)); refine blk_put (cs := #[.int .i64 ((rd_T24 y139 x33_3).f0), .string ((rd_T24 y139 x33_3).f1), .int .i64 ((rd_T24 y139 x33_3).f2), .int .i64 ((rd_T24 y139 x33_3).f3), .slice none 0 0]) ?_ 4 _ rfl; (with_reducible repeat (first | refine blk_drewN ?_ _ | refine blk_drew ?_ | refine blk_alloc ?_ _)); refine blk_put (cs := #[.int .i64 ((rd_T24 y139 x33_3).f0), .string ((rd_T24 y139 x33_3).f1), .int .i64 ((rd_T24 y139 x33_3).f2), .int .i64 0, .slice none 0 0]) ?_ 3 _ rfl; (with_reducible repeat (first | refine blk_drewN ?_ _ | refine blk_drew ?_ | refine blk_alloc ?_ _)); refine blk_put (cs := #[.int .i64 ((rd_T24 y139 x33_3).f0), .string ((rd_T24 y139 x33_3).f1), .int .i64 0, .int .i64 0, .slice none 0 0]) ?_ 2 _ rfl; (with_reducible repeat (first | refine blk_drewN ?_ _ | refine blk_drew ?_ | refine blk_alloc ?_ _)); refine blk_put (cs := #[.int .i64 ((rd_T24 y139 x33_3).f0), .string (⟨#[]⟩ : ByteArray), .int .i64 0, .int .i64 0, .slice none 0 0]) ?_ 1 _ rfl; (with_reducible repeat (first | refine blk_drewN ?_ _ | refine blk_drew ?_ | refine blk_alloc ?_ _)); refine blk_put (cs := #[.int .i64 0, .string (⟨#[]⟩ : ByteArray), .int .i64 0, .int .i64 0, .slice none 0 0]) ?_ 0 _ rfl; (with_reducible repeat (first | refine blk_drewN ?_ _ | refine blk_drew ?_ | refine blk_alloc ?_ _)); exact BK145.out) hb); have n6_ := Aside0.mk (below_step (by repeat (first | (with_reducible first | exact HB.out | apply below_alloc | apply pw_below_drewN | apply below_drew1 | refine below_set ?_ GE137.out | refine below_set ?_ GE145.out) | exact HB.out)) hb); clear HO_31; clear HO_138004; clear HL144_4; clear BK137; clear HR144_4; clear BK145; clear HB; have HO_31 := n0_; have HO_138004 := n1_; have HL144_4 := n2_; have BK137 := n3_; have HR144_4 := n4_; have BK145 := n5_; have HB := n6_; clear n0_ n1_ n2_ n3_ n4_ n5_ n6_; (try clear hb); (try clear hb2); (try clear hk); (try clear hi)))
                go_roundg k3
                case measure => have := HK1.out; have := HJ6.out; have := HK3.out; omega
                case rel => exact ⟨(wrap64 (x6_3 + t146)), (wrap64 (x33_3 + 1)), (by first | rfl | (simp; done) | (simp [*]; done)), (by first | rfl | (simp; done) | (simp [*]; done)), H', ⟨by have := HK1.out; have := HJ6.out; have := HK3.out; omega⟩, ⟨by (with_reducible repeat (first | apply Kd.V_alloc | apply Kd.V_drewN | apply Kd.V_drew)); exact Kd.V_mono HO_31.out (fun _ hk => ⟨hk.1.1, hk.1.2⟩)⟩, ⟨by (with_reducible repeat (first | apply Kd.V_alloc | apply Kd.V_drewN | apply Kd.V_drew)); exact Kd.V_mono HO_138004.out (fun _ hk => ⟨hk.1.1, hk.1.2⟩)⟩, ⟨by (with_reducible repeat (first | refine blk_drewN ?_ _ | refine blk_drew ?_ | refine blk_alloc ?_ _)); exact BK137.out⟩, ⟨by repeat (first | (with_reducible first | exact HB.out | apply below_alloc | apply pw_below_drewN | apply below_drew1 | refine below_set ?_ GE137.out | refine below_set ?_ GE145.out) | exact HB.out)⟩⟩
               ·rw [if_neg c19] at H
                exact absurd H (by simp)
              ·rw [if_neg c18] at H
               exact absurd H (by simp)
             ·rw [if_neg c17] at H
              have c17b0 : decide (x33_3 < (y139.length : Int)) = false := decide_eq_false c17
              clear c17
              by_cases c25 : 0 ≤ (rd l1 x13_1)
              ·rw [if_pos c25] at H
               have c25b0 : decide (0 ≤ (rd l1 x13_1)) = true := decide_eq_true c25
               clear c25
               by_cases c26 : (rd l1 x13_1) < (x138004_1.length : Int)
               ·rw [if_pos c26] at H
                have c26b0 : decide ((rd l1 x13_1) < (x138004_1.length : Int)) = true := decide_eq_true c26
                clear c26
                have H' := Aside0.mk H
                clear H
                have hcz27_0 : wr.cell? ⟨gb137, 0, none⟩ = some (.int .i64 x138000_1) := (blk_cell BK137.out 0).trans rfl
                have hcz27_1 : wr.cell? ⟨gb137, 1, none⟩ = some (.string x138001_1) := (blk_cell BK137.out 1).trans rfl
                have hcz27_2 : wr.cell? ⟨gb137, 2, none⟩ = some (.int .i64 x138002_1) := (blk_cell BK137.out 2).trans rfl
                have hcz27_3 : wr.cell? ⟨gb137, 3, none⟩ = some (.int .i64 x138003_1) := (blk_cell BK137.out 3).trans rfl
                have hcz27_4 : wr.cell? ⟨gb137, 4, none⟩ = some (.slice Ao16 x138004_1.length co16) := (blk_cell BK137.out 4).trans rfl
                have hfz27_0 := blk_frozen BK137.out 0
                have hfz27_1 := blk_frozen BK137.out 1
                have hfz27_2 := blk_frozen BK137.out 2
                have hfz27_3 := blk_frozen BK137.out 3
                have hfz27_4 := blk_frozen BK137.out 4
                have p147 : 0 ≤ ((rd l1 x13_1) : Int) := of_decide_eq_true (by first | (with_reducible assumption) | assumption)
                have q147 : (rd l1 x13_1) < (x138004_1.length : Int) := of_decide_eq_true (by first | (with_reducible assumption) | assumption)
                obtain ⟨ad147, A147_4, c147_4, e147, hx147_0, hx147_1, hx147_2, hx147_3, hx147_4, hl147_4, hi147_4⟩ := at_T24 (Kd.V_reads' HO_138004.out).2.2 (rd l1 x13_1) p147 q147
                cases e147
                obtain ⟨ce147, hce147, hMe147, hcc147⟩ := Kd.V_get HO_138004.out z24 (rd l1 x13_1) p147 (by first | exact q147 | exact of_decide_eq_true (by first | (with_reducible assumption) | assumption) | (have e_ := (Kd.V_reads' HO_138004.out).1; omega))
                obtain ⟨ua147_4, uc147_4, rfl, ul147_4, ge147_4⟩ := k24_openF hMe147
                have hv147_4 := hcc147 4 _ rfl
                rw [add_field _ _ 4 (by omega)] at hv147_4
                replace hv147_4 := Option.some.inj (hv147_4.symm.trans hx147_4)
                injection hv147_4 with hva_ hvn_ hvc_
                rw [hva_] at ge147_4
                rw [hvc_] at ul147_4
                have HL147_4 := Aside0.mk (show Kd.V k24 24 _ w.heap.size _ _ ((rd_T24 x138004_1 (rd l1 x13_1)).f4) from Kd.V_mk ul147_4 ge147_4)
                clear hva_ hvn_ hvc_ ge147_4 ul147_4
                clear hcc147 hce147
                have HR147_4 := Aside0.mk hi147_4
                have HC147_4 := Aside0.mk hl147_4
                clear hi147_4 hl147_4
                replace p147 := eq_true p147
                replace q147 := eq_true q147
                go_wp2
                go_roundg k3
                case measure => have := HK1.out; have := HJ6.out; have := HK3.out; omega
                case rel => exact ⟨(x6_3), (wrap64 (x13_1 + 1)), ((rd_T24 x138004_1 (rd l1 x13_1)).f0), ((rd_T24 x138004_1 (rd l1 x13_1)).f1), ((rd_T24 x138004_1 (rd l1 x13_1)).f2), ((rd_T24 x138004_1 (rd l1 x13_1)).f3), ((rd_T24 x138004_1 (rd l1 x13_1)).f4), (.slice A147_4 ((rd_T24 x138004_1 (rd l1 x13_1)).f4).length c147_4), (by first | rfl | (simp; done) | (simp [*]; done)), (by first | rfl | (simp; done) | (simp [*]; done)), H', ⟨by have := HK1.out; have := HJ6.out; have := HK3.out; omega⟩, ⟨by (with_reducible repeat (first | apply Kd.V_alloc | apply Kd.V_drewN | apply Kd.V_drew)); exact Kd.V_mono (Kd.V_far (p := ⟨gb137, 4, none⟩) (Kd.V_far (p := ⟨gb137, 3, none⟩) (Kd.V_far (p := ⟨gb137, 2, none⟩) (Kd.V_far (p := ⟨gb137, 1, none⟩) (Kd.V_far (p := ⟨gb137, 0, none⟩) (Kd.V_mono HL147_4.out (fun k_ hk => (⟨hk, hk.2⟩ : _ ∧ k_ ≠ gb137))) (fun _ hk => hk.2) (.int .i64 ((rd_T24 x138004_1 (rd l1 x13_1)).f0))) (fun _ hk => hk.2) (.string ((rd_T24 x138004_1 (rd l1 x13_1)).f1))) (fun _ hk => hk.2) (.int .i64 ((rd_T24 x138004_1 (rd l1 x13_1)).f2))) (fun _ hk => hk.2) (.int .i64 ((rd_T24 x138004_1 (rd l1 x13_1)).f3))) (fun _ hk => hk.2) (.slice A147_4 ((rd_T24 x138004_1 (rd l1 x13_1)).f4).length c147_4)) (fun _ hk => ⟨hk.1.1, hk.1.2⟩)⟩, ⟨by (with_reducible repeat (first | refine blk_drewN ?_ _ | refine blk_drew ?_ | refine blk_alloc ?_ _)); refine blk_put (cs := #[.int .i64 ((rd_T24 x138004_1 (rd l1 x13_1)).f0), .string ((rd_T24 x138004_1 (rd l1 x13_1)).f1), .int .i64 ((rd_T24 x138004_1 (rd l1 x13_1)).f2), .int .i64 ((rd_T24 x138004_1 (rd l1 x13_1)).f3), .slice (some ad147) x138004_1.length co16]) ?_ 4 _ rfl; (with_reducible repeat (first | refine blk_drewN ?_ _ | refine blk_drew ?_ | refine blk_alloc ?_ _)); refine blk_put (cs := #[.int .i64 ((rd_T24 x138004_1 (rd l1 x13_1)).f0), .string ((rd_T24 x138004_1 (rd l1 x13_1)).f1), .int .i64 ((rd_T24 x138004_1 (rd l1 x13_1)).f2), .int .i64 x138003_1, .slice (some ad147) x138004_1.length co16]) ?_ 3 _ rfl; (with_reducible repeat (first | refine blk_drewN ?_ _ | refine blk_drew ?_ | refine blk_alloc ?_ _)); refine blk_put (cs := #[.int .i64 ((rd_T24 x138004_1 (rd l1 x13_1)).f0), .string ((rd_T24 x138004_1 (rd l1 x13_1)).f1), .int .i64 x138002_1, .int .i64 x138003_1, .slice (some ad147) x138004_1.length co16]) ?_ 2 _ rfl; (with_reducible repeat (first | refine blk_drewN ?_ _ | refine blk_drew ?_ | refine blk_alloc ?_ _)); refine blk_put (cs := #[.int .i64 ((rd_T24 x138004_1 (rd l1 x13_1)).f0), .string x138001_1, .int .i64 x138002_1, .int .i64 x138003_1, .slice (some ad147) x138004_1.length co16]) ?_ 1 _ rfl; (with_reducible repeat (first | refine blk_drewN ?_ _ | refine blk_drew ?_ | refine blk_alloc ?_ _)); refine blk_put (cs := #[.int .i64 x138000_1, .string x138001_1, .int .i64 x138002_1, .int .i64 x138003_1, .slice (some ad147) x138004_1.length co16]) ?_ 0 _ rfl; (with_reducible repeat (first | refine blk_drewN ?_ _ | refine blk_drew ?_ | refine blk_alloc ?_ _)); exact BK137.out⟩, ⟨by repeat (first | (with_reducible first | exact HB.out | apply below_alloc | apply pw_below_drewN | apply below_drew1 | refine below_set ?_ GE137.out) | exact HB.out)⟩⟩
               ·rw [if_neg c26] at H
                exact absurd H (by simp)
              ·rw [if_neg c25] at H
               exact absurd H (by simp)
          ·rw [if_neg c13] at H
           exact absurd H (by simp)
         ·rw [if_neg c12] at H
          exact absurd H (by simp)
     ·rw [if_neg c6] at H
      exact absurd H (by simp)
    ·rw [if_neg c5] at H
     exact absurd H (by simp)
   ·rw [if_neg c4] at H
    have c4b0 : decide (x13_1 < (l1.length : Int)) = false := decide_eq_false c4
    clear c4
    simp only [Option.some.injEq, Prod.mk.injEq] at H
    obtain ⟨rfl, rfl⟩ := H
    go_wp2
    go_ret2
    exact ⟨by first | rfl | (simp [errW_none, errW_some] <;> rfl) | (simp [*, errW_none, errW_some] <;> rfl) | (simp [IntKind.wrap_i64, wrap64]; done), by repeat (first | (with_reducible first | exact HB.out | apply below_alloc | apply pw_below_drewN | apply below_drew1 | refine below_set ?_ GE137.out) | exact HB.out)⟩

end Go.Proofs.Ytbheobngeocdfaa.PAll
