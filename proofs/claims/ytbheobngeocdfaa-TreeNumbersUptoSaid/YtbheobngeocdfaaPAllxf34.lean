/- What the machine's calls come to, function by function: printed by a program of this session after the kit's print; Lean checks it. SLIM -/
import Derived.Test.YtbheobngeocdfaaPAllx0
namespace Go.Proofs.Ytbheobngeocdfaa.PAll
open Go.RowKit Go.Proofs.YtbheobngeocdfaaW.PrintWords Go.Proofs.YtbheobngeocdfaaW.PrintLast Go.Proofs.YtbheobngeocdfaaW.PrintMore
attribute [local go_sem] max2_int min2_int max_two min_two max_three min_three max_four min_four   -- for this text's walks alone
set_option linter.unusedVariables false
set_option linter.unusedSimpArgs false

/-! ### assessorref03_Levels: function 34 -/
mutual
def assessorref03_Levels.l0 : Nat → Int → Int → Int → ByteArray → Int → Int → List (S24) → Option (Int)
 | 0, _, _, _, _, _, _, _ => none
 | k + 1, x3, x4, x343000, x343001, x343002, x343003, x343004 => if x4 < (x343004.length : Int) then (if 0 ≤ x4 then ((assessorref03_Levels.f k ((rd_T24 x343004 x4).f0) ((rd_T24 x343004 x4).f1) ((rd_T24 x343004 x4).f2) ((rd_T24 x343004 x4).f3) ((rd_T24 x343004 x4).f4)).bind fun t344 => (assessorref03_Levels.l0 k (mx x3 t344) (wrap64 (x4 + 1)) x343000 x343001 x343002 x343003 x343004)) else (none)) else (some (wrap64 (x3 + 1)))
def assessorref03_Levels.f : Nat → Int → ByteArray → Int → Int → List (S24) → Option (Int)
 | 0, _, _, _, _, _ => none
 | k + 1, a0_0, a0_1, a0_2, a0_3, l0_4 => assessorref03_Levels.l0 k 0 0 a0_0 a0_1 a0_2 a0_3 l0_4
end
theorem assessorref03_Levels.mono_l : ∀ k, (∀ y0 y1 y2 y3 y4, LeO (assessorref03_Levels.f k y0 y1 y2 y3 y4) (assessorref03_Levels.f (k + 1) y0 y1 y2 y3 y4)) ∧ (∀ y0 y1 y2 y3 y4 y5 y6, LeO (assessorref03_Levels.l0 k y0 y1 y2 y3 y4 y5 y6) (assessorref03_Levels.l0 (k + 1) y0 y1 y2 y3 y4 y5 y6))
 | 0 => ⟨fun _ _ _ _ _ r h => by simp [assessorref03_Levels.f] at h, fun _ _ _ _ _ _ _ r h => by simp [assessorref03_Levels.l0] at h⟩
 | k + 1 => by
  obtain ⟨ih0, ih1⟩ := assessorref03_Levels.mono_l k
  refine ⟨?_, ?_⟩
  ·intro y0 y1 y2 y3 y4
   unfold assessorref03_Levels.f
   repeat' first
   | (with_reducible exact ih0 _ _ _ _ _)
   | (with_reducible exact ih1 _ _ _ _ _ _ _)
   | (with_reducible exact LeO.refl _)
   | (with_reducible exact LeO.none _)
   | (with_reducible refine LeO.ite ?_ ?_)
   | (with_reducible refine LeO.bind ?_ (fun _ => ?_))
   | exact ih0 _ _ _ _ _
   | exact ih1 _ _ _ _ _ _ _
   | exact LeO.none _
   | refine LeO.ite ?_ ?_
   | refine LeO.bind ?_ (fun _ => ?_)
  ·intro y0 y1 y2 y3 y4 y5 y6
   unfold assessorref03_Levels.l0
   repeat' first
   | (with_reducible exact ih0 _ _ _ _ _)
   | (with_reducible exact ih1 _ _ _ _ _ _ _)
   | (with_reducible exact LeO.refl _)
   | (with_reducible exact LeO.none _)
   | (with_reducible refine LeO.ite ?_ ?_)
   | (with_reducible refine LeO.bind ?_ (fun _ => ?_))
   | exact ih0 _ _ _ _ _
   | exact ih1 _ _ _ _ _ _ _
   | exact LeO.none _
   | refine LeO.ite ?_ ?_
   | refine LeO.bind ?_ (fun _ => ?_)
theorem assessorref03_Levels.mono : ∀ a0 a1 a2 a3 a4 k, LeO (assessorref03_Levels.f k a0 a1 a2 a3 a4) (assessorref03_Levels.f (k + 1) a0 a1 a2 a3 a4) := by
 intro a0 a1 a2 a3 a4 k
 obtain ⟨ih0, ih1⟩ := assessorref03_Levels.mono_l k
 exact ih0 a0 a1 a2 a3 a4
set_option maxHeartbeats 8000000 in
set_option maxRecDepth 100000 in
theorem assessorref03_Levels.calls (k : Nat) : ∀ (a0_0 : Int) (a0_1 : ByteArray) (a0_2 : Int) (a0_3 : Int) (A0_4 : Option Addr) (c0_4 : Nat) (l0_4 : List (S24)) (r : Int) (w : World) (hr0_4 : Kd.C k24 w A0_4 l0_4.length l0_4) (hc0_4 : l0_4.length ≤ c0_4) (h : assessorref03_Levels.f k a0_0 a0_1 a0_2 a0_3 l0_4 = some r),
  Calls Try.prog 34 #[.agg #[.int .i64 a0_0, .string a0_1, .int .i64 a0_2, .int .i64 a0_3, .slice A0_4 l0_4.length c0_4]] w fun e w' => e = .returned (.int .i64 r) ∧ Below w.heap.size w w' := by
 induction k using Nat.strongRecOn with
 | _ k ih =>
 intro a0_0 a0_1 a0_2 a0_3 A0_4 c0_4 l0_4 r w hr0_4 hc0_4 h
 cases k with
 | zero => exact absurd h (by simp [assessorref03_Levels.f])
 | succ k =>
 simp only [assessorref03_Levels.f] at h
 have hu24 := Try.underlying24
 have HR0_4 := Aside0.mk hr0_4
 have HC0_4 := Aside0.mk hc0_4
 clear hr0_4 hc0_4
 have HB := Aside0.mk (Below.refl w.heap.size w)
 have H : (assessorref03_Levels.l0 k 0 0 a0_0 a0_1 a0_2 a0_3 l0_4) = some r := h
 clear h
 have H' := Aside0.mk H
 clear H
 go_enter Try.func34, Try.ntmps34
 go_wp2_with (first | ((with_reducible refine gate_dst (N := 1) rfl ?_); refine box_event ?hg (N := 1) ?hd (cs := #[.int .i64 a0_0, .string a0_1, .int .i64 a0_2, .int .i64 a0_3, .slice A0_4 l0_4.length c0_4]) (t := 24) ?hr ?_; (case hd => rfl); (case hg => rfl); (case hr => first | (go_simp; done) | (go_simp; rfl)); intro gb342 hg w2 hbox hb; have n0_ := Aside0.mk (below_step (by repeat (first | (with_reducible first | exact HB.out | apply below_alloc | apply pw_below_drewN | apply below_drew1) | exact HB.out)) hb); have n1_ := Aside0.mk (hbox); have n2_ := Aside0.mk ((by rw [hg]; exact (below_size (by repeat (first | (with_reducible first | exact HB.out | apply below_alloc | apply pw_below_drewN | apply below_drew1) | exact HB.out))) : w.heap.size ≤ gb342)); have n3_ := Aside0.mk ((by rw [hg]; exact (below_size (by repeat (first | (with_reducible first | exact HB.out | apply below_alloc | apply pw_below_drewN | apply below_drew1) | exact HB.out))) : w.heap.size ≤ gb342)); clear HB; have HB := n0_; have BK342 := n1_; have GW342 := n2_; have GE342 := n3_; clear n0_ n1_ n2_ n3_; clear hb hbox hg))
 go_loopg [3, 4] k (fun kq v3 v4 w' => ∃ (x3_1 : Int) (x4_1 : Int), v3 = .int .i64 x3_1 ∧ v4 = .int .i64 x4_1 ∧ Aside0 (assessorref03_Levels.l0 kq x3_1 x4_1 a0_0 a0_1 a0_2 a0_3 l0_4 = some r) ∧ Aside0 (kq ≤ k) ∧ Aside0 (w'.heap[gb342]? = some (.cells #[.int .i64 a0_0, .string a0_1, .int .i64 a0_2, .int .i64 a0_3, (.slice A0_4 l0_4.length c0_4)] 24 (0, 0))) ∧ Aside0 (Below w.heap.size w w'))
 case atStart => exact ⟨(0), (0), (by first | rfl | (simp; done) | (simp [*]; done)), (by first | rfl | (simp; done) | (simp [*]; done)), H', ⟨Nat.le_refl _⟩, ⟨by (with_reducible repeat (first | refine blk_drewN ?_ _ | refine blk_drew ?_ | refine blk_alloc ?_ _)); exact BK342.out⟩, ⟨by repeat (first | (with_reducible first | exact HB.out | apply below_alloc | apply pw_below_drewN | apply below_drew1 | refine below_set ?_ GE342.out) | exact HB.out)⟩⟩
 case round =>
  clear H'
  try clear p2
  obtain ⟨x3_1, x4_1, rfl, rfl, HA, HK1, BK342, HB⟩ := hrel
  cases gk with
  | zero => exact absurd HA.out (by simp [assessorref03_Levels.l0])
  | succ k1 =>
   have H := HA.out
   clear HA
   simp only [assessorref03_Levels.l0] at H
   by_cases c3 : x4_1 < (l0_4.length : Int)
   ·rw [if_pos c3] at H
    have c3b0 : decide (x4_1 < (l0_4.length : Int)) = true := decide_eq_true c3
    clear c3
    by_cases c4 : 0 ≤ x4_1
    ·rw [if_pos c4] at H
     have c4b0 : decide (0 ≤ x4_1) = true := decide_eq_true c4
     clear c4
     replace H := Option.bind_eq_some_iff.mp H
     obtain ⟨t344, A50, H⟩ := H
     replace H : (assessorref03_Levels.l0 k1 (mx x3_1 t344) (wrap64 (x4_1 + 1)) a0_0 a0_1 a0_2 a0_3 l0_4) = some r := H
     have A5 := Aside0.mk A50
     clear A50
     obtain ⟨ji6, hji6⟩ : ∃ j_ : Int, (mx x3_1 t344) = j_ := ⟨_, rfl⟩
     replace H : (assessorref03_Levels.l0 k1 ji6 (wrap64 (x4_1 + 1)) a0_0 a0_1 a0_2 a0_3 l0_4) = some r := by first | (rw [hji6] at H; exact H) | (simp only [hji6] at H ⊢; exact H)
     (try rw [hji6] at A5)
     have hji6_ : (if x3_1 < t344 then t344 else x3_1) = ji6 := hji6
     have H' := Aside0.mk H
     clear H
     have hcz7_0 : wr.cell? ⟨gb342, 0, none⟩ = some (.int .i64 a0_0) := (blk_cell BK342.out 0).trans rfl
     have hcz7_1 : wr.cell? ⟨gb342, 1, none⟩ = some (.string a0_1) := (blk_cell BK342.out 1).trans rfl
     have hcz7_2 : wr.cell? ⟨gb342, 2, none⟩ = some (.int .i64 a0_2) := (blk_cell BK342.out 2).trans rfl
     have hcz7_3 : wr.cell? ⟨gb342, 3, none⟩ = some (.int .i64 a0_3) := (blk_cell BK342.out 3).trans rfl
     have hcz7_4 : wr.cell? ⟨gb342, 4, none⟩ = some (.slice A0_4 l0_4.length c0_4) := (blk_cell BK342.out 4).trans rfl
     have hfz7_0 := blk_frozen BK342.out 0
     have hfz7_1 := blk_frozen BK342.out 1
     have hfz7_2 := blk_frozen BK342.out 2
     have hfz7_3 := blk_frozen BK342.out 3
     have hfz7_4 := blk_frozen BK342.out 4
     have p343 : 0 ≤ (x4_1 : Int) := of_decide_eq_true (by first | (with_reducible assumption) | assumption)
     have q343 : x4_1 < (l0_4.length : Int) := of_decide_eq_true (by first | (with_reducible assumption) | assumption)
     obtain ⟨ad343, A343_4, c343_4, e343, hx343_0, hx343_1, hx343_2, hx343_3, hx343_4, hl343_4, hi343_4⟩ := at_T24 HR0_4.out x4_1 p343 q343
     cases e343
     replace hx343_0 := (HB.out.cell (World.block_lt_of_cell? w _ hx343_0)).trans hx343_0
     replace hx343_1 := (HB.out.cell (World.block_lt_of_cell? w _ hx343_1)).trans hx343_1
     replace hx343_2 := (HB.out.cell (World.block_lt_of_cell? w _ hx343_2)).trans hx343_2
     replace hx343_3 := (HB.out.cell (World.block_lt_of_cell? w _ hx343_3)).trans hx343_3
     replace hx343_4 := (HB.out.cell (World.block_lt_of_cell? w _ hx343_4)).trans hx343_4
     have HR343_4 := Aside0.mk hi343_4
     have HC343_4 := Aside0.mk hl343_4
     clear hi343_4 hl343_4
     replace p343 := eq_true p343
     replace q343 := eq_true q343
     go_wp2_with (first | ((with_reducible refine gate_callee (f := 34) rfl ?_); refine goesL_ (some 18) rfl rfl Try.func34 (by kernel_rfl) rfl #[.agg #[.int .i64 ((rd_T24 l0_4 x4_1).f0), .string ((rd_T24 l0_4 x4_1).f1), .int .i64 ((rd_T24 l0_4 x4_1).f2), .int .i64 ((rd_T24 l0_4 x4_1).f3), .slice A343_4 ((rd_T24 l0_4 x4_1).f4).length c343_4]] rfl (by (try simp only [List.map_toArray, List.map_cons, List.map_nil]); first | done | rfl | (simp only [List.length_drop, List.length_take]; rfl)) ?_; (with_reducible refine (ih k1 (by have := HK1.out; omega) ((rd_T24 l0_4 x4_1).f0) ((rd_T24 l0_4 x4_1).f1) ((rd_T24 l0_4 x4_1).f2) ((rd_T24 l0_4 x4_1).f3) _ _ ((rd_T24 l0_4 x4_1).f4) t344 _ ?side1 ?side2 A5.out).mono ?_); (case side1 => repeat (first | exact (Kd.C_below HR343_4.out HB.out) | (with_reducible refine Kd.C_alloc ?_ _) | (with_reducible refine Kd.C_drewN ?_ _) | (with_reducible refine Kd.C_drew ?_))); (case side2 => exact HC343_4.out); rintro e w8 ⟨rfl, hb⟩; refine ⟨_, rfl, ?_⟩; have n0_ := Aside0.mk (blk_below (g := gb342) (o := .cells #[.int .i64 a0_0, .string a0_1, .int .i64 a0_2, .int .i64 a0_3, .slice (some ad343) l0_4.length c0_4] 24 (0, 0)) (by (with_reducible repeat (first | refine blk_drewN ?_ _ | refine blk_drew ?_ | refine blk_alloc ?_ _)); exact BK342.out) hb); have n1_ := Aside0.mk (below_step (by repeat (first | (with_reducible first | exact HB.out | apply below_alloc | apply pw_below_drewN | apply below_drew1 | refine below_set ?_ GE342.out) | exact HB.out)) hb); clear BK342; clear HB; have BK342 := n0_; have HB := n1_; clear n0_ n1_; (try clear hb); (try clear hb2); (try clear hk); (try clear hi)))
     go_roundg k1
     case measure => have := HK1.out; omega
     case rel => exact ⟨(ji6), (wrap64 (x4_1 + 1)), (by first | rfl | (simp; done) | (simp only [← hji6] <;> (first | rfl | simp)) | (simp [*]; done)), (by first | rfl | (simp; done) | (simp [*]; done)), H', ⟨by have := HK1.out; omega⟩, ⟨by (with_reducible repeat (first | refine blk_drewN ?_ _ | refine blk_drew ?_ | refine blk_alloc ?_ _)); exact BK342.out⟩, ⟨by repeat (first | (with_reducible first | exact HB.out | apply below_alloc | apply pw_below_drewN | apply below_drew1 | refine below_set ?_ GE342.out) | exact HB.out)⟩⟩
    ·rw [if_neg c4] at H
     exact absurd H (by simp)
   ·rw [if_neg c3] at H
    have c3b0 : decide (x4_1 < (l0_4.length : Int)) = false := decide_eq_false c3
    clear c3
    obtain rfl := Option.some.inj H
    have hcz9_0 : wr.cell? ⟨gb342, 0, none⟩ = some (.int .i64 a0_0) := (blk_cell BK342.out 0).trans rfl
    have hcz9_1 : wr.cell? ⟨gb342, 1, none⟩ = some (.string a0_1) := (blk_cell BK342.out 1).trans rfl
    have hcz9_2 : wr.cell? ⟨gb342, 2, none⟩ = some (.int .i64 a0_2) := (blk_cell BK342.out 2).trans rfl
    have hcz9_3 : wr.cell? ⟨gb342, 3, none⟩ = some (.int .i64 a0_3) := (blk_cell BK342.out 3).trans rfl
    have hcz9_4 : wr.cell? ⟨gb342, 4, none⟩ = some (.slice A0_4 l0_4.length c0_4) := (blk_cell BK342.out 4).trans rfl
    have hfz9_0 := blk_frozen BK342.out 0
    have hfz9_1 := blk_frozen BK342.out 1
    have hfz9_2 := blk_frozen BK342.out 2
    have hfz9_3 := blk_frozen BK342.out 3
    have hfz9_4 := blk_frozen BK342.out 4
    go_wp2
    go_ret
    exact ⟨by first | rfl | (simp [errW_none, errW_some] <;> rfl) | (simp [*, errW_none, errW_some] <;> rfl) | (simp [IntKind.wrap_i64, wrap64]; done), by repeat (first | (with_reducible first | exact HB.out | apply below_alloc | apply pw_below_drewN | apply below_drew1 | refine below_set ?_ GE342.out) | exact HB.out)⟩

end Go.Proofs.Ytbheobngeocdfaa.PAll
