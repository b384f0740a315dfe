/- What the machine's calls come to, function by function: printed by a program of this session after the kit's print; Lean checks it. -/
import Derived.Test.YtdailoccmjeceaaPAllx0
import Derived.Test.YtdailoccmjeceaaPAllxf12
namespace Go.Proofs.Ytdailoccmjeceaa.PAll
open Go.RowKit Go.Proofs.YtdailoccmjeceaaW.PrintWords Go.Proofs.YtdailoccmjeceaaW.PrintLast Go.Proofs.YtdailoccmjeceaaW.PrintMore
attribute [local go_sem] max2_int min2_int max_two min_two max_three min_three max_four min_four   -- for this text's walks alone
set_option linter.unusedVariables false
set_option linter.unusedSimpArgs false

/-! ### assessorref52_with: function 31 -/
def assessorref52_with.f (k : Nat) (a0_0 : Int) (a0_1 : Int) (a0_2 : Int) (a0_3 : Int) (l1 : List (S38)) (a2 : Int) : Option (Int) := if (l1.length : Int) > 0 then (if 0 ≤ (wrap64 ((l1.length : Int) - 1)) then (if (wrap64 ((l1.length : Int) - 1)) < (l1.length : Int) then ((some (([] : List (S38)) : List (S38))).bind fun y149 => (if y149.length + l1.length < 5864062014805 then ((some (y149 ++ l1 : List (S38))).bind fun y152 => ((some (([(⟨wrap64 ((l1.length : Int) + 1), (rd_T38 l1 (wrap64 ((l1.length : Int) - 1))).f1, a2⟩ : S38)] : List (S38)) : List (S38))).bind fun y155 => (if y152.length + y155.length < 5864062014805 then ((assessorref52_Final.f k a0_0 a0_1 a0_2 a0_3 (y152 ++ y155)).bind fun bt161 => (some bt161.1)) else (none)))) else (none))) else (none)) else (none)) else ((some (([] : List (S38)) : List (S38))).bind fun y163 => (if y163.length + l1.length < 5864062014805 then ((some (y163 ++ l1 : List (S38))).bind fun y166 => ((some (([(⟨wrap64 ((l1.length : Int) + 1), 0, a2⟩ : S38)] : List (S38)) : List (S38))).bind fun y169 => (if y166.length + y169.length < 5864062014805 then ((assessorref52_Final.f k a0_0 a0_1 a0_2 a0_3 (y166 ++ y169)).bind fun bt175 => (some bt175.1)) else (none)))) else (none)))
theorem assessorref52_with.mono : ∀ a0 a1 a2 a3 a4 a5 k, LeO (assessorref52_with.f k a0 a1 a2 a3 a4 a5) (assessorref52_with.f (k + 1) a0 a1 a2 a3 a4 a5) := by
  intro a0 a1 a2 a3 a4 a5 k
  unfold assessorref52_with.f
  repeat' first
      | (with_reducible exact assessorref52_Final.mono _ _ _ _ _ _)
      | (with_reducible exact LeO.refl _)
      | (with_reducible exact LeO.none _)
      | (with_reducible refine LeO.ite ?_ ?_)
      | (with_reducible refine LeO.bind ?_ (fun _ => ?_))
      | exact assessorref52_Final.mono _ _ _ _ _ _
      | exact LeO.none _
      | refine LeO.ite ?_ ?_
      | refine LeO.bind ?_ (fun _ => ?_)
def assessorref52_with.T4 : Bool × List (List Nat × List Nat) := (true, [([], []), ([], []), ([], []), ([1, 2], [1, 2]), ([], []), ([4], [4]), ([3, 5, 3], [3, 5]), ([0, 6, 6], [0, 6]), ([7], [7]), ([8], [8]), ([8], [8]), ([9, 7, 0, 1, 2, 3, 4, 5, 6, 7, 8, 9], [9]), ([10, 11, 0, 1, 2, 3, 4, 5, 6, 7, 8, 9, 10, 11], [10])])
def assessorref52_with.B4 : List Nat := [0, 0, 0, 6, 0, 16, 62, 127, 255, 511, 511, 1023, 4095]
theorem assessorref52_with.tab4 : rtab .any (opsOf Try.f31 4) = assessorref52_with.T4 := by kernel_rfl
theorem assessorref52_with.bits4 : waitsOk assessorref52_with.T4.2 assessorref52_with.B4 = true := by kernel_rfl
set_option maxHeartbeats 8000000 in
set_option maxRecDepth 100000 in
theorem assessorref52_with.calls (k : Nat) (a0_0 : Int) (a0_1 : Int) (a0_2 : Int) (a0_3 : Int) (A1 : Option Addr) (c1 : Nat) (l1 : List (S38)) (a2 : Int) (r : Int) (w : World) (hr1 : Kd.C k38 w A1 l1.length l1) (hc1 : l1.length ≤ c1) (h : assessorref52_with.f k a0_0 a0_1 a0_2 a0_3 l1 a2 = some r) :
    Calls Try.prog 31 #[.agg #[.int .i64 a0_0, .int .i64 a0_1, .int .i64 a0_2, .int .i64 a0_3], .slice A1 l1.length c1, .int .i64 a2] w fun e w' => e = .returned (.int .i64 r) ∧ Below w.heap.size w w' := by
  have hu23 := Try.underlying23
  have hu38 := Try.underlying38
  have HR1 := Aside0.mk hr1
  have HC1 := Aside0.mk hc1
  clear hr1 hc1
  have HB := Aside0.mk (Below.refl w.heap.size w)
  have H : (if (l1.length : Int) > 0 then (if 0 ≤ (wrap64 ((l1.length : Int) - 1)) then (if (wrap64 ((l1.length : Int) - 1)) < (l1.length : Int) then ((some (([] : List (S38)) : List (S38))).bind fun y149 => (if y149.length + l1.length < 5864062014805 then ((some (y149 ++ l1 : List (S38))).bind fun y152 => ((some (([(⟨wrap64 ((l1.length : Int) + 1), (rd_T38 l1 (wrap64 ((l1.length : Int) - 1))).f1, a2⟩ : S38)] : List (S38)) : List (S38))).bind fun y155 => (if y152.length + y155.length < 5864062014805 then ((assessorref52_Final.f k a0_0 a0_1 a0_2 a0_3 (y152 ++ y155)).bind fun bt161 => (some bt161.1)) else (none)))) else (none))) else (none)) else (none)) else ((some (([] : List (S38)) : List (S38))).bind fun y163 => (if y163.length + l1.length < 5864062014805 then ((some (y163 ++ l1 : List (S38))).bind fun y166 => ((some (([(⟨wrap64 ((l1.length : Int) + 1), 0, a2⟩ : S38)] : List (S38)) : List (S38))).bind fun y169 => (if y166.length + y169.length < 5864062014805 then ((assessorref52_Final.f k a0_0 a0_1 a0_2 a0_3 (y166 ++ y169)).bind fun bt175 => (some bt175.1)) else (none)))) else (none)))) = some r := h
  clear h
  by_cases c4 : (l1.length : Int) > 0
  · rw [if_pos c4] at H
    have c4b0 : decide (0 < (l1.length : Int)) = true := decide_eq_true c4
    have c4b1 : decide (0 < l1.length) = true := decide_eq_true (by omega)
    clear c4
    obtain ⟨ji5, hji5⟩ : ∃ j_ : Int, (wrap64 ((l1.length : Int) - 1)) = j_ := ⟨_, rfl⟩
    replace H : (if 0 ≤ (ji5) then (if (ji5) < (l1.length : Int) then ((some (([] : List (S38)) : List (S38))).bind fun y149 => (if y149.length + l1.length < 5864062014805 then ((some (y149 ++ l1 : List (S38))).bind fun y152 => ((some (([(⟨wrap64 ((l1.length : Int) + 1), (rd_T38 l1 (ji5)).f1, a2⟩ : S38)] : List (S38)) : List (S38))).bind fun y155 => (if y152.length + y155.length < 5864062014805 then ((assessorref52_Final.f k a0_0 a0_1 a0_2 a0_3 (y152 ++ y155)).bind fun bt161 => (some bt161.1)) else (none)))) else (none))) else (none)) else (none)) = some r := by first | (rw [hji5] at H; exact H) | (simp only [hji5] at H ⊢; exact H)
    have hji5w : (IntKind.i64.wrap ((l1.length : Int) - 1)) = ji5 := (i64_w _).trans hji5
    by_cases c6 : 0 ≤ (ji5)
    · rw [if_pos c6] at H
      have c6b0 : decide (0 ≤ (ji5)) = true := decide_eq_true c6
      clear c6
      by_cases c7 : (ji5) < (l1.length : Int)
      · rw [if_pos c7] at H
        have c7b0 : decide ((ji5) < (l1.length : Int)) = true := decide_eq_true c7
        clear c7
        obtain ⟨y149, hy149⟩ : ∃ y_ : List (S38), y_ = (([] : List (S38))) := ⟨_, rfl⟩
        replace H : (if y149.length + l1.length < 5864062014805 then ((some (y149 ++ l1 : List (S38))).bind fun y152 => ((some (([(⟨wrap64 ((l1.length : Int) + 1), (rd_T38 l1 (ji5)).f1, a2⟩ : S38)] : List (S38)) : List (S38))).bind fun y155 => (if y152.length + y155.length < 5864062014805 then ((assessorref52_Final.f k a0_0 a0_1 a0_2 a0_3 (y152 ++ y155)).bind fun bt161 => (some bt161.1)) else (none)))) else (none)) = some r := by first | (rw [hy149]; with_reducible exact H) | (have H2_ := (Option.bind_some _ _).symm.trans H; rw [hy149]; with_reducible exact H2_) | (have H2_ := (Option.bind_some _ _).symm.trans H; with_reducible exact H2_) | with_reducible exact H | (rw [hy149]; exact H) | exact H
        have Ny149 := Aside0.mk hy149
        clear hy149
        by_cases c8 : y149.length + l1.length < 5864062014805
        · rw [if_pos c8] at H
          have LMc8 := Aside0.mk c8
          clear c8
          obtain ⟨y152, hy152⟩ : ∃ y_ : List (S38), y_ = (y149 ++ l1) := ⟨_, rfl⟩
          replace H : ((some (([(⟨wrap64 ((l1.length : Int) + 1), (rd_T38 l1 (ji5)).f1, a2⟩ : S38)] : List (S38)) : List (S38))).bind fun y155 => (if y152.length + y155.length < 5864062014805 then ((assessorref52_Final.f k a0_0 a0_1 a0_2 a0_3 (y152 ++ y155)).bind fun bt161 => (some bt161.1)) else (none))) = some r := by first | (rw [hy152]; with_reducible exact H) | (have H2_ := (Option.bind_some _ _).symm.trans H; rw [hy152]; with_reducible exact H2_) | (have H2_ := (Option.bind_some _ _).symm.trans H; with_reducible exact H2_) | with_reducible exact H | (rw [hy152]; exact H) | exact H
          have Ny152 := Aside0.mk hy152
          clear hy152
          obtain ⟨y155, hy155⟩ : ∃ y_ : List (S38), y_ = (([(⟨wrap64 ((l1.length : Int) + 1), (rd_T38 l1 (ji5)).f1, a2⟩ : S38)] : List (S38))) := ⟨_, rfl⟩
          replace H : (if y152.length + y155.length < 5864062014805 then ((assessorref52_Final.f k a0_0 a0_1 a0_2 a0_3 (y152 ++ y155)).bind fun bt161 => (some bt161.1)) else (none)) = some r := by first | (rw [hy155]; with_reducible exact H) | (have H2_ := (Option.bind_some _ _).symm.trans H; rw [hy155]; with_reducible exact H2_) | (have H2_ := (Option.bind_some _ _).symm.trans H; with_reducible exact H2_) | with_reducible exact H | (rw [hy155]; exact H) | exact H
          have Ny155 := Aside0.mk hy155
          clear hy155
          by_cases c9 : y152.length + y155.length < 5864062014805
          · rw [if_pos c9] at H
            have LMc9 := Aside0.mk c9
            clear c9
            obtain ⟨y158, hy158⟩ : ∃ y_ : List (S38), y_ = (y152 ++ y155) := ⟨_, rfl⟩
            replace H : ((assessorref52_Final.f k a0_0 a0_1 a0_2 a0_3 y158).bind fun bt161 => (some bt161.1)) = some r := by first | (rw [hy158]; with_reducible exact H) | (have H2_ := (Option.bind_some _ _).symm.trans H; rw [hy158]; with_reducible exact H2_) | (have H2_ := (Option.bind_some _ _).symm.trans H; with_reducible exact H2_) | with_reducible exact H | (rw [hy158]; exact H) | exact H
            have Ny158 := Aside0.mk hy158
            clear hy158
            replace H := Option.bind_eq_some_iff.mp H
            obtain ⟨⟨t161, t162⟩, A100, H⟩ := H
            replace H : (some t161) = some r := H
            have A10 := Aside0.mk A100
            clear A100
            obtain rfl := Option.some.inj H
            go_enter Try.func31, Try.ntmps31
            try go_wp2_with (first | ((with_reducible refine gate_dst (N := 3) rfl ?_); refine box_event ?hg (N := 3) ?hd (cs := #[.int .i64 a0_0, .int .i64 a0_1, .int .i64 a0_2, .int .i64 a0_3]) (t := 23) ?hr ?_; (case hd => rfl); (case hg => rfl); (case hr => first | (go_simp; done) | (go_simp; rfl)); intro gb146 hg w11 hbox hb; have n0_ := Aside0.mk (below_step (by repeat (first | (with_reducible first | exact HB.out | apply below_alloc | apply pw_below_drewN | apply below_drew1) | exact HB.out)) hb); have n1_ := Aside0.mk (hbox); have n2_ := Aside0.mk ((by rw [hg]; exact (below_size (by repeat (first | (with_reducible first | exact HB.out | apply below_alloc | apply pw_below_drewN | apply below_drew1) | exact HB.out))) : w.heap.size ≤ gb146)); have n3_ := Aside0.mk ((by rw [hg]; exact (below_size (by repeat (first | (with_reducible first | exact HB.out | apply below_alloc | apply pw_below_drewN | apply below_drew1) | exact HB.out))) : w.heap.size ≤ gb146)); clear HB; have HB := n0_; have BK146 := n1_; have GW146 := n2_; have GE146 := n3_; clear n0_ n1_ n2_ n3_; clear hb hbox hg) | ((with_reducible refine gate_dst (N := 7) rfl ?_); refine box_event ?hg (N := 7) ?hd (cs := #[.int .i64 0, .int .i64 0, .int .i64 0]) (t := 38) ?hr ?_; (case hd => rfl); (case hg => rfl); (case hr => first | (go_simp; done) | (go_simp; rfl)); intro gb147 hg w12 hbox hb; have n0_ := Aside0.mk (blk_below (g := gb146) (o := .cells #[.int .i64 a0_0, .int .i64 a0_1, .int .i64 a0_2, .int .i64 a0_3] 23 (0, 0)) (by (with_reducible repeat (first | refine blk_drewN ?_ _ | refine blk_drew ?_ | refine blk_alloc ?_ _)); exact BK146.out) hb); have n1_ := Aside0.mk (below_step (by repeat (first | (with_reducible first | exact HB.out | apply below_alloc | apply pw_below_drewN | apply below_drew1 | refine below_set ?_ GE146.out) | exact HB.out)) hb); have n2_ := Aside0.mk (hbox); have n3_ := Aside0.mk ((by rw [hg]; exact (below_size (by repeat (first | (with_reducible first | exact HB.out | apply below_alloc | apply pw_below_drewN | apply below_drew1 | refine below_set ?_ GE146.out) | exact HB.out))) : w.heap.size ≤ gb147)); have n4_ := Aside0.mk ((by rw [hg]; exact (below_size (by repeat (first | (with_reducible first | exact HB.out | apply below_alloc | apply pw_below_drewN | apply below_drew1 | refine below_set ?_ GE146.out) | exact HB.out))) : w.heap.size ≤ gb147)); have n5_ := Aside0.mk ((by rw [hg]; exact Nat.ne_of_lt (blk_lt (g := gb146) (o := .cells #[.int .i64 a0_0, .int .i64 a0_1, .int .i64 a0_2, .int .i64 a0_3] 23 (0, 0)) (by (with_reducible repeat (first | refine blk_drewN ?_ _ | refine blk_drew ?_ | refine blk_alloc ?_ _)); exact BK146.out)) : gb146 ≠ gb147)); have n6_ := Aside0.mk ((by rw [hg]; exact Nat.ne_of_gt (blk_lt (g := gb146) (o := .cells #[.int .i64 a0_0, .int .i64 a0_1, .int .i64 a0_2, .int .i64 a0_3] 23 (0, 0)) (by (with_reducible repeat (first | refine blk_drewN ?_ _ | refine blk_drew ?_ | refine blk_alloc ?_ _)); exact BK146.out)) : gb147 ≠ gb146)); clear BK146; clear HB; have BK146 := n0_; have HB := n1_; have BK147 := n2_; have GW147 := n3_; have GE147 := n4_; have NB146_147 := n5_; have NB147_146 := n6_; clear n0_ n1_ n2_ n3_ n4_ n5_ n6_; clear hb hbox hg; have hnb13 := NB147_146.out; have hnc13 := NB146_147.out; have hcz14_0 : w12.cell? ⟨gb147, 0, none⟩ = some (.int .i64 0) := (blk_cell BK147.out 0).trans rfl; have hcz14_1 : w12.cell? ⟨gb147, 1, none⟩ = some (.int .i64 0) := (blk_cell BK147.out 1).trans rfl; have hcz14_2 : w12.cell? ⟨gb147, 2, none⟩ = some (.int .i64 0) := (blk_cell BK147.out 2).trans rfl; have hfz14_0 := blk_frozen BK147.out 0; have hfz14_1 := blk_frozen BK147.out 1; have hfz14_2 := blk_frozen BK147.out 2; have p148 : 0 ≤ ((ji5) : Int) := of_decide_eq_true (by first | (with_reducible assumption) | assumption); have q148 : (ji5) < (l1.length : Int) := of_decide_eq_true (by first | (with_reducible assumption) | assumption); obtain ⟨ad148, e148, hx148_0, hx148_1, hx148_2⟩ := at_T38 HR1.out (ji5) p148 q148; cases e148; have hn148_0 : ad148.block ≠ gb147 := Nat.ne_of_lt (Nat.lt_of_lt_of_le (by have := World.block_lt_of_cell? _ _ hx148_0; first | rwa [add_block] at this | exact this) GW147.out); have hn148_1 : ad148.block ≠ gb147 := Nat.ne_of_lt (Nat.lt_of_lt_of_le (by have := World.block_lt_of_cell? _ _ hx148_0; first | rwa [add_block] at this | exact this) GW147.out); have hn148_2 : ad148.block ≠ gb147 := Nat.ne_of_lt (Nat.lt_of_lt_of_le (by have := World.block_lt_of_cell? _ _ hx148_0; first | rwa [add_block] at this | exact this) GW147.out); replace hx148_0 := (HB.out.cell (World.block_lt_of_cell? w _ hx148_0)).trans hx148_0; replace hx148_1 := (HB.out.cell (World.block_lt_of_cell? w _ hx148_1)).trans hx148_1; replace hx148_2 := (HB.out.cell (World.block_lt_of_cell? w _ hx148_2)).trans hx148_2; replace hx148_0 := (cell_far (p := ⟨gb147, 0, none⟩) (by first | (rw [add_block]; exact hn148_0) | (show (Addr.add _ _).block ≠ _; rw [add_block]; exact hn148_0) | exact hn148_0) (.int .i64 (wrap64 ((l1.length : Int) + 1)))).trans hx148_0; replace hx148_1 := (cell_far (p := ⟨gb147, 0, none⟩) (by first | (rw [add_block]; exact hn148_0) | (show (Addr.add _ _).block ≠ _; rw [add_block]; exact hn148_0) | exact hn148_0) (.int .i64 (wrap64 ((l1.length : Int) + 1)))).trans hx148_1; replace hx148_2 := (cell_far (p := ⟨gb147, 0, none⟩) (by first | (rw [add_block]; exact hn148_0) | (show (Addr.add _ _).block ≠ _; rw [add_block]; exact hn148_0) | exact hn148_0) (.int .i64 (wrap64 ((l1.length : Int) + 1)))).trans hx148_2; replace hx148_0 := (cell_far (p := ⟨gb147, 1, none⟩) (by first | (rw [add_block]; exact hn148_1) | (show (Addr.add _ _).block ≠ _; rw [add_block]; exact hn148_1) | exact hn148_1) (.int .i64 0)).trans hx148_0; replace hx148_1 := (cell_far (p := ⟨gb147, 1, none⟩) (by first | (rw [add_block]; exact hn148_1) | (show (Addr.add _ _).block ≠ _; rw [add_block]; exact hn148_1) | exact hn148_1) (.int .i64 0)).trans hx148_1; replace hx148_2 := (cell_far (p := ⟨gb147, 1, none⟩) (by first | (rw [add_block]; exact hn148_1) | (show (Addr.add _ _).block ≠ _; rw [add_block]; exact hn148_1) | exact hn148_1) (.int .i64 0)).trans hx148_2; replace hx148_0 := (cell_far (p := ⟨gb147, 2, none⟩) (by first | (rw [add_block]; exact hn148_2) | (show (Addr.add _ _).block ≠ _; rw [add_block]; exact hn148_2) | exact hn148_2) (.int .i64 a2)).trans hx148_0; replace hx148_1 := (cell_far (p := ⟨gb147, 2, none⟩) (by first | (rw [add_block]; exact hn148_2) | (show (Addr.add _ _).block ≠ _; rw [add_block]; exact hn148_2) | exact hn148_2) (.int .i64 a2)).trans hx148_1; replace hx148_2 := (cell_far (p := ⟨gb147, 2, none⟩) (by first | (rw [add_block]; exact hn148_2) | (show (Addr.add _ _).block ≠ _; rw [add_block]; exact hn148_2) | exact hn148_2) (.int .i64 a2)).trans hx148_2; clear hn148_0; clear hn148_1; clear hn148_2; replace p148 := eq_true p148; replace q148 := eq_true q148))
            have n0_ : Aside0 (((((w12.setCell ⟨gb147, 0, none⟩ (.int .i64 (wrap64 ((l1.length : Int) + 1)))).setCell ⟨gb147, 1, none⟩ (.int .i64 0)).setCell ⟨gb147, 2, none⟩ (.int .i64 a2)).setCell ⟨gb147, 1, none⟩ (.int .i64 ((rd_T38 l1 (ji5)).f1))).heap[gb146]? = some (.cells #[.int .i64 a0_0, .int .i64 a0_1, .int .i64 a0_2, .int .i64 a0_3] 23 (0, 0))) := ⟨by (with_reducible repeat (first | refine blk_drewN ?_ _ | refine blk_drew ?_ | refine blk_alloc ?_ _)); refine blk_far ?_ NB146_147.out _; (with_reducible repeat (first | refine blk_drewN ?_ _ | refine blk_drew ?_ | refine blk_alloc ?_ _)); refine blk_far ?_ NB146_147.out _; (with_reducible repeat (first | refine blk_drewN ?_ _ | refine blk_drew ?_ | refine blk_alloc ?_ _)); refine blk_far ?_ NB146_147.out _; (with_reducible repeat (first | refine blk_drewN ?_ _ | refine blk_drew ?_ | refine blk_alloc ?_ _)); refine blk_far ?_ NB146_147.out _; (with_reducible repeat (first | refine blk_drewN ?_ _ | refine blk_drew ?_ | refine blk_alloc ?_ _)); exact BK146.out⟩
            have n1_ : Aside0 (((((w12.setCell ⟨gb147, 0, none⟩ (.int .i64 (wrap64 ((l1.length : Int) + 1)))).setCell ⟨gb147, 1, none⟩ (.int .i64 0)).setCell ⟨gb147, 2, none⟩ (.int .i64 a2)).setCell ⟨gb147, 1, none⟩ (.int .i64 ((rd_T38 l1 (ji5)).f1))).heap[gb147]? = some (.cells #[.int .i64 (wrap64 ((l1.length : Int) + 1)), .int .i64 ((rd_T38 l1 (ji5)).f1), .int .i64 a2] 38 (0, 0))) := ⟨by (with_reducible repeat (first | refine blk_drewN ?_ _ | refine blk_drew ?_ | refine blk_alloc ?_ _)); refine blk_put (cs := #[.int .i64 (wrap64 ((l1.length : Int) + 1)), .int .i64 0, .int .i64 a2]) ?_ 1 _ rfl; (with_reducible repeat (first | refine blk_drewN ?_ _ | refine blk_drew ?_ | refine blk_alloc ?_ _)); refine blk_put (cs := #[.int .i64 (wrap64 ((l1.length : Int) + 1)), .int .i64 0, .int .i64 0]) ?_ 2 _ rfl; (with_reducible repeat (first | refine blk_drewN ?_ _ | refine blk_drew ?_ | refine blk_alloc ?_ _)); refine blk_put (cs := #[.int .i64 (wrap64 ((l1.length : Int) + 1)), .int .i64 0, .int .i64 0]) ?_ 1 _ rfl; (with_reducible repeat (first | refine blk_drewN ?_ _ | refine blk_drew ?_ | refine blk_alloc ?_ _)); refine blk_put (cs := #[.int .i64 0, .int .i64 0, .int .i64 0]) ?_ 0 _ rfl; (with_reducible repeat (first | refine blk_drewN ?_ _ | refine blk_drew ?_ | refine blk_alloc ?_ _)); exact BK147.out⟩
            have n2_ : Aside0 (Below w.heap.size w ((((w12.setCell ⟨gb147, 0, none⟩ (.int .i64 (wrap64 ((l1.length : Int) + 1)))).setCell ⟨gb147, 1, none⟩ (.int .i64 0)).setCell ⟨gb147, 2, none⟩ (.int .i64 a2)).setCell ⟨gb147, 1, none⟩ (.int .i64 ((rd_T38 l1 (ji5)).f1)))) := ⟨by repeat (first | (with_reducible first | exact HB.out | apply below_alloc | apply pw_below_drewN | apply below_drew1 | refine below_set ?_ GE146.out | refine below_set ?_ GE147.out) | exact HB.out)⟩
            (try clear BK146)
            (try clear BK147)
            (try clear HB)
            generalize ((((w12.setCell ⟨gb147, 0, none⟩ (.int .i64 (wrap64 ((l1.length : Int) + 1)))).setCell ⟨gb147, 1, none⟩ (.int .i64 0)).setCell ⟨gb147, 2, none⟩ (.int .i64 a2)).setCell ⟨gb147, 1, none⟩ (.int .i64 ((rd_T38 l1 (ji5)).f1))) = w15 at n0_ n1_ n2_ ⊢
            have BK146 := n0_
            have BK147 := n1_
            have HB := n2_
            clear n0_ n1_ n2_
            have n0_ := Aside0.mk (blk_drew BK146.out)
            have n1_ := Aside0.mk (blk_drew BK147.out)
            have n2_ := Aside0.mk (below_drew1 HB.out)
            clear BK146
            clear BK147
            clear HB
            have BK146 := n0_
            have BK147 := n1_
            have HB := n2_
            clear n0_ n1_ n2_
            refine start_ (n := 13) (S := fun w' => w'.cell? ⟨gb146, 0, none⟩ = some (.int .i64 a0_0) ∧ w'.cell? ⟨gb146, 1, none⟩ = some (.int .i64 a0_1) ∧ w'.cell? ⟨gb146, 2, none⟩ = some (.int .i64 a0_2) ∧ w'.cell? ⟨gb146, 3, none⟩ = some (.int .i64 a0_3) ∧ w'.cell? ⟨gb147, 0, none⟩ = some (.int .i64 (wrap64 ((l1.length : Int) + 1))) ∧ w'.cell? ⟨gb147, 1, none⟩ = some (.int .i64 ((rd_T38 l1 (ji5)).f1)) ∧ w'.cell? ⟨gb147, 2, none⟩ = some (.int .i64 a2)) (ds := []) #[false, false, false, false, false, false, false, false, false, false, false, false, false] (by kernel_rfl) rfl rfl ⟨(blk_cell BK146.out 0).trans rfl, (blk_cell BK146.out 1).trans rfl, (blk_cell BK146.out 2).trans rfl, (blk_cell BK146.out 3).trans rfl, (blk_cell BK147.out 0).trans rfl, (blk_cell BK147.out 1).trans rfl, (blk_cell BK147.out 2).trans rfl⟩ (fun hHeld => ?_); refine with_tabW assessorref52_with.tab4 assessorref52_with.bits4 (fun HT_ HW_ => ?_)
            generalize w15.drew = w16 at BK146 BK147 HB hHeld ⊢
            refine pure_ (i := 2) (N := some 29) (v := ?_) (a' := ?_) #[false, false, true, false, false, false, false, false, false, false, false, false, false] rfl rfl (any_of HT_.out (by kernel_rfl)) (fun _ _ _ h => h) (Or.inl ⟨by rfl, ?_⟩) ?_ ?_
            rotate_left
            · intro w'
              go_simp
              with_reducible rfl
            rotate_left
            · simp only [Act.put, List.setIfInBounds_toArray, List.set_cons_zero, List.set_cons_succ, i64_w, i32_w]
              rfl
            refine take_ (i := 0) (N := some 27) (v := ?_) (a' := ?_) #[true, false, true, false, false, false, false, false, false, false, false, false, false] rfl rfl (take_ofW HT_.out HW_.out (by kernel_rfl)) (fun _ _ _ h => h) (Or.inl ⟨by rfl, ?_⟩) hHeld ?_ ?_
            rotate_left
            · rintro w' ⟨s0, s1, s2, s3, s4, s5, s6⟩
              go_simp
              with_reducible rfl
            rotate_left
            · simp only [Act.put, List.setIfInBounds_toArray, List.set_cons_zero, List.set_cons_succ, i64_w, i32_w]
              rfl
            refine take_ (i := 4) (N := some 31) (v := ?_) (a' := ?_) #[true, false, true, false, true, false, false, false, false, false, false, false, false] rfl rfl (take_ofW HT_.out HW_.out (by kernel_rfl)) (fun _ _ _ h => h) (Or.inl ⟨by rfl, ?_⟩) hHeld ?_ ?_
            rotate_left
            · rintro w' ⟨s0, s1, s2, s3, s4, s5, s6⟩
              go_simp
              with_reducible rfl
            rotate_left
            · simp only [Act.put, List.setIfInBounds_toArray, List.set_cons_zero, List.set_cons_succ, i64_w, i32_w]
              rfl
            refine join_ (σ := Value × Value × Value) 7 #[true, true, true, true, true, true, false, false, false, false, false, false, false] (fun s_ => [(28, s_.1), (30, s_.2.1), (32, s_.2.2)]) (fun s_ w' => (w'.cell? ⟨gb146, 0, none⟩ = some (.int .i64 a0_0) ∧ w'.cell? ⟨gb146, 1, none⟩ = some (.int .i64 a0_1) ∧ w'.cell? ⟨gb146, 2, none⟩ = some (.int .i64 a0_2) ∧ w'.cell? ⟨gb146, 3, none⟩ = some (.int .i64 a0_3) ∧ w'.cell? ⟨gb147, 0, none⟩ = some (.int .i64 (wrap64 ((l1.length : Int) + 1))) ∧ w'.cell? ⟨gb147, 1, none⟩ = some (.int .i64 ((rd_T38 l1 (ji5)).f1)) ∧ w'.cell? ⟨gb147, 2, none⟩ = some (.int .i64 a2)) ∧ (Kd.R k38 38 w' w.heap.size (fun k_ => some k_ ≠ (s_.2.2 : Value).ownBlock ∧ k_ ≠ gb147) s_.2.1 y152) ∧ (Kd.R k38 38 w' w.heap.size (fun k_ => some k_ ≠ (s_.2.1 : Value).ownBlock ∧ k_ ≠ gb147) s_.2.2 y155) ∧ (w'.heap[gb146]? = some (.cells #[.int .i64 a0_0, .int .i64 a0_1, .int .i64 a0_2, .int .i64 a0_3] 23 (0, 0))) ∧ (w'.heap[gb147]? = some (.cells #[.int .i64 (wrap64 ((l1.length : Int) + 1)), .int .i64 ((rd_T38 l1 (ji5)).f1), .int .i64 a2] 38 (0, 0))) ∧ (Below w.heap.size w w')) ?_ ?_
            rotate_left
            · intro hCont
              refine two_ (i := 1) (j := 5) (Ni := some 28) (Nj := some 32) #[true, true, true, false, true, false, false, false, false, false, false, false, false] #[true, false, true, false, true, true, false, false, false, false, false, false, false] rfl rfl rfl rfl (two_of HT_.out (by kernel_rfl)) (by decide) (by decide) (fun K hK => ?_) (fun K hK => ?_)
              · skip
                refine Kd.R_lit_step k38 _ 38 ?hg (N := 28) ?hd (xs := ([] : List (S38))) (inner := []) (ok := fun _ => True) (okp := fun _ => True) ?hr ?hp (fun _ hk => hk) trivial (Below.refl _ _) (Nat.le_refl _) (by simp) ?_; (case hd => rfl); (case hg => rfl); (case hr => first | (go_simp; done) | (go_simp; rfl)); (case hp => exact (Reps.none _ _))
                intro v150 w17 ho18 hb hg_ hnew_
                clear hg_ hnew_
                (first | rw [← Ny149.out] at ho18 | (simp only [Int.reduceToNat] at ho18; rw [← Ny149.out] at ho18))
                have n0_ := Aside0.mk (Kd.R_lower (Kd.R_newB ho18 (g := gb147) (o := .cells #[.int .i64 (wrap64 ((l1.length : Int) + 1)), .int .i64 ((rd_T38 l1 (ji5)).f1), .int .i64 a2] 38 (0, 0)) (by (with_reducible repeat (first | refine blk_drewN ?_ _ | refine blk_drew ?_ | refine blk_alloc ?_ _)); exact BK147.out)) (below_size (by repeat (first | (with_reducible first | exact HB.out | apply below_alloc | apply pw_below_drewN | apply below_drew1 | refine below_set ?_ GE146.out | refine below_set ?_ GE147.out) | exact HB.out))))
                have n1_ := Aside0.mk (blk_below (g := gb146) (o := .cells #[.int .i64 a0_0, .int .i64 a0_1, .int .i64 a0_2, .int .i64 a0_3] 23 (0, 0)) (by (with_reducible repeat (first | refine blk_drewN ?_ _ | refine blk_drew ?_ | refine blk_alloc ?_ _)); exact BK146.out) hb)
                have n2_ := Aside0.mk (blk_below (g := gb147) (o := .cells #[.int .i64 (wrap64 ((l1.length : Int) + 1)), .int .i64 ((rd_T38 l1 (ji5)).f1), .int .i64 a2] 38 (0, 0)) (by (with_reducible repeat (first | refine blk_drewN ?_ _ | refine blk_drew ?_ | refine blk_alloc ?_ _)); exact BK147.out) hb)
                have n3_ := Aside0.mk (below_step (by repeat (first | (with_reducible first | exact HB.out | apply below_alloc | apply pw_below_drewN | apply below_drew1 | refine below_set ?_ GE146.out | refine below_set ?_ GE147.out) | exact HB.out)) hb)
                clear BK146
                clear BK147
                clear HB
                have HO151 := n0_
                have BK146 := n1_
                have BK147 := n2_
                have HB := n3_
                clear n0_ n1_ n2_ n3_
                clear hb ho18
                refine hK.out _ _ ⟨(blk_cell BK146.out 0).trans rfl, (blk_cell BK146.out 1).trans rfl, (blk_cell BK146.out 2).trans rfl, (blk_cell BK146.out 3).trans rfl, (blk_cell BK147.out 0).trans rfl, (blk_cell BK147.out 1).trans rfl, (blk_cell BK147.out 2).trans rfl⟩ (fun hHeld => ?_)
                clear hK K
                refine norm_ (a' := ?_) ?_ ?_
                rotate_left
                · show Act.put _ (some 28) _ = _
                  simp only [Act.put, List.setIfInBounds_toArray, List.set_cons_zero, List.set_cons_succ, i64_w, i32_w]
                  rfl
                refine two_ (i := 3) (j := 5) (Ni := some 30) (Nj := some 32) #[true, true, true, true, true, false, false, false, false, false, false, false, false] #[true, true, true, false, true, true, false, false, false, false, false, false, false] rfl rfl rfl rfl (two_of HT_.out (by kernel_rfl)) (by decide) (by decide) (fun K hK => ?_) (fun K hK => ?_)
                · skip
                  refine Kd.R_append_rows_step k38 (w0 := w) w.heap.size (by rfl) (.tmp 28) (.tmp 29) 24 38 (.agg #[(.int .i64 0), (.int .i64 0), (.int .i64 0)]) 24 rfl Try.underlying24 info38 rfl (by decide) (by omega) v150 y149 l1 _ _ _ (fun k_ => k_ ≠ gb147) (fun _ => False) rfl rfl ?aO ?aR (fun _ _ h => h) (fun _ h => h.elim) ?aF ?aB ?aS ?aL ?_
                  (case aR => repeat (first | exact (Kd.C_below HR1.out HB.out) | (with_reducible refine Kd.C_alloc ?_ _) | (with_reducible refine Kd.C_drewN ?_ _) | (with_reducible refine Kd.C_drew ?_)))
                  (case aB => exact (by repeat (first | (with_reducible first | exact HB.out | apply below_alloc | apply pw_below_drewN | apply below_drew1 | refine below_set ?_ GE146.out | refine below_set ?_ GE147.out) | exact HB.out)))
                  (case aF => exact (fun k_ hk => Kd.freshB (g := gb147) (o := .cells #[.int .i64 (wrap64 ((l1.length : Int) + 1)), .int .i64 ((rd_T38 l1 (ji5)).f1), .int .i64 a2] 38 (0, 0)) (by (with_reducible repeat (first | refine blk_drewN ?_ _ | refine blk_drew ?_ | refine blk_alloc ?_ _)); exact BK147.out) k_ hk))
                  (case aO => exact (by (with_reducible repeat (first | apply Kd.R_alloc | apply Kd.R_drewN | apply Kd.R_drew)); exact Kd.R_mono HO151.out (fun _ hk => hk.2)))
                  (case aS => exact (below_size (by repeat (first | (with_reducible first | exact HB.out | apply below_alloc | apply pw_below_drewN | apply below_drew1 | refine below_set ?_ GE146.out | refine below_set ?_ GE147.out) | exact HB.out))))
                  (case aL => have := LMc8.out; omega)
                  intro v153 w19 ho hb hg hat
                  rw [← Ny152.out] at ho
                  have n0_ := Aside0.mk (blk_grown (g := gb146) (o := .cells #[.int .i64 a0_0, .int .i64 a0_1, .int .i64 a0_2, .int .i64 a0_3] 23 (0, 0)) (by (with_reducible repeat (first | refine blk_drewN ?_ _ | refine blk_drew ?_ | refine blk_alloc ?_ _)); exact BK146.out) hg (Kd.R_ne HO151.out BK146.out (by decide)))
                  have n1_ := Aside0.mk (blk_grown (g := gb147) (o := .cells #[.int .i64 (wrap64 ((l1.length : Int) + 1)), .int .i64 ((rd_T38 l1 (ji5)).f1), .int .i64 a2] 38 (0, 0)) (by (with_reducible repeat (first | refine blk_drewN ?_ _ | refine blk_drew ?_ | refine blk_alloc ?_ _)); exact BK147.out) hg (Kd.R_away HO151.out (fun _ hk => hk.2)))
                  have n2_ := Aside0.mk (hb)
                  have n3_ := Aside0.mk (ho)
                  clear BK146
                  clear BK147
                  clear HB
                  clear HO151
                  have BK146 := n0_
                  have BK147 := n1_
                  have HB := n2_
                  have HO154 := n3_
                  clear n0_ n1_ n2_ n3_
                  clear ho hb hg hat
                  refine hK.out _ _ ⟨(blk_cell BK146.out 0).trans rfl, (blk_cell BK146.out 1).trans rfl, (blk_cell BK146.out 2).trans rfl, (blk_cell BK146.out 3).trans rfl, (blk_cell BK147.out 0).trans rfl, (blk_cell BK147.out 1).trans rfl, (blk_cell BK147.out 2).trans rfl⟩ (fun hHeld => ?_)
                  clear hK K
                  refine norm_ (a' := ?_) ?_ ?_
                  rotate_left
                  · show Act.put _ (some 30) _ = _
                    simp only [Act.put, List.setIfInBounds_toArray, List.set_cons_zero, List.set_cons_succ, i64_w, i32_w]
                    rfl
                  refine one_ (i := 5) (N := some 32) #[true, true, true, true, true, true, false, false, false, false, false, false, false] rfl rfl (one_of HT_.out (by kernel_rfl)) (by decide) (fun K hK => ?_)
                  refine Kd.R_lit_step k38 _ 38 ?hg (N := 32) ?hd (xs := ([(⟨wrap64 ((l1.length : Int) + 1), (rd_T38 l1 (ji5)).f1, a2⟩ : S38)] : List (S38))) (inner := [.int .i64 (wrap64 ((l1.length : Int) + 1)), .int .i64 ((rd_T38 l1 (ji5)).f1), .int .i64 a2]) (ok := fun _ => True) (okp := fun _ => True) ?hr ?hp (fun _ hk => hk) trivial (Below.refl _ _) (Nat.le_refl _) (by simp) ?_; (case hd => rfl); (case hg => rfl); (case hr => first | (go_simp; done) | (go_simp; rfl)); (case hp => exact (Reps.c3 (show Kd.M k38 _ _ _ (⟨wrap64 ((l1.length : Int) + 1), (rd_T38 l1 (ji5)).f1, a2⟩ : S38) [.int .i64 (wrap64 ((l1.length : Int) + 1)), .int .i64 ((rd_T38 l1 (ji5)).f1), .int .i64 a2] from (k38_mkM _ _ _ (⟨wrap64 ((l1.length : Int) + 1), (rd_T38 l1 (ji5)).f1, a2⟩ : S38) )) (Reps.none _ _)))
                  intro v156 w20 ho21 hb hg_ hnew_
                  clear hg_ hnew_
                  (first | rw [← Ny155.out] at ho21 | (simp only [Int.reduceToNat] at ho21; rw [← Ny155.out] at ho21))
                  have n0_ := Aside0.mk (Kd.R_elder' (by (with_reducible repeat (first | apply Kd.R_alloc | apply Kd.R_drewN | apply Kd.R_drew)); exact HO154.out) (Kd.R_base ho21) hb)
                  have n1_ := Aside0.mk (Kd.R_lower (Kd.R_newB (Kd.R_new' ho21 (Kd.R_lt (by (with_reducible repeat (first | apply Kd.R_alloc | apply Kd.R_drewN | apply Kd.R_drew)); exact HO154.out))) (g := gb147) (o := .cells #[.int .i64 (wrap64 ((l1.length : Int) + 1)), .int .i64 ((rd_T38 l1 (ji5)).f1), .int .i64 a2] 38 (0, 0)) (by (with_reducible repeat (first | refine blk_drewN ?_ _ | refine blk_drew ?_ | refine blk_alloc ?_ _)); exact BK147.out)) (below_size (by repeat (first | (with_reducible first | exact HB.out | apply below_alloc | apply pw_below_drewN | apply below_drew1 | refine below_set ?_ GE146.out | refine below_set ?_ GE147.out) | exact HB.out))))
                  have n2_ := Aside0.mk (blk_below (g := gb146) (o := .cells #[.int .i64 a0_0, .int .i64 a0_1, .int .i64 a0_2, .int .i64 a0_3] 23 (0, 0)) (by (with_reducible repeat (first | refine blk_drewN ?_ _ | refine blk_drew ?_ | refine blk_alloc ?_ _)); exact BK146.out) hb)
                  have n3_ := Aside0.mk (blk_below (g := gb147) (o := .cells #[.int .i64 (wrap64 ((l1.length : Int) + 1)), .int .i64 ((rd_T38 l1 (ji5)).f1), .int .i64 a2] 38 (0, 0)) (by (with_reducible repeat (first | refine blk_drewN ?_ _ | refine blk_drew ?_ | refine blk_alloc ?_ _)); exact BK147.out) hb)
                  have n4_ := Aside0.mk (below_step (by repeat (first | (with_reducible first | exact HB.out | apply below_alloc | apply pw_below_drewN | apply below_drew1 | refine below_set ?_ GE146.out | refine below_set ?_ GE147.out) | exact HB.out)) hb)
                  clear HO154
                  clear BK146
                  clear BK147
                  clear HB
                  have HO154 := n0_
                  have HO157 := n1_
                  have BK146 := n2_
                  have BK147 := n3_
                  have HB := n4_
                  clear n0_ n1_ n2_ n3_ n4_
                  clear hb ho21
                  refine hK.out _ _ ⟨(blk_cell BK146.out 0).trans rfl, (blk_cell BK146.out 1).trans rfl, (blk_cell BK146.out 2).trans rfl, (blk_cell BK146.out 3).trans rfl, (blk_cell BK147.out 0).trans rfl, (blk_cell BK147.out 1).trans rfl, (blk_cell BK147.out 2).trans rfl⟩ (fun hHeld => ?_)
                  clear hK K
                  refine norm_ (a' := ?_) ?_ ?_
                  rotate_left
                  · show Act.put _ (some 32) _ = _
                    simp only [Act.put, List.setIfInBounds_toArray, List.set_cons_zero, List.set_cons_succ, i64_w, i32_w]
                    rfl
                  exact norm_ (by simp only [putAll, Act.put, List.setIfInBounds_toArray, List.set_cons_zero, List.set_cons_succ]) (hCont (v150, v153, v156) _ ⟨hHeld, (by (with_reducible repeat (first | apply Kd.R_alloc | apply Kd.R_drewN | apply Kd.R_drew)); exact Kd.R_mono HO154.out (fun _ hk => ⟨hk.2, hk.1⟩)), (by (with_reducible repeat (first | apply Kd.R_alloc | apply Kd.R_drewN | apply Kd.R_drew)); exact Kd.R_mono HO157.out (fun _ hk => ⟨hk.1.2, hk.2⟩)), (by (with_reducible repeat (first | refine blk_drewN ?_ _ | refine blk_drew ?_ | refine blk_alloc ?_ _)); exact BK146.out), (by (with_reducible repeat (first | refine blk_drewN ?_ _ | refine blk_drew ?_ | refine blk_alloc ?_ _)); exact BK147.out), (by repeat (first | (with_reducible first | exact HB.out | apply below_alloc | apply pw_below_drewN | apply below_drew1 | refine below_set ?_ GE146.out | refine below_set ?_ GE147.out) | exact HB.out))⟩)
                · skip
                  refine Kd.R_lit_step k38 _ 38 ?hg (N := 32) ?hd (xs := ([(⟨wrap64 ((l1.length : Int) + 1), (rd_T38 l1 (ji5)).f1, a2⟩ : S38)] : List (S38))) (inner := [.int .i64 (wrap64 ((l1.length : Int) + 1)), .int .i64 ((rd_T38 l1 (ji5)).f1), .int .i64 a2]) (ok := fun _ => True) (okp := fun _ => True) ?hr ?hp (fun _ hk => hk) trivial (Below.refl _ _) (Nat.le_refl _) (by simp) ?_; (case hd => rfl); (case hg => rfl); (case hr => first | (go_simp; done) | (go_simp; rfl)); (case hp => exact (Reps.c3 (show Kd.M k38 _ _ _ (⟨wrap64 ((l1.length : Int) + 1), (rd_T38 l1 (ji5)).f1, a2⟩ : S38) [.int .i64 (wrap64 ((l1.length : Int) + 1)), .int .i64 ((rd_T38 l1 (ji5)).f1), .int .i64 a2] from (k38_mkM _ _ _ (⟨wrap64 ((l1.length : Int) + 1), (rd_T38 l1 (ji5)).f1, a2⟩ : S38) )) (Reps.none _ _)))
                  intro v156 w19 ho20 hb hg_ hnew_
                  clear hg_ hnew_
                  (first | rw [← Ny155.out] at ho20 | (simp only [Int.reduceToNat] at ho20; rw [← Ny155.out] at ho20))
                  have n0_ := Aside0.mk (Kd.R_elder' (by (with_reducible repeat (first | apply Kd.R_alloc | apply Kd.R_drewN | apply Kd.R_drew)); exact HO151.out) (Kd.R_base ho20) hb)
                  have n1_ := Aside0.mk (Kd.R_lower (Kd.R_newB (Kd.R_new' ho20 (Kd.R_lt (by (with_reducible repeat (first | apply Kd.R_alloc | apply Kd.R_drewN | apply Kd.R_drew)); exact HO151.out))) (g := gb147) (o := .cells #[.int .i64 (wrap64 ((l1.length : Int) + 1)), .int .i64 ((rd_T38 l1 (ji5)).f1), .int .i64 a2] 38 (0, 0)) (by (with_reducible repeat (first | refine blk_drewN ?_ _ | refine blk_drew ?_ | refine blk_alloc ?_ _)); exact BK147.out)) (below_size (by repeat (first | (with_reducible first | exact HB.out | apply below_alloc | apply pw_below_drewN | apply below_drew1 | refine below_set ?_ GE146.out | refine below_set ?_ GE147.out) | exact HB.out))))
                  have n2_ := Aside0.mk (blk_below (g := gb146) (o := .cells #[.int .i64 a0_0, .int .i64 a0_1, .int .i64 a0_2, .int .i64 a0_3] 23 (0, 0)) (by (with_reducible repeat (first | refine blk_drewN ?_ _ | refine blk_drew ?_ | refine blk_alloc ?_ _)); exact BK146.out) hb)
                  have n3_ := Aside0.mk (blk_below (g := gb147) (o := .cells #[.int .i64 (wrap64 ((l1.length : Int) + 1)), .int .i64 ((rd_T38 l1 (ji5)).f1), .int .i64 a2] 38 (0, 0)) (by (with_reducible repeat (first | refine blk_drewN ?_ _ | refine blk_drew ?_ | refine blk_alloc ?_ _)); exact BK147.out) hb)
                  have n4_ := Aside0.mk (below_step (by repeat (first | (with_reducible first | exact HB.out | apply below_alloc | apply pw_below_drewN | apply below_drew1 | refine below_set ?_ GE146.out | refine below_set ?_ GE147.out) | exact HB.out)) hb)
                  clear HO151
                  clear BK146
                  clear BK147
                  clear HB
                  have HO151 := n0_
                  have HO157 := n1_
                  have BK146 := n2_
                  have BK147 := n3_
                  have HB := n4_
                  clear n0_ n1_ n2_ n3_ n4_
                  clear hb ho20
                  refine hK.out _ _ ⟨(blk_cell BK146.out 0).trans rfl, (blk_cell BK146.out 1).trans rfl, (blk_cell BK146.out 2).trans rfl, (blk_cell BK146.out 3).trans rfl, (blk_cell BK147.out 0).trans rfl, (blk_cell BK147.out 1).trans rfl, (blk_cell BK147.out 2).trans rfl⟩ (fun hHeld => ?_)
                  clear hK K
                  refine norm_ (a' := ?_) ?_ ?_
                  rotate_left
                  · show Act.put _ (some 32) _ = _
                    simp only [Act.put, List.setIfInBounds_toArray, List.set_cons_zero, List.set_cons_succ, i64_w, i32_w]
                    rfl
                  refine one_ (i := 3) (N := some 30) #[true, true, true, true, true, true, false, false, false, false, false, false, false] rfl rfl (one_of HT_.out (by kernel_rfl)) (by decide) (fun K hK => ?_)
                  refine Kd.R_append_rows_step k38 (w0 := w) w.heap.size (by rfl) (.tmp 28) (.tmp 29) 24 38 (.agg #[(.int .i64 0), (.int .i64 0), (.int .i64 0)]) 24 rfl Try.underlying24 info38 rfl (by decide) (by omega) v150 y149 l1 _ _ _ (fun k_ => some k_ ≠ (v156 : Value).ownBlock ∧ k_ ≠ gb147) (fun _ => False) rfl rfl ?aO ?aR (fun _ _ h => h) (fun _ h => h.elim) ?aF ?aB ?aS ?aL ?_
                  (case aR => repeat (first | exact (Kd.C_below HR1.out HB.out) | (with_reducible refine Kd.C_alloc ?_ _) | (with_reducible refine Kd.C_drewN ?_ _) | (with_reducible refine Kd.C_drew ?_)))
                  (case aB => exact (by repeat (first | (with_reducible first | exact HB.out | apply below_alloc | apply pw_below_drewN | apply below_drew1 | refine below_set ?_ GE146.out | refine below_set ?_ GE147.out) | exact HB.out)))
                  (case aF => exact (fun k_ hk => ⟨Kd.fresh' (Kd.R_lt (by (with_reducible repeat (first | apply Kd.R_alloc | apply Kd.R_drewN | apply Kd.R_drew)); exact HO157.out)) k_ hk, Kd.freshB (g := gb147) (o := .cells #[.int .i64 (wrap64 ((l1.length : Int) + 1)), .int .i64 ((rd_T38 l1 (ji5)).f1), .int .i64 a2] 38 (0, 0)) (by (with_reducible repeat (first | refine blk_drewN ?_ _ | refine blk_drew ?_ | refine blk_alloc ?_ _)); exact BK147.out) k_ hk⟩))
                  (case aO => exact (by (with_reducible repeat (first | apply Kd.R_alloc | apply Kd.R_drewN | apply Kd.R_drew)); exact Kd.R_mono HO151.out (fun _ hk => ⟨hk.2, hk.1.2⟩)))
                  (case aS => exact (below_size (by repeat (first | (with_reducible first | exact HB.out | apply below_alloc | apply pw_below_drewN | apply below_drew1 | refine below_set ?_ GE146.out | refine below_set ?_ GE147.out) | exact HB.out))))
                  (case aL => have := LMc8.out; omega)
                  intro v153 w21 ho hb hg hat
                  rw [← Ny152.out] at ho
                  have n0_ := Aside0.mk (blk_grown (g := gb146) (o := .cells #[.int .i64 a0_0, .int .i64 a0_1, .int .i64 a0_2, .int .i64 a0_3] 23 (0, 0)) (by (with_reducible repeat (first | refine blk_drewN ?_ _ | refine blk_drew ?_ | refine blk_alloc ?_ _)); exact BK146.out) hg (Kd.R_ne HO151.out BK146.out (by decide)))
                  have n1_ := Aside0.mk (blk_grown (g := gb147) (o := .cells #[.int .i64 (wrap64 ((l1.length : Int) + 1)), .int .i64 ((rd_T38 l1 (ji5)).f1), .int .i64 a2] 38 (0, 0)) (by (with_reducible repeat (first | refine blk_drewN ?_ _ | refine blk_drew ?_ | refine blk_alloc ?_ _)); exact BK147.out) hg (Kd.R_away HO151.out (fun _ hk => hk.1.2)))
                  have n2_ := Aside0.mk (Kd.R_after (ok := (fun k_ => k_ ≠ gb147)) (by (with_reducible repeat (first | apply Kd.R_alloc | apply Kd.R_drewN | apply Kd.R_drew)); exact Kd.R_mono HO157.out (fun _ hk => ⟨hk.2, hk.1.2⟩)) hg hat)
                  have n3_ := Aside0.mk (hb)
                  have n4_ := Aside0.mk (ho)
                  clear BK146
                  clear BK147
                  clear HO157
                  clear HB
                  clear HO151
                  have BK146 := n0_
                  have BK147 := n1_
                  have HO157 := n2_
                  have HB := n3_
                  have HO154 := n4_
                  clear n0_ n1_ n2_ n3_ n4_
                  clear ho hb hg hat
                  refine hK.out _ _ ⟨(blk_cell BK146.out 0).trans rfl, (blk_cell BK146.out 1).trans rfl, (blk_cell BK146.out 2).trans rfl, (blk_cell BK146.out 3).trans rfl, (blk_cell BK147.out 0).trans rfl, (blk_cell BK147.out 1).trans rfl, (blk_cell BK147.out 2).trans rfl⟩ (fun hHeld => ?_)
                  clear hK K
                  refine norm_ (a' := ?_) ?_ ?_
                  rotate_left
                  · show Act.put _ (some 30) _ = _
                    simp only [Act.put, List.setIfInBounds_toArray, List.set_cons_zero, List.set_cons_succ, i64_w, i32_w]
                    rfl
                  exact norm_ (by simp only [putAll, Act.put, List.setIfInBounds_toArray, List.set_cons_zero, List.set_cons_succ]) (hCont (v150, v153, v156) _ ⟨hHeld, (by (with_reducible repeat (first | apply Kd.R_alloc | apply Kd.R_drewN | apply Kd.R_drew)); exact HO154.out), (by (with_reducible repeat (first | apply Kd.R_alloc | apply Kd.R_drewN | apply Kd.R_drew)); exact Kd.R_mono HO157.out (fun _ hk => ⟨hk.2, hk.1⟩)), (by (with_reducible repeat (first | refine blk_drewN ?_ _ | refine blk_drew ?_ | refine blk_alloc ?_ _)); exact BK146.out), (by (with_reducible repeat (first | refine blk_drewN ?_ _ | refine blk_drew ?_ | refine blk_alloc ?_ _)); exact BK147.out), (by repeat (first | (with_reducible first | exact HB.out | apply below_alloc | apply pw_below_drewN | apply below_drew1 | refine below_set ?_ GE146.out | refine below_set ?_ GE147.out) | exact HB.out))⟩)
              · skip
                refine Kd.R_lit_step k38 _ 38 ?hg (N := 32) ?hd (xs := ([(⟨wrap64 ((l1.length : Int) + 1), (rd_T38 l1 (ji5)).f1, a2⟩ : S38)] : List (S38))) (inner := [.int .i64 (wrap64 ((l1.length : Int) + 1)), .int .i64 ((rd_T38 l1 (ji5)).f1), .int .i64 a2]) (ok := fun _ => True) (okp := fun _ => True) ?hr ?hp (fun _ hk => hk) trivial (Below.refl _ _) (Nat.le_refl _) (by simp) ?_; (case hd => rfl); (case hg => rfl); (case hr => first | (go_simp; done) | (go_simp; rfl)); (case hp => exact (Reps.c3 (show Kd.M k38 _ _ _ (⟨wrap64 ((l1.length : Int) + 1), (rd_T38 l1 (ji5)).f1, a2⟩ : S38) [.int .i64 (wrap64 ((l1.length : Int) + 1)), .int .i64 ((rd_T38 l1 (ji5)).f1), .int .i64 a2] from (k38_mkM _ _ _ (⟨wrap64 ((l1.length : Int) + 1), (rd_T38 l1 (ji5)).f1, a2⟩ : S38) )) (Reps.none _ _)))
                intro v156 w17 ho18 hb hg_ hnew_
                clear hg_ hnew_
                (first | rw [← Ny155.out] at ho18 | (simp only [Int.reduceToNat] at ho18; rw [← Ny155.out] at ho18))
                have n0_ := Aside0.mk (Kd.R_lower (Kd.R_newB ho18 (g := gb147) (o := .cells #[.int .i64 (wrap64 ((l1.length : Int) + 1)), .int .i64 ((rd_T38 l1 (ji5)).f1), .int .i64 a2] 38 (0, 0)) (by (with_reducible repeat (first | refine blk_drewN ?_ _ | refine blk_drew ?_ | refine blk_alloc ?_ _)); exact BK147.out)) (below_size (by repeat (first | (with_reducible first | exact HB.out | apply below_alloc | apply pw_below_drewN | apply below_drew1 | refine below_set ?_ GE146.out | refine below_set ?_ GE147.out) | exact HB.out))))
                have n1_ := Aside0.mk (blk_below (g := gb146) (o := .cells #[.int .i64 a0_0, .int .i64 a0_1, .int .i64 a0_2, .int .i64 a0_3] 23 (0, 0)) (by (with_reducible repeat (first | refine blk_drewN ?_ _ | refine blk_drew ?_ | refine blk_alloc ?_ _)); exact BK146.out) hb)
                have n2_ := Aside0.mk (blk_below (g := gb147) (o := .cells #[.int .i64 (wrap64 ((l1.length : Int) + 1)), .int .i64 ((rd_T38 l1 (ji5)).f1), .int .i64 a2] 38 (0, 0)) (by (with_reducible repeat (first | refine blk_drewN ?_ _ | refine blk_drew ?_ | refine blk_alloc ?_ _)); exact BK147.out) hb)
                have n3_ := Aside0.mk (below_step (by repeat (first | (with_reducible first | exact HB.out | apply below_alloc | apply pw_below_drewN | apply below_drew1 | refine below_set ?_ GE146.out | refine below_set ?_ GE147.out) | exact HB.out)) hb)
                clear BK146
                clear BK147
                clear HB
                have HO157 := n0_
                have BK146 := n1_
                have BK147 := n2_
                have HB := n3_
                clear n0_ n1_ n2_ n3_
                clear hb ho18
                refine hK.out _ _ ⟨(blk_cell BK146.out 0).trans rfl, (blk_cell BK146.out 1).trans rfl, (blk_cell BK146.out 2).trans rfl, (blk_cell BK146.out 3).trans rfl, (blk_cell BK147.out 0).trans rfl, (blk_cell BK147.out 1).trans rfl, (blk_cell BK147.out 2).trans rfl⟩ (fun hHeld => ?_)
                clear hK K
                refine norm_ (a' := ?_) ?_ ?_
                rotate_left
                · show Act.put _ (some 32) _ = _
                  simp only [Act.put, List.setIfInBounds_toArray, List.set_cons_zero, List.set_cons_succ, i64_w, i32_w]
                  rfl
                refine one_ (i := 1) (N := some 28) #[true, true, true, false, true, true, false, false, false, false, false, false, false] rfl rfl (one_of HT_.out (by kernel_rfl)) (by decide) (fun K hK => ?_)
                refine Kd.R_lit_step k38 _ 38 ?hg (N := 28) ?hd (xs := ([] : List (S38))) (inner := []) (ok := fun _ => True) (okp := fun _ => True) ?hr ?hp (fun _ hk => hk) trivial (Below.refl _ _) (Nat.le_refl _) (by simp) ?_; (case hd => rfl); (case hg => rfl); (case hr => first | (go_simp; done) | (go_simp; rfl)); (case hp => exact (Reps.none _ _))
                intro v150 w19 ho20 hb hg_ hnew_
                clear hg_ hnew_
                (first | rw [← Ny149.out] at ho20 | (simp only [Int.reduceToNat] at ho20; rw [← Ny149.out] at ho20))
                have n0_ := Aside0.mk (Kd.R_elder' (by (with_reducible repeat (first | apply Kd.R_alloc | apply Kd.R_drewN | apply Kd.R_drew)); exact HO157.out) (Kd.R_base ho20) hb)
                have n1_ := Aside0.mk (Kd.R_lower (Kd.R_newB (Kd.R_new' ho20 (Kd.R_lt (by (with_reducible repeat (first | apply Kd.R_alloc | apply Kd.R_drewN | apply Kd.R_drew)); exact HO157.out))) (g := gb147) (o := .cells #[.int .i64 (wrap64 ((l1.length : Int) + 1)), .int .i64 ((rd_T38 l1 (ji5)).f1), .int .i64 a2] 38 (0, 0)) (by (with_reducible repeat (first | refine blk_drewN ?_ _ | refine blk_drew ?_ | refine blk_alloc ?_ _)); exact BK147.out)) (below_size (by repeat (first | (with_reducible first | exact HB.out | apply below_alloc | apply pw_below_drewN | apply below_drew1 | refine below_set ?_ GE146.out | refine below_set ?_ GE147.out) | exact HB.out))))
                have n2_ := Aside0.mk (blk_below (g := gb146) (o := .cells #[.int .i64 a0_0, .int .i64 a0_1, .int .i64 a0_2, .int .i64 a0_3] 23 (0, 0)) (by (with_reducible repeat (first | refine blk_drewN ?_ _ | refine blk_drew ?_ | refine blk_alloc ?_ _)); exact BK146.out) hb)
                have n3_ := Aside0.mk (blk_below (g := gb147) (o := .cells #[.int .i64 (wrap64 ((l1.length : Int) + 1)), .int .i64 ((rd_T38 l1 (ji5)).f1), .int .i64 a2] 38 (0, 0)) (by (with_reducible repeat (first | refine blk_drewN ?_ _ | refine blk_drew ?_ | refine blk_alloc ?_ _)); exact BK147.out) hb)
                have n4_ := Aside0.mk (below_step (by repeat (first | (with_reducible first | exact HB.out | apply below_alloc | apply pw_below_drewN | apply below_drew1 | refine below_set ?_ GE146.out | refine below_set ?_ GE147.out) | exact HB.out)) hb)
                clear HO157
                clear BK146
                clear BK147
                clear HB
                have HO157 := n0_
                have HO151 := n1_
                have BK146 := n2_
                have BK147 := n3_
                have HB := n4_
                clear n0_ n1_ n2_ n3_ n4_
                clear hb ho20
                refine hK.out _ _ ⟨(blk_cell BK146.out 0).trans rfl, (blk_cell BK146.out 1).trans rfl, (blk_cell BK146.out 2).trans rfl, (blk_cell BK146.out 3).trans rfl, (blk_cell BK147.out 0).trans rfl, (blk_cell BK147.out 1).trans rfl, (blk_cell BK147.out 2).trans rfl⟩ (fun hHeld => ?_)
                clear hK K
                refine norm_ (a' := ?_) ?_ ?_
                rotate_left
                · show Act.put _ (some 28) _ = _
                  simp only [Act.put, List.setIfInBounds_toArray, List.set_cons_zero, List.set_cons_succ, i64_w, i32_w]
                  rfl
                refine one_ (i := 3) (N := some 30) #[true, true, true, true, true, true, false, false, false, false, false, false, false] rfl rfl (one_of HT_.out (by kernel_rfl)) (by decide) (fun K hK => ?_)
                refine Kd.R_append_rows_step k38 (w0 := w) w.heap.size (by rfl) (.tmp 28) (.tmp 29) 24 38 (.agg #[(.int .i64 0), (.int .i64 0), (.int .i64 0)]) 24 rfl Try.underlying24 info38 rfl (by decide) (by omega) v150 y149 l1 _ _ _ (fun k_ => some k_ ≠ (v156 : Value).ownBlock ∧ k_ ≠ gb147) (fun _ => False) rfl rfl ?aO ?aR (fun _ _ h => h) (fun _ h => h.elim) ?aF ?aB ?aS ?aL ?_
                (case aR => repeat (first | exact (Kd.C_below HR1.out HB.out) | (with_reducible refine Kd.C_alloc ?_ _) | (with_reducible refine Kd.C_drewN ?_ _) | (with_reducible refine Kd.C_drew ?_)))
                (case aB => exact (by repeat (first | (with_reducible first | exact HB.out | apply below_alloc | apply pw_below_drewN | apply below_drew1 | refine below_set ?_ GE146.out | refine below_set ?_ GE147.out) | exact HB.out)))
                (case aF => exact (fun k_ hk => ⟨Kd.fresh' (Kd.R_lt (by (with_reducible repeat (first | apply Kd.R_alloc | apply Kd.R_drewN | apply Kd.R_drew)); exact HO157.out)) k_ hk, Kd.freshB (g := gb147) (o := .cells #[.int .i64 (wrap64 ((l1.length : Int) + 1)), .int .i64 ((rd_T38 l1 (ji5)).f1), .int .i64 a2] 38 (0, 0)) (by (with_reducible repeat (first | refine blk_drewN ?_ _ | refine blk_drew ?_ | refine blk_alloc ?_ _)); exact BK147.out) k_ hk⟩))
                (case aO => exact (by (with_reducible repeat (first | apply Kd.R_alloc | apply Kd.R_drewN | apply Kd.R_drew)); exact Kd.R_mono HO151.out (fun _ hk => ⟨hk.1.2, hk.2⟩)))
                (case aS => exact (below_size (by repeat (first | (with_reducible first | exact HB.out | apply below_alloc | apply pw_below_drewN | apply below_drew1 | refine below_set ?_ GE146.out | refine below_set ?_ GE147.out) | exact HB.out))))
                (case aL => have := LMc8.out; omega)
                intro v153 w21 ho hb hg hat
                rw [← Ny152.out] at ho
                have n0_ := Aside0.mk (blk_grown (g := gb146) (o := .cells #[.int .i64 a0_0, .int .i64 a0_1, .int .i64 a0_2, .int .i64 a0_3] 23 (0, 0)) (by (with_reducible repeat (first | refine blk_drewN ?_ _ | refine blk_drew ?_ | refine blk_alloc ?_ _)); exact BK146.out) hg (Kd.R_ne HO151.out BK146.out (by decide)))
                have n1_ := Aside0.mk (blk_grown (g := gb147) (o := .cells #[.int .i64 (wrap64 ((l1.length : Int) + 1)), .int .i64 ((rd_T38 l1 (ji5)).f1), .int .i64 a2] 38 (0, 0)) (by (with_reducible repeat (first | refine blk_drewN ?_ _ | refine blk_drew ?_ | refine blk_alloc ?_ _)); exact BK147.out) hg (Kd.R_away HO151.out (fun _ hk => hk.2)))
                have n2_ := Aside0.mk (Kd.R_after (ok := (fun k_ => k_ ≠ gb147)) (by (with_reducible repeat (first | apply Kd.R_alloc | apply Kd.R_drewN | apply Kd.R_drew)); exact Kd.R_mono HO157.out (fun _ hk => ⟨hk.1.2, hk.2⟩)) hg hat)
                have n3_ := Aside0.mk (hb)
                have n4_ := Aside0.mk (ho)
                clear BK146
                clear BK147
                clear HO157
                clear HB
                clear HO151
                have BK146 := n0_
                have BK147 := n1_
                have HO157 := n2_
                have HB := n3_
                have HO154 := n4_
                clear n0_ n1_ n2_ n3_ n4_
                clear ho hb hg hat
                refine hK.out _ _ ⟨(blk_cell BK146.out 0).trans rfl, (blk_cell BK146.out 1).trans rfl, (blk_cell BK146.out 2).trans rfl, (blk_cell BK146.out 3).trans rfl, (blk_cell BK147.out 0).trans rfl, (blk_cell BK147.out 1).trans rfl, (blk_cell BK147.out 2).trans rfl⟩ (fun hHeld => ?_)
                clear hK K
                refine norm_ (a' := ?_) ?_ ?_
                rotate_left
                · show Act.put _ (some 30) _ = _
                  simp only [Act.put, List.setIfInBounds_toArray, List.set_cons_zero, List.set_cons_succ, i64_w, i32_w]
                  rfl
                exact norm_ (by simp only [putAll, Act.put, List.setIfInBounds_toArray, List.set_cons_zero, List.set_cons_succ]) (hCont (v150, v153, v156) _ ⟨hHeld, (by (with_reducible repeat (first | apply Kd.R_alloc | apply Kd.R_drewN | apply Kd.R_drew)); exact HO154.out), (by (with_reducible repeat (first | apply Kd.R_alloc | apply Kd.R_drewN | apply Kd.R_drew)); exact Kd.R_mono HO157.out (fun _ hk => ⟨hk.2, hk.1⟩)), (by (with_reducible repeat (first | refine blk_drewN ?_ _ | refine blk_drew ?_ | refine blk_alloc ?_ _)); exact BK146.out), (by (with_reducible repeat (first | refine blk_drewN ?_ _ | refine blk_drew ?_ | refine blk_alloc ?_ _)); exact BK147.out), (by repeat (first | (with_reducible first | exact HB.out | apply below_alloc | apply pw_below_drewN | apply below_drew1 | refine below_set ?_ GE146.out | refine below_set ?_ GE147.out) | exact HB.out))⟩)
            rintro ⟨v150, v153, v156⟩ w22 ⟨hS_, h0_, h1_, h2_, h3_, h4_⟩
            have n0_ : Aside0 (Kd.R k38 38 w22 w.heap.size (fun k_ => some k_ ≠ (v156 : Value).ownBlock ∧ k_ ≠ gb147) v153 y152) := ⟨h0_⟩
            have n1_ : Aside0 (Kd.R k38 38 w22 w.heap.size (fun k_ => some k_ ≠ (v153 : Value).ownBlock ∧ k_ ≠ gb147) v156 y155) := ⟨h1_⟩
            have n2_ : Aside0 (w22.heap[gb146]? = some (.cells #[.int .i64 a0_0, .int .i64 a0_1, .int .i64 a0_2, .int .i64 a0_3] 23 (0, 0))) := ⟨h2_⟩
            have n3_ : Aside0 (w22.heap[gb147]? = some (.cells #[.int .i64 (wrap64 ((l1.length : Int) + 1)), .int .i64 ((rd_T38 l1 (ji5)).f1), .int .i64 a2] 38 (0, 0))) := ⟨h3_⟩
            have n4_ : Aside0 (Below w.heap.size w w22) := ⟨h4_⟩
            clear BK146
            clear BK147
            clear HB
            clear h0_ h1_ h2_ h3_ h4_
            have HO154 := n0_
            have HO157 := n1_
            have BK146 := n2_
            have BK147 := n3_
            have HB := n4_
            clear n0_ n1_ n2_ n3_ n4_
            have hHeld : w22.cell? ⟨gb146, 0, none⟩ = some (.int .i64 a0_0) ∧ w22.cell? ⟨gb146, 1, none⟩ = some (.int .i64 a0_1) ∧ w22.cell? ⟨gb146, 2, none⟩ = some (.int .i64 a0_2) ∧ w22.cell? ⟨gb146, 3, none⟩ = some (.int .i64 a0_3) ∧ w22.cell? ⟨gb147, 0, none⟩ = some (.int .i64 (wrap64 ((l1.length : Int) + 1))) ∧ w22.cell? ⟨gb147, 1, none⟩ = some (.int .i64 ((rd_T38 l1 (ji5)).f1)) ∧ w22.cell? ⟨gb147, 2, none⟩ = some (.int .i64 a2) := hS_
            obtain ⟨Ao24, co24, eo24⟩ := Kd.R_slice HO157.out
            (first | subst eo24 | (injection eo24 with f1_ f2_ f3_; have f4_ := f1_.symm; have f5_ := f3_.symm; clear f1_ f2_ f3_; subst f4_; subst f5_))
            refine norm_ (a' := ?_) ?_ ?_
            rotate_left
            · simp only [putAll, Act.put, List.setIfInBounds_toArray, List.set_cons_zero, List.set_cons_succ]
              rfl
            refine one_ (i := 6) (N := some 33) #[true, true, true, true, true, true, true, false, false, false, false, false, false] rfl rfl (one_of HT_.out (by kernel_rfl)) (by decide) (fun K hK => ?_)
            refine Kd.R_append_rows_step k38 (w0 := w) w.heap.size (by rfl) (.tmp 30) (.tmp 32) 24 38 (.agg #[(.int .i64 0), (.int .i64 0), (.int .i64 0)]) 24 rfl Try.underlying24 info38 rfl (by decide) (by omega) v153 y152 y155 _ _ _ (fun k_ => some k_ ≠ (.slice Ao24 y155.length co24 : Value).ownBlock ∧ k_ ≠ gb147) (fun _ => False) rfl rfl ?aO ?aR (fun _ _ h => h) (fun _ h => h.elim) ?aF ?aB ?aS ?aL ?_
            (case aR => repeat (first | exact (Kd.R_reads' HO157.out).2.2 | (with_reducible refine Kd.C_alloc ?_ _) | (with_reducible refine Kd.C_drewN ?_ _) | (with_reducible refine Kd.C_drew ?_)))
            (case aB => exact (by repeat (first | (with_reducible first | exact HB.out | apply below_alloc | apply pw_below_drewN | apply below_drew1 | refine below_set ?_ GE146.out | refine below_set ?_ GE147.out) | exact HB.out)))
            (case aF => exact (fun k_ hk => ⟨Kd.fresh' (Kd.R_lt (by (with_reducible repeat (first | apply Kd.R_alloc | apply Kd.R_drewN | apply Kd.R_drew)); exact HO157.out)) k_ hk, Kd.freshB (g := gb147) (o := .cells #[.int .i64 (wrap64 ((l1.length : Int) + 1)), .int .i64 ((rd_T38 l1 (ji5)).f1), .int .i64 a2] 38 (0, 0)) (by (with_reducible repeat (first | refine blk_drewN ?_ _ | refine blk_drew ?_ | refine blk_alloc ?_ _)); exact BK147.out) k_ hk⟩))
            (case aO => exact (by (with_reducible repeat (first | apply Kd.R_alloc | apply Kd.R_drewN | apply Kd.R_drew)); exact HO154.out))
            (case aS => exact (below_size (by repeat (first | (with_reducible first | exact HB.out | apply below_alloc | apply pw_below_drewN | apply below_drew1 | refine below_set ?_ GE146.out | refine below_set ?_ GE147.out) | exact HB.out))))
            (case aL => have := LMc9.out; omega)
            intro v159 w23 ho hb hg hat
            rw [← Ny158.out] at ho
            have n0_ := Aside0.mk (blk_grown (g := gb146) (o := .cells #[.int .i64 a0_0, .int .i64 a0_1, .int .i64 a0_2, .int .i64 a0_3] 23 (0, 0)) (by (with_reducible repeat (first | refine blk_drewN ?_ _ | refine blk_drew ?_ | refine blk_alloc ?_ _)); exact BK146.out) hg (Kd.R_ne HO154.out BK146.out (by decide)))
            have n1_ := Aside0.mk (blk_grown (g := gb147) (o := .cells #[.int .i64 (wrap64 ((l1.length : Int) + 1)), .int .i64 ((rd_T38 l1 (ji5)).f1), .int .i64 a2] 38 (0, 0)) (by (with_reducible repeat (first | refine blk_drewN ?_ _ | refine blk_drew ?_ | refine blk_alloc ?_ _)); exact BK147.out) hg (Kd.R_away HO154.out (fun _ hk => hk.2)))
            have n2_ := Aside0.mk (Kd.R_after (ok := (fun k_ => k_ ≠ gb147)) (by (with_reducible repeat (first | apply Kd.R_alloc | apply Kd.R_drewN | apply Kd.R_drew)); exact Kd.R_mono HO157.out (fun _ hk => ⟨hk.2, hk.1⟩)) hg hat)
            have n3_ := Aside0.mk (hb)
            have n4_ := Aside0.mk (ho)
            clear BK146
            clear BK147
            clear HO157
            clear HB
            clear HO154
            have BK146 := n0_
            have BK147 := n1_
            have HO157 := n2_
            have HB := n3_
            have HO160 := n4_
            clear n0_ n1_ n2_ n3_ n4_
            clear ho hb hg hat
            obtain ⟨Ao25, co25, eo25⟩ := Kd.R_slice HO160.out
            (first | subst eo25 | (injection eo25 with f1_ f2_ f3_; have f4_ := f1_.symm; have f5_ := f3_.symm; clear f1_ f2_ f3_; subst f4_; subst f5_))
            refine hK.out _ _ ⟨(blk_cell BK146.out 0).trans rfl, (blk_cell BK146.out 1).trans rfl, (blk_cell BK146.out 2).trans rfl, (blk_cell BK146.out 3).trans rfl, (blk_cell BK147.out 0).trans rfl, (blk_cell BK147.out 1).trans rfl, (blk_cell BK147.out 2).trans rfl⟩ (fun hHeld => ?_)
            clear hK K
            refine norm_ (a' := ?_) ?_ ?_
            rotate_left
            · show Act.put _ (some 33) _ = _
              simp only [Act.put, List.setIfInBounds_toArray, List.set_cons_zero, List.set_cons_succ, i64_w, i32_w]
              rfl
            refine one_ (i := 7) (N := some 34) #[true, true, true, true, true, true, true, true, false, false, false, false, false] rfl rfl (one_of HT_.out (by kernel_rfl)) (by decide) (fun K hK => ?_)
            refine goes_ Try.func12 (by kernel_rfl) rfl #[.agg #[.int .i64 a0_0, .int .i64 a0_1, .int .i64 a0_2, .int .i64 a0_3], .slice Ao25 y158.length co25] (by rfl) rfl rfl (by (try simp only [List.map_toArray, List.map_cons, List.map_nil]); first | done | rfl | (simp only [List.length_drop, List.length_take]; rfl)) ?_
            with_reducible refine (assessorref52_Final.calls k a0_0 a0_1 a0_2 a0_3 _ _ y158 t161 t162 _ ?side1 ?side2 A10.out).mono ?_
            (case side1 => repeat (first | exact (Kd.R_reads' HO160.out).2.2 | (with_reducible refine Kd.C_alloc ?_ _) | (with_reducible refine Kd.C_drewN ?_ _) | (with_reducible refine Kd.C_drew ?_)))
            (case side2 => exact (Kd.R_reads' HO160.out).2.1)
            rintro e w26 ⟨rfl, hb⟩
            refine ⟨_, rfl, ?_⟩
            have n0_ := Aside0.mk (Kd.R_below (by (with_reducible repeat (first | apply Kd.R_alloc | apply Kd.R_drewN | apply Kd.R_drew)); exact HO157.out) hb)
            have n1_ := Aside0.mk (Kd.R_below (by (with_reducible repeat (first | apply Kd.R_alloc | apply Kd.R_drewN | apply Kd.R_drew)); exact HO160.out) hb)
            have n2_ := Aside0.mk (blk_below (g := gb146) (o := .cells #[.int .i64 a0_0, .int .i64 a0_1, .int .i64 a0_2, .int .i64 a0_3] 23 (0, 0)) (by (with_reducible repeat (first | refine blk_drewN ?_ _ | refine blk_drew ?_ | refine blk_alloc ?_ _)); exact BK146.out) hb)
            have n3_ := Aside0.mk (blk_below (g := gb147) (o := .cells #[.int .i64 (wrap64 ((l1.length : Int) + 1)), .int .i64 ((rd_T38 l1 (ji5)).f1), .int .i64 a2] 38 (0, 0)) (by (with_reducible repeat (first | refine blk_drewN ?_ _ | refine blk_drew ?_ | refine blk_alloc ?_ _)); exact BK147.out) hb)
            have n4_ := Aside0.mk (below_step (by repeat (first | (with_reducible first | exact HB.out | apply below_alloc | apply pw_below_drewN | apply below_drew1 | refine below_set ?_ GE146.out | refine below_set ?_ GE147.out) | exact HB.out)) hb)
            clear HO157
            clear HO160
            clear BK146
            clear BK147
            clear HB
            have HO157 := n0_
            have HO160 := n1_
            have BK146 := n2_
            have BK147 := n3_
            have HB := n4_
            clear n0_ n1_ n2_ n3_ n4_
            (try clear hb)
            (try clear hb2)
            (try clear hk)
            (try clear hi)
            refine hK.out _ _ ⟨(blk_cell BK146.out 0).trans rfl, (blk_cell BK146.out 1).trans rfl, (blk_cell BK146.out 2).trans rfl, (blk_cell BK146.out 3).trans rfl, (blk_cell BK147.out 0).trans rfl, (blk_cell BK147.out 1).trans rfl, (blk_cell BK147.out 2).trans rfl⟩ (fun hHeld => ?_)
            clear hK K
            refine norm_ (a' := ?_) ?_ ?_
            rotate_left
            · show Act.put _ (some 34) _ = _
              simp only [Act.put, List.setIfInBounds_toArray, List.set_cons_zero, List.set_cons_succ, i64_w, i32_w]
              rfl
            refine pure_ (i := 8) (N := some 26) (v := ?_) (a' := ?_) #[true, true, true, true, true, true, true, true, true, false, false, false, false] rfl rfl (any_of HT_.out (by kernel_rfl)) (fun _ _ _ h => h) (Or.inl ⟨by rfl, ?_⟩) ?_ ?_
            rotate_left
            · intro w'
              go_simp
              with_reducible rfl
            rotate_left
            · simp only [Act.put, List.setIfInBounds_toArray, List.set_cons_zero, List.set_cons_succ, i64_w, i32_w]
              rfl
            refine pure_ (i := 9) (N := some 35) (v := ?_) (a' := ?_) #[true, true, true, true, true, true, true, true, true, true, false, false, false] rfl rfl (any_of HT_.out (by kernel_rfl)) (fun _ _ _ h => h) (Or.inl ⟨by rfl, ?_⟩) ?_ ?_
            rotate_left
            · intro w'
              go_simp
              with_reducible rfl
            rotate_left
            · simp only [Act.put, List.setIfInBounds_toArray, List.set_cons_zero, List.set_cons_succ, i64_w, i32_w]
              rfl
            refine pure_ (i := 10) (N := some 36) (v := ?_) (a' := ?_) #[true, true, true, true, true, true, true, true, true, true, true, false, false] rfl rfl (any_of HT_.out (by kernel_rfl)) (fun _ _ _ h => h) (Or.inl ⟨by rfl, ?_⟩) ?_ ?_
            rotate_left
            · intro w'
              go_simp
              with_reducible rfl
            rotate_left
            · simp only [Act.put, List.setIfInBounds_toArray, List.set_cons_zero, List.set_cons_succ, i64_w, i32_w]
              rfl
            refine pure_ (i := 11) (N := some 8) (v := ?_) (a' := ?_) #[true, true, true, true, true, true, true, true, true, true, true, true, false] rfl rfl (any_of HT_.out (by kernel_rfl)) (fun _ _ _ h => h) (Or.inl ⟨by rfl, ?_⟩) ?_ ?_
            rotate_left
            · intro w'
              go_simp
              with_reducible rfl
            rotate_left
            · simp only [Act.put, List.setIfInBounds_toArray, List.set_cons_zero, List.set_cons_succ, i64_w, i32_w]
              rfl
            refine pure_ (i := 12) (N := some 9) (v := ?_) (a' := ?_) #[true, true, true, true, true, true, true, true, true, true, true, true, true] rfl rfl (any_of HT_.out (by kernel_rfl)) (fun _ _ _ h => h) (Or.inl ⟨by rfl, ?_⟩) ?_ ?_
            rotate_left
            · intro w'
              go_simp
              with_reducible rfl
            rotate_left
            · simp only [Act.put, List.setIfInBounds_toArray, List.set_cons_zero, List.set_cons_succ, i64_w, i32_w]
              rfl
            refine done_ (done_of HT_.out (by kernel_rfl)) ?_
            try go_wp2
            go_ret
            exact ⟨by first | rfl | (simp [errW_none, errW_some] <;> rfl) | (simp only [← hji5]; first | rfl | (simp [errW_none, errW_some] <;> rfl)) | (simp [*, errW_none, errW_some] <;> rfl) | (simp [IntKind.wrap_i64, wrap64]; done), by repeat (first | (with_reducible first | exact HB.out | apply below_alloc | apply pw_below_drewN | apply below_drew1 | refine below_set ?_ GE146.out | refine below_set ?_ GE147.out) | exact HB.out)⟩
          · rw [if_neg c9] at H
            exact absurd H (by simp)
        · rw [if_neg c8] at H
          exact absurd H (by simp)
      · rw [if_neg c7] at H
        exact absurd H (by simp)
    · rw [if_neg c6] at H
      exact absurd H (by simp)
  · rw [if_neg c4] at H
    have c4b0 : decide (0 < (l1.length : Int)) = false := decide_eq_false c4
    have c4b1 : decide (0 < l1.length) = false := decide_eq_false (by omega)
    clear c4
    obtain ⟨y163, hy163⟩ : ∃ y_ : List (S38), y_ = (([] : List (S38))) := ⟨_, rfl⟩
    replace H : (if y163.length + l1.length < 5864062014805 then ((some (y163 ++ l1 : List (S38))).bind fun y166 => ((some (([(⟨wrap64 ((l1.length : Int) + 1), 0, a2⟩ : S38)] : List (S38)) : List (S38))).bind fun y169 => (if y166.length + y169.length < 5864062014805 then ((assessorref52_Final.f k a0_0 a0_1 a0_2 a0_3 (y166 ++ y169)).bind fun bt175 => (some bt175.1)) else (none)))) else (none)) = some r := by first | (rw [hy163]; with_reducible exact H) | (have H2_ := (Option.bind_some _ _).symm.trans H; rw [hy163]; with_reducible exact H2_) | (have H2_ := (Option.bind_some _ _).symm.trans H; with_reducible exact H2_) | with_reducible exact H | (rw [hy163]; exact H) | exact H
    have Ny163 := Aside0.mk hy163
    clear hy163
    by_cases c27 : y163.length + l1.length < 5864062014805
    · rw [if_pos c27] at H
      have LMc27 := Aside0.mk c27
      clear c27
      obtain ⟨y166, hy166⟩ : ∃ y_ : List (S38), y_ = (y163 ++ l1) := ⟨_, rfl⟩
      replace H : ((some (([(⟨wrap64 ((l1.length : Int) + 1), 0, a2⟩ : S38)] : List (S38)) : List (S38))).bind fun y169 => (if y166.length + y169.length < 5864062014805 then ((assessorref52_Final.f k a0_0 a0_1 a0_2 a0_3 (y166 ++ y169)).bind fun bt175 => (some bt175.1)) else (none))) = some r := by first | (rw [hy166]; with_reducible exact H) | (have H2_ := (Option.bind_some _ _).symm.trans H; rw [hy166]; with_reducible exact H2_) | (have H2_ := (Option.bind_some _ _).symm.trans H; with_reducible exact H2_) | with_reducible exact H | (rw [hy166]; exact H) | exact H
      have Ny166 := Aside0.mk hy166
      clear hy166
      obtain ⟨y169, hy169⟩ : ∃ y_ : List (S38), y_ = (([(⟨wrap64 ((l1.length : Int) + 1), 0, a2⟩ : S38)] : List (S38))) := ⟨_, rfl⟩
      replace H : (if y166.length + y169.length < 5864062014805 then ((assessorref52_Final.f k a0_0 a0_1 a0_2 a0_3 (y166 ++ y169)).bind fun bt175 => (some bt175.1)) else (none)) = some r := by first | (rw [hy169]; with_reducible exact H) | (have H2_ := (Option.bind_some _ _).symm.trans H; rw [hy169]; with_reducible exact H2_) | (have H2_ := (Option.bind_some _ _).symm.trans H; with_reducible exact H2_) | with_reducible exact H | (rw [hy169]; exact H) | exact H
      have Ny169 := Aside0.mk hy169
      clear hy169
      by_cases c28 : y166.length + y169.length < 5864062014805
      · rw [if_pos c28] at H
        have LMc28 := Aside0.mk c28
        clear c28
        obtain ⟨y172, hy172⟩ : ∃ y_ : List (S38), y_ = (y166 ++ y169) := ⟨_, rfl⟩
        replace H : ((assessorref52_Final.f k a0_0 a0_1 a0_2 a0_3 y172).bind fun bt175 => (some bt175.1)) = some r := by first | (rw [hy172]; with_reducible exact H) | (have H2_ := (Option.bind_some _ _).symm.trans H; rw [hy172]; with_reducible exact H2_) | (have H2_ := (Option.bind_some _ _).symm.trans H; with_reducible exact H2_) | with_reducible exact H | (rw [hy172]; exact H) | exact H
        have Ny172 := Aside0.mk hy172
        clear hy172
        replace H := Option.bind_eq_some_iff.mp H
        obtain ⟨⟨t175, t176⟩, A290, H⟩ := H
        replace H : (some t175) = some r := H
        have A29 := Aside0.mk A290
        clear A290
        obtain rfl := Option.some.inj H
        go_enter Try.func31, Try.ntmps31
        try go_wp2_with (first | ((with_reducible refine gate_dst (N := 3) rfl ?_); refine box_event ?hg (N := 3) ?hd (cs := #[.int .i64 a0_0, .int .i64 a0_1, .int .i64 a0_2, .int .i64 a0_3]) (t := 23) ?hr ?_; (case hd => rfl); (case hg => rfl); (case hr => first | (go_simp; done) | (go_simp; rfl)); intro gb146 hg w30 hbox hb; have n0_ := Aside0.mk (below_step (by repeat (first | (with_reducible first | exact HB.out | apply below_alloc | apply pw_below_drewN | apply below_drew1) | exact HB.out)) hb); have n1_ := Aside0.mk (hbox); have n2_ := Aside0.mk ((by rw [hg]; exact (below_size (by repeat (first | (with_reducible first | exact HB.out | apply below_alloc | apply pw_below_drewN | apply below_drew1) | exact HB.out))) : w.heap.size ≤ gb146)); have n3_ := Aside0.mk ((by rw [hg]; exact (below_size (by repeat (first | (with_reducible first | exact HB.out | apply below_alloc | apply pw_below_drewN | apply below_drew1) | exact HB.out))) : w.heap.size ≤ gb146)); clear HB; have HB := n0_; have BK146 := n1_; have GW146 := n2_; have GE146 := n3_; clear n0_ n1_ n2_ n3_; clear hb hbox hg) | ((with_reducible refine gate_dst (N := 7) rfl ?_); refine box_event ?hg (N := 7) ?hd (cs := #[.int .i64 0, .int .i64 0, .int .i64 0]) (t := 38) ?hr ?_; (case hd => rfl); (case hg => rfl); (case hr => first | (go_simp; done) | (go_simp; rfl)); intro gb147 hg w31 hbox hb; have n0_ := Aside0.mk (blk_below (g := gb146) (o := .cells #[.int .i64 a0_0, .int .i64 a0_1, .int .i64 a0_2, .int .i64 a0_3] 23 (0, 0)) (by (with_reducible repeat (first | refine blk_drewN ?_ _ | refine blk_drew ?_ | refine blk_alloc ?_ _)); exact BK146.out) hb); have n1_ := Aside0.mk (below_step (by repeat (first | (with_reducible first | exact HB.out | apply below_alloc | apply pw_below_drewN | apply below_drew1 | refine below_set ?_ GE146.out) | exact HB.out)) hb); have n2_ := Aside0.mk (hbox); have n3_ := Aside0.mk ((by rw [hg]; exact (below_size (by repeat (first | (with_reducible first | exact HB.out | apply below_alloc | apply pw_below_drewN | apply below_drew1 | refine below_set ?_ GE146.out) | exact HB.out))) : w.heap.size ≤ gb147)); have n4_ := Aside0.mk ((by rw [hg]; exact (below_size (by repeat (first | (with_reducible first | exact HB.out | apply below_alloc | apply pw_below_drewN | apply below_drew1 | refine below_set ?_ GE146.out) | exact HB.out))) : w.heap.size ≤ gb147)); have n5_ := Aside0.mk ((by rw [hg]; exact Nat.ne_of_lt (blk_lt (g := gb146) (o := .cells #[.int .i64 a0_0, .int .i64 a0_1, .int .i64 a0_2, .int .i64 a0_3] 23 (0, 0)) (by (with_reducible repeat (first | refine blk_drewN ?_ _ | refine blk_drew ?_ | refine blk_alloc ?_ _)); exact BK146.out)) : gb146 ≠ gb147)); have n6_ := Aside0.mk ((by rw [hg]; exact Nat.ne_of_gt (blk_lt (g := gb146) (o := .cells #[.int .i64 a0_0, .int .i64 a0_1, .int .i64 a0_2, .int .i64 a0_3] 23 (0, 0)) (by (with_reducible repeat (first | refine blk_drewN ?_ _ | refine blk_drew ?_ | refine blk_alloc ?_ _)); exact BK146.out)) : gb147 ≠ gb146)); clear BK146; clear HB; have BK146 := n0_; have HB := n1_; have BK147 := n2_; have GW147 := n3_; have GE147 := n4_; have NB146_147 := n5_; have NB147_146 := n6_; clear n0_ n1_ n2_ n3_ n4_ n5_ n6_; clear hb hbox hg; have hnb32 := NB147_146.out; have hnc32 := NB146_147.out; have hcz33_0 : w31.cell? ⟨gb147, 0, none⟩ = some (.int .i64 0) := (blk_cell BK147.out 0).trans rfl; have hcz33_1 : w31.cell? ⟨gb147, 1, none⟩ = some (.int .i64 0) := (blk_cell BK147.out 1).trans rfl; have hcz33_2 : w31.cell? ⟨gb147, 2, none⟩ = some (.int .i64 0) := (blk_cell BK147.out 2).trans rfl; have hfz33_0 := blk_frozen BK147.out 0; have hfz33_1 := blk_frozen BK147.out 1; have hfz33_2 := blk_frozen BK147.out 2))
        have n0_ : Aside0 ((((w31.setCell ⟨gb147, 0, none⟩ (.int .i64 (wrap64 ((l1.length : Int) + 1)))).setCell ⟨gb147, 1, none⟩ (.int .i64 0)).setCell ⟨gb147, 2, none⟩ (.int .i64 a2)).heap[gb146]? = some (.cells #[.int .i64 a0_0, .int .i64 a0_1, .int .i64 a0_2, .int .i64 a0_3] 23 (0, 0))) := ⟨by (with_reducible repeat (first | refine blk_drewN ?_ _ | refine blk_drew ?_ | refine blk_alloc ?_ _)); refine blk_far ?_ NB146_147.out _; (with_reducible repeat (first | refine blk_drewN ?_ _ | refine blk_drew ?_ | refine blk_alloc ?_ _)); refine blk_far ?_ NB146_147.out _; (with_reducible repeat (first | refine blk_drewN ?_ _ | refine blk_drew ?_ | refine blk_alloc ?_ _)); refine blk_far ?_ NB146_147.out _; (with_reducible repeat (first | refine blk_drewN ?_ _ | refine blk_drew ?_ | refine blk_alloc ?_ _)); exact BK146.out⟩
        have n1_ : Aside0 ((((w31.setCell ⟨gb147, 0, none⟩ (.int .i64 (wrap64 ((l1.length : Int) + 1)))).setCell ⟨gb147, 1, none⟩ (.int .i64 0)).setCell ⟨gb147, 2, none⟩ (.int .i64 a2)).heap[gb147]? = some (.cells #[.int .i64 (wrap64 ((l1.length : Int) + 1)), .int .i64 0, .int .i64 a2] 38 (0, 0))) := ⟨by (with_reducible repeat (first | refine blk_drewN ?_ _ | refine blk_drew ?_ | refine blk_alloc ?_ _)); refine blk_put (cs := #[.int .i64 (wrap64 ((l1.length : Int) + 1)), .int .i64 0, .int .i64 0]) ?_ 2 _ rfl; (with_reducible repeat (first | refine blk_drewN ?_ _ | refine blk_drew ?_ | refine blk_alloc ?_ _)); refine blk_put (cs := #[.int .i64 (wrap64 ((l1.length : Int) + 1)), .int .i64 0, .int .i64 0]) ?_ 1 _ rfl; (with_reducible repeat (first | refine blk_drewN ?_ _ | refine blk_drew ?_ | refine blk_alloc ?_ _)); refine blk_put (cs := #[.int .i64 0, .int .i64 0, .int .i64 0]) ?_ 0 _ rfl; (with_reducible repeat (first | refine blk_drewN ?_ _ | refine blk_drew ?_ | refine blk_alloc ?_ _)); exact BK147.out⟩
        have n2_ : Aside0 (Below w.heap.size w (((w31.setCell ⟨gb147, 0, none⟩ (.int .i64 (wrap64 ((l1.length : Int) + 1)))).setCell ⟨gb147, 1, none⟩ (.int .i64 0)).setCell ⟨gb147, 2, none⟩ (.int .i64 a2))) := ⟨by repeat (first | (with_reducible first | exact HB.out | apply below_alloc | apply pw_below_drewN | apply below_drew1 | refine below_set ?_ GE146.out | refine below_set ?_ GE147.out) | exact HB.out)⟩
        (try clear BK146)
        (try clear BK147)
        (try clear HB)
        generalize (((w31.setCell ⟨gb147, 0, none⟩ (.int .i64 (wrap64 ((l1.length : Int) + 1)))).setCell ⟨gb147, 1, none⟩ (.int .i64 0)).setCell ⟨gb147, 2, none⟩ (.int .i64 a2)) = w34 at n0_ n1_ n2_ ⊢
        have BK146 := n0_
        have BK147 := n1_
        have HB := n2_
        clear n0_ n1_ n2_
        have n0_ := Aside0.mk (blk_drew BK146.out)
        have n1_ := Aside0.mk (blk_drew BK147.out)
        have n2_ := Aside0.mk (below_drew1 HB.out)
        clear BK146
        clear BK147
        clear HB
        have BK146 := n0_
        have BK147 := n1_
        have HB := n2_
        clear n0_ n1_ n2_
        refine start_ (n := 13) (S := fun w' => w'.cell? ⟨gb146, 0, none⟩ = some (.int .i64 a0_0) ∧ w'.cell? ⟨gb146, 1, none⟩ = some (.int .i64 a0_1) ∧ w'.cell? ⟨gb146, 2, none⟩ = some (.int .i64 a0_2) ∧ w'.cell? ⟨gb146, 3, none⟩ = some (.int .i64 a0_3) ∧ w'.cell? ⟨gb147, 0, none⟩ = some (.int .i64 (wrap64 ((l1.length : Int) + 1))) ∧ w'.cell? ⟨gb147, 1, none⟩ = some (.int .i64 0) ∧ w'.cell? ⟨gb147, 2, none⟩ = some (.int .i64 a2)) (ds := []) #[false, false, false, false, false, false, false, false, false, false, false, false, false] (by kernel_rfl) rfl rfl ⟨(blk_cell BK146.out 0).trans rfl, (blk_cell BK146.out 1).trans rfl, (blk_cell BK146.out 2).trans rfl, (blk_cell BK146.out 3).trans rfl, (blk_cell BK147.out 0).trans rfl, (blk_cell BK147.out 1).trans rfl, (blk_cell BK147.out 2).trans rfl⟩ (fun hHeld => ?_); refine with_tabW assessorref52_with.tab4 assessorref52_with.bits4 (fun HT_ HW_ => ?_)
        generalize w34.drew = w35 at BK146 BK147 HB hHeld ⊢
        refine pure_ (i := 2) (N := some 29) (v := ?_) (a' := ?_) #[false, false, true, false, false, false, false, false, false, false, false, false, false] rfl rfl (any_of HT_.out (by kernel_rfl)) (fun _ _ _ h => h) (Or.inl ⟨by rfl, ?_⟩) ?_ ?_
        rotate_left
        · intro w'
          go_simp
          with_reducible rfl
        rotate_left
        · simp only [Act.put, List.setIfInBounds_toArray, List.set_cons_zero, List.set_cons_succ, i64_w, i32_w]
          rfl
        refine take_ (i := 0) (N := some 27) (v := ?_) (a' := ?_) #[true, false, true, false, false, false, false, false, false, false, false, false, false] rfl rfl (take_ofW HT_.out HW_.out (by kernel_rfl)) (fun _ _ _ h => h) (Or.inl ⟨by rfl, ?_⟩) hHeld ?_ ?_
        rotate_left
        · rintro w' ⟨s0, s1, s2, s3, s4, s5, s6⟩
          go_simp
          with_reducible rfl
        rotate_left
        · simp only [Act.put, List.setIfInBounds_toArray, List.set_cons_zero, List.set_cons_succ, i64_w, i32_w]
          rfl
        refine take_ (i := 4) (N := some 31) (v := ?_) (a' := ?_) #[true, false, true, false, true, false, false, false, false, false, false, false, false] rfl rfl (take_ofW HT_.out HW_.out (by kernel_rfl)) (fun _ _ _ h => h) (Or.inl ⟨by rfl, ?_⟩) hHeld ?_ ?_
        rotate_left
        · rintro w' ⟨s0, s1, s2, s3, s4, s5, s6⟩
          go_simp
          with_reducible rfl
        rotate_left
        · simp only [Act.put, List.setIfInBounds_toArray, List.set_cons_zero, List.set_cons_succ, i64_w, i32_w]
          rfl
        refine join_ (σ := Value × Value × Value) 7 #[true, true, true, true, true, true, false, false, false, false, false, false, false] (fun s_ => [(28, s_.1), (30, s_.2.1), (32, s_.2.2)]) (fun s_ w' => (w'.cell? ⟨gb146, 0, none⟩ = some (.int .i64 a0_0) ∧ w'.cell? ⟨gb146, 1, none⟩ = some (.int .i64 a0_1) ∧ w'.cell? ⟨gb146, 2, none⟩ = some (.int .i64 a0_2) ∧ w'.cell? ⟨gb146, 3, none⟩ = some (.int .i64 a0_3) ∧ w'.cell? ⟨gb147, 0, none⟩ = some (.int .i64 (wrap64 ((l1.length : Int) + 1))) ∧ w'.cell? ⟨gb147, 1, none⟩ = some (.int .i64 0) ∧ w'.cell? ⟨gb147, 2, none⟩ = some (.int .i64 a2)) ∧ (Kd.R k38 38 w' w.heap.size (fun k_ => some k_ ≠ (s_.2.2 : Value).ownBlock ∧ k_ ≠ gb147) s_.2.1 y166) ∧ (Kd.R k38 38 w' w.heap.size (fun k_ => some k_ ≠ (s_.2.1 : Value).ownBlock ∧ k_ ≠ gb147) s_.2.2 y169) ∧ (w'.heap[gb146]? = some (.cells #[.int .i64 a0_0, .int .i64 a0_1, .int .i64 a0_2, .int .i64 a0_3] 23 (0, 0))) ∧ (w'.heap[gb147]? = some (.cells #[.int .i64 (wrap64 ((l1.length : Int) + 1)), .int .i64 0, .int .i64 a2] 38 (0, 0))) ∧ (Below w.heap.size w w')) ?_ ?_
        rotate_left
        · intro hCont
          refine two_ (i := 1) (j := 5) (Ni := some 28) (Nj := some 32) #[true, true, true, false, true, false, false, false, false, false, false, false, false] #[true, false, true, false, true, true, false, false, false, false, false, false, false] rfl rfl rfl rfl (two_of HT_.out (by kernel_rfl)) (by decide) (by decide) (fun K hK => ?_) (fun K hK => ?_)
          · skip
            refine Kd.R_lit_step k38 _ 38 ?hg (N := 28) ?hd (xs := ([] : List (S38))) (inner := []) (ok := fun _ => True) (okp := fun _ => True) ?hr ?hp (fun _ hk => hk) trivial (Below.refl _ _) (Nat.le_refl _) (by simp) ?_; (case hd => rfl); (case hg => rfl); (case hr => first | (go_simp; done) | (go_simp; rfl)); (case hp => exact (Reps.none _ _))
            intro v164 w36 ho37 hb hg_ hnew_
            clear hg_ hnew_
            (first | rw [← Ny163.out] at ho37 | (simp only [Int.reduceToNat] at ho37; rw [← Ny163.out] at ho37))
            have n0_ := Aside0.mk (Kd.R_lower (Kd.R_newB ho37 (g := gb147) (o := .cells #[.int .i64 (wrap64 ((l1.length : Int) + 1)), .int .i64 0, .int .i64 a2] 38 (0, 0)) (by (with_reducible repeat (first | refine blk_drewN ?_ _ | refine blk_drew ?_ | refine blk_alloc ?_ _)); exact BK147.out)) (below_size (by repeat (first | (with_reducible first | exact HB.out | apply below_alloc | apply pw_below_drewN | apply below_drew1 | refine below_set ?_ GE146.out | refine below_set ?_ GE147.out) | exact HB.out))))
            have n1_ := Aside0.mk (blk_below (g := gb146) (o := .cells #[.int .i64 a0_0, .int .i64 a0_1, .int .i64 a0_2, .int .i64 a0_3] 23 (0, 0)) (by (with_reducible repeat (first | refine blk_drewN ?_ _ | refine blk_drew ?_ | refine blk_alloc ?_ _)); exact BK146.out) hb)
            have n2_ := Aside0.mk (blk_below (g := gb147) (o := .cells #[.int .i64 (wrap64 ((l1.length : Int) + 1)), .int .i64 0, .int .i64 a2] 38 (0, 0)) (by (with_reducible repeat (first | refine blk_drewN ?_ _ | refine blk_drew ?_ | refine blk_alloc ?_ _)); exact BK147.out) hb)
            have n3_ := Aside0.mk (below_step (by repeat (first | (with_reducible first | exact HB.out | apply below_alloc | apply pw_below_drewN | apply below_drew1 | refine below_set ?_ GE146.out | refine below_set ?_ GE147.out) | exact HB.out)) hb)
            clear BK146
            clear BK147
            clear HB
            have HO165 := n0_
            have BK146 := n1_
            have BK147 := n2_
            have HB := n3_
            clear n0_ n1_ n2_ n3_
            clear hb ho37
            refine hK.out _ _ ⟨(blk_cell BK146.out 0).trans rfl, (blk_cell BK146.out 1).trans rfl, (blk_cell BK146.out 2).trans rfl, (blk_cell BK146.out 3).trans rfl, (blk_cell BK147.out 0).trans rfl, (blk_cell BK147.out 1).trans rfl, (blk_cell BK147.out 2).trans rfl⟩ (fun hHeld => ?_)
            clear hK K
            refine norm_ (a' := ?_) ?_ ?_
            rotate_left
            · show Act.put _ (some 28) _ = _
              simp only [Act.put, List.setIfInBounds_toArray, List.set_cons_zero, List.set_cons_succ, i64_w, i32_w]
              rfl
            refine two_ (i := 3) (j := 5) (Ni := some 30) (Nj := some 32) #[true, true, true, true, true, false, false, false, false, false, false, false, false] #[true, true, true, false, true, true, false, false, false, false, false, false, false] rfl rfl rfl rfl (two_of HT_.out (by kernel_rfl)) (by decide) (by decide) (fun K hK => ?_) (fun K hK => ?_)
            · skip
              refine Kd.R_append_rows_step k38 (w0 := w) w.heap.size (by rfl) (.tmp 28) (.tmp 29) 24 38 (.agg #[(.int .i64 0), (.int .i64 0), (.int .i64 0)]) 24 rfl Try.underlying24 info38 rfl (by decide) (by omega) v164 y163 l1 _ _ _ (fun k_ => k_ ≠ gb147) (fun _ => False) rfl rfl ?aO ?aR (fun _ _ h => h) (fun _ h => h.elim) ?aF ?aB ?aS ?aL ?_
              (case aR => repeat (first | exact (Kd.C_below HR1.out HB.out) | (with_reducible refine Kd.C_alloc ?_ _) | (with_reducible refine Kd.C_drewN ?_ _) | (with_reducible refine Kd.C_drew ?_)))
              (case aB => exact (by repeat (first | (with_reducible first | exact HB.out | apply below_alloc | apply pw_below_drewN | apply below_drew1 | refine below_set ?_ GE146.out | refine below_set ?_ GE147.out) | exact HB.out)))
              (case aF => exact (fun k_ hk => Kd.freshB (g := gb147) (o := .cells #[.int .i64 (wrap64 ((l1.length : Int) + 1)), .int .i64 0, .int .i64 a2] 38 (0, 0)) (by (with_reducible repeat (first | refine blk_drewN ?_ _ | refine blk_drew ?_ | refine blk_alloc ?_ _)); exact BK147.out) k_ hk))
              (case aO => exact (by (with_reducible repeat (first | apply Kd.R_alloc | apply Kd.R_drewN | apply Kd.R_drew)); exact Kd.R_mono HO165.out (fun _ hk => hk.2)))
              (case aS => exact (below_size (by repeat (first | (with_reducible first | exact HB.out | apply below_alloc | apply pw_below_drewN | apply below_drew1 | refine below_set ?_ GE146.out | refine below_set ?_ GE147.out) | exact HB.out))))
              (case aL => have := LMc27.out; omega)
              intro v167 w38 ho hb hg hat
              rw [← Ny166.out] at ho
              have n0_ := Aside0.mk (blk_grown (g := gb146) (o := .cells #[.int .i64 a0_0, .int .i64 a0_1, .int .i64 a0_2, .int .i64 a0_3] 23 (0, 0)) (by (with_reducible repeat (first | refine blk_drewN ?_ _ | refine blk_drew ?_ | refine blk_alloc ?_ _)); exact BK146.out) hg (Kd.R_ne HO165.out BK146.out (by decide)))
              have n1_ := Aside0.mk (blk_grown (g := gb147) (o := .cells #[.int .i64 (wrap64 ((l1.length : Int) + 1)), .int .i64 0, .int .i64 a2] 38 (0, 0)) (by (with_reducible repeat (first | refine blk_drewN ?_ _ | refine blk_drew ?_ | refine blk_alloc ?_ _)); exact BK147.out) hg (Kd.R_away HO165.out (fun _ hk => hk.2)))
              have n2_ := Aside0.mk (hb)
              have n3_ := Aside0.mk (ho)
              clear BK146
              clear BK147
              clear HB
              clear HO165
              have BK146 := n0_
              have BK147 := n1_
              have HB := n2_
              have HO168 := n3_
              clear n0_ n1_ n2_ n3_
              clear ho hb hg hat
              refine hK.out _ _ ⟨(blk_cell BK146.out 0).trans rfl, (blk_cell BK146.out 1).trans rfl, (blk_cell BK146.out 2).trans rfl, (blk_cell BK146.out 3).trans rfl, (blk_cell BK147.out 0).trans rfl, (blk_cell BK147.out 1).trans rfl, (blk_cell BK147.out 2).trans rfl⟩ (fun hHeld => ?_)
              clear hK K
              refine norm_ (a' := ?_) ?_ ?_
              rotate_left
              · show Act.put _ (some 30) _ = _
                simp only [Act.put, List.setIfInBounds_toArray, List.set_cons_zero, List.set_cons_succ, i64_w, i32_w]
                rfl
              refine one_ (i := 5) (N := some 32) #[true, true, true, true, true, true, false, false, false, false, false, false, false] rfl rfl (one_of HT_.out (by kernel_rfl)) (by decide) (fun K hK => ?_)
              refine Kd.R_lit_step k38 _ 38 ?hg (N := 32) ?hd (xs := ([(⟨wrap64 ((l1.length : Int) + 1), 0, a2⟩ : S38)] : List (S38))) (inner := [.int .i64 (wrap64 ((l1.length : Int) + 1)), .int .i64 0, .int .i64 a2]) (ok := fun _ => True) (okp := fun _ => True) ?hr ?hp (fun _ hk => hk) trivial (Below.refl _ _) (Nat.le_refl _) (by simp) ?_; (case hd => rfl); (case hg => rfl); (case hr => first | (go_simp; done) | (go_simp; rfl)); (case hp => exact (Reps.c3 (show Kd.M k38 _ _ _ (⟨wrap64 ((l1.length : Int) + 1), 0, a2⟩ : S38) [.int .i64 (wrap64 ((l1.length : Int) + 1)), .int .i64 0, .int .i64 a2] from (k38_mkM _ _ _ (⟨wrap64 ((l1.length : Int) + 1), 0, a2⟩ : S38) )) (Reps.none _ _)))
              intro v170 w39 ho40 hb hg_ hnew_
              clear hg_ hnew_
              (first | rw [← Ny169.out] at ho40 | (simp only [Int.reduceToNat] at ho40; rw [← Ny169.out] at ho40))
              have n0_ := Aside0.mk (Kd.R_elder' (by (with_reducible repeat (first | apply Kd.R_alloc | apply Kd.R_drewN | apply Kd.R_drew)); exact HO168.out) (Kd.R_base ho40) hb)
              have n1_ := Aside0.mk (Kd.R_lower (Kd.R_newB (Kd.R_new' ho40 (Kd.R_lt (by (with_reducible repeat (first | apply Kd.R_alloc | apply Kd.R_drewN | apply Kd.R_drew)); exact HO168.out))) (g := gb147) (o := .cells #[.int .i64 (wrap64 ((l1.length : Int) + 1)), .int .i64 0, .int .i64 a2] 38 (0, 0)) (by (with_reducible repeat (first | refine blk_drewN ?_ _ | refine blk_drew ?_ | refine blk_alloc ?_ _)); exact BK147.out)) (below_size (by repeat (first | (with_reducible first | exact HB.out | apply below_alloc | apply pw_below_drewN | apply below_drew1 | refine below_set ?_ GE146.out | refine below_set ?_ GE147.out) | exact HB.out))))
              have n2_ := Aside0.mk (blk_below (g := gb146) (o := .cells #[.int .i64 a0_0, .int .i64 a0_1, .int .i64 a0_2, .int .i64 a0_3] 23 (0, 0)) (by (with_reducible repeat (first | refine blk_drewN ?_ _ | refine blk_drew ?_ | refine blk_alloc ?_ _)); exact BK146.out) hb)
              have n3_ := Aside0.mk (blk_below (g := gb147) (o := .cells #[.int .i64 (wrap64 ((l1.length : Int) + 1)), .int .i64 0, .int .i64 a2] 38 (0, 0)) (by (with_reducible repeat (first | refine blk_drewN ?_ _ | refine blk_drew ?_ | refine blk_alloc ?_ _)); exact BK147.out) hb)
              have n4_ := Aside0.mk (below_step (by repeat (first | (with_reducible first | exact HB.out | apply below_alloc | apply pw_below_drewN | apply below_drew1 | refine below_set ?_ GE146.out | refine below_set ?_ GE147.out) | exact HB.out)) hb)
              clear HO168
              clear BK146
              clear BK147
              clear HB
              have HO168 := n0_
              have HO171 := n1_
              have BK146 := n2_
              have BK147 := n3_
              have HB := n4_
              clear n0_ n1_ n2_ n3_ n4_
              clear hb ho40
              refine hK.out _ _ ⟨(blk_cell BK146.out 0).trans rfl, (blk_cell BK146.out 1).trans rfl, (blk_cell BK146.out 2).trans rfl, (blk_cell BK146.out 3).trans rfl, (blk_cell BK147.out 0).trans rfl, (blk_cell BK147.out 1).trans rfl, (blk_cell BK147.out 2).trans rfl⟩ (fun hHeld => ?_)
              clear hK K
              refine norm_ (a' := ?_) ?_ ?_
              rotate_left
              · show Act.put _ (some 32) _ = _
                simp only [Act.put, List.setIfInBounds_toArray, List.set_cons_zero, List.set_cons_succ, i64_w, i32_w]
                rfl
              exact norm_ (by simp only [putAll, Act.put, List.setIfInBounds_toArray, List.set_cons_zero, List.set_cons_succ]) (hCont (v164, v167, v170) _ ⟨hHeld, (by (with_reducible repeat (first | apply Kd.R_alloc | apply Kd.R_drewN | apply Kd.R_drew)); exact Kd.R_mono HO168.out (fun _ hk => ⟨hk.2, hk.1⟩)), (by (with_reducible repeat (first | apply Kd.R_alloc | apply Kd.R_drewN | apply Kd.R_drew)); exact Kd.R_mono HO171.out (fun _ hk => ⟨hk.1.2, hk.2⟩)), (by (with_reducible repeat (first | refine blk_drewN ?_ _ | refine blk_drew ?_ | refine blk_alloc ?_ _)); exact BK146.out), (by (with_reducible repeat (first | refine blk_drewN ?_ _ | refine blk_drew ?_ | refine blk_alloc ?_ _)); exact BK147.out), (by repeat (first | (with_reducible first | exact HB.out | apply below_alloc | apply pw_below_drewN | apply below_drew1 | refine below_set ?_ GE146.out | refine below_set ?_ GE147.out) | exact HB.out))⟩)
            · skip
              refine Kd.R_lit_step k38 _ 38 ?hg (N := 32) ?hd (xs := ([(⟨wrap64 ((l1.length : Int) + 1), 0, a2⟩ : S38)] : List (S38))) (inner := [.int .i64 (wrap64 ((l1.length : Int) + 1)), .int .i64 0, .int .i64 a2]) (ok := fun _ => True) (okp := fun _ => True) ?hr ?hp (fun _ hk => hk) trivial (Below.refl _ _) (Nat.le_refl _) (by simp) ?_; (case hd => rfl); (case hg => rfl); (case hr => first | (go_simp; done) | (go_simp; rfl)); (case hp => exact (Reps.c3 (show Kd.M k38 _ _ _ (⟨wrap64 ((l1.length : Int) + 1), 0, a2⟩ : S38) [.int .i64 (wrap64 ((l1.length : Int) + 1)), .int .i64 0, .int .i64 a2] from (k38_mkM _ _ _ (⟨wrap64 ((l1.length : Int) + 1), 0, a2⟩ : S38) )) (Reps.none _ _)))
              intro v170 w38 ho39 hb hg_ hnew_
              clear hg_ hnew_
              (first | rw [← Ny169.out] at ho39 | (simp only [Int.reduceToNat] at ho39; rw [← Ny169.out] at ho39))
              have n0_ := Aside0.mk (Kd.R_elder' (by (with_reducible repeat (first | apply Kd.R_alloc | apply Kd.R_drewN | apply Kd.R_drew)); exact HO165.out) (Kd.R_base ho39) hb)
              have n1_ := Aside0.mk (Kd.R_lower (Kd.R_newB (Kd.R_new' ho39 (Kd.R_lt (by (with_reducible repeat (first | apply Kd.R_alloc | apply Kd.R_drewN | apply Kd.R_drew)); exact HO165.out))) (g := gb147) (o := .cells #[.int .i64 (wrap64 ((l1.length : Int) + 1)), .int .i64 0, .int .i64 a2] 38 (0, 0)) (by (with_reducible repeat (first | refine blk_drewN ?_ _ | refine blk_drew ?_ | refine blk_alloc ?_ _)); exact BK147.out)) (below_size (by repeat (first | (with_reducible first | exact HB.out | apply below_alloc | apply pw_below_drewN | apply below_drew1 | refine below_set ?_ GE146.out | refine below_set ?_ GE147.out) | exact HB.out))))
              have n2_ := Aside0.mk (blk_below (g := gb146) (o := .cells #[.int .i64 a0_0, .int .i64 a0_1, .int .i64 a0_2, .int .i64 a0_3] 23 (0, 0)) (by (with_reducible repeat (first | refine blk_drewN ?_ _ | refine blk_drew ?_ | refine blk_alloc ?_ _)); exact BK146.out) hb)
              have n3_ := Aside0.mk (blk_below (g := gb147) (o := .cells #[.int .i64 (wrap64 ((l1.length : Int) + 1)), .int .i64 0, .int .i64 a2] 38 (0, 0)) (by (with_reducible repeat (first | refine blk_drewN ?_ _ | refine blk_drew ?_ | refine blk_alloc ?_ _)); exact BK147.out) hb)
              have n4_ := Aside0.mk (below_step (by repeat (first | (with_reducible first | exact HB.out | apply below_alloc | apply pw_below_drewN | apply below_drew1 | refine below_set ?_ GE146.out | refine below_set ?_ GE147.out) | exact HB.out)) hb)
              clear HO165
              clear BK146
              clear BK147
              clear HB
              have HO165 := n0_
              have HO171 := n1_
              have BK146 := n2_
              have BK147 := n3_
              have HB := n4_
              clear n0_ n1_ n2_ n3_ n4_
              clear hb ho39
              refine hK.out _ _ ⟨(blk_cell BK146.out 0).trans rfl, (blk_cell BK146.out 1).trans rfl, (blk_cell BK146.out 2).trans rfl, (blk_cell BK146.out 3).trans rfl, (blk_cell BK147.out 0).trans rfl, (blk_cell BK147.out 1).trans rfl, (blk_cell BK147.out 2).trans rfl⟩ (fun hHeld => ?_)
              clear hK K
              refine norm_ (a' := ?_) ?_ ?_
              rotate_left
              · show Act.put _ (some 32) _ = _
                simp only [Act.put, List.setIfInBounds_toArray, List.set_cons_zero, List.set_cons_succ, i64_w, i32_w]
                rfl
              refine one_ (i := 3) (N := some 30) #[true, true, true, true, true, true, false, false, false, false, false, false, false] rfl rfl (one_of HT_.out (by kernel_rfl)) (by decide) (fun K hK => ?_)
              refine Kd.R_append_rows_step k38 (w0 := w) w.heap.size (by rfl) (.tmp 28) (.tmp 29) 24 38 (.agg #[(.int .i64 0), (.int .i64 0), (.int .i64 0)]) 24 rfl Try.underlying24 info38 rfl (by decide) (by omega) v164 y163 l1 _ _ _ (fun k_ => some k_ ≠ (v170 : Value).ownBlock ∧ k_ ≠ gb147) (fun _ => False) rfl rfl ?aO ?aR (fun _ _ h => h) (fun _ h => h.elim) ?aF ?aB ?aS ?aL ?_
              (case aR => repeat (first | exact (Kd.C_below HR1.out HB.out) | (with_reducible refine Kd.C_alloc ?_ _) | (with_reducible refine Kd.C_drewN ?_ _) | (with_reducible refine Kd.C_drew ?_)))
              (case aB => exact (by repeat (first | (with_reducible first | exact HB.out | apply below_alloc | apply pw_below_drewN | apply below_drew1 | refine below_set ?_ GE146.out | refine below_set ?_ GE147.out) | exact HB.out)))
              (case aF => exact (fun k_ hk => ⟨Kd.fresh' (Kd.R_lt (by (with_reducible repeat (first | apply Kd.R_alloc | apply Kd.R_drewN | apply Kd.R_drew)); exact HO171.out)) k_ hk, Kd.freshB (g := gb147) (o := .cells #[.int .i64 (wrap64 ((l1.length : Int) + 1)), .int .i64 0, .int .i64 a2] 38 (0, 0)) (by (with_reducible repeat (first | refine blk_drewN ?_ _ | refine blk_drew ?_ | refine blk_alloc ?_ _)); exact BK147.out) k_ hk⟩))
              (case aO => exact (by (with_reducible repeat (first | apply Kd.R_alloc | apply Kd.R_drewN | apply Kd.R_drew)); exact Kd.R_mono HO165.out (fun _ hk => ⟨hk.2, hk.1.2⟩)))
              (case aS => exact (below_size (by repeat (first | (with_reducible first | exact HB.out | apply below_alloc | apply pw_below_drewN | apply below_drew1 | refine below_set ?_ GE146.out | refine below_set ?_ GE147.out) | exact HB.out))))
              (case aL => have := LMc27.out; omega)
              intro v167 w40 ho hb hg hat
              rw [← Ny166.out] at ho
              have n0_ := Aside0.mk (blk_grown (g := gb146) (o := .cells #[.int .i64 a0_0, .int .i64 a0_1, .int .i64 a0_2, .int .i64 a0_3] 23 (0, 0)) (by (with_reducible repeat (first | refine blk_drewN ?_ _ | refine blk_drew ?_ | refine blk_alloc ?_ _)); exact BK146.out) hg (Kd.R_ne HO165.out BK146.out (by decide)))
              have n1_ := Aside0.mk (blk_grown (g := gb147) (o := .cells #[.int .i64 (wrap64 ((l1.length : Int) + 1)), .int .i64 0, .int .i64 a2] 38 (0, 0)) (by (with_reducible repeat (first | refine blk_drewN ?_ _ | refine blk_drew ?_ | refine blk_alloc ?_ _)); exact BK147.out) hg (Kd.R_away HO165.out (fun _ hk => hk.1.2)))
              have n2_ := Aside0.mk (Kd.R_after (ok := (fun k_ => k_ ≠ gb147)) (by (with_reducible repeat (first | apply Kd.R_alloc | apply Kd.R_drewN | apply Kd.R_drew)); exact Kd.R_mono HO171.out (fun _ hk => ⟨hk.2, hk.1.2⟩)) hg hat)
              have n3_ := Aside0.mk (hb)
              have n4_ := Aside0.mk (ho)
              clear BK146
              clear BK147
              clear HO171
              clear HB
              clear HO165
              have BK146 := n0_
              have BK147 := n1_
              have HO171 := n2_
              have HB := n3_
              have HO168 := n4_
              clear n0_ n1_ n2_ n3_ n4_
              clear ho hb hg hat
              refine hK.out _ _ ⟨(blk_cell BK146.out 0).trans rfl, (blk_cell BK146.out 1).trans rfl, (blk_cell BK146.out 2).trans rfl, (blk_cell BK146.out 3).trans rfl, (blk_cell BK147.out 0).trans rfl, (blk_cell BK147.out 1).trans rfl, (blk_cell BK147.out 2).trans rfl⟩ (fun hHeld => ?_)
              clear hK K
              refine norm_ (a' := ?_) ?_ ?_
              rotate_left
              · show Act.put _ (some 30) _ = _
                simp only [Act.put, List.setIfInBounds_toArray, List.set_cons_zero, List.set_cons_succ, i64_w, i32_w]
                rfl
              exact norm_ (by simp only [putAll, Act.put, List.setIfInBounds_toArray, List.set_cons_zero, List.set_cons_succ]) (hCont (v164, v167, v170) _ ⟨hHeld, (by (with_reducible repeat (first | apply Kd.R_alloc | apply Kd.R_drewN | apply Kd.R_drew)); exact HO168.out), (by (with_reducible repeat (first | apply Kd.R_alloc | apply Kd.R_drewN | apply Kd.R_drew)); exact Kd.R_mono HO171.out (fun _ hk => ⟨hk.2, hk.1⟩)), (by (with_reducible repeat (first | refine blk_drewN ?_ _ | refine blk_drew ?_ | refine blk_alloc ?_ _)); exact BK146.out), (by (with_reducible repeat (first | refine blk_drewN ?_ _ | refine blk_drew ?_ | refine blk_alloc ?_ _)); exact BK147.out), (by repeat (first | (with_reducible first | exact HB.out | apply below_alloc | apply pw_below_drewN | apply below_drew1 | refine below_set ?_ GE146.out | refine below_set ?_ GE147.out) | exact HB.out))⟩)
          · skip
            refine Kd.R_lit_step k38 _ 38 ?hg (N := 32) ?hd (xs := ([(⟨wrap64 ((l1.length : Int) + 1), 0, a2⟩ : S38)] : List (S38))) (inner := [.int .i64 (wrap64 ((l1.length : Int) + 1)), .int .i64 0, .int .i64 a2]) (ok := fun _ => True) (okp := fun _ => True) ?hr ?hp (fun _ hk => hk) trivial (Below.refl _ _) (Nat.le_refl _) (by simp) ?_; (case hd => rfl); (case hg => rfl); (case hr => first | (go_simp; done) | (go_simp; rfl)); (case hp => exact (Reps.c3 (show Kd.M k38 _ _ _ (⟨wrap64 ((l1.length : Int) + 1), 0, a2⟩ : S38) [.int .i64 (wrap64 ((l1.length : Int) + 1)), .int .i64 0, .int .i64 a2] from (k38_mkM _ _ _ (⟨wrap64 ((l1.length : Int) + 1), 0, a2⟩ : S38) )) (Reps.none _ _)))
            intro v170 w36 ho37 hb hg_ hnew_
            clear hg_ hnew_
            (first | rw [← Ny169.out] at ho37 | (simp only [Int.reduceToNat] at ho37; rw [← Ny169.out] at ho37))
            have n0_ := Aside0.mk (Kd.R_lower (Kd.R_newB ho37 (g := gb147) (o := .cells #[.int .i64 (wrap64 ((l1.length : Int) + 1)), .int .i64 0, .int .i64 a2] 38 (0, 0)) (by (with_reducible repeat (first | refine blk_drewN ?_ _ | refine blk_drew ?_ | refine blk_alloc ?_ _)); exact BK147.out)) (below_size (by repeat (first | (with_reducible first | exact HB.out | apply below_alloc | apply pw_below_drewN | apply below_drew1 | refine below_set ?_ GE146.out | refine below_set ?_ GE147.out) | exact HB.out))))
            have n1_ := Aside0.mk (blk_below (g := gb146) (o := .cells #[.int .i64 a0_0, .int .i64 a0_1, .int .i64 a0_2, .int .i64 a0_3] 23 (0, 0)) (by (with_reducible repeat (first | refine blk_drewN ?_ _ | refine blk_drew ?_ | refine blk_alloc ?_ _)); exact BK146.out) hb)
            have n2_ := Aside0.mk (blk_below (g := gb147) (o := .cells #[.int .i64 (wrap64 ((l1.length : Int) + 1)), .int .i64 0, .int .i64 a2] 38 (0, 0)) (by (with_reducible repeat (first | refine blk_drewN ?_ _ | refine blk_drew ?_ | refine blk_alloc ?_ _)); exact BK147.out) hb)
            have n3_ := Aside0.mk (below_step (by repeat (first | (with_reducible first | exact HB.out | apply below_alloc | apply pw_below_drewN | apply below_drew1 | refine below_set ?_ GE146.out | refine below_set ?_ GE147.out) | exact HB.out)) hb)
            clear BK146
            clear BK147
            clear HB
            have HO171 := n0_
            have BK146 := n1_
            have BK147 := n2_
            have HB := n3_
            clear n0_ n1_ n2_ n3_
            clear hb ho37
            refine hK.out _ _ ⟨(blk_cell BK146.out 0).trans rfl, (blk_cell BK146.out 1).trans rfl, (blk_cell BK146.out 2).trans rfl, (blk_cell BK146.out 3).trans rfl, (blk_cell BK147.out 0).trans rfl, (blk_cell BK147.out 1).trans rfl, (blk_cell BK147.out 2).trans rfl⟩ (fun hHeld => ?_)
            clear hK K
            refine norm_ (a' := ?_) ?_ ?_
            rotate_left
            · show Act.put _ (some 32) _ = _
              simp only [Act.put, List.setIfInBounds_toArray, List.set_cons_zero, List.set_cons_succ, i64_w, i32_w]
              rfl
            refine one_ (i := 1) (N := some 28) #[true, true, true, false, true, true, false, false, false, false, false, false, false] rfl rfl (one_of HT_.out (by kernel_rfl)) (by decide) (fun K hK => ?_)
            refine Kd.R_lit_step k38 _ 38 ?hg (N := 28) ?hd (xs := ([] : List (S38))) (inner := []) (ok := fun _ => True) (okp := fun _ => True) ?hr ?hp (fun _ hk => hk) trivial (Below.refl _ _) (Nat.le_refl _) (by simp) ?_; (case hd => rfl); (case hg => rfl); (case hr => first | (go_simp; done) | (go_simp; rfl)); (case hp => exact (Reps.none _ _))
            intro v164 w38 ho39 hb hg_ hnew_
            clear hg_ hnew_
            (first | rw [← Ny163.out] at ho39 | (simp only [Int.reduceToNat] at ho39; rw [← Ny163.out] at ho39))
            have n0_ := Aside0.mk (Kd.R_elder' (by (with_reducible repeat (first | apply Kd.R_alloc | apply Kd.R_drewN | apply Kd.R_drew)); exact HO171.out) (Kd.R_base ho39) hb)
            have n1_ := Aside0.mk (Kd.R_lower (Kd.R_newB (Kd.R_new' ho39 (Kd.R_lt (by (with_reducible repeat (first | apply Kd.R_alloc | apply Kd.R_drewN | apply Kd.R_drew)); exact HO171.out))) (g := gb147) (o := .cells #[.int .i64 (wrap64 ((l1.length : Int) + 1)), .int .i64 0, .int .i64 a2] 38 (0, 0)) (by (with_reducible repeat (first | refine blk_drewN ?_ _ | refine blk_drew ?_ | refine blk_alloc ?_ _)); exact BK147.out)) (below_size (by repeat (first | (with_reducible first | exact HB.out | apply below_alloc | apply pw_below_drewN | apply below_drew1 | refine below_set ?_ GE146.out | refine below_set ?_ GE147.out) | exact HB.out))))
            have n2_ := Aside0.mk (blk_below (g := gb146) (o := .cells #[.int .i64 a0_0, .int .i64 a0_1, .int .i64 a0_2, .int .i64 a0_3] 23 (0, 0)) (by (with_reducible repeat (first | refine blk_drewN ?_ _ | refine blk_drew ?_ | refine blk_alloc ?_ _)); exact BK146.out) hb)
            have n3_ := Aside0.mk (blk_below (g := gb147) (o := .cells #[.int .i64 (wrap64 ((l1.length : Int) + 1)), .int .i64 0, .int .i64 a2] 38 (0, 0)) (by (with_reducible repeat (first | refine blk_drewN ?_ _ | refine blk_drew ?_ | refine blk_alloc ?_ _)); exact BK147.out) hb)
            have n4_ := Aside0.mk (below_step (by repeat (first | (with_reducible first | exact HB.out | apply below_alloc | apply pw_below_drewN | apply below_drew1 | refine below_set ?_ GE146.out | refine below_set ?_ GE147.out) | exact HB.out)) hb)
            clear HO171
            clear BK146
            clear BK147
            clear HB
            have HO171 := n0_
            have HO165 := n1_
            have BK146 := n2_
            have BK147 := n3_
            have HB := n4_
            clear n0_ n1_ n2_ n3_ n4_
            clear hb ho39
            refine hK.out _ _ ⟨(blk_cell BK146.out 0).trans rfl, (blk_cell BK146.out 1).trans rfl, (blk_cell BK146.out 2).trans rfl, (blk_cell BK146.out 3).trans rfl, (blk_cell BK147.out 0).trans rfl, (blk_cell BK147.out 1).trans rfl, (blk_cell BK147.out 2).trans rfl⟩ (fun hHeld => ?_)
            clear hK K
            refine norm_ (a' := ?_) ?_ ?_
            rotate_left
            · show Act.put _ (some 28) _ = _
              simp only [Act.put, List.setIfInBounds_toArray, List.set_cons_zero, List.set_cons_succ, i64_w, i32_w]
              rfl
            refine one_ (i := 3) (N := some 30) #[true, true, true, true, true, true, false, false, false, false, false, false, false] rfl rfl (one_of HT_.out (by kernel_rfl)) (by decide) (fun K hK => ?_)
            refine Kd.R_append_rows_step k38 (w0 := w) w.heap.size (by rfl) (.tmp 28) (.tmp 29) 24 38 (.agg #[(.int .i64 0), (.int .i64 0), (.int .i64 0)]) 24 rfl Try.underlying24 info38 rfl (by decide) (by omega) v164 y163 l1 _ _ _ (fun k_ => some k_ ≠ (v170 : Value).ownBlock ∧ k_ ≠ gb147) (fun _ => False) rfl rfl ?aO ?aR (fun _ _ h => h) (fun _ h => h.elim) ?aF ?aB ?aS ?aL ?_
            (case aR => repeat (first | exact (Kd.C_below HR1.out HB.out) | (with_reducible refine Kd.C_alloc ?_ _) | (with_reducible refine Kd.C_drewN ?_ _) | (with_reducible refine Kd.C_drew ?_)))
            (case aB => exact (by repeat (first | (with_reducible first | exact HB.out | apply below_alloc | apply pw_below_drewN | apply below_drew1 | refine below_set ?_ GE146.out | refine below_set ?_ GE147.out) | exact HB.out)))
            (case aF => exact (fun k_ hk => ⟨Kd.fresh' (Kd.R_lt (by (with_reducible repeat (first | apply Kd.R_alloc | apply Kd.R_drewN | apply Kd.R_drew)); exact HO171.out)) k_ hk, Kd.freshB (g := gb147) (o := .cells #[.int .i64 (wrap64 ((l1.length : Int) + 1)), .int .i64 0, .int .i64 a2] 38 (0, 0)) (by (with_reducible repeat (first | refine blk_drewN ?_ _ | refine blk_drew ?_ | refine blk_alloc ?_ _)); exact BK147.out) k_ hk⟩))
            (case aO => exact (by (with_reducible repeat (first | apply Kd.R_alloc | apply Kd.R_drewN | apply Kd.R_drew)); exact Kd.R_mono HO165.out (fun _ hk => ⟨hk.1.2, hk.2⟩)))
            (case aS => exact (below_size (by repeat (first | (with_reducible first | exact HB.out | apply below_alloc | apply pw_below_drewN | apply below_drew1 | refine below_set ?_ GE146.out | refine below_set ?_ GE147.out) | exact HB.out))))
            (case aL => have := LMc27.out; omega)
            intro v167 w40 ho hb hg hat
            rw [← Ny166.out] at ho
            have n0_ := Aside0.mk (blk_grown (g := gb146) (o := .cells #[.int .i64 a0_0, .int .i64 a0_1, .int .i64 a0_2, .int .i64 a0_3] 23 (0, 0)) (by (with_reducible repeat (first | refine blk_drewN ?_ _ | refine blk_drew ?_ | refine blk_alloc ?_ _)); exact BK146.out) hg (Kd.R_ne HO165.out BK146.out (by decide)))
            have n1_ := Aside0.mk (blk_grown (g := gb147) (o := .cells #[.int .i64 (wrap64 ((l1.length : Int) + 1)), .int .i64 0, .int .i64 a2] 38 (0, 0)) (by (with_reducible repeat (first | refine blk_drewN ?_ _ | refine blk_drew ?_ | refine blk_alloc ?_ _)); exact BK147.out) hg (Kd.R_away HO165.out (fun _ hk => hk.2)))
            have n2_ := Aside0.mk (Kd.R_after (ok := (fun k_ => k_ ≠ gb147)) (by (with_reducible repeat (first | apply Kd.R_alloc | apply Kd.R_drewN | apply Kd.R_drew)); exact Kd.R_mono HO171.out (fun _ hk => ⟨hk.1.2, hk.2⟩)) hg hat)
            have n3_ := Aside0.mk (hb)
            have n4_ := Aside0.mk (ho)
            clear BK146
            clear BK147
            clear HO171
            clear HB
            clear HO165
            have BK146 := n0_
            have BK147 := n1_
            have HO171 := n2_
            have HB := n3_
            have HO168 := n4_
            clear n0_ n1_ n2_ n3_ n4_
            clear ho hb hg hat
            refine hK.out _ _ ⟨(blk_cell BK146.out 0).trans rfl, (blk_cell BK146.out 1).trans rfl, (blk_cell BK146.out 2).trans rfl, (blk_cell BK146.out 3).trans rfl, (blk_cell BK147.out 0).trans rfl, (blk_cell BK147.out 1).trans rfl, (blk_cell BK147.out 2).trans rfl⟩ (fun hHeld => ?_)
            clear hK K
            refine norm_ (a' := ?_) ?_ ?_
            rotate_left
            · show Act.put _ (some 30) _ = _
              simp only [Act.put, List.setIfInBounds_toArray, List.set_cons_zero, List.set_cons_succ, i64_w, i32_w]
              rfl
            exact norm_ (by simp only [putAll, Act.put, List.setIfInBounds_toArray, List.set_cons_zero, List.set_cons_succ]) (hCont (v164, v167, v170) _ ⟨hHeld, (by (with_reducible repeat (first | apply Kd.R_alloc | apply Kd.R_drewN | apply Kd.R_drew)); exact HO168.out), (by (with_reducible repeat (first | apply Kd.R_alloc | apply Kd.R_drewN | apply Kd.R_drew)); exact Kd.R_mono HO171.out (fun _ hk => ⟨hk.2, hk.1⟩)), (by (with_reducible repeat (first | refine blk_drewN ?_ _ | refine blk_drew ?_ | refine blk_alloc ?_ _)); exact BK146.out), (by (with_reducible repeat (first | refine blk_drewN ?_ _ | refine blk_drew ?_ | refine blk_alloc ?_ _)); exact BK147.out), (by repeat (first | (with_reducible first | exact HB.out | apply below_alloc | apply pw_below_drewN | apply below_drew1 | refine below_set ?_ GE146.out | refine below_set ?_ GE147.out) | exact HB.out))⟩)
        rintro ⟨v164, v167, v170⟩ w41 ⟨hS_, h0_, h1_, h2_, h3_, h4_⟩
        have n0_ : Aside0 (Kd.R k38 38 w41 w.heap.size (fun k_ => some k_ ≠ (v170 : Value).ownBlock ∧ k_ ≠ gb147) v167 y166) := ⟨h0_⟩
        have n1_ : Aside0 (Kd.R k38 38 w41 w.heap.size (fun k_ => some k_ ≠ (v167 : Value).ownBlock ∧ k_ ≠ gb147) v170 y169) := ⟨h1_⟩
        have n2_ : Aside0 (w41.heap[gb146]? = some (.cells #[.int .i64 a0_0, .int .i64 a0_1, .int .i64 a0_2, .int .i64 a0_3] 23 (0, 0))) := ⟨h2_⟩
        have n3_ : Aside0 (w41.heap[gb147]? = some (.cells #[.int .i64 (wrap64 ((l1.length : Int) + 1)), .int .i64 0, .int .i64 a2] 38 (0, 0))) := ⟨h3_⟩
        have n4_ : Aside0 (Below w.heap.size w w41) := ⟨h4_⟩
        clear BK146
        clear BK147
        clear HB
        clear h0_ h1_ h2_ h3_ h4_
        have HO168 := n0_
        have HO171 := n1_
        have BK146 := n2_
        have BK147 := n3_
        have HB := n4_
        clear n0_ n1_ n2_ n3_ n4_
        have hHeld : w41.cell? ⟨gb146, 0, none⟩ = some (.int .i64 a0_0) ∧ w41.cell? ⟨gb146, 1, none⟩ = some (.int .i64 a0_1) ∧ w41.cell? ⟨gb146, 2, none⟩ = some (.int .i64 a0_2) ∧ w41.cell? ⟨gb146, 3, none⟩ = some (.int .i64 a0_3) ∧ w41.cell? ⟨gb147, 0, none⟩ = some (.int .i64 (wrap64 ((l1.length : Int) + 1))) ∧ w41.cell? ⟨gb147, 1, none⟩ = some (.int .i64 0) ∧ w41.cell? ⟨gb147, 2, none⟩ = some (.int .i64 a2) := hS_
        obtain ⟨Ao43, co43, eo43⟩ := Kd.R_slice HO171.out
        (first | subst eo43 | (injection eo43 with f1_ f2_ f3_; have f4_ := f1_.symm; have f5_ := f3_.symm; clear f1_ f2_ f3_; subst f4_; subst f5_))
        refine norm_ (a' := ?_) ?_ ?_
        rotate_left
        · simp only [putAll, Act.put, List.setIfInBounds_toArray, List.set_cons_zero, List.set_cons_succ]
          rfl
        refine one_ (i := 6) (N := some 33) #[true, true, true, true, true, true, true, false, false, false, false, false, false] rfl rfl (one_of HT_.out (by kernel_rfl)) (by decide) (fun K hK => ?_)
        refine Kd.R_append_rows_step k38 (w0 := w) w.heap.size (by rfl) (.tmp 30) (.tmp 32) 24 38 (.agg #[(.int .i64 0), (.int .i64 0), (.int .i64 0)]) 24 rfl Try.underlying24 info38 rfl (by decide) (by omega) v167 y166 y169 _ _ _ (fun k_ => some k_ ≠ (.slice Ao43 y169.length co43 : Value).ownBlock ∧ k_ ≠ gb147) (fun _ => False) rfl rfl ?aO ?aR (fun _ _ h => h) (fun _ h => h.elim) ?aF ?aB ?aS ?aL ?_
        (case aR => repeat (first | exact (Kd.R_reads' HO171.out).2.2 | (with_reducible refine Kd.C_alloc ?_ _) | (with_reducible refine Kd.C_drewN ?_ _) | (with_reducible refine Kd.C_drew ?_)))
        (case aB => exact (by repeat (first | (with_reducible first | exact HB.out | apply below_alloc | apply pw_below_drewN | apply below_drew1 | refine below_set ?_ GE146.out | refine below_set ?_ GE147.out) | exact HB.out)))
        (case aF => exact (fun k_ hk => ⟨Kd.fresh' (Kd.R_lt (by (with_reducible repeat (first | apply Kd.R_alloc | apply Kd.R_drewN | apply Kd.R_drew)); exact HO171.out)) k_ hk, Kd.freshB (g := gb147) (o := .cells #[.int .i64 (wrap64 ((l1.length : Int) + 1)), .int .i64 0, .int .i64 a2] 38 (0, 0)) (by (with_reducible repeat (first | refine blk_drewN ?_ _ | refine blk_drew ?_ | refine blk_alloc ?_ _)); exact BK147.out) k_ hk⟩))
        (case aO => exact (by (with_reducible repeat (first | apply Kd.R_alloc | apply Kd.R_drewN | apply Kd.R_drew)); exact HO168.out))
        (case aS => exact (below_size (by repeat (first | (with_reducible first | exact HB.out | apply below_alloc | apply pw_below_drewN | apply below_drew1 | refine below_set ?_ GE146.out | refine below_set ?_ GE147.out) | exact HB.out))))
        (case aL => have := LMc28.out; omega)
        intro v173 w42 ho hb hg hat
        rw [← Ny172.out] at ho
        have n0_ := Aside0.mk (blk_grown (g := gb146) (o := .cells #[.int .i64 a0_0, .int .i64 a0_1, .int .i64 a0_2, .int .i64 a0_3] 23 (0, 0)) (by (with_reducible repeat (first | refine blk_drewN ?_ _ | refine blk_drew ?_ | refine blk_alloc ?_ _)); exact BK146.out) hg (Kd.R_ne HO168.out BK146.out (by decide)))
        have n1_ := Aside0.mk (blk_grown (g := gb147) (o := .cells #[.int .i64 (wrap64 ((l1.length : Int) + 1)), .int .i64 0, .int .i64 a2] 38 (0, 0)) (by (with_reducible repeat (first | refine blk_drewN ?_ _ | refine blk_drew ?_ | refine blk_alloc ?_ _)); exact BK147.out) hg (Kd.R_away HO168.out (fun _ hk => hk.2)))
        have n2_ := Aside0.mk (Kd.R_after (ok := (fun k_ => k_ ≠ gb147)) (by (with_reducible repeat (first | apply Kd.R_alloc | apply Kd.R_drewN | apply Kd.R_drew)); exact Kd.R_mono HO171.out (fun _ hk => ⟨hk.2, hk.1⟩)) hg hat)
        have n3_ := Aside0.mk (hb)
        have n4_ := Aside0.mk (ho)
        clear BK146
        clear BK147
        clear HO171
        clear HB
        clear HO168
        have BK146 := n0_
        have BK147 := n1_
        have HO171 := n2_
        have HB := n3_
        have HO174 := n4_
        clear n0_ n1_ n2_ n3_ n4_
        clear ho hb hg hat
        obtain ⟨Ao44, co44, eo44⟩ := Kd.R_slice HO174.out
        (first | subst eo44 | (injection eo44 with f1_ f2_ f3_; have f4_ := f1_.symm; have f5_ := f3_.symm; clear f1_ f2_ f3_; subst f4_; subst f5_))
        refine hK.out _ _ ⟨(blk_cell BK146.out 0).trans rfl, (blk_cell BK146.out 1).trans rfl, (blk_cell BK146.out 2).trans rfl, (blk_cell BK146.out 3).trans rfl, (blk_cell BK147.out 0).trans rfl, (blk_cell BK147.out 1).trans rfl, (blk_cell BK147.out 2).trans rfl⟩ (fun hHeld => ?_)
        clear hK K
        refine norm_ (a' := ?_) ?_ ?_
        rotate_left
        · show Act.put _ (some 33) _ = _
          simp only [Act.put, List.setIfInBounds_toArray, List.set_cons_zero, List.set_cons_succ, i64_w, i32_w]
          rfl
        refine one_ (i := 7) (N := some 34) #[true, true, true, true, true, true, true, true, false, false, false, false, false] rfl rfl (one_of HT_.out (by kernel_rfl)) (by decide) (fun K hK => ?_)
        refine goes_ Try.func12 (by kernel_rfl) rfl #[.agg #[.int .i64 a0_0, .int .i64 a0_1, .int .i64 a0_2, .int .i64 a0_3], .slice Ao44 y172.length co44] (by rfl) rfl rfl (by (try simp only [List.map_toArray, List.map_cons, List.map_nil]); first | done | rfl | (simp only [List.length_drop, List.length_take]; rfl)) ?_
        with_reducible refine (assessorref52_Final.calls k a0_0 a0_1 a0_2 a0_3 _ _ y172 t175 t176 _ ?side1 ?side2 A29.out).mono ?_
        (case side1 => repeat (first | exact (Kd.R_reads' HO174.out).2.2 | (with_reducible refine Kd.C_alloc ?_ _) | (with_reducible refine Kd.C_drewN ?_ _) | (with_reducible refine Kd.C_drew ?_)))
        (case side2 => exact (Kd.R_reads' HO174.out).2.1)
        rintro e w45 ⟨rfl, hb⟩
        refine ⟨_, rfl, ?_⟩
        have n0_ := Aside0.mk (Kd.R_below (by (with_reducible repeat (first | apply Kd.R_alloc | apply Kd.R_drewN | apply Kd.R_drew)); exact HO171.out) hb)
        have n1_ := Aside0.mk (Kd.R_below (by (with_reducible repeat (first | apply Kd.R_alloc | apply Kd.R_drewN | apply Kd.R_drew)); exact HO174.out) hb)
        have n2_ := Aside0.mk (blk_below (g := gb146) (o := .cells #[.int .i64 a0_0, .int .i64 a0_1, .int .i64 a0_2, .int .i64 a0_3] 23 (0, 0)) (by (with_reducible repeat (first | refine blk_drewN ?_ _ | refine blk_drew ?_ | refine blk_alloc ?_ _)); exact BK146.out) hb)
        have n3_ := Aside0.mk (blk_below (g := gb147) (o := .cells #[.int .i64 (wrap64 ((l1.length : Int) + 1)), .int .i64 0, .int .i64 a2] 38 (0, 0)) (by (with_reducible repeat (first | refine blk_drewN ?_ _ | refine blk_drew ?_ | refine blk_alloc ?_ _)); exact BK147.out) hb)
        have n4_ := Aside0.mk (below_step (by repeat (first | (with_reducible first | exact HB.out | apply below_alloc | apply pw_below_drewN | apply below_drew1 | refine below_set ?_ GE146.out | refine below_set ?_ GE147.out) | exact HB.out)) hb)
        clear HO171
        clear HO174
        clear BK146
        clear BK147
        clear HB
        have HO171 := n0_
        have HO174 := n1_
        have BK146 := n2_
        have BK147 := n3_
        have HB := n4_
        clear n0_ n1_ n2_ n3_ n4_
        (try clear hb)
        (try clear hb2)
        (try clear hk)
        (try clear hi)
        refine hK.out _ _ ⟨(blk_cell BK146.out 0).trans rfl, (blk_cell BK146.out 1).trans rfl, (blk_cell BK146.out 2).trans rfl, (blk_cell BK146.out 3).trans rfl, (blk_cell BK147.out 0).trans rfl, (blk_cell BK147.out 1).trans rfl, (blk_cell BK147.out 2).trans rfl⟩ (fun hHeld => ?_)
        clear hK K
        refine norm_ (a' := ?_) ?_ ?_
        rotate_left
        · show Act.put _ (some 34) _ = _
          simp only [Act.put, List.setIfInBounds_toArray, List.set_cons_zero, List.set_cons_succ, i64_w, i32_w]
          rfl
        refine pure_ (i := 8) (N := some 26) (v := ?_) (a' := ?_) #[true, true, true, true, true, true, true, true, true, false, false, false, false] rfl rfl (any_of HT_.out (by kernel_rfl)) (fun _ _ _ h => h) (Or.inl ⟨by rfl, ?_⟩) ?_ ?_
        rotate_left
        · intro w'
          go_simp
          with_reducible rfl
        rotate_left
        · simp only [Act.put, List.setIfInBounds_toArray, List.set_cons_zero, List.set_cons_succ, i64_w, i32_w]
          rfl
        refine pure_ (i := 9) (N := some 35) (v := ?_) (a' := ?_) #[true, true, true, true, true, true, true, true, true, true, false, false, false] rfl rfl (any_of HT_.out (by kernel_rfl)) (fun _ _ _ h => h) (Or.inl ⟨by rfl, ?_⟩) ?_ ?_
        rotate_left
        · intro w'
          go_simp
          with_reducible rfl
        rotate_left
        · simp only [Act.put, List.setIfInBounds_toArray, List.set_cons_zero, List.set_cons_succ, i64_w, i32_w]
          rfl
        refine pure_ (i := 10) (N := some 36) (v := ?_) (a' := ?_) #[true, true, true, true, true, true, true, true, true, true, true, false, false] rfl rfl (any_of HT_.out (by kernel_rfl)) (fun _ _ _ h => h) (Or.inl ⟨by rfl, ?_⟩) ?_ ?_
        rotate_left
        · intro w'
          go_simp
          with_reducible rfl
        rotate_left
        · simp only [Act.put, List.setIfInBounds_toArray, List.set_cons_zero, List.set_cons_succ, i64_w, i32_w]
          rfl
        refine pure_ (i := 11) (N := some 8) (v := ?_) (a' := ?_) #[true, true, true, true, true, true, true, true, true, true, true, true, false] rfl rfl (any_of HT_.out (by kernel_rfl)) (fun _ _ _ h => h) (Or.inl ⟨by rfl, ?_⟩) ?_ ?_
        rotate_left
        · intro w'
          go_simp
          with_reducible rfl
        rotate_left
        · simp only [Act.put, List.setIfInBounds_toArray, List.set_cons_zero, List.set_cons_succ, i64_w, i32_w]
          rfl
        refine pure_ (i := 12) (N := some 9) (v := ?_) (a' := ?_) #[true, true, true, true, true, true, true, true, true, true, true, true, true] rfl rfl (any_of HT_.out (by kernel_rfl)) (fun _ _ _ h => h) (Or.inl ⟨by rfl, ?_⟩) ?_ ?_
        rotate_left
        · intro w'
          go_simp
          with_reducible rfl
        rotate_left
        · simp only [Act.put, List.setIfInBounds_toArray, List.set_cons_zero, List.set_cons_succ, i64_w, i32_w]
          rfl
        refine done_ (done_of HT_.out (by kernel_rfl)) ?_
        try go_wp2
        go_ret
        exact ⟨by first | rfl | (simp [errW_none, errW_some] <;> rfl) | (simp [*, errW_none, errW_some] <;> rfl) | (simp [IntKind.wrap_i64, wrap64]; done), by repeat (first | (with_reducible first | exact HB.out | apply below_alloc | apply pw_below_drewN | apply below_drew1 | refine below_set ?_ GE146.out | refine below_set ?_ GE147.out) | exact HB.out)⟩
      · rw [if_neg c28] at H
        exact absurd H (by simp)
    · rw [if_neg c27] at H
      exact absurd H (by simp)

end Go.Proofs.Ytdailoccmjeceaa.PAll
